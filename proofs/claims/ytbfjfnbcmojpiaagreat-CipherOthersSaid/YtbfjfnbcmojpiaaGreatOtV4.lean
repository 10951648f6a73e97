import Derived.Test.YtbfjfnbcmojpiaaGreatOtV3
set_option linter.unusedSimpArgs false
set_option linter.unusedVariables false
set_option maxRecDepth 100000
set_option maxHeartbeats 4000000
namespace Go.Proofs.YtbfjfnbcmojpiaaGreat
open Go.RowKit Go.Shelf
theorem Bp {P:Program} {f:Nat} {fn:Func} {c:Code} (hf:P.funcs[f]?=some fn) (hname:(fn.name == "runtime.NumGoroutine")=false) (hb:fn.body=some c) (cap:Array Value) (w:World) :
  (invoke (.fn (.func f) cap) #[]).run P w=.ok (.enter f cap) w:=by
 have h1:fn.name≠"runtime.NumGoroutine":=by simpa using hname
 simp[invoke,callFunc,hf,h1,hb]
theorem Oe (w:World):CallsD Tryz.prog 65 #[] .returning w fun e u' w'=>e=.returned (.tuple #[])∧u'=.returning∧w'=w:=by
 refine callsD_of_wpS Tryz.func65 rfl fun c₀ cs hu=>?_
 apply wpS_region
 simp[wpOpsS,go_sem,recoverD,hu,Tryz.ntmps65]
 cases c₀
 simp_all [bodyPostS,results,Tryz.results65]
theorem C7 (w:World):CallsD Tryz.prog 95 #[] .returning w fun e u' w'=>e=.returned (.tuple #[])∧u'=.returning∧w'=w:=by
 refine callsD_of_wpS Tryz.func95 rfl fun c₀ cs hu=>?_
 apply wpS_region
 simp[wpOpsS,go_sem,recoverD,hu,Tryz.ntmps95]
 cases c₀
 simp_all [bodyPostS,results,Tryz.results95]
theorem F6 (p q:Value) (w:World):CallsD Tryz.prog 81 #[p,q] .returning w fun e u' w'=>e=.returned (.tuple #[])∧u'=.returning∧w'=w:=by
 refine callsD_of_wpS Tryz.func81 rfl fun c₀ cs hu=>?_
 apply wpS_seq
 apply wpS_region
 simp[wpOpsS,go_sem,recoverD,hu,Tryz.ntmps81,Exit.thenS]
 refine wpS_cond (t:=false) (by simp[Act.eval,Array.replicate]) ?_
 simp only[Bool.false_eq_true,if_false]
 refine wpS_of_wp (ALp ?_)
 cases c₀
 simp_all [bodyPostS,results,Tryz.results81]
theorem JH (p q:Value) (w:World):CallsD Tryz.prog 77 #[p,q] .returning w fun e u' w'=>e=.returned (.tuple #[])∧u'=.returning∧w'=w:=by
 refine callsD_of_wpS Tryz.func77 rfl fun c₀ cs hu=>?_
 apply wpS_seq
 apply wpS_region
 simp[wpOpsS,go_sem,recoverD,hu,Tryz.ntmps77,Exit.thenS]
 refine wpS_cond (t:=false) (by simp[Act.eval,Array.replicate]) ?_
 simp only[Bool.false_eq_true,if_false]
 refine wpS_of_wp (ALp ?_)
 cases c₀
 simp_all [bodyPostS,results,Tryz.results77]
theorem FZ (p q:Value) (w:World):CallsD Tryz.prog 74 #[p,q] .returning w fun e u' w'=>e=.returned (.tuple #[])∧u'=.returning∧w'=w:=by
 refine callsD_of_wpS Tryz.func74 rfl fun c₀ cs hu=>?_
 apply wpS_seq
 apply wpS_region
 simp[wpOpsS,go_sem,recoverD,hu,Tryz.ntmps74,Exit.thenS]
 refine wpS_cond (t:=false) (by simp[Act.eval,Array.replicate]) ?_
 simp only[Bool.false_eq_true,if_false]
 refine wpS_of_wp (ALp ?_)
 cases c₀
 simp_all [bodyPostS,results,Tryz.results74]
theorem KE (p q:Value) (w:World):CallsD Tryz.prog 70 #[p,q] .returning w fun e u' w'=>e=.returned (.tuple #[])∧u'=.returning∧w'=w:=by
 refine callsD_of_wpS Tryz.func70 rfl fun c₀ cs hu=>?_
 apply wpS_seq
 apply wpS_region
 simp[wpOpsS,go_sem,recoverD,hu,Tryz.ntmps70,Exit.thenS]
 refine wpS_cond (t:=false) (by simp[Act.eval,Array.replicate]) ?_
 simp only[Bool.false_eq_true,if_false]
 refine wpS_of_wp (ALp ?_)
 cases c₀
 simp_all [bodyPostS,results,Tryz.results70]
theorem JI {w:World} {s:Value} {l:List Nd} {b:Bool} (hb:GV l=b) (h:RdT w s l):Calls Tryz.prog 97 #[.agg #[s]] w fun e w'=>e=.returned (.bool b)∧w.grownBy w' none:=hb▸ZX h
theorem FJ {w:World} {s:Value} {l:List Nd} {b:Bool} (hb:GV l=b) (h:RdT w s l):Calls Tryz.prog 87 #[.agg #[s]] w fun e w'=>e=.returned (.bool b)∧w.grownBy w' none:=hb▸XE h
theorem IE {a b:Bool} (h:a=b):Ending.returned (.bool a)=Ending.returned (.bool b):=by rw[h]
theorem AJq {a b:Int} (h:a=b):Ending.returned (.int .i64 a)=Ending.returned (.int .i64 b):=by rw[h]
theorem RdK.kt {w:World} {v:Value} {ks:List VK} (h:RdK w v ks) {j:Nat} (hj:j<ks.length) {x:VK} (hx:ks[j]=x):RdT w x.s x.l:=h.2 x (hx▸List.getElem_mem hj)
theorem AHg {ks:List VK} {i:Nat} {x y:VK} (hi:i<ks.length) (hp:i-1<ks.length) (hx:ks[i]=x) (hy:ks[i-1]=y):chk (ks.map VK.p) i=((decide (i=0)||Ej y.o x.o)&&GV x.l):=by
 unfold chk
 rw[Oc hi,Oc hp,RB hi,hx,hy]
theorem ACS (ks:List VK) (ao:Option Addr) (cap:Nat) (sa po:List Nat) (hsa:Dg sa) (hpo:Dg po) (o:List Nat) (ho:Dg o) (w:World) (hr:RdK w (.slice ao ks.length cap) ks) (hs:Srt (ks.map VK.p)) (h64:ks.length≤64) :
  Calls Tryz.prog 71 #[Ao sa po (.slice ao ks.length cap),AR o] w fun e w'=>e=.returned (.tuple #[.int .i64 (pos (ks.map VK.p) o),.bool (Gx (ks.map VK.p) o)])∧w.grownBy w' none:=by
 refine Be Tryz.func71 rfl Tryz.ntmps71 rfl fun a0 sv0=>?_
 have HG:=World.grownBy.refl w none
 replace sv0:Sv 12 [] [(0,Ao sa po (.slice ao ks.length cap)),(1,AR o)] a0:=sv0
 refine ALl fun K1 k1=>?_
 refine ALk ?_
 refine Bm sv0 r6 (BR hsa hpo (.slice ao ks.length cap) rfl) fun a2 w2 Cf DV g2 z2 AJ sv2=>?_
 refine Bm sv2 r6 (CB o ho.1) fun a3 w3 CX FI g3 z3 AL sv3=>?_
 replace AJ:=AC g3 AJ
 replace hr:=(hr.kn g2).kn g3
 refine Aa (v:=.int .i64 0) sv3 r6 fun a4 sv4=>?_
 refine Aa (v:=.bool false) sv4 r6 fun a5 sv5=>?_
 refine AE ?_
 refine k1 _ _ ?_
 refine ALl fun K6 k6=>?_
 refine ALk ?_
 refine AK sv5 6 [(6,pk Cf 64),(7,.slice ao ks.length cap),(8,AR o),(9,.tuple #[.int .i64 ((pos (ks.map VK.p) o:Int)),.bool (Gx (ks.map VK.p) o)]),(10,.int .i64 ((pos (ks.map VK.p) o:Int))),(11,.bool (Gx (ks.map VK.p) o))]
  ⟨yf r6 (fun _=>by kernel_rfl),yp (i:=2) r6 (EC (.slice ao ks.length cap) rfl) AJ rfl (by simp[AI,AQ,hsa.1,hpo.1]),yl r6 (CB o ho.1) AL,Ad [.slice ao ks.length cap,AR o,.func (.func 96) #[] #[]] Tryz.func113 (by kernel_rfl) rq4 ⟨(oy rfl rfl),(oy rfl rfl),rfl,ALr⟩ (As fun W g=>Ut ks ao cap o ho W (hr.kn g) hs h64),BE rq4 (fun _ _ h=>⟨_,_,h,rfl,rfl⟩),BE rq4 (fun _ _ h=>⟨_,_,h,rfl,rfl⟩),ALr⟩ fun a7 w7 g7 sv7=>?_
 refine Aa (v:=.int .i64 ((pos (ks.map VK.p) o:Int))) sv7 r6 fun a8 sv8=>?_
 refine Aa (v:=.bool (Gx (ks.map VK.p) o)) sv8 r6 fun a9 sv9=>?_
 have Cj:Sv _ _ [_,_,_,_] _:=sv9.dl [6,7,8,9,10,11,3,2]
 refine AE ?_
 refine k6 _ _ ?_
 replace HG:=AA (AA (AA HG g2) g3) g7
 refine ALo ?_
 repeat refine AM ?_
 refine BQ (fn:=Tryz.f71) Cj (RA (p:=4) (q:=5) Tryz.results71 Cj rfl rfl rfl rfl) ?_
 exact⟨rfl,HG⟩
theorem AGa (ks:List VK) (ao:Option Addr) (cap:Nat) (sa po:List Nat) (hsa:Dg sa) (hpo:Dg po) (o:List Nat) (ho:Dg o) (w:World) (hr:RdK w (.slice ao ks.length cap) ks) (hs:Srt (ks.map VK.p)) :
   Calls Tryz.prog 84 #[Ao sa po (.slice ao ks.length cap),AR o] w fun e w'=>e=.returned (.int .i64 (atV (ks.map VK.p) o))∧w.grownBy w' none:=by
 have hlen:=hr.len
 have hmap:(ks.map VK.p).length=ks.length:=List.length_map _
 refine Be Tryz.func84 rfl Tryz.ntmps84 rfl fun a0 sv0=>?_
 have HG:=World.grownBy.refl w none
 replace sv0:Sv 22 [] [(0,Ao sa po (.slice ao ks.length cap)),(1,AR o)] a0:=sv0
 refine ALl fun K1 k1=>?_
 refine ALk ?_
 refine Bm sv0 r6 (BR hsa hpo (.slice ao ks.length cap) rfl) fun a2 w2 Cf DV g2 z2 AJ sv2=>?_
 refine Bm sv2 r6 (CB o ho.1) fun a3 w3 CX FI g3 z3 AL sv3=>?_
 replace AJ:=AC g3 AJ
 replace hr:=(hr.kn g2).kn g3
 replace HG:=AA (AA HG g2) g3
 refine Aa (v:=.int .i64 0) sv3 r6 fun a4 sv4=>?_
 refine AE ?_
 refine k1 _ _ ?_
 refine ALl fun K5 k5=>?_
 refine ALl fun K6 k6=>?_
 refine ALk ?_
 refine Aa (v:=.int .i64 0) sv4 r6 fun a7 sv7=>?_
 refine AE ?_
 refine k6 _ _ ?_
 refine BF fun Q8 x8 y8 r8 o8=>?_
 refine wp_loop (fun a w'=>∃(i:Nat),(i≤ks.length)∧(∀k,k<i→od (ks.map VK.p) k≠o)∧Sv 22 [] [(5,.int .i64 ((i:Int))),(3,pt CX),(2,pt Cf),(0,Ao sa po (.slice ao ks.length cap)),(1,AR o)] a∧w.grownBy w' none∧w'.heap[Cf]?=some (.cells ([bv sa,bv po,[.slice ao ks.length cap]].flatten).toArray 36 (0,0))∧w'.heap[CX]?=some (.cells (bv o).toArray 23 (0,0))∧RdK w' (.slice ao ks.length cap) ks) (fun a _=>(ks.length-intOf (a.tmps.getD 5 undef)).toNat) ⟨0,Nat.zero_le _,fun k hk=>by omega,⟨sv7.1,sv7.2.1,sv7.2.2.1,sv7.2.2.2.2.1,sv7.2.2.2.2.2.1,sv7.2.2.2.2.2.2.1,sv7.2.2.2.2.2.2.2.1,ALr⟩,HG,AJ,AL,hr⟩ fun a9 w9 hI9=>?_
 clear AJ
 clear AL
 clear hr
 clear HG
 obtain⟨i,hin,hb,sv9,HG,AJ,AL,hr⟩:=hI9
 refine ALl fun K10 k10=>?_
 refine ALl fun K11 k11=>?_
 by_cases hi:i<ks.length
 · obtain⟨x,hx_x⟩:∃x,ks[i]'hi=x:=⟨_,rfl⟩
   have hod:od (ks.map VK.p) i=x.o:=by rw[Oc hi,hx_x]
   refine ALk ?_
   refine AK sv9 5 [(6,.int .i64 ((i:Int))),(7,pk Cf 64),(8,.slice ao ks.length cap),(9,.int .i64 ((ks.length:Nat))),(10,.bool true)]
     ⟨ym r5,yf r6 (fun _=>by kernel_rfl),yp (i:=2) r6 (EC (.slice ao ks.length cap) rfl) AJ rfl (by simp[AI,AQ,hsa.1,hpo.1]),Bv (Tryz.underlying34) rfl rfl trivial (oy rfl rfl) (fun _=>rfl),Ho r7 (fun _=>Bk (by simp;omega)),ALr⟩ fun a12 w12 g12 Df=>?_
   refine AE ?_
   refine k11 _ _ ?_
   refine Ar Df rfl rfl ?_
   refine ALp ?_
   refine k10 _ _ ?_
   refine ALl fun K13 k13=>?_
   refine BF fun Q14 x14 y14 r14 o14=>?_
   refine ALl fun K15 k15=>?_
   replace AJ:=AC g12 AJ
   replace AL:=AC g12 AL
   replace hr:=hr.kn g12
   replace HG:=AA HG g12
   by_cases heq:x.o=o
   · have hyes:=NO hs (by omega) (hod.trans heq)
     refine DP Df [(13,pk Cf 64),(14,.slice ao ks.length cap),(15,.int .i64 ((i:Int))),(16,pk ((bO ao)) (oO ao+i*33)),(17,pk ((bO ao)) (oO ao+i*33)),(18,AR x.o),(19,AR o),(20,.bool true)]
      ⟨yf r6 (fun _=>by kernel_rfl),yp (i:=2) r6 (EC (.slice ao ks.length cap) rfl) AJ rfl (by simp[AI,AQ,hsa.1,hpo.1]),ym r5,BJ rq8 (fun w=>CW Tryz.underlying34 (by kernel_rfl) (hr.1.1) (by omega) (rfl) w),yf r6 (fun _=>by kernel_rfl),CD r6 (fun _ g=>Ae (CB x.o x.ho.1) (RdK.ownerX (hr.kn g) rfl hi hx_x)),yl r6 (CB o ho.1) AL,Ho r7 (fun _=>(L5 x.ho ho _ _ _).1.trans (by rw[decide_eq_true (heq)])),ALr⟩ fun a16 w16 g16 Cp=>?_
     refine k15 _ _ ?_
     refine Ar Cp rfl rfl ?_
     refine ALl fun K17 k17=>?_
     refine ALk ?_
     refine AK Cp 1 [(21,.int .i64 ((i:Int)))]
      ⟨ym r5,ALr⟩ fun a18 w18 g18 Ca=>?_
     have AGb:=AA g16 g18
     refine Aa (v:=.int .i64 ((i:Int))) Ca r6 fun a19 Er=>?_
     refine AE ?_
     refine k17 _ _ ?_
     replace AJ:=AC AGb AJ
     replace AL:=AC AGb AL
     replace hr:=hr.kn AGb
     replace HG:=AA HG AGb
     refine ALo ?_
     repeat refine AM ?_
     refine r14 _ _ ?_
     repeat refine AM ?_
     refine r8 _ _ ?_
     repeat refine AM ?_
     refine BQ (fn:=Tryz.f84) Er (BT (p:=4) Tryz.results84 Er rfl rfl) ?_
     exact⟨AJq (by unfold atV;rw[hyes.1,hyes.2];rfl),HG⟩
   · have hne:=heq
     refine DP Df [(13,pk Cf 64),(14,.slice ao ks.length cap),(15,.int .i64 ((i:Int))),(16,pk ((bO ao)) (oO ao+i*33)),(17,pk ((bO ao)) (oO ao+i*33)),(18,AR x.o),(19,AR o),(20,.bool false)]
      ⟨yf r6 (fun _=>by kernel_rfl),yp (i:=2) r6 (EC (.slice ao ks.length cap) rfl) AJ rfl (by simp[AI,AQ,hsa.1,hpo.1]),ym r5,BJ rq8 (fun w=>CW Tryz.underlying34 (by kernel_rfl) (hr.1.1) (by omega) (rfl) w),yf r6 (fun _=>by kernel_rfl),CD r6 (fun _ g=>Ae (CB x.o x.ho.1) (RdK.ownerX (hr.kn g) rfl hi hx_x)),yl r6 (CB o ho.1) AL,Ho r7 (fun _=>(L5 x.ho ho _ _ _).1.trans (by rw[decide_eq_false (heq)])),ALr⟩ fun a20 w20 g20 E5=>?_
     refine k15 _ _ ?_
     refine Av E5 rfl rfl ?_
     refine ALp ?_
     refine y14 _ _ ?_
     refine k13 _ _ ?_
     refine ALk ?_
     refine AK E5 2 [(11,.int .i64 ((i:Int))),(12,.int .i64 (((i+1:Nat):Int)))]
      ⟨ym r5,Cq r6 (fun _=>DK (by rw[BA (by omega) (by omega)];omega)),ALr⟩ fun a21 w21 g21 Db=>?_
     have AGc:=AA g20 g21
     refine Aa (v:=.int .i64 (((i+1:Nat):Int))) Db r6 fun a22 Cv=>?_
     refine AE ?_
     replace AJ:=AC AGc AJ
     replace AL:=AC AGc AL
     replace hr:=hr.kn AGc
     replace HG:=AA HG AGc
     exact⟨⟨i+1,by omega,fun k hk=>if e:k=i then (by rw[e,hod];exact hne) else hb k (by omega),⟨Cv.1,Cv.2.1,Cv.2.2.1,(AH (AH Cv)).2.2.1,(AH (AH Cv)).2.2.2.1,(AH (AH Cv)).2.2.2.2.1,(AH (AH Cv)).2.2.2.2.2.1,ALr⟩,HG,AJ,AL,hr⟩,by rw[show _=_ from Cv.2.2.1,show _=_ from sv9.2.2.1];simp[intOf];omega⟩
 · have hno:Gx (ks.map VK.p) o=false:=AIb fun k hk=>hb k (by omega)
   refine ALk ?_
   refine AK sv9 5 [(6,.int .i64 ((i:Int))),(7,pk Cf 64),(8,.slice ao ks.length cap),(9,.int .i64 ((ks.length:Nat))),(10,.bool false)]
     ⟨ym r5,yf r6 (fun _=>by kernel_rfl),yp (i:=2) r6 (EC (.slice ao ks.length cap) rfl) AJ rfl (by simp[AI,AQ,hsa.1,hpo.1]),Bv (Tryz.underlying34) rfl rfl trivial (oy rfl rfl) (fun _=>rfl),Ho r7 (fun _=>Bk (by simp;omega)),ALr⟩ fun a23 w23 g23 Cy=>?_
   refine AE ?_
   refine k11 _ _ ?_
   refine Av Cy rfl rfl ?_
   refine wp_exit ?_
   repeat refine CJ ?_
   refine x8 _ _ ?_
   refine k5 _ _ ?_
   refine ALl fun K24 k24=>?_
   refine ALk ?_
   refine Aa (v:=.int .i64 (-1)) Cy r6 fun a25 DM=>?_
   refine AE ?_
   refine k24 _ _ ?_
   replace HG:=AA HG g23
   refine ALo ?_
   repeat refine AM ?_
   refine BQ (fn:=Tryz.f84) DM (BT (p:=4) Tryz.results84 DM rfl rfl) ?_
   exact⟨AJq (by unfold atV;rw[hno];rfl),HG⟩
theorem M0 {x y:List Nat} {b:Bool} (hb:Ej x y=b) (hx:Dg x) (hy:Dg y) (w:World):Calls Tryz.prog 86 #[AR x,AR y] w fun e w'=>e=.returned (.bool b)∧w.grownBy w' none:=hb▸ACR x y hx hy w
theorem XV (ks:List VK) (ao:Option Addr) (cap:Nat) (sa po:List Nat) (hsa:Dg sa) (hpo:Dg po) (w:World) (hr:RdK w (.slice ao ks.length cap) ks) :
   Calls Tryz.prog 51 #[Ao sa po (.slice ao ks.length cap)] w fun e w'=>e=.returned (.bool (CI (ks.map VK.p)))∧w.grownBy w' none:=by
 have hlen:=hr.len
 have hmap:(ks.map VK.p).length=ks.length:=List.length_map _
 refine Dn Tryz.func51 rfl Tryz.ntmps51 rfl fun a0 sv0=>?_
 have HG:=World.grownBy.refl w none
 replace sv0:Sv 38 [] [(0,Ao sa po (.slice ao ks.length cap))] a0:=sv0
 refine ALl fun K1 k1=>?_
 refine ALk ?_
 refine Bm sv0 r6 (BR hsa hpo (.slice ao ks.length cap) rfl) fun a2 w2 CO F7 g2 z2 Ac sv2=>?_
 replace hr:=hr.kn g2
 replace HG:=AA HG g2
 refine Aa (v:=.bool false) sv2 r6 fun a3 sv3=>?_
 refine AE ?_
 refine k1 _ _ ?_
 refine ALl fun K4 k4=>?_
 refine ALk ?_
 refine Ei sv3 rfl (dd:={ target:=.fn (.func 95) #[],args:=#[] }) rfl (by simp[execOp,resolve,Deferred.ofValue];try rfl) fun a5 sv5=>?_
 refine AE ?_
 refine k4 _ _ ?_
 refine ALl fun K6 k6=>?_
 refine ALl fun K7 k7=>?_
 by_cases hbig:64<ks.length
 · refine ALk ?_
   refine AK sv5 4 [(5,pk CO 64),(6,.slice ao ks.length cap),(7,.int .i64 ((ks.length:Nat))),(8,.bool true)]
     ⟨yf r6 (fun _=>by kernel_rfl),yp (i:=2) r6 (EC (.slice ao ks.length cap) rfl) Ac rfl (by simp[AI,AQ,hsa.1,hpo.1]),Bv (Tryz.underlying34) rfl rfl trivial (oy rfl rfl) (fun _=>rfl),Cq r6 (fun _=>DJ (by simp;omega)),ALr⟩ fun a8 w8 g8 sv8=>?_
   refine AE ?_
   refine k7 _ _ ?_
   refine Ar sv8 rfl rfl ?_
   refine ALl fun K9 k9=>?_
   refine ALk ?_
   refine Aa (v:=.bool false) sv8 r6 fun a10 Cj=>?_
   refine AE ?_
   refine k9 _ _ ?_
   replace Ac:=AC g8 Ac
   replace hr:=hr.kn g8
   replace HG:=AA HG g8
   refine ALo ?_
   repeat refine AM ?_
   refine BK (fn:=Tryz.f51) Cj (BT (p:=2) Tryz.results51 Cj rfl rfl) (Bp Tryz.func95 (by kernel_rfl) rfl _ _) (C7 _) ?_
   exact⟨IE ((XW (by omega)).symm),HG⟩
 · refine ALk ?_
   refine AK sv5 4 [(5,pk CO 64),(6,.slice ao ks.length cap),(7,.int .i64 ((ks.length:Nat))),(8,.bool false)]
     ⟨yf r6 (fun _=>by kernel_rfl),yp (i:=2) r6 (EC (.slice ao ks.length cap) rfl) Ac rfl (by simp[AI,AQ,hsa.1,hpo.1]),Bv (Tryz.underlying34) rfl rfl trivial (oy rfl rfl) (fun _=>rfl),Cq r6 (fun _=>DJ (by simp;omega)),ALr⟩ fun a11 w11 g11 CY=>?_
   refine AE ?_
   refine k7 _ _ ?_
   refine Av CY rfl rfl ?_
   refine ALp ?_
   refine k6 _ _ ?_
   refine ALl fun K12 k12=>?_
   refine ALl fun K13 k13=>?_
   refine ALk ?_
   refine AK CY 4 [(9,pk CO 64),(10,.slice ao ks.length cap),(11,.int .i64 ((ks.length:Nat))),(12,.int .i64 0)]
     ⟨yf r6 (fun _=>by kernel_rfl),yp (i:=2) r6 (EC (.slice ao ks.length cap) rfl) (AC g11 Ac) rfl (by simp[AI,AQ,hsa.1,hpo.1]),Bv (Tryz.underlying34) rfl rfl trivial (oy rfl rfl) (fun _=>rfl),E3 (.inl rfl) rfl trivial (fun _=>rfl),ALr⟩ fun a14 w14 g14 Dl=>?_
   have XX:=AA g11 g14
   refine AE ?_
   refine k13 _ _ ?_
   refine BF fun Q15 x15 y15 r15 o15=>?_
   replace Ac:=AC XX Ac
   replace hr:=hr.kn XX
   replace HG:=AA HG XX
   refine wp_loop (fun a w'=>∃(i:Nat),(i≤ks.length)∧(∀k,k<i→chk (ks.map VK.p) k=true)∧Sv 38 [{ target:=.fn (.func 95) #[],args:=#[] }] [(12,.int .i64 ((i:Int))),(9,pk CO 64),(10,.slice ao ks.length cap),(11,.int .i64 ((ks.length:Nat))),(5,pk CO 64),(6,.slice ao ks.length cap),(7,.int .i64 ((ks.length:Nat))),(8,.bool false),(1,pt CO),(0,Ao sa po (.slice ao ks.length cap))] a∧w.grownBy w' none∧w'.heap[CO]?=some (.cells ([bv sa,bv po,[.slice ao ks.length cap]].flatten).toArray 36 (0,0))∧RdK w' (.slice ao ks.length cap) ks) (fun a _=>(ks.length-intOf (a.tmps.getD 12 undef)).toNat) ⟨0,Nat.zero_le _,fun k hk=>by omega,⟨Dl.1,Dl.2.1,Dl.2.2.2.2.2.1,Dl.2.2.1,Dl.2.2.2.1,Dl.2.2.2.2.1,Dl.2.2.2.2.2.2.1,Dl.2.2.2.2.2.2.2.1,(AH Dl).1,(AH Dl).2.1,(AH Dl).2.2.2.1,(AH Dl).2.2.2.2.1,ALr⟩,HG,Ac,hr⟩ fun a16 w16 hI16=>?_
   clear Ac
   clear hr
   clear HG
   obtain⟨i,hin,hb,Cp,HG,Ac,hr⟩:=hI16
   refine ALl fun K17 k17=>?_
   by_cases hi:i<ks.length
   · have hp:i-1<ks.length:=by omega
     obtain⟨x,hx_x⟩:∃x,ks[i]'hi=x:=⟨_,rfl⟩
     obtain⟨y,hx_y⟩:∃x,ks[(i-1)]'hp=x:=⟨_,rfl⟩
     have hchk:=AHg hi hp hx_x hx_y
     refine ALk ?_
     refine AK Cp 1 [(13,.bool true)]
       ⟨Ho r7 (fun _=>Bk (by simp;omega)),ALr⟩ fun a18 w18 g18 Ca=>?_
     refine AE ?_
     refine k17 _ _ ?_
     refine ALl fun K19 k19=>?_
     refine Ar Ca rfl rfl ?_
     refine ALp ?_
     refine k19 _ _ ?_
     refine ALl fun K20 k20=>?_
     refine BF fun Q21 x21 y21 r21 o21=>?_
     refine ALl fun K22 k22=>?_
     refine ALk ?_
     replace hr:=hr.kn g18
     refine AK Ca 3 [(14,.int .i64 ((i:Int))),(15,pk ((bO ao)) (oO ao+i*33)),(16,Hp x)]
       ⟨ym r5,BJ rq8 (fun w=>CW Tryz.underlying34 (by kernel_rfl) (hr.1.1) (by omega) (rfl) w),CD r6 (fun _ g=>Ae (Uq x) (RdK.keyX (hr.kn g) rfl hi hx_x)),ALr⟩ fun a23 w23 g23 Cy=>?_
     replace Ac:=AC g23 (AC g18 Ac)
     replace hr:=hr.kn g23
     replace HG:=AA (AA HG g18) g23
     refine Ax (T:=58) (Z:=([bv AS,[.slice none 0 0]].flatten)) Cy rfl rfl rfl (fun a w=>by kernel_rfl) fun a24 w24 PM RD g24 z24 ED Cn=>?_
     have Sr:=Au Ac RD
     have AET:=B7 HG RD
     have XY:=A2 (hr.lt) RD
     refine Aa (v:=.int .i64 ((i:Int))) Cn r6 fun a25 DM=>?_
     refine Ap DM r7 (Uq x) ED (by first|rfl|simp[AY,AI,AQ,x.ho.1]) fun w26 g26 h26=>?_
     replace Ac:=AX g26 (AC g24 Ac) (Ne.symm Sr)
     replace hr:=(hr.kn g24).offR g26 (AU XY)
     replace HG:=AD (AA HG g24) g26 AET
     replace ED:=h26
     refine AE ?_
     refine k22 _ _ ?_
     refine ALl fun K27 k27=>?_
     rcases(show(i=0∧GV x.l=true)∨(i=0∧GV x.l=false)∨(0<i∧Ej y.o x.o=true∧GV x.l=true)∨(0<i∧Ej y.o x.o=true∧GV x.l=false)∨(0<i∧Ej y.o x.o=false∧GV x.l=true)∨(0<i∧Ej y.o x.o=false∧GV x.l=false) by
        rcases Nat.eq_zero_or_pos i with h|h<;>cases h2:GV x.l<;>cases h3:Ej y.o x.o<;>simp[h]) with ⟨hz,hv⟩|⟨hz,hv⟩|⟨hz,hc,hv⟩|⟨hz,hc,hv⟩|⟨hz,hc,hv⟩|⟨hz,hc,hv⟩
     · have hok:((decide (i=0)||Ej y.o x.o)&&GV x.l)=true:=by simp[hz,hv]
       refine DP DM [(17,.int .i64 ((i:Int))),(18,.bool false),(19,.bool false),(20,undef),(21,undef),(22,undef),(23,undef),(24,undef),(25,undef),(26,undef),(27,undef),(28,undef),(29,undef),(30,.bool false),(31,.bool false),(32,pk PM 32),(33,.agg #[VK.s x]),(34,.bool true),(35,.bool false),(36,.bool false)]
        ⟨ym r5,Cq r6 (fun _=>DJ (by simp;omega)),ym r5,Ab r6,Ab r6,Ab r6,Ab r6,Ab r6,Ab r6,Ab r6,Ab r6,Ab r6,Ab r6,CK r7,ym r5,Bl rq9 (fun _=>by kernel_rfl),A9 rq9 (fun _ g=>Ae (Pc (VK.s x) rfl) (Bu (L:=[bv x.o,[VK.s x]]) (i:=1) (AF g ED (by simp)) rfl (by simp[AI,AQ,x.ho.1]))),CL [.agg #[VK.s x]] Tryz.func97 (by kernel_rfl) r7 ⟨(oy rfl rfl),ALr⟩ (As fun W g=>JI hv ((hr.kn g).kt hi hx_x)),Ib rfl rfl (gy rfl rfl rfl) (oy rfl rfl) (fun _=>Bc) (fun _=>rfl),BC rq9,ALr⟩ fun a28 w28 g28 LU=>?_
       refine k27 _ _ ?_
       refine Av LU rfl rfl ?_
       refine ALp ?_
       refine y21 _ _ ?_
       refine k20 _ _ ?_
       refine ALk ?_
       refine AK LU 1 [(37,.int .i64 (((i+1:Nat):Int)))]
        ⟨Cq r6 (fun _=>DK (by rw[BA (by omega) (by omega)];omega)),ALr⟩ fun a29 w29 g29 Cc=>?_
       have Gk:=AA g28 g29
       refine AK (Cc.dl [12]) 1 [(12,.int .i64 (((i+1:Nat):Int)))]
        ⟨ym r5,ALr⟩ fun a30 w30 g30 Es=>?_
       have AGd:=AA Gk g30
       refine AE ?_
       replace Ac:=AC AGd Ac
       replace ED:=AC AGd ED
       replace hr:=hr.kn AGd
       replace HG:=AA HG AGd
       exact⟨⟨i+1,by omega,fun k hk=>if e:k=i then (by rw[e,hchk];exact hok) else hb k (by omega),⟨Es.1,Es.2.1,Es.2.2.1,(AH (AH (AH Es))).2.2.2.2.2.2.1,(AH (AH (AH Es))).2.2.2.2.2.2.2.1,(AH (AH (AH (AH Es)))).1,(AH (AH (AH (AH Es)))).2.1,(AH (AH (AH (AH Es)))).2.2.1,(AH (AH (AH (AH Es)))).2.2.2.1,(AH (AH (AH (AH Es)))).2.2.2.2.1,(AH (AH (AH (AH Es)))).2.2.2.2.2.1,(AH (AH (AH (AH Es)))).2.2.2.2.2.2.1,ALr⟩,HG,Ac,hr⟩,by rw[show _=_ from Es.2.2.1,show _=_ from Cp.2.2.1];simp[intOf];omega⟩
     · refine DP DM [(17,.int .i64 ((i:Int))),(18,.bool false),(19,.bool false),(20,undef),(21,undef),(22,undef),(23,undef),(24,undef),(25,undef),(26,undef),(27,undef),(28,undef),(29,undef),(30,.bool false),(31,.bool false),(32,pk PM 32),(33,.agg #[VK.s x]),(34,.bool false),(35,.bool true),(36,.bool true)]
        ⟨ym r5,Cq r6 (fun _=>DJ (by simp;omega)),ym r5,Ab r6,Ab r6,Ab r6,Ab r6,Ab r6,Ab r6,Ab r6,Ab r6,Ab r6,Ab r6,CK r7,ym r5,Bl rq9 (fun _=>by kernel_rfl),A9 rq9 (fun _ g=>Ae (Pc (VK.s x) rfl) (Bu (L:=[bv x.o,[VK.s x]]) (i:=1) (AF g ED (by simp)) rfl (by simp[AI,AQ,x.ho.1]))),CL [.agg #[VK.s x]] Tryz.func97 (by kernel_rfl) r7 ⟨(oy rfl rfl),ALr⟩ (As fun W g=>JI hv ((hr.kn g).kt hi hx_x)),Ib rfl rfl (gy rfl rfl rfl) (oy rfl rfl) (fun _=>Bc) (fun _=>rfl),BC rq9,ALr⟩ fun a31 w31 g31 GO=>?_
       refine k27 _ _ ?_
       refine Ar GO rfl rfl ?_
       refine ALl fun K32 k32=>?_
       refine ALk ?_
       refine Aa (v:=.bool false) GO r6 fun a33 Ku=>?_
       refine AE ?_
       refine k32 _ _ ?_
       replace Ac:=AC g31 Ac
       replace ED:=AC g31 ED
       replace hr:=hr.kn g31
       replace HG:=AA HG g31
       refine ALo ?_
       repeat refine AM ?_
       refine r21 _ _ ?_
       repeat refine AM ?_
       refine r15 _ _ ?_
       repeat refine AM ?_
       refine BK (fn:=Tryz.f51) Ku (BT (p:=2) Tryz.results51 Ku rfl rfl) (Bp Tryz.func95 (by kernel_rfl) rfl _ _) (C7 _) ?_
       exact⟨IE ((JJ (i:=i) (by rw[hmap];exact hi) (by rw[hchk];simp[hv])).symm),HG⟩
     · have hok:((decide (i=0)||Ej y.o x.o)&&GV x.l)=true:=by simp[hz,hv,hc]
       refine DP DM [(17,.int .i64 ((i:Int))),(18,.bool true),(19,.bool true),(20,pk CO 64),(21,.slice ao ks.length cap),(22,.int .i64 ((i:Int))),(23,.int .i64 (((i-1:Nat):Int))),(24,pk ((bO ao)) (oO ao+(i-1)*33)),(25,Hp y),(26,pt PM),(27,AR x.o),(28,.int .i64 ((Hf y.o x.o))),(29,.bool false),(30,.bool false),(31,.bool false),(32,pk PM 32),(33,.agg #[VK.s x]),(34,.bool true),(35,.bool false),(36,.bool false)]
        ⟨ym r5,Cq r6 (fun _=>DJ (by simp;omega)),ym r5,Bl rq9 (fun _=>by kernel_rfl),A9 rq9 (fun _ g=>Ae (EC (.slice ao ks.length cap) rfl) (Bu (L:=[bv sa,bv po,[.slice ao ks.length cap]]) (i:=2) (AF g Ac (by simp)) rfl (by simp[AI,AQ,hsa.1,hpo.1]))),A1 rq8,BZ rq9 (fun _=>F5 (by rw[BA (by omega) (by omega)];omega)),C3 rfl rfl (gy rfl rfl rfl) (oy rfl rfl) (oy rfl rfl) (fun w=>CW Tryz.underlying34 (by kernel_rfl) (hr.1.1) (by omega) (rfl) w) (fun _=>rfl),A9 rq9 (fun _ g=>Ae (Uq y) (RdK.keyX (hr.kn g) rfl hp hx_y)),Bl rq9 (fun _=>by kernel_rfl),A9 rq9 (fun _ g=>Ae (CB x.o x.ho.1) (Bu (L:=[bv x.o,[VK.s x]]) (i:=0) (AF g ED (by simp)) rfl rfl)),CL [Hp y,AR x.o] Tryz.func96 (by kernel_rfl) r7 ⟨(oy rfl rfl),(oy rfl rfl),ALr⟩ (As fun W g=>Gg y x.o x.ho W),BZ rq9 (fun _=>FQ (by rw[MC,hc];rfl)),BC rq9,ym r5,Bl rq9 (fun _=>by kernel_rfl),A9 rq9 (fun _ g=>Ae (Pc (VK.s x) rfl) (Bu (L:=[bv x.o,[VK.s x]]) (i:=1) (AF g ED (by simp)) rfl (by simp[AI,AQ,x.ho.1]))),CL [.agg #[VK.s x]] Tryz.func97 (by kernel_rfl) r7 ⟨(oy rfl rfl),ALr⟩ (As fun W g=>JI hv ((hr.kn g).kt hi hx_x)),Ib rfl rfl (gy rfl rfl rfl) (oy rfl rfl) (fun _=>Bc) (fun _=>rfl),BC rq9,ALr⟩ fun a34 w34 g34 Kv=>?_
       refine k27 _ _ ?_
       refine Av Kv rfl rfl ?_
       refine ALp ?_
       refine y21 _ _ ?_
       refine k20 _ _ ?_
       refine ALk ?_
       refine AK Kv 1 [(37,.int .i64 (((i+1:Nat):Int)))]
        ⟨Cq r6 (fun _=>DK (by rw[BA (by omega) (by omega)];omega)),ALr⟩ fun a35 w35 g35 Jr=>?_
       have XZ:=AA g34 g35
       refine AK (Jr.dl [12]) 1 [(12,.int .i64 (((i+1:Nat):Int)))]
        ⟨ym r5,ALr⟩ fun a36 w36 g36 FS=>?_
       have RE:=AA XZ g36
       refine AE ?_
       replace Ac:=AC RE Ac
       replace ED:=AC RE ED
       replace hr:=hr.kn RE
       replace HG:=AA HG RE
       exact⟨⟨i+1,by omega,fun k hk=>if e:k=i then (by rw[e,hchk];exact hok) else hb k (by omega),⟨FS.1,FS.2.1,FS.2.2.1,(AH (AH (AH FS))).2.2.2.2.2.2.1,(AH (AH (AH FS))).2.2.2.2.2.2.2.1,(AH (AH (AH (AH FS)))).1,(AH (AH (AH (AH FS)))).2.1,(AH (AH (AH (AH FS)))).2.2.1,(AH (AH (AH (AH FS)))).2.2.2.1,(AH (AH (AH (AH FS)))).2.2.2.2.1,(AH (AH (AH (AH FS)))).2.2.2.2.2.1,(AH (AH (AH (AH FS)))).2.2.2.2.2.2.1,ALr⟩,HG,Ac,hr⟩,by rw[show _=_ from FS.2.2.1,show _=_ from Cp.2.2.1];simp[intOf];omega⟩
     · refine DP DM [(17,.int .i64 ((i:Int))),(18,.bool true),(19,.bool true),(20,pk CO 64),(21,.slice ao ks.length cap),(22,.int .i64 ((i:Int))),(23,.int .i64 (((i-1:Nat):Int))),(24,pk ((bO ao)) (oO ao+(i-1)*33)),(25,Hp y),(26,pt PM),(27,AR x.o),(28,.int .i64 ((Hf y.o x.o))),(29,.bool false),(30,.bool false),(31,.bool false),(32,pk PM 32),(33,.agg #[VK.s x]),(34,.bool false),(35,.bool true),(36,.bool true)]
        ⟨ym r5,Cq r6 (fun _=>DJ (by simp;omega)),ym r5,Bl rq9 (fun _=>by kernel_rfl),A9 rq9 (fun _ g=>Ae (EC (.slice ao ks.length cap) rfl) (Bu (L:=[bv sa,bv po,[.slice ao ks.length cap]]) (i:=2) (AF g Ac (by simp)) rfl (by simp[AI,AQ,hsa.1,hpo.1]))),A1 rq8,BZ rq9 (fun _=>F5 (by rw[BA (by omega) (by omega)];omega)),C3 rfl rfl (gy rfl rfl rfl) (oy rfl rfl) (oy rfl rfl) (fun w=>CW Tryz.underlying34 (by kernel_rfl) (hr.1.1) (by omega) (rfl) w) (fun _=>rfl),A9 rq9 (fun _ g=>Ae (Uq y) (RdK.keyX (hr.kn g) rfl hp hx_y)),Bl rq9 (fun _=>by kernel_rfl),A9 rq9 (fun _ g=>Ae (CB x.o x.ho.1) (Bu (L:=[bv x.o,[VK.s x]]) (i:=0) (AF g ED (by simp)) rfl rfl)),CL [Hp y,AR x.o] Tryz.func96 (by kernel_rfl) r7 ⟨(oy rfl rfl),(oy rfl rfl),ALr⟩ (As fun W g=>Gg y x.o x.ho W),BZ rq9 (fun _=>FQ (by rw[MC,hc];rfl)),BC rq9,ym r5,Bl rq9 (fun _=>by kernel_rfl),A9 rq9 (fun _ g=>Ae (Pc (VK.s x) rfl) (Bu (L:=[bv x.o,[VK.s x]]) (i:=1) (AF g ED (by simp)) rfl (by simp[AI,AQ,x.ho.1]))),CL [.agg #[VK.s x]] Tryz.func97 (by kernel_rfl) r7 ⟨(oy rfl rfl),ALr⟩ (As fun W g=>JI hv ((hr.kn g).kt hi hx_x)),Ib rfl rfl (gy rfl rfl rfl) (oy rfl rfl) (fun _=>Bc) (fun _=>rfl),BC rq9,ALr⟩ fun a37 w37 g37 IG=>?_
       refine k27 _ _ ?_
       refine Ar IG rfl rfl ?_
       refine ALl fun K38 k38=>?_
       refine ALk ?_
       refine Aa (v:=.bool false) IG r6 fun a39 Js=>?_
       refine AE ?_
       refine k38 _ _ ?_
       replace Ac:=AC g37 Ac
       replace ED:=AC g37 ED
       replace hr:=hr.kn g37
       replace HG:=AA HG g37
       refine ALo ?_
       repeat refine AM ?_
       refine r21 _ _ ?_
       repeat refine AM ?_
       refine r15 _ _ ?_
       repeat refine AM ?_
       refine BK (fn:=Tryz.f51) Js (BT (p:=2) Tryz.results51 Js rfl rfl) (Bp Tryz.func95 (by kernel_rfl) rfl _ _) (C7 _) ?_
       exact⟨IE ((JJ (i:=i) (by rw[hmap];exact hi) (by rw[hchk];simp[hv,hc,Nat.ne_of_gt hz])).symm),HG⟩
     · refine DP DM [(17,.int .i64 ((i:Int))),(18,.bool true),(19,.bool true),(20,pk CO 64),(21,.slice ao ks.length cap),(22,.int .i64 ((i:Int))),(23,.int .i64 (((i-1:Nat):Int))),(24,pk ((bO ao)) (oO ao+(i-1)*33)),(25,Hp y),(26,pt PM),(27,AR x.o),(28,.int .i64 ((Hf y.o x.o))),(29,.bool true),(30,.bool true),(31,.bool true),(32,undef),(33,undef),(34,undef),(35,undef),(36,.bool true)]
        ⟨ym r5,Cq r6 (fun _=>DJ (by simp;omega)),ym r5,Bl rq9 (fun _=>by kernel_rfl),A9 rq9 (fun _ g=>Ae (EC (.slice ao ks.length cap) rfl) (Bu (L:=[bv sa,bv po,[.slice ao ks.length cap]]) (i:=2) (AF g Ac (by simp)) rfl (by simp[AI,AQ,hsa.1,hpo.1]))),A1 rq8,BZ rq9 (fun _=>F5 (by rw[BA (by omega) (by omega)];omega)),C3 rfl rfl (gy rfl rfl rfl) (oy rfl rfl) (oy rfl rfl) (fun w=>CW Tryz.underlying34 (by kernel_rfl) (hr.1.1) (by omega) (rfl) w) (fun _=>rfl),A9 rq9 (fun _ g=>Ae (Uq y) (RdK.keyX (hr.kn g) rfl hp hx_y)),Bl rq9 (fun _=>by kernel_rfl),A9 rq9 (fun _ g=>Ae (CB x.o x.ho.1) (Bu (L:=[bv x.o,[VK.s x]]) (i:=0) (AF g ED (by simp)) rfl rfl)),CL [Hp y,AR x.o] Tryz.func96 (by kernel_rfl) r7 ⟨(oy rfl rfl),(oy rfl rfl),ALr⟩ (As fun W g=>Gg y x.o x.ho W),BZ rq9 (fun _=>FQ (by rw[MC,hc];rfl)),BC rq9,ym r5,Ab r6,Ab r6,Ab r6,Ab r6,CK r7,ALr⟩ fun a40 w40 g40 I3=>?_
       refine k27 _ _ ?_
       refine Ar I3 rfl rfl ?_
       refine ALl fun K41 k41=>?_
       refine ALk ?_
       refine Aa (v:=.bool false) I3 r6 fun a42 GR=>?_
       refine AE ?_
       refine k41 _ _ ?_
       replace Ac:=AC g40 Ac
       replace ED:=AC g40 ED
       replace hr:=hr.kn g40
       replace HG:=AA HG g40
       refine ALo ?_
       repeat refine AM ?_
       refine r21 _ _ ?_
       repeat refine AM ?_
       refine r15 _ _ ?_
       repeat refine AM ?_
       refine BK (fn:=Tryz.f51) GR (BT (p:=2) Tryz.results51 GR rfl rfl) (Bp Tryz.func95 (by kernel_rfl) rfl _ _) (C7 _) ?_
       exact⟨IE ((JJ (i:=i) (by rw[hmap];exact hi) (by rw[hchk];simp[hv,hc,Nat.ne_of_gt hz])).symm),HG⟩
     · refine DP DM [(17,.int .i64 ((i:Int))),(18,.bool true),(19,.bool true),(20,pk CO 64),(21,.slice ao ks.length cap),(22,.int .i64 ((i:Int))),(23,.int .i64 (((i-1:Nat):Int))),(24,pk ((bO ao)) (oO ao+(i-1)*33)),(25,Hp y),(26,pt PM),(27,AR x.o),(28,.int .i64 ((Hf y.o x.o))),(29,.bool true),(30,.bool true),(31,.bool true),(32,undef),(33,undef),(34,undef),(35,undef),(36,.bool true)]
        ⟨ym r5,Cq r6 (fun _=>DJ (by simp;omega)),ym r5,Bl rq9 (fun _=>by kernel_rfl),A9 rq9 (fun _ g=>Ae (EC (.slice ao ks.length cap) rfl) (Bu (L:=[bv sa,bv po,[.slice ao ks.length cap]]) (i:=2) (AF g Ac (by simp)) rfl (by simp[AI,AQ,hsa.1,hpo.1]))),A1 rq8,BZ rq9 (fun _=>F5 (by rw[BA (by omega) (by omega)];omega)),C3 rfl rfl (gy rfl rfl rfl) (oy rfl rfl) (oy rfl rfl) (fun w=>CW Tryz.underlying34 (by kernel_rfl) (hr.1.1) (by omega) (rfl) w) (fun _=>rfl),A9 rq9 (fun _ g=>Ae (Uq y) (RdK.keyX (hr.kn g) rfl hp hx_y)),Bl rq9 (fun _=>by kernel_rfl),A9 rq9 (fun _ g=>Ae (CB x.o x.ho.1) (Bu (L:=[bv x.o,[VK.s x]]) (i:=0) (AF g ED (by simp)) rfl rfl)),CL [Hp y,AR x.o] Tryz.func96 (by kernel_rfl) r7 ⟨(oy rfl rfl),(oy rfl rfl),ALr⟩ (As fun W g=>Gg y x.o x.ho W),BZ rq9 (fun _=>FQ (by rw[MC,hc];rfl)),BC rq9,ym r5,Ab r6,Ab r6,Ab r6,Ab r6,CK r7,ALr⟩ fun a43 w43 g43 I6=>?_
       refine k27 _ _ ?_
       refine Ar I6 rfl rfl ?_
       refine ALl fun K44 k44=>?_
       refine ALk ?_
       refine Aa (v:=.bool false) I6 r6 fun a45 FT=>?_
       refine AE ?_
       refine k44 _ _ ?_
       replace HG:=AA HG g43
       refine ALo ?_
       repeat refine AM ?_
       refine r21 _ _ ?_
       repeat refine AM ?_
       refine r15 _ _ ?_
       repeat refine AM ?_
       refine BK (fn:=Tryz.f51) FT (BT (p:=2) Tryz.results51 FT rfl rfl) (Bp Tryz.func95 (by kernel_rfl) rfl _ _) (C7 _) ?_
       exact⟨IE ((JJ (i:=i) (by rw[hmap];exact hi) (by rw[hchk];simp[hv,hc,Nat.ne_of_gt hz])).symm),HG⟩
   · refine ALk ?_
     refine AK Cp 1 [(13,.bool false)]
       ⟨Ho r7 (fun _=>Bk (by simp;omega)),ALr⟩ fun a46 w46 g46 IH=>?_
     refine AE ?_
     refine k17 _ _ ?_
     refine ALl fun K47 k47=>?_
     refine Av IH rfl rfl ?_
     refine wp_exit ?_
     repeat refine CJ ?_
     refine x15 _ _ ?_
     refine k12 _ _ ?_
     refine ALl fun K48 k48=>?_
     refine ALk ?_
     refine Aa (v:=.bool true) IH r6 fun a49 KF=>?_
     refine AE ?_
     refine k48 _ _ ?_
     replace HG:=AA HG g46
     refine ALo ?_
     repeat refine AM ?_
     refine BK (fn:=Tryz.f51) KF (BT (p:=2) Tryz.results51 KF rfl rfl) (Bp Tryz.func95 (by kernel_rfl) rfl _ _) (C7 _) ?_
     exact⟨IE ((Xa (by omega) fun k hk=>hb k (by omega)).symm),HG⟩
theorem Uv (ks:List VK) (ao:Option Addr) (cap:Nat) (sa po:List Nat) (hsa:Dg sa) (hpo:Dg po) (w:World) (hr:RdK w (.slice ao ks.length cap) ks) :
   Calls Tryz.prog 40 #[Ao sa po (.slice ao ks.length cap)] w fun e w'=>e=.returned (.bool (CI (ks.map VK.p)))∧w.grownBy w' none:=by
 have hlen:=hr.len
 have hmap:(ks.map VK.p).length=ks.length:=List.length_map _
 refine Be Tryz.func40 rfl Tryz.ntmps40 rfl fun a0 sv0=>?_
 have HG:=World.grownBy.refl w none
 replace sv0:Sv 44 [] [(0,Ao sa po (.slice ao ks.length cap))] a0:=sv0
 refine ALl fun K1 k1=>?_
 refine ALk ?_
 refine Bm sv0 r6 (BR hsa hpo (.slice ao ks.length cap) rfl) fun a2 w2 CO F7 g2 z2 Ac sv2=>?_
 replace hr:=hr.kn g2
 replace HG:=AA HG g2
 refine Aa (v:=.bool false) sv2 r6 fun a3 sv3=>?_
 refine AE ?_
 refine k1 _ _ ?_
 refine ALl fun K4 k4=>?_
 refine ALl fun K5 k5=>?_
 by_cases hbig:64<ks.length
 · refine ALk ?_
   refine AK sv3 4 [(4,pk CO 64),(5,.slice ao ks.length cap),(6,.int .i64 ((ks.length:Nat))),(7,.bool true)]
     ⟨yf r6 (fun _=>by kernel_rfl),yp (i:=2) r6 (EC (.slice ao ks.length cap) rfl) Ac rfl (by simp[AI,AQ,hsa.1,hpo.1]),Bv (Tryz.underlying34) rfl rfl trivial (oy rfl rfl) (fun _=>rfl),Cq r6 (fun _=>DJ (by simp;omega)),ALr⟩ fun a6 w6 g6 sv6=>?_
   refine AE ?_
   refine k5 _ _ ?_
   refine Ar sv6 rfl rfl ?_
   refine ALl fun K7 k7=>?_
   refine ALk ?_
   refine Aa (v:=.bool false) sv6 r6 fun a8 sv8=>?_
   refine AE ?_
   refine k7 _ _ ?_
   replace Ac:=AC g6 Ac
   replace hr:=hr.kn g6
   replace HG:=AA HG g6
   refine ALo ?_
   repeat refine AM ?_
   refine BQ (fn:=Tryz.f40) sv8 (BT (p:=2) Tryz.results40 sv8 rfl rfl) ?_
   exact⟨IE ((XW (by omega)).symm),HG⟩
 · refine ALk ?_
   refine AK sv3 4 [(4,pk CO 64),(5,.slice ao ks.length cap),(6,.int .i64 ((ks.length:Nat))),(7,.bool false)]
     ⟨yf r6 (fun _=>by kernel_rfl),yp (i:=2) r6 (EC (.slice ao ks.length cap) rfl) Ac rfl (by simp[AI,AQ,hsa.1,hpo.1]),Bv (Tryz.underlying34) rfl rfl trivial (oy rfl rfl) (fun _=>rfl),Cq r6 (fun _=>DJ (by simp;omega)),ALr⟩ fun a9 w9 g9 sv9=>?_
   refine AE ?_
   refine k5 _ _ ?_
   refine Av sv9 rfl rfl ?_
   refine ALp ?_
   refine k4 _ _ ?_
   refine ALl fun K10 k10=>?_
   refine ALl fun K11 k11=>?_
   refine ALk ?_
   refine Aa (v:=.int .i64 0) sv9 r6 fun a12 Df=>?_
   refine AE ?_
   refine k11 _ _ ?_
   refine BF fun Q13 x13 y13 r13 o13=>?_
   replace Ac:=AC g9 Ac
   replace hr:=hr.kn g9
   replace HG:=AA HG g9
   refine wp_loop (fun a w'=>∃(i:Nat),(i≤ks.length)∧(∀k,k<i→chk (ks.map VK.p) k=true)∧Sv 44 [] [(3,.int .i64 ((i:Int))),(4,pk CO 64),(5,.slice ao ks.length cap),(6,.int .i64 ((ks.length:Nat))),(7,.bool false),(1,pt CO),(0,Ao sa po (.slice ao ks.length cap))] a∧w.grownBy w' none∧w'.heap[CO]?=some (.cells ([bv sa,bv po,[.slice ao ks.length cap]].flatten).toArray 36 (0,0))∧RdK w' (.slice ao ks.length cap) ks) (fun a _=>(ks.length-intOf (a.tmps.getD 3 undef)).toNat) ⟨0,Nat.zero_le _,fun k hk=>by omega,⟨Df.1,Df.2.1,Df.2.2.1,Df.2.2.2.1,Df.2.2.2.2.1,Df.2.2.2.2.2.1,Df.2.2.2.2.2.2.1,(AH Df).1,(AH Df).2.1,ALr⟩,HG,Ac,hr⟩ fun a14 w14 hI14=>?_
   clear Ac
   clear hr
   clear HG
   obtain⟨i,hin,hb,Dl,HG,Ac,hr⟩:=hI14
   refine ALl fun K15 k15=>?_
   refine ALl fun K16 k16=>?_
   by_cases hi:i<ks.length
   · have hp:i-1<ks.length:=by omega
     obtain⟨x,hx_x⟩:∃x,ks[i]'hi=x:=⟨_,rfl⟩
     obtain⟨y,hx_y⟩:∃x,ks[(i-1)]'hp=x:=⟨_,rfl⟩
     have hchk:=AHg hi hp hx_x hx_y
     refine ALk ?_
     refine AK Dl 5 [(8,.int .i64 ((i:Int))),(9,pk CO 64),(10,.slice ao ks.length cap),(11,.int .i64 ((ks.length:Nat))),(12,.bool true)]
       ⟨ym r5,yf r6 (fun _=>by kernel_rfl),yp (i:=2) r6 (EC (.slice ao ks.length cap) rfl) Ac rfl (by simp[AI,AQ,hsa.1,hpo.1]),Bv (Tryz.underlying34) rfl rfl trivial (oy rfl rfl) (fun _=>rfl),Ho r7 (fun _=>Bk (by simp;omega)),ALr⟩ fun a17 w17 g17 Gh=>?_
     refine AE ?_
     refine k16 _ _ ?_
     refine Ar Gh rfl rfl ?_
     refine ALp ?_
     refine k15 _ _ ?_
     refine ALl fun K18 k18=>?_
     refine BF fun Q19 x19 y19 r19 o19=>?_
     refine ALl fun K20 k20=>?_
     replace Ac:=AC g17 Ac
     replace hr:=hr.kn g17
     replace HG:=AA HG g17
     rcases(show(i=0∧GV x.l=true)∨(i=0∧GV x.l=false)∨(0<i∧Ej y.o x.o=true∧GV x.l=true)∨(0<i∧Ej y.o x.o=true∧GV x.l=false)∨(0<i∧Ej y.o x.o=false∧GV x.l=true)∨(0<i∧Ej y.o x.o=false∧GV x.l=false) by
        rcases Nat.eq_zero_or_pos i with h|h<;>cases h2:GV x.l<;>cases h3:Ej y.o x.o<;>simp[h]) with ⟨hz,hv⟩|⟨hz,hv⟩|⟨hz,hc,hv⟩|⟨hz,hc,hv⟩|⟨hz,hc,hv⟩|⟨hz,hc,hv⟩
     · have hok:((decide (i=0)||Ej y.o x.o)&&GV x.l)=true:=by simp[hz,hv]
       refine DP Gh [(15,pk CO 64),(16,.slice ao ks.length cap),(17,.int .i64 ((i:Int))),(18,pk ((bO ao)) (oO ao+i*33)),(19,pk ((bO ao)) (oO ao+i*33+32)),(20,.agg #[VK.s x]),(21,.bool true),(22,.bool false),(23,.bool false),(24,.int .i64 ((i:Int))),(25,.bool false),(26,.bool false),(27,undef),(28,undef),(29,undef),(30,undef),(31,undef),(32,undef),(33,undef),(34,undef),(35,undef),(36,undef),(37,undef),(38,undef),(39,undef),(40,undef),(41,undef),(42,.bool false),(43,.bool false)]
        ⟨yf r6 (fun _=>by kernel_rfl),yp (i:=2) r6 (EC (.slice ao ks.length cap) rfl) Ac rfl (by simp[AI,AQ,hsa.1,hpo.1]),ym r5,BJ rq8 (fun w=>CW Tryz.underlying34 (by kernel_rfl) (hr.1.1) (by omega) (rfl) w),yf r6 (fun _=>by kernel_rfl),CD r6 (fun _ g=>Ae (Pc (VK.s x) rfl) (RdK.treeX (hr.kn g) rfl hi hx_x)),Ad [.agg #[VK.s x]] Tryz.func87 (by kernel_rfl) rq4 ⟨(oy rfl rfl),ALr⟩ (As fun W g=>FJ hv ((hr.kn g).kt hi hx_x)),Cu r6 (fun _=>Bc),ym r5,A1 rq8,BZ rq9 (fun _=>DJ (by simp;omega)),A1 rq8,Ab r6,Ab r6,Ab r6,Ab r6,Ab r6,Ab r6,Ab r6,Ab r6,Ab r6,Ab r6,Ab r6,Ab r6,Ab r6,Ab r6,Ab r6,JE rfl rfl (gy rfl rfl rfl) (oy rfl rfl) rfl (fun _=>rfl),BC rq9,ALr⟩ fun a21 w21 g21 Db=>?_
       refine k20 _ _ ?_
       refine Av Db rfl rfl ?_
       refine ALp ?_
       refine y19 _ _ ?_
       refine k18 _ _ ?_
       refine ALk ?_
       refine AK Db 2 [(13,.int .i64 ((i:Int))),(14,.int .i64 (((i+1:Nat):Int)))]
        ⟨ym r5,Cq r6 (fun _=>DK (by rw[BA (by omega) (by omega)];omega)),ALr⟩ fun a22 w22 g22 Cv=>?_
       have Ph:=AA g21 g22
       refine Aa (v:=.int .i64 (((i+1:Nat):Int))) Cv r6 fun a23 Cy=>?_
       refine AE ?_
       replace Ac:=AC Ph Ac
       replace hr:=hr.kn Ph
       replace HG:=AA HG Ph
       exact⟨⟨i+1,by omega,fun k hk=>if e:k=i then (by rw[e,hchk];exact hok) else hb k (by omega),⟨Cy.1,Cy.2.1,Cy.2.2.1,(AH (AH (AH (AH Cy)))).2.2.2.2.2.2.2.1,(AH (AH (AH (AH (AH Cy))))).1,(AH (AH (AH (AH (AH Cy))))).2.1,(AH (AH (AH (AH (AH Cy))))).2.2.1,(AH (AH (AH (AH (AH Cy))))).2.2.2.1,(AH (AH (AH (AH (AH Cy))))).2.2.2.2.1,ALr⟩,HG,Ac,hr⟩,by rw[show _=_ from Cy.2.2.1,show _=_ from Dl.2.2.1];simp[intOf];omega⟩
     · refine DP Gh [(15,pk CO 64),(16,.slice ao ks.length cap),(17,.int .i64 ((i:Int))),(18,pk ((bO ao)) (oO ao+i*33)),(19,pk ((bO ao)) (oO ao+i*33+32)),(20,.agg #[VK.s x]),(21,.bool false),(22,.bool true),(23,.bool true),(24,undef),(25,undef),(26,undef),(27,undef),(28,undef),(29,undef),(30,undef),(31,undef),(32,undef),(33,undef),(34,undef),(35,undef),(36,undef),(37,undef),(38,undef),(39,undef),(40,undef),(41,undef),(42,undef),(43,.bool true)]
        ⟨yf r6 (fun _=>by kernel_rfl),yp (i:=2) r6 (EC (.slice ao ks.length cap) rfl) Ac rfl (by simp[AI,AQ,hsa.1,hpo.1]),ym r5,BJ rq8 (fun w=>CW Tryz.underlying34 (by kernel_rfl) (hr.1.1) (by omega) (rfl) w),yf r6 (fun _=>by kernel_rfl),CD r6 (fun _ g=>Ae (Pc (VK.s x) rfl) (RdK.treeX (hr.kn g) rfl hi hx_x)),Ad [.agg #[VK.s x]] Tryz.func87 (by kernel_rfl) rq4 ⟨(oy rfl rfl),ALr⟩ (As fun W g=>FJ hv ((hr.kn g).kt hi hx_x)),Cu r6 (fun _=>Bc),ym r5,Ab r6,Ab r6,Ab r6,BD ⟨26,rfl,rfl,fun _ _ h=>h⟩ rfl (fun _=>rfl),BD ⟨26,rfl,rfl,fun _ _ h=>h⟩ rfl (fun _=>rfl),BD ⟨26,rfl,rfl,fun _ _ h=>h⟩ rfl (fun _=>rfl),BD ⟨26,rfl,rfl,fun _ _ h=>h⟩ rfl (fun _=>rfl),BD ⟨26,rfl,rfl,fun _ _ h=>h⟩ rfl (fun _=>rfl),BD ⟨26,rfl,rfl,fun _ _ h=>h⟩ rfl (fun _=>rfl),BD ⟨26,rfl,rfl,fun _ _ h=>h⟩ rfl (fun _=>rfl),BD ⟨26,rfl,rfl,fun _ _ h=>h⟩ rfl (fun _=>rfl),BD ⟨26,rfl,rfl,fun _ _ h=>h⟩ rfl (fun _=>rfl),BD ⟨26,rfl,rfl,fun _ _ h=>h⟩ rfl (fun _=>rfl),BD ⟨26,rfl,rfl,fun _ _ h=>h⟩ rfl (fun _=>rfl),BD ⟨26,rfl,rfl,fun _ _ h=>h⟩ rfl (fun _=>rfl),BD ⟨26,rfl,rfl,fun _ _ h=>h⟩ rfl (fun _=>rfl),BD ⟨26,rfl,rfl,fun _ _ h=>h⟩ rfl (fun _=>rfl),BD ⟨26,rfl,rfl,fun _ _ h=>h⟩ rfl (fun _=>rfl),Ab r6,CK r7,ALr⟩ fun a24 w24 g24 Cn=>?_
       refine k20 _ _ ?_
       refine Ar Cn rfl rfl ?_
       refine ALl fun K25 k25=>?_
       refine ALk ?_
       refine Aa (v:=.bool false) Cn r6 fun a26 Co=>?_
       refine AE ?_
       refine k25 _ _ ?_
       replace Ac:=AC g24 Ac
       replace hr:=hr.kn g24
       replace HG:=AA HG g24
       refine ALo ?_
       repeat refine AM ?_
       refine r19 _ _ ?_
       repeat refine AM ?_
       refine r13 _ _ ?_
       repeat refine AM ?_
       refine BQ (fn:=Tryz.f40) Co (BT (p:=2) Tryz.results40 Co rfl rfl) ?_
       exact⟨IE ((JJ (i:=i) (by rw[hmap];exact hi) (by rw[hchk];simp[hv])).symm),HG⟩
     · have hok:((decide (i=0)||Ej y.o x.o)&&GV x.l)=true:=by simp[hz,hv,hc]
       refine DP Gh [(15,pk CO 64),(16,.slice ao ks.length cap),(17,.int .i64 ((i:Int))),(18,pk ((bO ao)) (oO ao+i*33)),(19,pk ((bO ao)) (oO ao+i*33+32)),(20,.agg #[VK.s x]),(21,.bool true),(22,.bool false),(23,.bool false),(24,.int .i64 ((i:Int))),(25,.bool true),(26,.bool true),(27,pk CO 64),(28,.slice ao ks.length cap),(29,.int .i64 ((i:Int))),(30,.int .i64 (((i-1:Nat):Int))),(31,pk ((bO ao)) (oO ao+(i-1)*33)),(32,pk ((bO ao)) (oO ao+(i-1)*33)),(33,AR y.o),(34,pk CO 64),(35,.slice ao ks.length cap),(36,.int .i64 ((i:Int))),(37,pk ((bO ao)) (oO ao+i*33)),(38,pk ((bO ao)) (oO ao+i*33)),(39,AR x.o),(40,.bool true),(41,.bool false),(42,.bool false),(43,.bool false)]
        ⟨yf r6 (fun _=>by kernel_rfl),yp (i:=2) r6 (EC (.slice ao ks.length cap) rfl) Ac rfl (by simp[AI,AQ,hsa.1,hpo.1]),ym r5,BJ rq8 (fun w=>CW Tryz.underlying34 (by kernel_rfl) (hr.1.1) (by omega) (rfl) w),yf r6 (fun _=>by kernel_rfl),CD r6 (fun _ g=>Ae (Pc (VK.s x) rfl) (RdK.treeX (hr.kn g) rfl hi hx_x)),Ad [.agg #[VK.s x]] Tryz.func87 (by kernel_rfl) rq4 ⟨(oy rfl rfl),ALr⟩ (As fun W g=>FJ hv ((hr.kn g).kt hi hx_x)),Cu r6 (fun _=>Bc),ym r5,A1 rq8,BZ rq9 (fun _=>DJ (by simp;omega)),A1 rq8,Bl rq9 (fun _=>by kernel_rfl),A9 rq9 (fun _ g=>Ae (EC (.slice ao ks.length cap) rfl) (Bu (L:=[bv sa,bv po,[.slice ao ks.length cap]]) (i:=2) (AF g Ac (by simp)) rfl (by simp[AI,AQ,hsa.1,hpo.1]))),A1 rq8,BZ rq9 (fun _=>F5 (by rw[BA (by omega) (by omega)];omega)),C3 rfl rfl (gy rfl rfl rfl) (oy rfl rfl) (oy rfl rfl) (fun w=>CW Tryz.underlying34 (by kernel_rfl) (hr.1.1) (by omega) (rfl) w) (fun _=>rfl),Bl rq9 (fun _=>by kernel_rfl),A9 rq9 (fun _ g=>Ae (CB y.o y.ho.1) (RdK.ownerX (hr.kn g) rfl hp hx_y)),Bl rq9 (fun _=>by kernel_rfl),A9 rq9 (fun _ g=>Ae (EC (.slice ao ks.length cap) rfl) (Bu (L:=[bv sa,bv po,[.slice ao ks.length cap]]) (i:=2) (AF g Ac (by simp)) rfl (by simp[AI,AQ,hsa.1,hpo.1]))),A1 rq8,C3 rfl rfl (gy rfl rfl rfl) (oy rfl rfl) (oy rfl rfl) (fun w=>CW Tryz.underlying34 (by kernel_rfl) (hr.1.1) (by omega) (rfl) w) (fun _=>rfl),Bl rq9 (fun _=>by kernel_rfl),A9 rq9 (fun _ g=>Ae (CB x.o x.ho.1) (RdK.ownerX (hr.kn g) rfl hi hx_x)),CL [AR y.o,AR x.o] Tryz.func86 (by kernel_rfl) r7 ⟨(oy rfl rfl),(oy rfl rfl),ALr⟩ (As fun W g=>M0 hc y.ho x.ho W),Ib rfl rfl (gy rfl rfl rfl) (oy rfl rfl) (fun _=>Bc) (fun _=>rfl),JE rfl rfl (gy rfl rfl rfl) (oy rfl rfl) (oy rfl rfl) (fun _=>rfl),BC rq9,ALr⟩ fun a27 w27 g27 Gj=>?_
       refine k20 _ _ ?_
       refine Av Gj rfl rfl ?_
       refine ALp ?_
       refine y19 _ _ ?_
       refine k18 _ _ ?_
       refine ALk ?_
       refine AK Gj 2 [(13,.int .i64 ((i:Int))),(14,.int .i64 (((i+1:Nat):Int)))]
        ⟨ym r5,Cq r6 (fun _=>DK (by rw[BA (by omega) (by omega)];omega)),ALr⟩ fun a28 w28 g28 LU=>?_
       have Mz:=AA g27 g28
       refine Aa (v:=.int .i64 (((i+1:Nat):Int))) LU r6 fun a29 Cc=>?_
       refine AE ?_
       replace Ac:=AC Mz Ac
       replace hr:=hr.kn Mz
       replace HG:=AA HG Mz
       exact⟨⟨i+1,by omega,fun k hk=>if e:k=i then (by rw[e,hchk];exact hok) else hb k (by omega),⟨Cc.1,Cc.2.1,Cc.2.2.1,(AH (AH (AH (AH Cc)))).2.2.2.2.2.2.2.1,(AH (AH (AH (AH (AH Cc))))).1,(AH (AH (AH (AH (AH Cc))))).2.1,(AH (AH (AH (AH (AH Cc))))).2.2.1,(AH (AH (AH (AH (AH Cc))))).2.2.2.1,(AH (AH (AH (AH (AH Cc))))).2.2.2.2.1,ALr⟩,HG,Ac,hr⟩,by rw[show _=_ from Cc.2.2.1,show _=_ from Dl.2.2.1];simp[intOf];omega⟩
     · refine DP Gh [(15,pk CO 64),(16,.slice ao ks.length cap),(17,.int .i64 ((i:Int))),(18,pk ((bO ao)) (oO ao+i*33)),(19,pk ((bO ao)) (oO ao+i*33+32)),(20,.agg #[VK.s x]),(21,.bool false),(22,.bool true),(23,.bool true),(24,undef),(25,undef),(26,undef),(27,undef),(28,undef),(29,undef),(30,undef),(31,undef),(32,undef),(33,undef),(34,undef),(35,undef),(36,undef),(37,undef),(38,undef),(39,undef),(40,undef),(41,undef),(42,undef),(43,.bool true)]
        ⟨yf r6 (fun _=>by kernel_rfl),yp (i:=2) r6 (EC (.slice ao ks.length cap) rfl) Ac rfl (by simp[AI,AQ,hsa.1,hpo.1]),ym r5,BJ rq8 (fun w=>CW Tryz.underlying34 (by kernel_rfl) (hr.1.1) (by omega) (rfl) w),yf r6 (fun _=>by kernel_rfl),CD r6 (fun _ g=>Ae (Pc (VK.s x) rfl) (RdK.treeX (hr.kn g) rfl hi hx_x)),Ad [.agg #[VK.s x]] Tryz.func87 (by kernel_rfl) rq4 ⟨(oy rfl rfl),ALr⟩ (As fun W g=>FJ hv ((hr.kn g).kt hi hx_x)),Cu r6 (fun _=>Bc),ym r5,Ab r6,Ab r6,Ab r6,BD ⟨26,rfl,rfl,fun _ _ h=>h⟩ rfl (fun _=>rfl),BD ⟨26,rfl,rfl,fun _ _ h=>h⟩ rfl (fun _=>rfl),BD ⟨26,rfl,rfl,fun _ _ h=>h⟩ rfl (fun _=>rfl),BD ⟨26,rfl,rfl,fun _ _ h=>h⟩ rfl (fun _=>rfl),BD ⟨26,rfl,rfl,fun _ _ h=>h⟩ rfl (fun _=>rfl),BD ⟨26,rfl,rfl,fun _ _ h=>h⟩ rfl (fun _=>rfl),BD ⟨26,rfl,rfl,fun _ _ h=>h⟩ rfl (fun _=>rfl),BD ⟨26,rfl,rfl,fun _ _ h=>h⟩ rfl (fun _=>rfl),BD ⟨26,rfl,rfl,fun _ _ h=>h⟩ rfl (fun _=>rfl),BD ⟨26,rfl,rfl,fun _ _ h=>h⟩ rfl (fun _=>rfl),BD ⟨26,rfl,rfl,fun _ _ h=>h⟩ rfl (fun _=>rfl),BD ⟨26,rfl,rfl,fun _ _ h=>h⟩ rfl (fun _=>rfl),BD ⟨26,rfl,rfl,fun _ _ h=>h⟩ rfl (fun _=>rfl),BD ⟨26,rfl,rfl,fun _ _ h=>h⟩ rfl (fun _=>rfl),BD ⟨26,rfl,rfl,fun _ _ h=>h⟩ rfl (fun _=>rfl),Ab r6,CK r7,ALr⟩ fun a30 w30 g30 Es=>?_
       refine k20 _ _ ?_
       refine Ar Es rfl rfl ?_
       refine ALl fun K31 k31=>?_
       refine ALk ?_
       refine Aa (v:=.bool false) Es r6 fun a32 Ck=>?_
       refine AE ?_
       refine k31 _ _ ?_
       replace Ac:=AC g30 Ac
       replace hr:=hr.kn g30
       replace HG:=AA HG g30
       refine ALo ?_
       repeat refine AM ?_
       refine r19 _ _ ?_
       repeat refine AM ?_
       refine r13 _ _ ?_
       repeat refine AM ?_
       refine BQ (fn:=Tryz.f40) Ck (BT (p:=2) Tryz.results40 Ck rfl rfl) ?_
       exact⟨IE ((JJ (i:=i) (by rw[hmap];exact hi) (by rw[hchk];simp[hv,hc,Nat.ne_of_gt hz])).symm),HG⟩
     · refine DP Gh [(15,pk CO 64),(16,.slice ao ks.length cap),(17,.int .i64 ((i:Int))),(18,pk ((bO ao)) (oO ao+i*33)),(19,pk ((bO ao)) (oO ao+i*33+32)),(20,.agg #[VK.s x]),(21,.bool true),(22,.bool false),(23,.bool false),(24,.int .i64 ((i:Int))),(25,.bool true),(26,.bool true),(27,pk CO 64),(28,.slice ao ks.length cap),(29,.int .i64 ((i:Int))),(30,.int .i64 (((i-1:Nat):Int))),(31,pk ((bO ao)) (oO ao+(i-1)*33)),(32,pk ((bO ao)) (oO ao+(i-1)*33)),(33,AR y.o),(34,pk CO 64),(35,.slice ao ks.length cap),(36,.int .i64 ((i:Int))),(37,pk ((bO ao)) (oO ao+i*33)),(38,pk ((bO ao)) (oO ao+i*33)),(39,AR x.o),(40,.bool false),(41,.bool true),(42,.bool true),(43,.bool true)]
        ⟨yf r6 (fun _=>by kernel_rfl),yp (i:=2) r6 (EC (.slice ao ks.length cap) rfl) Ac rfl (by simp[AI,AQ,hsa.1,hpo.1]),ym r5,BJ rq8 (fun w=>CW Tryz.underlying34 (by kernel_rfl) (hr.1.1) (by omega) (rfl) w),yf r6 (fun _=>by kernel_rfl),CD r6 (fun _ g=>Ae (Pc (VK.s x) rfl) (RdK.treeX (hr.kn g) rfl hi hx_x)),Ad [.agg #[VK.s x]] Tryz.func87 (by kernel_rfl) rq4 ⟨(oy rfl rfl),ALr⟩ (As fun W g=>FJ hv ((hr.kn g).kt hi hx_x)),Cu r6 (fun _=>Bc),ym r5,A1 rq8,BZ rq9 (fun _=>DJ (by simp;omega)),A1 rq8,Bl rq9 (fun _=>by kernel_rfl),A9 rq9 (fun _ g=>Ae (EC (.slice ao ks.length cap) rfl) (Bu (L:=[bv sa,bv po,[.slice ao ks.length cap]]) (i:=2) (AF g Ac (by simp)) rfl (by simp[AI,AQ,hsa.1,hpo.1]))),A1 rq8,BZ rq9 (fun _=>F5 (by rw[BA (by omega) (by omega)];omega)),C3 rfl rfl (gy rfl rfl rfl) (oy rfl rfl) (oy rfl rfl) (fun w=>CW Tryz.underlying34 (by kernel_rfl) (hr.1.1) (by omega) (rfl) w) (fun _=>rfl),Bl rq9 (fun _=>by kernel_rfl),A9 rq9 (fun _ g=>Ae (CB y.o y.ho.1) (RdK.ownerX (hr.kn g) rfl hp hx_y)),Bl rq9 (fun _=>by kernel_rfl),A9 rq9 (fun _ g=>Ae (EC (.slice ao ks.length cap) rfl) (Bu (L:=[bv sa,bv po,[.slice ao ks.length cap]]) (i:=2) (AF g Ac (by simp)) rfl (by simp[AI,AQ,hsa.1,hpo.1]))),A1 rq8,C3 rfl rfl (gy rfl rfl rfl) (oy rfl rfl) (oy rfl rfl) (fun w=>CW Tryz.underlying34 (by kernel_rfl) (hr.1.1) (by omega) (rfl) w) (fun _=>rfl),Bl rq9 (fun _=>by kernel_rfl),A9 rq9 (fun _ g=>Ae (CB x.o x.ho.1) (RdK.ownerX (hr.kn g) rfl hi hx_x)),CL [AR y.o,AR x.o] Tryz.func86 (by kernel_rfl) r7 ⟨(oy rfl rfl),(oy rfl rfl),ALr⟩ (As fun W g=>M0 hc y.ho x.ho W),Ib rfl rfl (gy rfl rfl rfl) (oy rfl rfl) (fun _=>Bc) (fun _=>rfl),JE rfl rfl (gy rfl rfl rfl) (oy rfl rfl) (oy rfl rfl) (fun _=>rfl),BC rq9,ALr⟩ fun a33 w33 g33 Ku=>?_
       refine k20 _ _ ?_
       refine Ar Ku rfl rfl ?_
       refine ALl fun K34 k34=>?_
       refine ALk ?_
       refine Aa (v:=.bool false) Ku r6 fun a35 Jr=>?_
       refine AE ?_
       refine k34 _ _ ?_
       replace Ac:=AC g33 Ac
       replace hr:=hr.kn g33
       replace HG:=AA HG g33
       refine ALo ?_
       repeat refine AM ?_
       refine r19 _ _ ?_
       repeat refine AM ?_
       refine r13 _ _ ?_
       repeat refine AM ?_
       refine BQ (fn:=Tryz.f40) Jr (BT (p:=2) Tryz.results40 Jr rfl rfl) ?_
       exact⟨IE ((JJ (i:=i) (by rw[hmap];exact hi) (by rw[hchk];simp[hv,hc,Nat.ne_of_gt hz])).symm),HG⟩
     · refine DP Gh [(15,pk CO 64),(16,.slice ao ks.length cap),(17,.int .i64 ((i:Int))),(18,pk ((bO ao)) (oO ao+i*33)),(19,pk ((bO ao)) (oO ao+i*33+32)),(20,.agg #[VK.s x]),(21,.bool false),(22,.bool true),(23,.bool true),(24,undef),(25,undef),(26,undef),(27,undef),(28,undef),(29,undef),(30,undef),(31,undef),(32,undef),(33,undef),(34,undef),(35,undef),(36,undef),(37,undef),(38,undef),(39,undef),(40,undef),(41,undef),(42,undef),(43,.bool true)]
        ⟨yf r6 (fun _=>by kernel_rfl),yp (i:=2) r6 (EC (.slice ao ks.length cap) rfl) Ac rfl (by simp[AI,AQ,hsa.1,hpo.1]),ym r5,BJ rq8 (fun w=>CW Tryz.underlying34 (by kernel_rfl) (hr.1.1) (by omega) (rfl) w),yf r6 (fun _=>by kernel_rfl),CD r6 (fun _ g=>Ae (Pc (VK.s x) rfl) (RdK.treeX (hr.kn g) rfl hi hx_x)),Ad [.agg #[VK.s x]] Tryz.func87 (by kernel_rfl) rq4 ⟨(oy rfl rfl),ALr⟩ (As fun W g=>FJ hv ((hr.kn g).kt hi hx_x)),Cu r6 (fun _=>Bc),ym r5,Ab r6,Ab r6,Ab r6,BD ⟨26,rfl,rfl,fun _ _ h=>h⟩ rfl (fun _=>rfl),BD ⟨26,rfl,rfl,fun _ _ h=>h⟩ rfl (fun _=>rfl),BD ⟨26,rfl,rfl,fun _ _ h=>h⟩ rfl (fun _=>rfl),BD ⟨26,rfl,rfl,fun _ _ h=>h⟩ rfl (fun _=>rfl),BD ⟨26,rfl,rfl,fun _ _ h=>h⟩ rfl (fun _=>rfl),BD ⟨26,rfl,rfl,fun _ _ h=>h⟩ rfl (fun _=>rfl),BD ⟨26,rfl,rfl,fun _ _ h=>h⟩ rfl (fun _=>rfl),BD ⟨26,rfl,rfl,fun _ _ h=>h⟩ rfl (fun _=>rfl),BD ⟨26,rfl,rfl,fun _ _ h=>h⟩ rfl (fun _=>rfl),BD ⟨26,rfl,rfl,fun _ _ h=>h⟩ rfl (fun _=>rfl),BD ⟨26,rfl,rfl,fun _ _ h=>h⟩ rfl (fun _=>rfl),BD ⟨26,rfl,rfl,fun _ _ h=>h⟩ rfl (fun _=>rfl),BD ⟨26,rfl,rfl,fun _ _ h=>h⟩ rfl (fun _=>rfl),BD ⟨26,rfl,rfl,fun _ _ h=>h⟩ rfl (fun _=>rfl),BD ⟨26,rfl,rfl,fun _ _ h=>h⟩ rfl (fun _=>rfl),Ab r6,CK r7,ALr⟩ fun a36 w36 g36 FS=>?_
       refine k20 _ _ ?_
       refine Ar FS rfl rfl ?_
       refine ALl fun K37 k37=>?_
       refine ALk ?_
       refine Aa (v:=.bool false) FS r6 fun a38 Zp=>?_
       refine AE ?_
       refine k37 _ _ ?_
       replace Ac:=AC g36 Ac
       replace HG:=AA HG g36
       refine ALo ?_
       repeat refine AM ?_
       refine r19 _ _ ?_
       repeat refine AM ?_
       refine r13 _ _ ?_
       repeat refine AM ?_
       refine BQ (fn:=Tryz.f40) Zp (BT (p:=2) Tryz.results40 Zp rfl rfl) ?_
       exact⟨IE ((JJ (i:=i) (by rw[hmap];exact hi) (by rw[hchk];simp[hv,hc,Nat.ne_of_gt hz])).symm),HG⟩
   · refine ALk ?_
     refine AK Dl 5 [(8,.int .i64 ((i:Int))),(9,pk CO 64),(10,.slice ao ks.length cap),(11,.int .i64 ((ks.length:Nat))),(12,.bool false)]
       ⟨ym r5,yf r6 (fun _=>by kernel_rfl),yp (i:=2) r6 (EC (.slice ao ks.length cap) rfl) Ac rfl (by simp[AI,AQ,hsa.1,hpo.1]),Bv (Tryz.underlying34) rfl rfl trivial (oy rfl rfl) (fun _=>rfl),Ho r7 (fun _=>Bk (by simp;omega)),ALr⟩ fun a39 w39 g39 Js=>?_
     refine AE ?_
     refine k16 _ _ ?_
     refine Av Js rfl rfl ?_
     refine wp_exit ?_
     repeat refine CJ ?_
     refine x13 _ _ ?_
     refine k10 _ _ ?_
     refine ALl fun K40 k40=>?_
     refine ALk ?_
     refine Aa (v:=.bool true) Js r6 fun a41 Et=>?_
     refine AE ?_
     refine k40 _ _ ?_
     replace HG:=AA HG g39
     refine ALo ?_
     repeat refine AM ?_
     refine BQ (fn:=Tryz.f40) Et (BT (p:=2) Tryz.results40 Et rfl rfl) ?_
     exact⟨IE ((Xa (by omega) fun k hk=>hb k (by omega)).symm),HG⟩
end Go.Proofs.YtbfjfnbcmojpiaaGreat
