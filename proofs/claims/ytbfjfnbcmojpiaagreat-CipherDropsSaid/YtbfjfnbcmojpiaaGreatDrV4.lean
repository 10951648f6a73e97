import Derived.Test.YtbfjfnbcmojpiaaGreatDrV3
set_option linter.unusedSimpArgs false
set_option linter.unusedVariables false
set_option maxRecDepth 100000
set_option maxHeartbeats 4000000
namespace Go.Proofs.YtbfjfnbcmojpiaaGreat
open Go.RowKit Go.Shelf
theorem Bl {P:Program} {f:Nat} {fn:Func} {c:Code} (hf:P.funcs[f]?=some fn) (hname:(fn.name == "runtime.NumGoroutine")=false) (hb:fn.body=some c) (cap:Array Value) (w:World) :
  (invoke (.fn (.func f) cap) #[]).run P w=.ok (.enter f cap) w:=by
 have h1:fn.name≠"runtime.NumGoroutine":=by simpa using hname
 simp[invoke,callFunc,hf,h1,hb]
theorem Mv (w:World):CallsD Tryz.prog 65 #[] .returning w fun e u' w'=>e=.returned (.tuple #[])∧u'=.returning∧w'=w:=by
 refine callsD_of_wpS Tryz.func65 rfl fun c₀ cs hu=>?_
 apply wpS_region
 simp[wpOpsS,go_sem,recoverD,hu,Tryz.ntmps65]
 cases c₀
 simp_all [bodyPostS,results,Tryz.results65]
theorem Cf (w:World):CallsD Tryz.prog 95 #[] .returning w fun e u' w'=>e=.returned (.tuple #[])∧u'=.returning∧w'=w:=by
 refine callsD_of_wpS Tryz.func95 rfl fun c₀ cs hu=>?_
 apply wpS_region
 simp[wpOpsS,go_sem,recoverD,hu,Tryz.ntmps95]
 cases c₀
 simp_all [bodyPostS,results,Tryz.results95]
theorem FI (p q:Value) (w:World):CallsD Tryz.prog 81 #[p,q] .returning w fun e u' w'=>e=.returned (.tuple #[])∧u'=.returning∧w'=w:=by
 refine callsD_of_wpS Tryz.func81 rfl fun c₀ cs hu=>?_
 apply wpS_seq
 apply wpS_region
 simp[wpOpsS,go_sem,recoverD,hu,Tryz.ntmps81,Exit.thenS]
 refine wpS_cond (t:=false) (by simp[Act.eval,Array.replicate]) ?_
 simp only[Bool.false_eq_true,if_false]
 refine wpS_of_wp (AIm ?_)
 cases c₀
 simp_all [bodyPostS,results,Tryz.results81]
theorem Hn (p q:Value) (w:World):CallsD Tryz.prog 77 #[p,q] .returning w fun e u' w'=>e=.returned (.tuple #[])∧u'=.returning∧w'=w:=by
 refine callsD_of_wpS Tryz.func77 rfl fun c₀ cs hu=>?_
 apply wpS_seq
 apply wpS_region
 simp[wpOpsS,go_sem,recoverD,hu,Tryz.ntmps77,Exit.thenS]
 refine wpS_cond (t:=false) (by simp[Act.eval,Array.replicate]) ?_
 simp only[Bool.false_eq_true,if_false]
 refine wpS_of_wp (AIm ?_)
 cases c₀
 simp_all [bodyPostS,results,Tryz.results77]
theorem Iq (p q:Value) (w:World):CallsD Tryz.prog 70 #[p,q] .returning w fun e u' w'=>e=.returned (.tuple #[])∧u'=.returning∧w'=w:=by
 refine callsD_of_wpS Tryz.func70 rfl fun c₀ cs hu=>?_
 apply wpS_seq
 apply wpS_region
 simp[wpOpsS,go_sem,recoverD,hu,Tryz.ntmps70,Exit.thenS]
 refine wpS_cond (t:=false) (by simp[Act.eval,Array.replicate]) ?_
 simp only[Bool.false_eq_true,if_false]
 refine wpS_of_wp (AIm ?_)
 cases c₀
 simp_all [bodyPostS,results,Tryz.results70]
theorem Ho {w:World} {s:Value} {l:List Nd} {b:Bool} (hb:GB l=b) (h:RdT w s l):Calls Tryz.prog 97 #[.agg #[s]] w fun e w'=>e=.returned (.bool b)∧w.grownBy w' none:=hb▸WJ h
theorem ER {w:World} {s:Value} {l:List Nd} {b:Bool} (hb:GB l=b) (h:RdT w s l):Calls Tryz.prog 87 #[.agg #[s]] w fun e w'=>e=.returned (.bool b)∧w.grownBy w' none:=hb▸T9 h
theorem GL {a b:Bool} (h:a=b):Ending.returned (.bool a)=Ending.returned (.bool b):=by rw[h]
theorem AGl {a b:Int} (h:a=b):Ending.returned (.int .i64 a)=Ending.returned (.int .i64 b):=by rw[h]
theorem RdK.kt {w:World} {v:Value} {ks:List VK} (h:RdK w v ks) {j:Nat} (hj:j<ks.length) {x:VK} (hx:ks[j]=x):RdT w x.s x.l:=h.2 x (hx▸List.getElem_mem hj)
theorem AEh {ks:List VK} {i:Nat} {x y:VK} (hi:i<ks.length) (hp:i-1<ks.length) (hx:ks[i]=x) (hy:ks[i-1]=y):chk (ks.map VK.p) i=((decide (i=0)||Dy y.o x.o)&&GB x.l):=by
 unfold chk
 rw[Ol hi,Ol hp,Rz hi,hx,hy]
theorem ZW (ks:List VK) (ao:Option Addr) (cap:Nat) (sa po:List Nat) (hsa:Dg sa) (hpo:Dg po) (o:List Nat) (ho:Dg o) (w:World) (hr:RdK w (.slice ao ks.length cap) ks) (hs:Srt (ks.map VK.p)) (h64:ks.length≤64) :
  Calls Tryz.prog 71 #[Ao sa po (.slice ao ks.length cap),AO o] w fun e w'=>e=.returned (.tuple #[.int .i64 (pos (ks.map VK.p) o),.bool (Hd (ks.map VK.p) o)])∧w.grownBy w' none:=by
 refine BM Tryz.func71 rfl Tryz.ntmps71 rfl fun a0 sv0=>?_
 have HG:=World.grownBy.refl w none
 replace sv0:Sv 12 [] [(0,Ao sa po (.slice ao ks.length cap)),(1,AO o)] a0:=sv0
 refine AIi fun K1 k1=>?_
 refine AIh ?_
 refine BT sv0 r6 (BX hsa hpo (.slice ao ks.length cap) rfl) fun a2 w2 CC Cq g2 z2 AG sv2=>?_
 refine BT sv2 r6 (Bn o ho.1) fun a3 w3 Bo EC g3 z3 AJ sv3=>?_
 replace AG:=AC g3 AG
 replace hr:=(hr.kn g2).kn g3
 refine Aa (v:=.int .i64 0) sv3 r6 fun a4 sv4=>?_
 refine Aa (v:=.bool false) sv4 r6 fun a5 sv5=>?_
 refine AE ?_
 refine k1 _ _ ?_
 refine AIi fun K6 k6=>?_
 refine AIh ?_
 refine AL sv5 6 [(6,pk CC 64),(7,.slice ao ks.length cap),(8,AO o),(9,.tuple #[.int .i64 ((pos (ks.map VK.p) o:Int)),.bool (Hd (ks.map VK.p) o)]),(10,.int .i64 ((pos (ks.map VK.p) o:Int))),(11,.bool (Hd (ks.map VK.p) o))]
  ⟨yf r6 (fun _=>by kernel_rfl),yp (i:=2) r6 (Dn (.slice ao ks.length cap) rfl) AG rfl (by simp[AI,AQ,hsa.1,hpo.1]),yl r6 (Bn o ho.1) AJ,Ad [.slice ao ks.length cap,AO o,.func (.func 96) #[] #[]] Tryz.func113 (by kernel_rfl) rq4 ⟨(oy rfl rfl),(oy rfl rfl),rfl,AIo⟩ (Aq fun W g=>R5 ks ao cap o ho W (hr.kn g) hs h64),BH rq4 (fun _ _ h=>⟨_,_,h,rfl,rfl⟩),BH rq4 (fun _ _ h=>⟨_,_,h,rfl,rfl⟩),AIo⟩ fun a7 w7 g7 sv7=>?_
 refine Aa (v:=.int .i64 ((pos (ks.map VK.p) o:Int))) sv7 r6 fun a8 sv8=>?_
 refine Aa (v:=.bool (Hd (ks.map VK.p) o)) sv8 r6 fun a9 sv9=>?_
 have CK:Sv _ _ [_,_,_,_] _:=sv9.dl [6,7,8,9,10,11,3,2]
 refine AE ?_
 refine k6 _ _ ?_
 replace HG:=AA (AA (AA HG g2) g3) g7
 refine AIl ?_
 repeat refine AM ?_
 refine A8 (fn:=Tryz.f71) CK (Ok (p:=4) (q:=5) Tryz.results71 CK rfl rfl rfl rfl) ?_
 exact⟨rfl,HG⟩
theorem ADV (ks:List VK) (ao:Option Addr) (cap:Nat) (sa po:List Nat) (hsa:Dg sa) (hpo:Dg po) (o:List Nat) (ho:Dg o) (w:World) (hr:RdK w (.slice ao ks.length cap) ks) (hs:Srt (ks.map VK.p)) :
   Calls Tryz.prog 84 #[Ao sa po (.slice ao ks.length cap),AO o] w fun e w'=>e=.returned (.int .i64 (atV (ks.map VK.p) o))∧w.grownBy w' none:=by
 have hlen:=hr.len
 have hmap:(ks.map VK.p).length=ks.length:=List.length_map _
 refine BM Tryz.func84 rfl Tryz.ntmps84 rfl fun a0 sv0=>?_
 have HG:=World.grownBy.refl w none
 replace sv0:Sv 22 [] [(0,Ao sa po (.slice ao ks.length cap)),(1,AO o)] a0:=sv0
 refine AIi fun K1 k1=>?_
 refine AIh ?_
 refine BT sv0 r6 (BX hsa hpo (.slice ao ks.length cap) rfl) fun a2 w2 CC Cq g2 z2 AG sv2=>?_
 refine BT sv2 r6 (Bn o ho.1) fun a3 w3 Bo EC g3 z3 AJ sv3=>?_
 replace AG:=AC g3 AG
 replace hr:=(hr.kn g2).kn g3
 replace HG:=AA (AA HG g2) g3
 refine Aa (v:=.int .i64 0) sv3 r6 fun a4 sv4=>?_
 refine AE ?_
 refine k1 _ _ ?_
 refine AIi fun K5 k5=>?_
 refine AIi fun K6 k6=>?_
 refine AIh ?_
 refine Aa (v:=.int .i64 0) sv4 r6 fun a7 sv7=>?_
 refine AE ?_
 refine k6 _ _ ?_
 refine BB fun Q8 x8 y8 r8 o8=>?_
 refine wp_loop (fun a w'=>∃(i:Nat),(i≤ks.length)∧(∀k,k<i→od (ks.map VK.p) k≠o)∧Sv 22 [] [(5,.int .i64 ((i:Int))),(3,pt Bo),(2,pt CC),(0,Ao sa po (.slice ao ks.length cap)),(1,AO o)] a∧w.grownBy w' none∧w'.heap[CC]?=some (.cells ([bv sa,bv po,[.slice ao ks.length cap]].flatten).toArray 36 (0,0))∧w'.heap[Bo]?=some (.cells (bv o).toArray 23 (0,0))∧RdK w' (.slice ao ks.length cap) ks) (fun a _=>(ks.length-intOf (a.tmps.getD 5 undef)).toNat) ⟨0,Nat.zero_le _,fun k hk=>by omega,⟨sv7.1,sv7.2.1,sv7.2.2.1,sv7.2.2.2.2.1,sv7.2.2.2.2.2.1,sv7.2.2.2.2.2.2.1,sv7.2.2.2.2.2.2.2.1,AIo⟩,HG,AG,AJ,hr⟩ fun a9 w9 hI9=>?_
 clear AG
 clear AJ
 clear hr
 clear HG
 obtain⟨i,hin,hb,sv9,HG,AG,AJ,hr⟩:=hI9
 refine AIi fun K10 k10=>?_
 refine AIi fun K11 k11=>?_
 by_cases hi:i<ks.length
 · obtain⟨x,hx_x⟩:∃x,ks[i]'hi=x:=⟨_,rfl⟩
   have hod:od (ks.map VK.p) i=x.o:=by rw[Ol hi,hx_x]
   refine AIh ?_
   refine AL sv9 5 [(6,.int .i64 ((i:Int))),(7,pk CC 64),(8,.slice ao ks.length cap),(9,.int .i64 ((ks.length:Nat))),(10,.bool true)]
     ⟨ym r5,yf r6 (fun _=>by kernel_rfl),yp (i:=2) r6 (Dn (.slice ao ks.length cap) rfl) AG rfl (by simp[AI,AQ,hsa.1,hpo.1]),Bk (Tryz.underlying34) rfl rfl trivial (oy rfl rfl) (fun _=>rfl),Hl r7 (fun _=>Ba (by simp;omega)),AIo⟩ fun a12 w12 g12 C6=>?_
   refine AE ?_
   refine k11 _ _ ?_
   refine Ap C6 rfl rfl ?_
   refine AIm ?_
   refine k10 _ _ ?_
   refine AIi fun K13 k13=>?_
   refine BB fun Q14 x14 y14 r14 o14=>?_
   refine AIi fun K15 k15=>?_
   replace AG:=AC g12 AG
   replace AJ:=AC g12 AJ
   replace hr:=hr.kn g12
   replace HG:=AA HG g12
   by_cases heq:x.o=o
   · have hyes:=Ln hs (by omega) (hod.trans heq)
     refine Cv C6 [(13,pk CC 64),(14,.slice ao ks.length cap),(15,.int .i64 ((i:Int))),(16,pk ((bO ao)) (oO ao+i*33)),(17,pk ((bO ao)) (oO ao+i*33)),(18,AO x.o),(19,AO o),(20,.bool true)]
      ⟨yf r6 (fun _=>by kernel_rfl),yp (i:=2) r6 (Dn (.slice ao ks.length cap) rfl) AG rfl (by simp[AI,AQ,hsa.1,hpo.1]),ym r5,BD rq8 (fun w=>CM Tryz.underlying34 (by kernel_rfl) (hr.1.1) (by omega) (rfl) w),yf r6 (fun _=>by kernel_rfl),Bv r6 (fun _ g=>Ae (Bn x.o x.ho.1) (RdK.ownerX (hr.kn g) rfl hi hx_x)),yl r6 (Bn o ho.1) AJ,Hl r7 (fun _=>(KE x.ho ho _ _ _).1.trans (by rw[decide_eq_true (heq)])),AIo⟩ fun a16 w16 g16 Cj=>?_
     refine k15 _ _ ?_
     refine Ap Cj rfl rfl ?_
     refine AIi fun K17 k17=>?_
     refine AIh ?_
     refine AL Cj 1 [(21,.int .i64 ((i:Int)))]
      ⟨ym r5,AIo⟩ fun a18 w18 g18 CS=>?_
     have ADW:=AA g16 g18
     refine Aa (v:=.int .i64 ((i:Int))) CS r6 fun a19 Dj=>?_
     refine AE ?_
     refine k17 _ _ ?_
     replace AG:=AC ADW AG
     replace AJ:=AC ADW AJ
     replace hr:=hr.kn ADW
     replace HG:=AA HG ADW
     refine AIl ?_
     repeat refine AM ?_
     refine r14 _ _ ?_
     repeat refine AM ?_
     refine r8 _ _ ?_
     repeat refine AM ?_
     refine A8 (fn:=Tryz.f84) Dj (A7 (p:=4) Tryz.results84 Dj rfl rfl) ?_
     exact⟨AGl (by unfold atV;rw[hyes.1,hyes.2];rfl),HG⟩
   · have hne:=heq
     refine Cv C6 [(13,pk CC 64),(14,.slice ao ks.length cap),(15,.int .i64 ((i:Int))),(16,pk ((bO ao)) (oO ao+i*33)),(17,pk ((bO ao)) (oO ao+i*33)),(18,AO x.o),(19,AO o),(20,.bool false)]
      ⟨yf r6 (fun _=>by kernel_rfl),yp (i:=2) r6 (Dn (.slice ao ks.length cap) rfl) AG rfl (by simp[AI,AQ,hsa.1,hpo.1]),ym r5,BD rq8 (fun w=>CM Tryz.underlying34 (by kernel_rfl) (hr.1.1) (by omega) (rfl) w),yf r6 (fun _=>by kernel_rfl),Bv r6 (fun _ g=>Ae (Bn x.o x.ho.1) (RdK.ownerX (hr.kn g) rfl hi hx_x)),yl r6 (Bn o ho.1) AJ,Hl r7 (fun _=>(KE x.ho ho _ _ _).1.trans (by rw[decide_eq_false (heq)])),AIo⟩ fun a20 w20 g20 EL=>?_
     refine k15 _ _ ?_
     refine Au EL rfl rfl ?_
     refine AIm ?_
     refine y14 _ _ ?_
     refine k13 _ _ ?_
     refine AIh ?_
     refine AL EL 2 [(11,.int .i64 ((i:Int))),(12,.int .i64 (((i+1:Nat):Int)))]
      ⟨ym r5,Cm r6 (fun _=>C4 (by rw[A1 (by omega) (by omega)];omega)),AIo⟩ fun a21 w21 g21 DY=>?_
     have ADX:=AA g20 g21
     refine Aa (v:=.int .i64 (((i+1:Nat):Int))) DY r6 fun a22 CX=>?_
     refine AE ?_
     replace AG:=AC ADX AG
     replace AJ:=AC ADX AJ
     replace hr:=hr.kn ADX
     replace HG:=AA HG ADX
     exact⟨⟨i+1,by omega,fun k hk=>if e:k=i then (by rw[e,hod];exact hne) else hb k (by omega),⟨CX.1,CX.2.1,CX.2.2.1,(AK (AK CX)).2.2.1,(AK (AK CX)).2.2.2.1,(AK (AK CX)).2.2.2.2.1,(AK (AK CX)).2.2.2.2.2.1,AIo⟩,HG,AG,AJ,hr⟩,by rw[show _=_ from CX.2.2.1,show _=_ from sv9.2.2.1];simp[intOf];omega⟩
 · have hno:Hd (ks.map VK.p) o=false:=AFc fun k hk=>hb k (by omega)
   refine AIh ?_
   refine AL sv9 5 [(6,.int .i64 ((i:Int))),(7,pk CC 64),(8,.slice ao ks.length cap),(9,.int .i64 ((ks.length:Nat))),(10,.bool false)]
     ⟨ym r5,yf r6 (fun _=>by kernel_rfl),yp (i:=2) r6 (Dn (.slice ao ks.length cap) rfl) AG rfl (by simp[AI,AQ,hsa.1,hpo.1]),Bk (Tryz.underlying34) rfl rfl trivial (oy rfl rfl) (fun _=>rfl),Hl r7 (fun _=>Ba (by simp;omega)),AIo⟩ fun a23 w23 g23 Cg=>?_
   refine AE ?_
   refine k11 _ _ ?_
   refine Au Cg rfl rfl ?_
   refine wp_exit ?_
   repeat refine CD ?_
   refine x8 _ _ ?_
   refine k5 _ _ ?_
   refine AIi fun K24 k24=>?_
   refine AIh ?_
   refine Aa (v:=.int .i64 (-1)) Cg r6 fun a25 Cx=>?_
   refine AE ?_
   refine k24 _ _ ?_
   replace HG:=AA HG g23
   refine AIl ?_
   repeat refine AM ?_
   refine A8 (fn:=Tryz.f84) Cx (A7 (p:=4) Tryz.results84 Cx rfl rfl) ?_
   exact⟨AGl (by unfold atV;rw[hno];rfl),HG⟩
theorem LP {x y:List Nat} {b:Bool} (hb:Dy x y=b) (hx:Dg x) (hy:Dg y) (w:World):Calls Tryz.prog 86 #[AO x,AO y] w fun e w'=>e=.returned (.bool b)∧w.grownBy w' none:=hb▸ZV x y hx hy w
theorem UR (ks:List VK) (ao:Option Addr) (cap:Nat) (sa po:List Nat) (hsa:Dg sa) (hpo:Dg po) (w:World) (hr:RdK w (.slice ao ks.length cap) ks) :
   Calls Tryz.prog 51 #[Ao sa po (.slice ao ks.length cap)] w fun e w'=>e=.returned (.bool (CE (ks.map VK.p)))∧w.grownBy w' none:=by
 have hlen:=hr.len
 have hmap:(ks.map VK.p).length=ks.length:=List.length_map _
 refine DX Tryz.func51 rfl Tryz.ntmps51 rfl fun a0 sv0=>?_
 have HG:=World.grownBy.refl w none
 replace sv0:Sv 38 [] [(0,Ao sa po (.slice ao ks.length cap))] a0:=sv0
 refine AIi fun K1 k1=>?_
 refine AIh ?_
 refine BT sv0 r6 (BX hsa hpo (.slice ao ks.length cap) rfl) fun a2 w2 B3 FJ g2 z2 AY sv2=>?_
 replace hr:=hr.kn g2
 replace HG:=AA HG g2
 refine Aa (v:=.bool false) sv2 r6 fun a3 sv3=>?_
 refine AE ?_
 refine k1 _ _ ?_
 refine AIi fun K4 k4=>?_
 refine AIh ?_
 refine EJ sv3 rfl (dd:={ target:=.fn (.func 95) #[],args:=#[] }) rfl (by simp[execOp,resolve,Deferred.ofValue];try rfl) fun a5 sv5=>?_
 refine AE ?_
 refine k4 _ _ ?_
 refine AIi fun K6 k6=>?_
 refine AIi fun K7 k7=>?_
 by_cases hbig:64<ks.length
 · refine AIh ?_
   refine AL sv5 4 [(5,pk B3 64),(6,.slice ao ks.length cap),(7,.int .i64 ((ks.length:Nat))),(8,.bool true)]
     ⟨yf r6 (fun _=>by kernel_rfl),yp (i:=2) r6 (Dn (.slice ao ks.length cap) rfl) AY rfl (by simp[AI,AQ,hsa.1,hpo.1]),Bk (Tryz.underlying34) rfl rfl trivial (oy rfl rfl) (fun _=>rfl),Cm r6 (fun _=>Cp (by simp;omega)),AIo⟩ fun a8 w8 g8 sv8=>?_
   refine AE ?_
   refine k7 _ _ ?_
   refine Ap sv8 rfl rfl ?_
   refine AIi fun K9 k9=>?_
   refine AIh ?_
   refine Aa (v:=.bool false) sv8 r6 fun a10 CK=>?_
   refine AE ?_
   refine k9 _ _ ?_
   replace AY:=AC g8 AY
   replace hr:=hr.kn g8
   replace HG:=AA HG g8
   refine AIl ?_
   repeat refine AM ?_
   refine BK (fn:=Tryz.f51) CK (A7 (p:=2) Tryz.results51 CK rfl rfl) (Bl Tryz.func95 (by kernel_rfl) rfl _ _) (Cf _) ?_
   exact⟨GL ((US (by omega)).symm),HG⟩
 · refine AIh ?_
   refine AL sv5 4 [(5,pk B3 64),(6,.slice ao ks.length cap),(7,.int .i64 ((ks.length:Nat))),(8,.bool false)]
     ⟨yf r6 (fun _=>by kernel_rfl),yp (i:=2) r6 (Dn (.slice ao ks.length cap) rfl) AY rfl (by simp[AI,AQ,hsa.1,hpo.1]),Bk (Tryz.underlying34) rfl rfl trivial (oy rfl rfl) (fun _=>rfl),Cm r6 (fun _=>Cp (by simp;omega)),AIo⟩ fun a11 w11 g11 CH=>?_
   refine AE ?_
   refine k7 _ _ ?_
   refine Au CH rfl rfl ?_
   refine AIm ?_
   refine k6 _ _ ?_
   refine AIi fun K12 k12=>?_
   refine AIi fun K13 k13=>?_
   refine AIh ?_
   refine AL CH 4 [(9,pk B3 64),(10,.slice ao ks.length cap),(11,.int .i64 ((ks.length:Nat))),(12,.int .i64 0)]
     ⟨yf r6 (fun _=>by kernel_rfl),yp (i:=2) r6 (Dn (.slice ao ks.length cap) rfl) (AC g11 AY) rfl (by simp[AI,AQ,hsa.1,hpo.1]),Bk (Tryz.underlying34) rfl rfl trivial (oy rfl rfl) (fun _=>rfl),EI (.inl rfl) rfl trivial (fun _=>rfl),AIo⟩ fun a14 w14 g14 DE=>?_
   have UT:=AA g11 g14
   refine AE ?_
   refine k13 _ _ ?_
   refine BB fun Q15 x15 y15 r15 o15=>?_
   replace AY:=AC UT AY
   replace hr:=hr.kn UT
   replace HG:=AA HG UT
   refine wp_loop (fun a w'=>∃(i:Nat),(i≤ks.length)∧(∀k,k<i→chk (ks.map VK.p) k=true)∧Sv 38 [{ target:=.fn (.func 95) #[],args:=#[] }] [(12,.int .i64 ((i:Int))),(9,pk B3 64),(10,.slice ao ks.length cap),(11,.int .i64 ((ks.length:Nat))),(5,pk B3 64),(6,.slice ao ks.length cap),(7,.int .i64 ((ks.length:Nat))),(8,.bool false),(1,pt B3),(0,Ao sa po (.slice ao ks.length cap))] a∧w.grownBy w' none∧w'.heap[B3]?=some (.cells ([bv sa,bv po,[.slice ao ks.length cap]].flatten).toArray 36 (0,0))∧RdK w' (.slice ao ks.length cap) ks) (fun a _=>(ks.length-intOf (a.tmps.getD 12 undef)).toNat) ⟨0,Nat.zero_le _,fun k hk=>by omega,⟨DE.1,DE.2.1,DE.2.2.2.2.2.1,DE.2.2.1,DE.2.2.2.1,DE.2.2.2.2.1,DE.2.2.2.2.2.2.1,DE.2.2.2.2.2.2.2.1,(AK DE).1,(AK DE).2.1,(AK DE).2.2.2.1,(AK DE).2.2.2.2.1,AIo⟩,HG,AY,hr⟩ fun a16 w16 hI16=>?_
   clear AY
   clear hr
   clear HG
   obtain⟨i,hin,hb,Cj,HG,AY,hr⟩:=hI16
   refine AIi fun K17 k17=>?_
   by_cases hi:i<ks.length
   · have hp:i-1<ks.length:=by omega
     obtain⟨x,hx_x⟩:∃x,ks[i]'hi=x:=⟨_,rfl⟩
     obtain⟨y,hx_y⟩:∃x,ks[(i-1)]'hp=x:=⟨_,rfl⟩
     have hchk:=AEh hi hp hx_x hx_y
     refine AIh ?_
     refine AL Cj 1 [(13,.bool true)]
       ⟨Hl r7 (fun _=>Ba (by simp;omega)),AIo⟩ fun a18 w18 g18 CS=>?_
     refine AE ?_
     refine k17 _ _ ?_
     refine AIi fun K19 k19=>?_
     refine Ap CS rfl rfl ?_
     refine AIm ?_
     refine k19 _ _ ?_
     refine AIi fun K20 k20=>?_
     refine BB fun Q21 x21 y21 r21 o21=>?_
     refine AIi fun K22 k22=>?_
     refine AIh ?_
     replace hr:=hr.kn g18
     refine AL CS 3 [(14,.int .i64 ((i:Int))),(15,pk ((bO ao)) (oO ao+i*33)),(16,F4 x)]
       ⟨ym r5,BD rq8 (fun w=>CM Tryz.underlying34 (by kernel_rfl) (hr.1.1) (by omega) (rfl) w),Bv r6 (fun _ g=>Ae (Ry x) (RdK.keyX (hr.kn g) rfl hi hx_x)),AIo⟩ fun a23 w23 g23 Cg=>?_
     replace AY:=AC g23 (AC g18 AY)
     replace hr:=hr.kn g23
     replace HG:=AA (AA HG g18) g23
     refine As (T:=58) (Z:=([bv AS,[.slice none 0 0]].flatten)) Cg rfl rfl rfl (fun a w=>by kernel_rfl) fun a24 w24 NO On g24 z24 Da DZ=>?_
     have P7:=Ar AY On
     have ABO:=Bq HG On
     have UV:=Ax (hr.lt) On
     refine Aa (v:=.int .i64 ((i:Int))) DZ r6 fun a25 Cx=>?_
     refine An Cx r7 (Ry x) Da (by first|rfl|simp[AZ,AI,AQ,x.ho.1]) fun w26 g26 h26=>?_
     replace AY:=Ab g26 (AC g24 AY) (Ne.symm P7)
     replace hr:=(hr.kn g24).offR g26 (AU UV)
     replace HG:=AD (AA HG g24) g26 ABO
     replace Da:=h26
     refine AE ?_
     refine k22 _ _ ?_
     refine AIi fun K27 k27=>?_
     rcases(show(i=0∧GB x.l=true)∨(i=0∧GB x.l=false)∨(0<i∧Dy y.o x.o=true∧GB x.l=true)∨(0<i∧Dy y.o x.o=true∧GB x.l=false)∨(0<i∧Dy y.o x.o=false∧GB x.l=true)∨(0<i∧Dy y.o x.o=false∧GB x.l=false) by
        rcases Nat.eq_zero_or_pos i with h|h<;>cases h2:GB x.l<;>cases h3:Dy y.o x.o<;>simp[h]) with ⟨hz,hv⟩|⟨hz,hv⟩|⟨hz,hc,hv⟩|⟨hz,hc,hv⟩|⟨hz,hc,hv⟩|⟨hz,hc,hv⟩
     · have hok:((decide (i=0)||Dy y.o x.o)&&GB x.l)=true:=by simp[hz,hv]
       refine Cv Cx [(17,.int .i64 ((i:Int))),(18,.bool false),(19,.bool false),(20,undef),(21,undef),(22,undef),(23,undef),(24,undef),(25,undef),(26,undef),(27,undef),(28,undef),(29,undef),(30,.bool false),(31,.bool false),(32,pk NO 32),(33,.agg #[VK.s x]),(34,.bool true),(35,.bool false),(36,.bool false)]
        ⟨ym r5,Cm r6 (fun _=>Cp (by simp;omega)),ym r5,AX r6,AX r6,AX r6,AX r6,AX r6,AX r6,AX r6,AX r6,AX r6,AX r6,B6 r7,ym r5,BL rq9 (fun _=>by kernel_rfl),Az rq9 (fun _ g=>Ae (Yz (VK.s x) rfl) (BR (L:=[bv x.o,[VK.s x]]) (i:=1) (AF g Da (by simp)) rfl (by simp[AI,AQ,x.ho.1]))),CG [.agg #[VK.s x]] Tryz.func97 (by kernel_rfl) r7 ⟨(oy rfl rfl),AIo⟩ (Aq fun W g=>Ho hv ((hr.kn g).kt hi hx_x)),IT rfl rfl (gy rfl rfl rfl) (oy rfl rfl) (fun _=>BV) (fun _=>rfl),A3 rq9,AIo⟩ fun a28 w28 g28 Jg=>?_
       refine k27 _ _ ?_
       refine Au Jg rfl rfl ?_
       refine AIm ?_
       refine y21 _ _ ?_
       refine k20 _ _ ?_
       refine AIh ?_
       refine AL Jg 1 [(37,.int .i64 (((i+1:Nat):Int)))]
        ⟨Cm r6 (fun _=>C4 (by rw[A1 (by omega) (by omega)];omega)),AIo⟩ fun a29 w29 g29 CI=>?_
       have IV:=AA g28 g29
       refine AL (CI.dl [12]) 1 [(12,.int .i64 (((i+1:Nat):Int)))]
        ⟨ym r5,AIo⟩ fun a30 w30 g30 EQ=>?_
       have ADY:=AA IV g30
       refine AE ?_
       replace AY:=AC ADY AY
       replace Da:=AC ADY Da
       replace hr:=hr.kn ADY
       replace HG:=AA HG ADY
       exact⟨⟨i+1,by omega,fun k hk=>if e:k=i then (by rw[e,hchk];exact hok) else hb k (by omega),⟨EQ.1,EQ.2.1,EQ.2.2.1,(AK (AK (AK EQ))).2.2.2.2.2.2.1,(AK (AK (AK EQ))).2.2.2.2.2.2.2.1,(AK (AK (AK (AK EQ)))).1,(AK (AK (AK (AK EQ)))).2.1,(AK (AK (AK (AK EQ)))).2.2.1,(AK (AK (AK (AK EQ)))).2.2.2.1,(AK (AK (AK (AK EQ)))).2.2.2.2.1,(AK (AK (AK (AK EQ)))).2.2.2.2.2.1,(AK (AK (AK (AK EQ)))).2.2.2.2.2.2.1,AIo⟩,HG,AY,hr⟩,by rw[show _=_ from EQ.2.2.1,show _=_ from Cj.2.2.1];simp[intOf];omega⟩
     · refine Cv Cx [(17,.int .i64 ((i:Int))),(18,.bool false),(19,.bool false),(20,undef),(21,undef),(22,undef),(23,undef),(24,undef),(25,undef),(26,undef),(27,undef),(28,undef),(29,undef),(30,.bool false),(31,.bool false),(32,pk NO 32),(33,.agg #[VK.s x]),(34,.bool false),(35,.bool true),(36,.bool true)]
        ⟨ym r5,Cm r6 (fun _=>Cp (by simp;omega)),ym r5,AX r6,AX r6,AX r6,AX r6,AX r6,AX r6,AX r6,AX r6,AX r6,AX r6,B6 r7,ym r5,BL rq9 (fun _=>by kernel_rfl),Az rq9 (fun _ g=>Ae (Yz (VK.s x) rfl) (BR (L:=[bv x.o,[VK.s x]]) (i:=1) (AF g Da (by simp)) rfl (by simp[AI,AQ,x.ho.1]))),CG [.agg #[VK.s x]] Tryz.func97 (by kernel_rfl) r7 ⟨(oy rfl rfl),AIo⟩ (Aq fun W g=>Ho hv ((hr.kn g).kt hi hx_x)),IT rfl rfl (gy rfl rfl rfl) (oy rfl rfl) (fun _=>BV) (fun _=>rfl),A3 rq9,AIo⟩ fun a31 w31 g31 Gh=>?_
       refine k27 _ _ ?_
       refine Ap Gh rfl rfl ?_
       refine AIi fun K32 k32=>?_
       refine AIh ?_
       refine Aa (v:=.bool false) Gh r6 fun a33 JN=>?_
       refine AE ?_
       refine k32 _ _ ?_
       replace AY:=AC g31 AY
       replace Da:=AC g31 Da
       replace hr:=hr.kn g31
       replace HG:=AA HG g31
       refine AIl ?_
       repeat refine AM ?_
       refine r21 _ _ ?_
       repeat refine AM ?_
       refine r15 _ _ ?_
       repeat refine AM ?_
       refine BK (fn:=Tryz.f51) JN (A7 (p:=2) Tryz.results51 JN rfl rfl) (Bl Tryz.func95 (by kernel_rfl) rfl _ _) (Cf _) ?_
       exact⟨GL ((Hp (i:=i) (by rw[hmap];exact hi) (by rw[hchk];simp[hv])).symm),HG⟩
     · have hok:((decide (i=0)||Dy y.o x.o)&&GB x.l)=true:=by simp[hz,hv,hc]
       refine Cv Cx [(17,.int .i64 ((i:Int))),(18,.bool true),(19,.bool true),(20,pk B3 64),(21,.slice ao ks.length cap),(22,.int .i64 ((i:Int))),(23,.int .i64 (((i-1:Nat):Int))),(24,pk ((bO ao)) (oO ao+(i-1)*33)),(25,F4 y),(26,pt NO),(27,AO x.o),(28,.int .i64 ((Fq y.o x.o))),(29,.bool false),(30,.bool false),(31,.bool false),(32,pk NO 32),(33,.agg #[VK.s x]),(34,.bool true),(35,.bool false),(36,.bool false)]
        ⟨ym r5,Cm r6 (fun _=>Cp (by simp;omega)),ym r5,BL rq9 (fun _=>by kernel_rfl),Az rq9 (fun _ g=>Ae (Dn (.slice ao ks.length cap) rfl) (BR (L:=[bv sa,bv po,[.slice ao ks.length cap]]) (i:=2) (AF g AY (by simp)) rfl (by simp[AI,AQ,hsa.1,hpo.1]))),Av rq8,BA rq9 (fun _=>FG (by rw[A1 (by omega) (by omega)];omega)),Ce rfl rfl (gy rfl rfl rfl) (oy rfl rfl) (oy rfl rfl) (fun w=>CM Tryz.underlying34 (by kernel_rfl) (hr.1.1) (by omega) (rfl) w) (fun _=>rfl),Az rq9 (fun _ g=>Ae (Ry y) (RdK.keyX (hr.kn g) rfl hp hx_y)),BL rq9 (fun _=>by kernel_rfl),Az rq9 (fun _ g=>Ae (Bn x.o x.ho.1) (BR (L:=[bv x.o,[VK.s x]]) (i:=0) (AF g Da (by simp)) rfl rfl)),CG [F4 y,AO x.o] Tryz.func96 (by kernel_rfl) r7 ⟨(oy rfl rfl),(oy rfl rfl),AIo⟩ (Aq fun W g=>FX y x.o x.ho W),BA rq9 (fun _=>Ea (by rw[KN,hc];rfl)),A3 rq9,ym r5,BL rq9 (fun _=>by kernel_rfl),Az rq9 (fun _ g=>Ae (Yz (VK.s x) rfl) (BR (L:=[bv x.o,[VK.s x]]) (i:=1) (AF g Da (by simp)) rfl (by simp[AI,AQ,x.ho.1]))),CG [.agg #[VK.s x]] Tryz.func97 (by kernel_rfl) r7 ⟨(oy rfl rfl),AIo⟩ (Aq fun W g=>Ho hv ((hr.kn g).kt hi hx_x)),IT rfl rfl (gy rfl rfl rfl) (oy rfl rfl) (fun _=>BV) (fun _=>rfl),A3 rq9,AIo⟩ fun a34 w34 g34 JO=>?_
       refine k27 _ _ ?_
       refine Au JO rfl rfl ?_
       refine AIm ?_
       refine y21 _ _ ?_
       refine k20 _ _ ?_
       refine AIh ?_
       refine AL JO 1 [(37,.int .i64 (((i+1:Nat):Int)))]
        ⟨Cm r6 (fun _=>C4 (by rw[A1 (by omega) (by omega)];omega)),AIo⟩ fun a35 w35 g35 Kh=>?_
       have UW:=AA g34 g35
       refine AL (Kh.dl [12]) 1 [(12,.int .i64 (((i+1:Nat):Int)))]
        ⟨ym r5,AIo⟩ fun a36 w36 g36 FQ=>?_
       have Oo:=AA UW g36
       refine AE ?_
       replace AY:=AC Oo AY
       replace Da:=AC Oo Da
       replace hr:=hr.kn Oo
       replace HG:=AA HG Oo
       exact⟨⟨i+1,by omega,fun k hk=>if e:k=i then (by rw[e,hchk];exact hok) else hb k (by omega),⟨FQ.1,FQ.2.1,FQ.2.2.1,(AK (AK (AK FQ))).2.2.2.2.2.2.1,(AK (AK (AK FQ))).2.2.2.2.2.2.2.1,(AK (AK (AK (AK FQ)))).1,(AK (AK (AK (AK FQ)))).2.1,(AK (AK (AK (AK FQ)))).2.2.1,(AK (AK (AK (AK FQ)))).2.2.2.1,(AK (AK (AK (AK FQ)))).2.2.2.2.1,(AK (AK (AK (AK FQ)))).2.2.2.2.2.1,(AK (AK (AK (AK FQ)))).2.2.2.2.2.2.1,AIo⟩,HG,AY,hr⟩,by rw[show _=_ from FQ.2.2.1,show _=_ from Cj.2.2.1];simp[intOf];omega⟩
     · refine Cv Cx [(17,.int .i64 ((i:Int))),(18,.bool true),(19,.bool true),(20,pk B3 64),(21,.slice ao ks.length cap),(22,.int .i64 ((i:Int))),(23,.int .i64 (((i-1:Nat):Int))),(24,pk ((bO ao)) (oO ao+(i-1)*33)),(25,F4 y),(26,pt NO),(27,AO x.o),(28,.int .i64 ((Fq y.o x.o))),(29,.bool false),(30,.bool false),(31,.bool false),(32,pk NO 32),(33,.agg #[VK.s x]),(34,.bool false),(35,.bool true),(36,.bool true)]
        ⟨ym r5,Cm r6 (fun _=>Cp (by simp;omega)),ym r5,BL rq9 (fun _=>by kernel_rfl),Az rq9 (fun _ g=>Ae (Dn (.slice ao ks.length cap) rfl) (BR (L:=[bv sa,bv po,[.slice ao ks.length cap]]) (i:=2) (AF g AY (by simp)) rfl (by simp[AI,AQ,hsa.1,hpo.1]))),Av rq8,BA rq9 (fun _=>FG (by rw[A1 (by omega) (by omega)];omega)),Ce rfl rfl (gy rfl rfl rfl) (oy rfl rfl) (oy rfl rfl) (fun w=>CM Tryz.underlying34 (by kernel_rfl) (hr.1.1) (by omega) (rfl) w) (fun _=>rfl),Az rq9 (fun _ g=>Ae (Ry y) (RdK.keyX (hr.kn g) rfl hp hx_y)),BL rq9 (fun _=>by kernel_rfl),Az rq9 (fun _ g=>Ae (Bn x.o x.ho.1) (BR (L:=[bv x.o,[VK.s x]]) (i:=0) (AF g Da (by simp)) rfl rfl)),CG [F4 y,AO x.o] Tryz.func96 (by kernel_rfl) r7 ⟨(oy rfl rfl),(oy rfl rfl),AIo⟩ (Aq fun W g=>FX y x.o x.ho W),BA rq9 (fun _=>Ea (by rw[KN,hc];rfl)),A3 rq9,ym r5,BL rq9 (fun _=>by kernel_rfl),Az rq9 (fun _ g=>Ae (Yz (VK.s x) rfl) (BR (L:=[bv x.o,[VK.s x]]) (i:=1) (AF g Da (by simp)) rfl (by simp[AI,AQ,x.ho.1]))),CG [.agg #[VK.s x]] Tryz.func97 (by kernel_rfl) r7 ⟨(oy rfl rfl),AIo⟩ (Aq fun W g=>Ho hv ((hr.kn g).kt hi hx_x)),IT rfl rfl (gy rfl rfl rfl) (oy rfl rfl) (fun _=>BV) (fun _=>rfl),A3 rq9,AIo⟩ fun a37 w37 g37 F6=>?_
       refine k27 _ _ ?_
       refine Ap F6 rfl rfl ?_
       refine AIi fun K38 k38=>?_
       refine AIh ?_
       refine Aa (v:=.bool false) F6 r6 fun a39 Jh=>?_
       refine AE ?_
       refine k38 _ _ ?_
       replace AY:=AC g37 AY
       replace Da:=AC g37 Da
       replace hr:=hr.kn g37
       replace HG:=AA HG g37
       refine AIl ?_
       repeat refine AM ?_
       refine r21 _ _ ?_
       repeat refine AM ?_
       refine r15 _ _ ?_
       repeat refine AM ?_
       refine BK (fn:=Tryz.f51) Jh (A7 (p:=2) Tryz.results51 Jh rfl rfl) (Bl Tryz.func95 (by kernel_rfl) rfl _ _) (Cf _) ?_
       exact⟨GL ((Hp (i:=i) (by rw[hmap];exact hi) (by rw[hchk];simp[hv,hc,Nat.ne_of_gt hz])).symm),HG⟩
     · refine Cv Cx [(17,.int .i64 ((i:Int))),(18,.bool true),(19,.bool true),(20,pk B3 64),(21,.slice ao ks.length cap),(22,.int .i64 ((i:Int))),(23,.int .i64 (((i-1:Nat):Int))),(24,pk ((bO ao)) (oO ao+(i-1)*33)),(25,F4 y),(26,pt NO),(27,AO x.o),(28,.int .i64 ((Fq y.o x.o))),(29,.bool true),(30,.bool true),(31,.bool true),(32,undef),(33,undef),(34,undef),(35,undef),(36,.bool true)]
        ⟨ym r5,Cm r6 (fun _=>Cp (by simp;omega)),ym r5,BL rq9 (fun _=>by kernel_rfl),Az rq9 (fun _ g=>Ae (Dn (.slice ao ks.length cap) rfl) (BR (L:=[bv sa,bv po,[.slice ao ks.length cap]]) (i:=2) (AF g AY (by simp)) rfl (by simp[AI,AQ,hsa.1,hpo.1]))),Av rq8,BA rq9 (fun _=>FG (by rw[A1 (by omega) (by omega)];omega)),Ce rfl rfl (gy rfl rfl rfl) (oy rfl rfl) (oy rfl rfl) (fun w=>CM Tryz.underlying34 (by kernel_rfl) (hr.1.1) (by omega) (rfl) w) (fun _=>rfl),Az rq9 (fun _ g=>Ae (Ry y) (RdK.keyX (hr.kn g) rfl hp hx_y)),BL rq9 (fun _=>by kernel_rfl),Az rq9 (fun _ g=>Ae (Bn x.o x.ho.1) (BR (L:=[bv x.o,[VK.s x]]) (i:=0) (AF g Da (by simp)) rfl rfl)),CG [F4 y,AO x.o] Tryz.func96 (by kernel_rfl) r7 ⟨(oy rfl rfl),(oy rfl rfl),AIo⟩ (Aq fun W g=>FX y x.o x.ho W),BA rq9 (fun _=>Ea (by rw[KN,hc];rfl)),A3 rq9,ym r5,AX r6,AX r6,AX r6,AX r6,B6 r7,AIo⟩ fun a40 w40 g40 Ji=>?_
       refine k27 _ _ ?_
       refine Ap Ji rfl rfl ?_
       refine AIi fun K41 k41=>?_
       refine AIh ?_
       refine Aa (v:=.bool false) Ji r6 fun a42 Gi=>?_
       refine AE ?_
       refine k41 _ _ ?_
       replace AY:=AC g40 AY
       replace Da:=AC g40 Da
       replace hr:=hr.kn g40
       replace HG:=AA HG g40
       refine AIl ?_
       repeat refine AM ?_
       refine r21 _ _ ?_
       repeat refine AM ?_
       refine r15 _ _ ?_
       repeat refine AM ?_
       refine BK (fn:=Tryz.f51) Gi (A7 (p:=2) Tryz.results51 Gi rfl rfl) (Bl Tryz.func95 (by kernel_rfl) rfl _ _) (Cf _) ?_
       exact⟨GL ((Hp (i:=i) (by rw[hmap];exact hi) (by rw[hchk];simp[hv,hc,Nat.ne_of_gt hz])).symm),HG⟩
     · refine Cv Cx [(17,.int .i64 ((i:Int))),(18,.bool true),(19,.bool true),(20,pk B3 64),(21,.slice ao ks.length cap),(22,.int .i64 ((i:Int))),(23,.int .i64 (((i-1:Nat):Int))),(24,pk ((bO ao)) (oO ao+(i-1)*33)),(25,F4 y),(26,pt NO),(27,AO x.o),(28,.int .i64 ((Fq y.o x.o))),(29,.bool true),(30,.bool true),(31,.bool true),(32,undef),(33,undef),(34,undef),(35,undef),(36,.bool true)]
        ⟨ym r5,Cm r6 (fun _=>Cp (by simp;omega)),ym r5,BL rq9 (fun _=>by kernel_rfl),Az rq9 (fun _ g=>Ae (Dn (.slice ao ks.length cap) rfl) (BR (L:=[bv sa,bv po,[.slice ao ks.length cap]]) (i:=2) (AF g AY (by simp)) rfl (by simp[AI,AQ,hsa.1,hpo.1]))),Av rq8,BA rq9 (fun _=>FG (by rw[A1 (by omega) (by omega)];omega)),Ce rfl rfl (gy rfl rfl rfl) (oy rfl rfl) (oy rfl rfl) (fun w=>CM Tryz.underlying34 (by kernel_rfl) (hr.1.1) (by omega) (rfl) w) (fun _=>rfl),Az rq9 (fun _ g=>Ae (Ry y) (RdK.keyX (hr.kn g) rfl hp hx_y)),BL rq9 (fun _=>by kernel_rfl),Az rq9 (fun _ g=>Ae (Bn x.o x.ho.1) (BR (L:=[bv x.o,[VK.s x]]) (i:=0) (AF g Da (by simp)) rfl rfl)),CG [F4 y,AO x.o] Tryz.func96 (by kernel_rfl) r7 ⟨(oy rfl rfl),(oy rfl rfl),AIo⟩ (Aq fun W g=>FX y x.o x.ho W),BA rq9 (fun _=>Ea (by rw[KN,hc];rfl)),A3 rq9,ym r5,AX r6,AX r6,AX r6,AX r6,B6 r7,AIo⟩ fun a43 w43 g43 Hf=>?_
       refine k27 _ _ ?_
       refine Ap Hf rfl rfl ?_
       refine AIi fun K44 k44=>?_
       refine AIh ?_
       refine Aa (v:=.bool false) Hf r6 fun a45 Ec=>?_
       refine AE ?_
       refine k44 _ _ ?_
       replace HG:=AA HG g43
       refine AIl ?_
       repeat refine AM ?_
       refine r21 _ _ ?_
       repeat refine AM ?_
       refine r15 _ _ ?_
       repeat refine AM ?_
       refine BK (fn:=Tryz.f51) Ec (A7 (p:=2) Tryz.results51 Ec rfl rfl) (Bl Tryz.func95 (by kernel_rfl) rfl _ _) (Cf _) ?_
       exact⟨GL ((Hp (i:=i) (by rw[hmap];exact hi) (by rw[hchk];simp[hv,hc,Nat.ne_of_gt hz])).symm),HG⟩
   · refine AIh ?_
     refine AL Cj 1 [(13,.bool false)]
       ⟨Hl r7 (fun _=>Ba (by simp;omega)),AIo⟩ fun a46 w46 g46 GM=>?_
     refine AE ?_
     refine k17 _ _ ?_
     refine AIi fun K47 k47=>?_
     refine Au GM rfl rfl ?_
     refine wp_exit ?_
     repeat refine CD ?_
     refine x15 _ _ ?_
     refine k12 _ _ ?_
     refine AIi fun K48 k48=>?_
     refine AIh ?_
     refine Aa (v:=.bool true) GM r6 fun a49 Ki=>?_
     refine AE ?_
     refine k48 _ _ ?_
     replace HG:=AA HG g46
     refine AIl ?_
     repeat refine AM ?_
     refine BK (fn:=Tryz.f51) Ki (A7 (p:=2) Tryz.results51 Ki rfl rfl) (Bl Tryz.func95 (by kernel_rfl) rfl _ _) (Cf _) ?_
     exact⟨GL ((UX (by omega) fun k hk=>hb k (by omega)).symm),HG⟩
theorem R9 (ks:List VK) (ao:Option Addr) (cap:Nat) (sa po:List Nat) (hsa:Dg sa) (hpo:Dg po) (w:World) (hr:RdK w (.slice ao ks.length cap) ks) :
   Calls Tryz.prog 40 #[Ao sa po (.slice ao ks.length cap)] w fun e w'=>e=.returned (.bool (CE (ks.map VK.p)))∧w.grownBy w' none:=by
 have hlen:=hr.len
 have hmap:(ks.map VK.p).length=ks.length:=List.length_map _
 refine BM Tryz.func40 rfl Tryz.ntmps40 rfl fun a0 sv0=>?_
 have HG:=World.grownBy.refl w none
 replace sv0:Sv 44 [] [(0,Ao sa po (.slice ao ks.length cap))] a0:=sv0
 refine AIi fun K1 k1=>?_
 refine AIh ?_
 refine BT sv0 r6 (BX hsa hpo (.slice ao ks.length cap) rfl) fun a2 w2 B3 FJ g2 z2 AY sv2=>?_
 replace hr:=hr.kn g2
 replace HG:=AA HG g2
 refine Aa (v:=.bool false) sv2 r6 fun a3 sv3=>?_
 refine AE ?_
 refine k1 _ _ ?_
 refine AIi fun K4 k4=>?_
 refine AIi fun K5 k5=>?_
 by_cases hbig:64<ks.length
 · refine AIh ?_
   refine AL sv3 4 [(4,pk B3 64),(5,.slice ao ks.length cap),(6,.int .i64 ((ks.length:Nat))),(7,.bool true)]
     ⟨yf r6 (fun _=>by kernel_rfl),yp (i:=2) r6 (Dn (.slice ao ks.length cap) rfl) AY rfl (by simp[AI,AQ,hsa.1,hpo.1]),Bk (Tryz.underlying34) rfl rfl trivial (oy rfl rfl) (fun _=>rfl),Cm r6 (fun _=>Cp (by simp;omega)),AIo⟩ fun a6 w6 g6 sv6=>?_
   refine AE ?_
   refine k5 _ _ ?_
   refine Ap sv6 rfl rfl ?_
   refine AIi fun K7 k7=>?_
   refine AIh ?_
   refine Aa (v:=.bool false) sv6 r6 fun a8 sv8=>?_
   refine AE ?_
   refine k7 _ _ ?_
   replace AY:=AC g6 AY
   replace hr:=hr.kn g6
   replace HG:=AA HG g6
   refine AIl ?_
   repeat refine AM ?_
   refine A8 (fn:=Tryz.f40) sv8 (A7 (p:=2) Tryz.results40 sv8 rfl rfl) ?_
   exact⟨GL ((US (by omega)).symm),HG⟩
 · refine AIh ?_
   refine AL sv3 4 [(4,pk B3 64),(5,.slice ao ks.length cap),(6,.int .i64 ((ks.length:Nat))),(7,.bool false)]
     ⟨yf r6 (fun _=>by kernel_rfl),yp (i:=2) r6 (Dn (.slice ao ks.length cap) rfl) AY rfl (by simp[AI,AQ,hsa.1,hpo.1]),Bk (Tryz.underlying34) rfl rfl trivial (oy rfl rfl) (fun _=>rfl),Cm r6 (fun _=>Cp (by simp;omega)),AIo⟩ fun a9 w9 g9 sv9=>?_
   refine AE ?_
   refine k5 _ _ ?_
   refine Au sv9 rfl rfl ?_
   refine AIm ?_
   refine k4 _ _ ?_
   refine AIi fun K10 k10=>?_
   refine AIi fun K11 k11=>?_
   refine AIh ?_
   refine Aa (v:=.int .i64 0) sv9 r6 fun a12 C6=>?_
   refine AE ?_
   refine k11 _ _ ?_
   refine BB fun Q13 x13 y13 r13 o13=>?_
   replace AY:=AC g9 AY
   replace hr:=hr.kn g9
   replace HG:=AA HG g9
   refine wp_loop (fun a w'=>∃(i:Nat),(i≤ks.length)∧(∀k,k<i→chk (ks.map VK.p) k=true)∧Sv 44 [] [(3,.int .i64 ((i:Int))),(4,pk B3 64),(5,.slice ao ks.length cap),(6,.int .i64 ((ks.length:Nat))),(7,.bool false),(1,pt B3),(0,Ao sa po (.slice ao ks.length cap))] a∧w.grownBy w' none∧w'.heap[B3]?=some (.cells ([bv sa,bv po,[.slice ao ks.length cap]].flatten).toArray 36 (0,0))∧RdK w' (.slice ao ks.length cap) ks) (fun a _=>(ks.length-intOf (a.tmps.getD 3 undef)).toNat) ⟨0,Nat.zero_le _,fun k hk=>by omega,⟨C6.1,C6.2.1,C6.2.2.1,C6.2.2.2.1,C6.2.2.2.2.1,C6.2.2.2.2.2.1,C6.2.2.2.2.2.2.1,(AK C6).1,(AK C6).2.1,AIo⟩,HG,AY,hr⟩ fun a14 w14 hI14=>?_
   clear AY
   clear hr
   clear HG
   obtain⟨i,hin,hb,DE,HG,AY,hr⟩:=hI14
   refine AIi fun K15 k15=>?_
   refine AIi fun K16 k16=>?_
   by_cases hi:i<ks.length
   · have hp:i-1<ks.length:=by omega
     obtain⟨x,hx_x⟩:∃x,ks[i]'hi=x:=⟨_,rfl⟩
     obtain⟨y,hx_y⟩:∃x,ks[(i-1)]'hp=x:=⟨_,rfl⟩
     have hchk:=AEh hi hp hx_x hx_y
     refine AIh ?_
     refine AL DE 5 [(8,.int .i64 ((i:Int))),(9,pk B3 64),(10,.slice ao ks.length cap),(11,.int .i64 ((ks.length:Nat))),(12,.bool true)]
       ⟨ym r5,yf r6 (fun _=>by kernel_rfl),yp (i:=2) r6 (Dn (.slice ao ks.length cap) rfl) AY rfl (by simp[AI,AQ,hsa.1,hpo.1]),Bk (Tryz.underlying34) rfl rfl trivial (oy rfl rfl) (fun _=>rfl),Hl r7 (fun _=>Ba (by simp;omega)),AIo⟩ fun a17 w17 g17 FH=>?_
     refine AE ?_
     refine k16 _ _ ?_
     refine Ap FH rfl rfl ?_
     refine AIm ?_
     refine k15 _ _ ?_
     refine AIi fun K18 k18=>?_
     refine BB fun Q19 x19 y19 r19 o19=>?_
     refine AIi fun K20 k20=>?_
     replace AY:=AC g17 AY
     replace hr:=hr.kn g17
     replace HG:=AA HG g17
     rcases(show(i=0∧GB x.l=true)∨(i=0∧GB x.l=false)∨(0<i∧Dy y.o x.o=true∧GB x.l=true)∨(0<i∧Dy y.o x.o=true∧GB x.l=false)∨(0<i∧Dy y.o x.o=false∧GB x.l=true)∨(0<i∧Dy y.o x.o=false∧GB x.l=false) by
        rcases Nat.eq_zero_or_pos i with h|h<;>cases h2:GB x.l<;>cases h3:Dy y.o x.o<;>simp[h]) with ⟨hz,hv⟩|⟨hz,hv⟩|⟨hz,hc,hv⟩|⟨hz,hc,hv⟩|⟨hz,hc,hv⟩|⟨hz,hc,hv⟩
     · have hok:((decide (i=0)||Dy y.o x.o)&&GB x.l)=true:=by simp[hz,hv]
       refine Cv FH [(15,pk B3 64),(16,.slice ao ks.length cap),(17,.int .i64 ((i:Int))),(18,pk ((bO ao)) (oO ao+i*33)),(19,pk ((bO ao)) (oO ao+i*33+32)),(20,.agg #[VK.s x]),(21,.bool true),(22,.bool false),(23,.bool false),(24,.int .i64 ((i:Int))),(25,.bool false),(26,.bool false),(27,undef),(28,undef),(29,undef),(30,undef),(31,undef),(32,undef),(33,undef),(34,undef),(35,undef),(36,undef),(37,undef),(38,undef),(39,undef),(40,undef),(41,undef),(42,.bool false),(43,.bool false)]
        ⟨yf r6 (fun _=>by kernel_rfl),yp (i:=2) r6 (Dn (.slice ao ks.length cap) rfl) AY rfl (by simp[AI,AQ,hsa.1,hpo.1]),ym r5,BD rq8 (fun w=>CM Tryz.underlying34 (by kernel_rfl) (hr.1.1) (by omega) (rfl) w),yf r6 (fun _=>by kernel_rfl),Bv r6 (fun _ g=>Ae (Yz (VK.s x) rfl) (RdK.treeX (hr.kn g) rfl hi hx_x)),Ad [.agg #[VK.s x]] Tryz.func87 (by kernel_rfl) rq4 ⟨(oy rfl rfl),AIo⟩ (Aq fun W g=>ER hv ((hr.kn g).kt hi hx_x)),Cn r6 (fun _=>BV),ym r5,Av rq8,BA rq9 (fun _=>Cp (by simp;omega)),Av rq8,AX r6,AX r6,AX r6,AX r6,AX r6,AX r6,AX r6,AX r6,AX r6,AX r6,AX r6,AX r6,AX r6,AX r6,AX r6,Hm rfl rfl (gy rfl rfl rfl) (oy rfl rfl) rfl (fun _=>rfl),A3 rq9,AIo⟩ fun a21 w21 g21 DY=>?_
       refine k20 _ _ ?_
       refine Au DY rfl rfl ?_
       refine AIm ?_
       refine y19 _ _ ?_
       refine k18 _ _ ?_
       refine AIh ?_
       refine AL DY 2 [(13,.int .i64 ((i:Int))),(14,.int .i64 (((i+1:Nat):Int)))]
        ⟨ym r5,Cm r6 (fun _=>C4 (by rw[A1 (by omega) (by omega)];omega)),AIo⟩ fun a22 w22 g22 CX=>?_
       have Nh:=AA g21 g22
       refine Aa (v:=.int .i64 (((i+1:Nat):Int))) CX r6 fun a23 Cg=>?_
       refine AE ?_
       replace AY:=AC Nh AY
       replace hr:=hr.kn Nh
       replace HG:=AA HG Nh
       exact⟨⟨i+1,by omega,fun k hk=>if e:k=i then (by rw[e,hchk];exact hok) else hb k (by omega),⟨Cg.1,Cg.2.1,Cg.2.2.1,(AK (AK (AK (AK Cg)))).2.2.2.2.2.2.2.1,(AK (AK (AK (AK (AK Cg))))).1,(AK (AK (AK (AK (AK Cg))))).2.1,(AK (AK (AK (AK (AK Cg))))).2.2.1,(AK (AK (AK (AK (AK Cg))))).2.2.2.1,(AK (AK (AK (AK (AK Cg))))).2.2.2.2.1,AIo⟩,HG,AY,hr⟩,by rw[show _=_ from Cg.2.2.1,show _=_ from DE.2.2.1];simp[intOf];omega⟩
     · refine Cv FH [(15,pk B3 64),(16,.slice ao ks.length cap),(17,.int .i64 ((i:Int))),(18,pk ((bO ao)) (oO ao+i*33)),(19,pk ((bO ao)) (oO ao+i*33+32)),(20,.agg #[VK.s x]),(21,.bool false),(22,.bool true),(23,.bool true),(24,undef),(25,undef),(26,undef),(27,undef),(28,undef),(29,undef),(30,undef),(31,undef),(32,undef),(33,undef),(34,undef),(35,undef),(36,undef),(37,undef),(38,undef),(39,undef),(40,undef),(41,undef),(42,undef),(43,.bool true)]
        ⟨yf r6 (fun _=>by kernel_rfl),yp (i:=2) r6 (Dn (.slice ao ks.length cap) rfl) AY rfl (by simp[AI,AQ,hsa.1,hpo.1]),ym r5,BD rq8 (fun w=>CM Tryz.underlying34 (by kernel_rfl) (hr.1.1) (by omega) (rfl) w),yf r6 (fun _=>by kernel_rfl),Bv r6 (fun _ g=>Ae (Yz (VK.s x) rfl) (RdK.treeX (hr.kn g) rfl hi hx_x)),Ad [.agg #[VK.s x]] Tryz.func87 (by kernel_rfl) rq4 ⟨(oy rfl rfl),AIo⟩ (Aq fun W g=>ER hv ((hr.kn g).kt hi hx_x)),Cn r6 (fun _=>BV),ym r5,AX r6,AX r6,AX r6,A2 ⟨26,rfl,rfl,fun _ _ h=>h⟩ rfl (fun _=>rfl),A2 ⟨26,rfl,rfl,fun _ _ h=>h⟩ rfl (fun _=>rfl),A2 ⟨26,rfl,rfl,fun _ _ h=>h⟩ rfl (fun _=>rfl),A2 ⟨26,rfl,rfl,fun _ _ h=>h⟩ rfl (fun _=>rfl),A2 ⟨26,rfl,rfl,fun _ _ h=>h⟩ rfl (fun _=>rfl),A2 ⟨26,rfl,rfl,fun _ _ h=>h⟩ rfl (fun _=>rfl),A2 ⟨26,rfl,rfl,fun _ _ h=>h⟩ rfl (fun _=>rfl),A2 ⟨26,rfl,rfl,fun _ _ h=>h⟩ rfl (fun _=>rfl),A2 ⟨26,rfl,rfl,fun _ _ h=>h⟩ rfl (fun _=>rfl),A2 ⟨26,rfl,rfl,fun _ _ h=>h⟩ rfl (fun _=>rfl),A2 ⟨26,rfl,rfl,fun _ _ h=>h⟩ rfl (fun _=>rfl),A2 ⟨26,rfl,rfl,fun _ _ h=>h⟩ rfl (fun _=>rfl),A2 ⟨26,rfl,rfl,fun _ _ h=>h⟩ rfl (fun _=>rfl),A2 ⟨26,rfl,rfl,fun _ _ h=>h⟩ rfl (fun _=>rfl),A2 ⟨26,rfl,rfl,fun _ _ h=>h⟩ rfl (fun _=>rfl),AX r6,B6 r7,AIo⟩ fun a24 w24 g24 DZ=>?_
       refine k20 _ _ ?_
       refine Ap DZ rfl rfl ?_
       refine AIi fun K25 k25=>?_
       refine AIh ?_
       refine Aa (v:=.bool false) DZ r6 fun a26 CW=>?_
       refine AE ?_
       refine k25 _ _ ?_
       replace AY:=AC g24 AY
       replace hr:=hr.kn g24
       replace HG:=AA HG g24
       refine AIl ?_
       repeat refine AM ?_
       refine r19 _ _ ?_
       repeat refine AM ?_
       refine r13 _ _ ?_
       repeat refine AM ?_
       refine A8 (fn:=Tryz.f40) CW (A7 (p:=2) Tryz.results40 CW rfl rfl) ?_
       exact⟨GL ((Hp (i:=i) (by rw[hmap];exact hi) (by rw[hchk];simp[hv])).symm),HG⟩
     · have hok:((decide (i=0)||Dy y.o x.o)&&GB x.l)=true:=by simp[hz,hv,hc]
       refine Cv FH [(15,pk B3 64),(16,.slice ao ks.length cap),(17,.int .i64 ((i:Int))),(18,pk ((bO ao)) (oO ao+i*33)),(19,pk ((bO ao)) (oO ao+i*33+32)),(20,.agg #[VK.s x]),(21,.bool true),(22,.bool false),(23,.bool false),(24,.int .i64 ((i:Int))),(25,.bool true),(26,.bool true),(27,pk B3 64),(28,.slice ao ks.length cap),(29,.int .i64 ((i:Int))),(30,.int .i64 (((i-1:Nat):Int))),(31,pk ((bO ao)) (oO ao+(i-1)*33)),(32,pk ((bO ao)) (oO ao+(i-1)*33)),(33,AO y.o),(34,pk B3 64),(35,.slice ao ks.length cap),(36,.int .i64 ((i:Int))),(37,pk ((bO ao)) (oO ao+i*33)),(38,pk ((bO ao)) (oO ao+i*33)),(39,AO x.o),(40,.bool true),(41,.bool false),(42,.bool false),(43,.bool false)]
        ⟨yf r6 (fun _=>by kernel_rfl),yp (i:=2) r6 (Dn (.slice ao ks.length cap) rfl) AY rfl (by simp[AI,AQ,hsa.1,hpo.1]),ym r5,BD rq8 (fun w=>CM Tryz.underlying34 (by kernel_rfl) (hr.1.1) (by omega) (rfl) w),yf r6 (fun _=>by kernel_rfl),Bv r6 (fun _ g=>Ae (Yz (VK.s x) rfl) (RdK.treeX (hr.kn g) rfl hi hx_x)),Ad [.agg #[VK.s x]] Tryz.func87 (by kernel_rfl) rq4 ⟨(oy rfl rfl),AIo⟩ (Aq fun W g=>ER hv ((hr.kn g).kt hi hx_x)),Cn r6 (fun _=>BV),ym r5,Av rq8,BA rq9 (fun _=>Cp (by simp;omega)),Av rq8,BL rq9 (fun _=>by kernel_rfl),Az rq9 (fun _ g=>Ae (Dn (.slice ao ks.length cap) rfl) (BR (L:=[bv sa,bv po,[.slice ao ks.length cap]]) (i:=2) (AF g AY (by simp)) rfl (by simp[AI,AQ,hsa.1,hpo.1]))),Av rq8,BA rq9 (fun _=>FG (by rw[A1 (by omega) (by omega)];omega)),Ce rfl rfl (gy rfl rfl rfl) (oy rfl rfl) (oy rfl rfl) (fun w=>CM Tryz.underlying34 (by kernel_rfl) (hr.1.1) (by omega) (rfl) w) (fun _=>rfl),BL rq9 (fun _=>by kernel_rfl),Az rq9 (fun _ g=>Ae (Bn y.o y.ho.1) (RdK.ownerX (hr.kn g) rfl hp hx_y)),BL rq9 (fun _=>by kernel_rfl),Az rq9 (fun _ g=>Ae (Dn (.slice ao ks.length cap) rfl) (BR (L:=[bv sa,bv po,[.slice ao ks.length cap]]) (i:=2) (AF g AY (by simp)) rfl (by simp[AI,AQ,hsa.1,hpo.1]))),Av rq8,Ce rfl rfl (gy rfl rfl rfl) (oy rfl rfl) (oy rfl rfl) (fun w=>CM Tryz.underlying34 (by kernel_rfl) (hr.1.1) (by omega) (rfl) w) (fun _=>rfl),BL rq9 (fun _=>by kernel_rfl),Az rq9 (fun _ g=>Ae (Bn x.o x.ho.1) (RdK.ownerX (hr.kn g) rfl hi hx_x)),CG [AO y.o,AO x.o] Tryz.func86 (by kernel_rfl) r7 ⟨(oy rfl rfl),(oy rfl rfl),AIo⟩ (Aq fun W g=>LP hc y.ho x.ho W),IT rfl rfl (gy rfl rfl rfl) (oy rfl rfl) (fun _=>BV) (fun _=>rfl),Hm rfl rfl (gy rfl rfl rfl) (oy rfl rfl) (oy rfl rfl) (fun _=>rfl),A3 rq9,AIo⟩ fun a27 w27 g27 IC=>?_
       refine k20 _ _ ?_
       refine Au IC rfl rfl ?_
       refine AIm ?_
       refine y19 _ _ ?_
       refine k18 _ _ ?_
       refine AIh ?_
       refine AL IC 2 [(13,.int .i64 ((i:Int))),(14,.int .i64 (((i+1:Nat):Int)))]
        ⟨ym r5,Cm r6 (fun _=>C4 (by rw[A1 (by omega) (by omega)];omega)),AIo⟩ fun a28 w28 g28 Jg=>?_
       have LO:=AA g27 g28
       refine Aa (v:=.int .i64 (((i+1:Nat):Int))) Jg r6 fun a29 CI=>?_
       refine AE ?_
       replace AY:=AC LO AY
       replace hr:=hr.kn LO
       replace HG:=AA HG LO
       exact⟨⟨i+1,by omega,fun k hk=>if e:k=i then (by rw[e,hchk];exact hok) else hb k (by omega),⟨CI.1,CI.2.1,CI.2.2.1,(AK (AK (AK (AK CI)))).2.2.2.2.2.2.2.1,(AK (AK (AK (AK (AK CI))))).1,(AK (AK (AK (AK (AK CI))))).2.1,(AK (AK (AK (AK (AK CI))))).2.2.1,(AK (AK (AK (AK (AK CI))))).2.2.2.1,(AK (AK (AK (AK (AK CI))))).2.2.2.2.1,AIo⟩,HG,AY,hr⟩,by rw[show _=_ from CI.2.2.1,show _=_ from DE.2.2.1];simp[intOf];omega⟩
     · refine Cv FH [(15,pk B3 64),(16,.slice ao ks.length cap),(17,.int .i64 ((i:Int))),(18,pk ((bO ao)) (oO ao+i*33)),(19,pk ((bO ao)) (oO ao+i*33+32)),(20,.agg #[VK.s x]),(21,.bool false),(22,.bool true),(23,.bool true),(24,undef),(25,undef),(26,undef),(27,undef),(28,undef),(29,undef),(30,undef),(31,undef),(32,undef),(33,undef),(34,undef),(35,undef),(36,undef),(37,undef),(38,undef),(39,undef),(40,undef),(41,undef),(42,undef),(43,.bool true)]
        ⟨yf r6 (fun _=>by kernel_rfl),yp (i:=2) r6 (Dn (.slice ao ks.length cap) rfl) AY rfl (by simp[AI,AQ,hsa.1,hpo.1]),ym r5,BD rq8 (fun w=>CM Tryz.underlying34 (by kernel_rfl) (hr.1.1) (by omega) (rfl) w),yf r6 (fun _=>by kernel_rfl),Bv r6 (fun _ g=>Ae (Yz (VK.s x) rfl) (RdK.treeX (hr.kn g) rfl hi hx_x)),Ad [.agg #[VK.s x]] Tryz.func87 (by kernel_rfl) rq4 ⟨(oy rfl rfl),AIo⟩ (Aq fun W g=>ER hv ((hr.kn g).kt hi hx_x)),Cn r6 (fun _=>BV),ym r5,AX r6,AX r6,AX r6,A2 ⟨26,rfl,rfl,fun _ _ h=>h⟩ rfl (fun _=>rfl),A2 ⟨26,rfl,rfl,fun _ _ h=>h⟩ rfl (fun _=>rfl),A2 ⟨26,rfl,rfl,fun _ _ h=>h⟩ rfl (fun _=>rfl),A2 ⟨26,rfl,rfl,fun _ _ h=>h⟩ rfl (fun _=>rfl),A2 ⟨26,rfl,rfl,fun _ _ h=>h⟩ rfl (fun _=>rfl),A2 ⟨26,rfl,rfl,fun _ _ h=>h⟩ rfl (fun _=>rfl),A2 ⟨26,rfl,rfl,fun _ _ h=>h⟩ rfl (fun _=>rfl),A2 ⟨26,rfl,rfl,fun _ _ h=>h⟩ rfl (fun _=>rfl),A2 ⟨26,rfl,rfl,fun _ _ h=>h⟩ rfl (fun _=>rfl),A2 ⟨26,rfl,rfl,fun _ _ h=>h⟩ rfl (fun _=>rfl),A2 ⟨26,rfl,rfl,fun _ _ h=>h⟩ rfl (fun _=>rfl),A2 ⟨26,rfl,rfl,fun _ _ h=>h⟩ rfl (fun _=>rfl),A2 ⟨26,rfl,rfl,fun _ _ h=>h⟩ rfl (fun _=>rfl),A2 ⟨26,rfl,rfl,fun _ _ h=>h⟩ rfl (fun _=>rfl),A2 ⟨26,rfl,rfl,fun _ _ h=>h⟩ rfl (fun _=>rfl),AX r6,B6 r7,AIo⟩ fun a30 w30 g30 EQ=>?_
       refine k20 _ _ ?_
       refine Ap EQ rfl rfl ?_
       refine AIi fun K31 k31=>?_
       refine AIh ?_
       refine Aa (v:=.bool false) EQ r6 fun a32 Bc=>?_
       refine AE ?_
       refine k31 _ _ ?_
       replace AY:=AC g30 AY
       replace hr:=hr.kn g30
       replace HG:=AA HG g30
       refine AIl ?_
       repeat refine AM ?_
       refine r19 _ _ ?_
       repeat refine AM ?_
       refine r13 _ _ ?_
       repeat refine AM ?_
       refine A8 (fn:=Tryz.f40) Bc (A7 (p:=2) Tryz.results40 Bc rfl rfl) ?_
       exact⟨GL ((Hp (i:=i) (by rw[hmap];exact hi) (by rw[hchk];simp[hv,hc,Nat.ne_of_gt hz])).symm),HG⟩
     · refine Cv FH [(15,pk B3 64),(16,.slice ao ks.length cap),(17,.int .i64 ((i:Int))),(18,pk ((bO ao)) (oO ao+i*33)),(19,pk ((bO ao)) (oO ao+i*33+32)),(20,.agg #[VK.s x]),(21,.bool true),(22,.bool false),(23,.bool false),(24,.int .i64 ((i:Int))),(25,.bool true),(26,.bool true),(27,pk B3 64),(28,.slice ao ks.length cap),(29,.int .i64 ((i:Int))),(30,.int .i64 (((i-1:Nat):Int))),(31,pk ((bO ao)) (oO ao+(i-1)*33)),(32,pk ((bO ao)) (oO ao+(i-1)*33)),(33,AO y.o),(34,pk B3 64),(35,.slice ao ks.length cap),(36,.int .i64 ((i:Int))),(37,pk ((bO ao)) (oO ao+i*33)),(38,pk ((bO ao)) (oO ao+i*33)),(39,AO x.o),(40,.bool false),(41,.bool true),(42,.bool true),(43,.bool true)]
        ⟨yf r6 (fun _=>by kernel_rfl),yp (i:=2) r6 (Dn (.slice ao ks.length cap) rfl) AY rfl (by simp[AI,AQ,hsa.1,hpo.1]),ym r5,BD rq8 (fun w=>CM Tryz.underlying34 (by kernel_rfl) (hr.1.1) (by omega) (rfl) w),yf r6 (fun _=>by kernel_rfl),Bv r6 (fun _ g=>Ae (Yz (VK.s x) rfl) (RdK.treeX (hr.kn g) rfl hi hx_x)),Ad [.agg #[VK.s x]] Tryz.func87 (by kernel_rfl) rq4 ⟨(oy rfl rfl),AIo⟩ (Aq fun W g=>ER hv ((hr.kn g).kt hi hx_x)),Cn r6 (fun _=>BV),ym r5,Av rq8,BA rq9 (fun _=>Cp (by simp;omega)),Av rq8,BL rq9 (fun _=>by kernel_rfl),Az rq9 (fun _ g=>Ae (Dn (.slice ao ks.length cap) rfl) (BR (L:=[bv sa,bv po,[.slice ao ks.length cap]]) (i:=2) (AF g AY (by simp)) rfl (by simp[AI,AQ,hsa.1,hpo.1]))),Av rq8,BA rq9 (fun _=>FG (by rw[A1 (by omega) (by omega)];omega)),Ce rfl rfl (gy rfl rfl rfl) (oy rfl rfl) (oy rfl rfl) (fun w=>CM Tryz.underlying34 (by kernel_rfl) (hr.1.1) (by omega) (rfl) w) (fun _=>rfl),BL rq9 (fun _=>by kernel_rfl),Az rq9 (fun _ g=>Ae (Bn y.o y.ho.1) (RdK.ownerX (hr.kn g) rfl hp hx_y)),BL rq9 (fun _=>by kernel_rfl),Az rq9 (fun _ g=>Ae (Dn (.slice ao ks.length cap) rfl) (BR (L:=[bv sa,bv po,[.slice ao ks.length cap]]) (i:=2) (AF g AY (by simp)) rfl (by simp[AI,AQ,hsa.1,hpo.1]))),Av rq8,Ce rfl rfl (gy rfl rfl rfl) (oy rfl rfl) (oy rfl rfl) (fun w=>CM Tryz.underlying34 (by kernel_rfl) (hr.1.1) (by omega) (rfl) w) (fun _=>rfl),BL rq9 (fun _=>by kernel_rfl),Az rq9 (fun _ g=>Ae (Bn x.o x.ho.1) (RdK.ownerX (hr.kn g) rfl hi hx_x)),CG [AO y.o,AO x.o] Tryz.func86 (by kernel_rfl) r7 ⟨(oy rfl rfl),(oy rfl rfl),AIo⟩ (Aq fun W g=>LP hc y.ho x.ho W),IT rfl rfl (gy rfl rfl rfl) (oy rfl rfl) (fun _=>BV) (fun _=>rfl),Hm rfl rfl (gy rfl rfl rfl) (oy rfl rfl) (oy rfl rfl) (fun _=>rfl),A3 rq9,AIo⟩ fun a33 w33 g33 JN=>?_
       refine k20 _ _ ?_
       refine Ap JN rfl rfl ?_
       refine AIi fun K34 k34=>?_
       refine AIh ?_
       refine Aa (v:=.bool false) JN r6 fun a35 Kh=>?_
       refine AE ?_
       refine k34 _ _ ?_
       replace AY:=AC g33 AY
       replace hr:=hr.kn g33
       replace HG:=AA HG g33
       refine AIl ?_
       repeat refine AM ?_
       refine r19 _ _ ?_
       repeat refine AM ?_
       refine r13 _ _ ?_
       repeat refine AM ?_
       refine A8 (fn:=Tryz.f40) Kh (A7 (p:=2) Tryz.results40 Kh rfl rfl) ?_
       exact⟨GL ((Hp (i:=i) (by rw[hmap];exact hi) (by rw[hchk];simp[hv,hc,Nat.ne_of_gt hz])).symm),HG⟩
     · refine Cv FH [(15,pk B3 64),(16,.slice ao ks.length cap),(17,.int .i64 ((i:Int))),(18,pk ((bO ao)) (oO ao+i*33)),(19,pk ((bO ao)) (oO ao+i*33+32)),(20,.agg #[VK.s x]),(21,.bool false),(22,.bool true),(23,.bool true),(24,undef),(25,undef),(26,undef),(27,undef),(28,undef),(29,undef),(30,undef),(31,undef),(32,undef),(33,undef),(34,undef),(35,undef),(36,undef),(37,undef),(38,undef),(39,undef),(40,undef),(41,undef),(42,undef),(43,.bool true)]
        ⟨yf r6 (fun _=>by kernel_rfl),yp (i:=2) r6 (Dn (.slice ao ks.length cap) rfl) AY rfl (by simp[AI,AQ,hsa.1,hpo.1]),ym r5,BD rq8 (fun w=>CM Tryz.underlying34 (by kernel_rfl) (hr.1.1) (by omega) (rfl) w),yf r6 (fun _=>by kernel_rfl),Bv r6 (fun _ g=>Ae (Yz (VK.s x) rfl) (RdK.treeX (hr.kn g) rfl hi hx_x)),Ad [.agg #[VK.s x]] Tryz.func87 (by kernel_rfl) rq4 ⟨(oy rfl rfl),AIo⟩ (Aq fun W g=>ER hv ((hr.kn g).kt hi hx_x)),Cn r6 (fun _=>BV),ym r5,AX r6,AX r6,AX r6,A2 ⟨26,rfl,rfl,fun _ _ h=>h⟩ rfl (fun _=>rfl),A2 ⟨26,rfl,rfl,fun _ _ h=>h⟩ rfl (fun _=>rfl),A2 ⟨26,rfl,rfl,fun _ _ h=>h⟩ rfl (fun _=>rfl),A2 ⟨26,rfl,rfl,fun _ _ h=>h⟩ rfl (fun _=>rfl),A2 ⟨26,rfl,rfl,fun _ _ h=>h⟩ rfl (fun _=>rfl),A2 ⟨26,rfl,rfl,fun _ _ h=>h⟩ rfl (fun _=>rfl),A2 ⟨26,rfl,rfl,fun _ _ h=>h⟩ rfl (fun _=>rfl),A2 ⟨26,rfl,rfl,fun _ _ h=>h⟩ rfl (fun _=>rfl),A2 ⟨26,rfl,rfl,fun _ _ h=>h⟩ rfl (fun _=>rfl),A2 ⟨26,rfl,rfl,fun _ _ h=>h⟩ rfl (fun _=>rfl),A2 ⟨26,rfl,rfl,fun _ _ h=>h⟩ rfl (fun _=>rfl),A2 ⟨26,rfl,rfl,fun _ _ h=>h⟩ rfl (fun _=>rfl),A2 ⟨26,rfl,rfl,fun _ _ h=>h⟩ rfl (fun _=>rfl),A2 ⟨26,rfl,rfl,fun _ _ h=>h⟩ rfl (fun _=>rfl),A2 ⟨26,rfl,rfl,fun _ _ h=>h⟩ rfl (fun _=>rfl),AX r6,B6 r7,AIo⟩ fun a36 w36 g36 FQ=>?_
       refine k20 _ _ ?_
       refine Ap FQ rfl rfl ?_
       refine AIi fun K37 k37=>?_
       refine AIh ?_
       refine Aa (v:=.bool false) FQ r6 fun a38 WX=>?_
       refine AE ?_
       refine k37 _ _ ?_
       replace AY:=AC g36 AY
       replace HG:=AA HG g36
       refine AIl ?_
       repeat refine AM ?_
       refine r19 _ _ ?_
       repeat refine AM ?_
       refine r13 _ _ ?_
       repeat refine AM ?_
       refine A8 (fn:=Tryz.f40) WX (A7 (p:=2) Tryz.results40 WX rfl rfl) ?_
       exact⟨GL ((Hp (i:=i) (by rw[hmap];exact hi) (by rw[hchk];simp[hv,hc,Nat.ne_of_gt hz])).symm),HG⟩
   · refine AIh ?_
     refine AL DE 5 [(8,.int .i64 ((i:Int))),(9,pk B3 64),(10,.slice ao ks.length cap),(11,.int .i64 ((ks.length:Nat))),(12,.bool false)]
       ⟨ym r5,yf r6 (fun _=>by kernel_rfl),yp (i:=2) r6 (Dn (.slice ao ks.length cap) rfl) AY rfl (by simp[AI,AQ,hsa.1,hpo.1]),Bk (Tryz.underlying34) rfl rfl trivial (oy rfl rfl) (fun _=>rfl),Hl r7 (fun _=>Ba (by simp;omega)),AIo⟩ fun a39 w39 g39 Jh=>?_
     refine AE ?_
     refine k16 _ _ ?_
     refine Au Jh rfl rfl ?_
     refine wp_exit ?_
     repeat refine CD ?_
     refine x13 _ _ ?_
     refine k10 _ _ ?_
     refine AIi fun K40 k40=>?_
     refine AIh ?_
     refine Aa (v:=.bool true) Jh r6 fun a41 JP=>?_
     refine AE ?_
     refine k40 _ _ ?_
     replace HG:=AA HG g39
     refine AIl ?_
     repeat refine AM ?_
     refine A8 (fn:=Tryz.f40) JP (A7 (p:=2) Tryz.results40 JP rfl rfl) ?_
     exact⟨GL ((UX (by omega) fun k hk=>hb k (by omega)).symm),HG⟩
end Go.Proofs.YtbfjfnbcmojpiaaGreat
