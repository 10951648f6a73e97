import Derived.Test.YtbfjfnbcmojpiaaGreatDaV3
set_option linter.unusedSimpArgs false
set_option linter.unusedVariables false
set_option maxRecDepth 100000
set_option maxHeartbeats 4000000
namespace Go.Proofs.YtbfjfnbcmojpiaaGreat
open Go.RowKit Go.Shelf
theorem Ch {P:Program} {f:Nat} {fn:Func} {c:Code} (hf:P.funcs[f]?=some fn) (hname:(fn.name == "runtime.NumGoroutine")=false) (hb:fn.body=some c) (cap:Array Value) (w:World) :
  (invoke (.fn (.func f) cap) #[]).run P w=.ok (.enter f cap) w:=by
 have h1:fn.name≠"runtime.NumGoroutine":=by simpa using hname
 simp[invoke,callFunc,hf,h1,hb]
theorem Pq (w:World):CallsD Tryz.prog 65 #[] .returning w fun e u' w'=>e=.returned (.tuple #[])∧u'=.returning∧w'=w:=by
 refine callsD_of_wpS Tryz.func65 rfl fun c₀ cs hu=>?_
 apply wpS_region
 simp[wpOpsS,go_sem,recoverD,hu,Tryz.ntmps65]
 cases c₀
 simp_all [bodyPostS,results,Tryz.results65]
theorem Dr (w:World):CallsD Tryz.prog 95 #[] .returning w fun e u' w'=>e=.returned (.tuple #[])∧u'=.returning∧w'=w:=by
 refine callsD_of_wpS Tryz.func95 rfl fun c₀ cs hu=>?_
 apply wpS_region
 simp[wpOpsS,go_sem,recoverD,hu,Tryz.ntmps95]
 cases c₀
 simp_all [bodyPostS,results,Tryz.results95]
theorem Hw (p q:Value) (w:World):CallsD Tryz.prog 81 #[p,q] .returning w fun e u' w'=>e=.returned (.tuple #[])∧u'=.returning∧w'=w:=by
 refine callsD_of_wpS Tryz.func81 rfl fun c₀ cs hu=>?_
 apply wpS_seq
 apply wpS_region
 simp[wpOpsS,go_sem,recoverD,hu,Tryz.ntmps81,Exit.thenS]
 refine wpS_cond (t:=false) (by simp[Act.eval,Array.replicate]) ?_
 simp only[Bool.false_eq_true,if_false]
 refine wpS_of_wp (AOU ?_)
 cases c₀
 simp_all [bodyPostS,results,Tryz.results81]
theorem KY (p q:Value) (w:World):CallsD Tryz.prog 77 #[p,q] .returning w fun e u' w'=>e=.returned (.tuple #[])∧u'=.returning∧w'=w:=by
 refine callsD_of_wpS Tryz.func77 rfl fun c₀ cs hu=>?_
 apply wpS_seq
 apply wpS_region
 simp[wpOpsS,go_sem,recoverD,hu,Tryz.ntmps77,Exit.thenS]
 refine wpS_cond (t:=false) (by simp[Act.eval,Array.replicate]) ?_
 simp only[Bool.false_eq_true,if_false]
 refine wpS_of_wp (AOU ?_)
 cases c₀
 simp_all [bodyPostS,results,Tryz.results77]
theorem KZ {w:World} {s:Value} {l:List Nd} {b:Bool} (hb:I1 l=b) (h:RdT w s l):Calls Tryz.prog 97 #[.agg #[s]] w fun e w'=>e=.returned (.bool b)∧w.grownBy w' none:=hb▸ACl h
theorem GB {w:World} {s:Value} {l:List Nd} {b:Bool} (hb:I1 l=b) (h:RdT w s l):Calls Tryz.prog 87 #[.agg #[s]] w fun e w'=>e=.returned (.bool b)∧w.grownBy w' none:=hb▸Zv h
theorem E6 {a b:Bool} (h:a=b):Ending.returned (.bool a)=Ending.returned (.bool b):=by rw[h]
theorem AMV {a b:Int} (h:a=b):Ending.returned (.int .i64 a)=Ending.returned (.int .i64 b):=by rw[h]
theorem RdK.kt {w:World} {v:Value} {ks:List VK} (h:RdK w v ks) {j:Nat} (hj:j<ks.length) {x:VK} (hx:ks[j]=x):RdT w x.s x.l:=h.2 x (hx▸List.getElem_mem hj)
theorem AKi {ks:List VK} {i:Nat} {x y:VK} (hi:i<ks.length) (hp:i-1<ks.length) (hx:ks[i]=x) (hy:ks[i-1]=y):chk (ks.map VK.p) i=((decide (i=0)||E5 y.o x.o)&&I1 x.l):=by
 unfold chk
 rw[SP hi,SP hp,XQ hi,hx,hy]
theorem AFc (ks:List VK) (ao:Option Addr) (cap:Nat) (sa po:List Nat) (hsa:Dg sa) (hpo:Dg po) (o:List Nat) (ho:Dg o) (w:World) (hr:RdK w (.slice ao ks.length cap) ks) (hs:Srt (ks.map VK.p)) (h64:ks.length≤64) :
  Calls Tryz.prog 71 #[Ay sa po (.slice ao ks.length cap),AQ o] w fun e w'=>e=.returned (.tuple #[.int .i64 (pos (ks.map VK.p) o),.bool (Ly (ks.map VK.p) o)])∧w.grownBy w' none:=by
 refine BV Tryz.func71 rfl Tryz.ntmps71 rfl fun a0 sv0=>?_
 have HG:=World.grownBy.refl w none
 replace sv0:Sv 12 [] [(0,Ay sa po (.slice ao ks.length cap)),(1,AQ o)] a0:=sv0
 refine AOQ fun K1 k1=>?_
 refine AOP ?_
 refine Bi sv0 r6 (B6 hsa hpo (.slice ao ks.length cap) rfl) fun a2 w2 Cp Dt g2 z2 AJ sv2=>?_
 refine Bi sv2 r6 (Bb o ho.1) fun a3 w3 Bn Fh g3 z3 AI sv3=>?_
 replace AJ:=AC g3 AJ
 replace hr:=(hr.kn g2).kn g3
 refine AS (v:=.int .i64 0) sv3 r6 fun a4 sv4=>?_
 refine AS (v:=.bool false) sv4 r6 fun a5 sv5=>?_
 refine AD ?_
 refine k1 _ _ ?_
 refine AOQ fun K6 k6=>?_
 refine AOP ?_
 refine AH sv5 6 [(6,pk Cp 64),(7,.slice ao ks.length cap),(8,AQ o),(9,.tuple #[.int .i64 ((pos (ks.map VK.p) o:Int)),.bool (Ly (ks.map VK.p) o)]),(10,.int .i64 ((pos (ks.map VK.p) o:Int))),(11,.bool (Ly (ks.map VK.p) o))]
  ⟨yf r6 (fun _=>by kernel_rfl),yp (i:=2) r6 (FP (.slice ao ks.length cap) rfl) AJ rfl (by simp[AO,Af,hsa.1,hpo.1]),yl r6 (Bb o ho.1) AI,Ag [.slice ao ks.length cap,AQ o,.func (.func 96) #[] #[]] Tryz.func113 (by kernel_rfl) rq4 ⟨(oy rfl rfl),(oy rfl rfl),rfl,AOW⟩ (A1 fun W g=>XS ks ao cap o ho W (hr.kn g) hs h64),Bh rq4 (fun _ _ h=>⟨_,_,h,rfl,rfl⟩),Bh rq4 (fun _ _ h=>⟨_,_,h,rfl,rfl⟩),AOW⟩ fun a7 w7 g7 sv7=>?_
 refine AS (v:=.int .i64 ((pos (ks.map VK.p) o:Int))) sv7 r6 fun a8 sv8=>?_
 refine AS (v:=.bool (Ly (ks.map VK.p) o)) sv8 r6 fun a9 sv9=>?_
 have Bt:Sv _ _ [_,_,_,_] _:=sv9.dl [6,7,8,9,10,11,3,2]
 refine AD ?_
 refine k6 _ _ ?_
 replace HG:=AA (AA (AA HG g2) g3) g7
 refine AOT ?_
 repeat refine AM ?_
 refine Ap (fn:=Tryz.f71) Bt (Ou (p:=4) (q:=5) Tryz.results71 Bt rfl rfl rfl rfl) ?_
 exact⟨rfl,HG⟩
theorem AJf (ks:List VK) (ao:Option Addr) (cap:Nat) (sa po:List Nat) (hsa:Dg sa) (hpo:Dg po) (o:List Nat) (ho:Dg o) (w:World) (hr:RdK w (.slice ao ks.length cap) ks) (hs:Srt (ks.map VK.p)) :
   Calls Tryz.prog 84 #[Ay sa po (.slice ao ks.length cap),AQ o] w fun e w'=>e=.returned (.int .i64 (atV (ks.map VK.p) o))∧w.grownBy w' none:=by
 have hlen:=hr.len
 have hmap:(ks.map VK.p).length=ks.length:=List.length_map _
 refine BV Tryz.func84 rfl Tryz.ntmps84 rfl fun a0 sv0=>?_
 have HG:=World.grownBy.refl w none
 replace sv0:Sv 22 [] [(0,Ay sa po (.slice ao ks.length cap)),(1,AQ o)] a0:=sv0
 refine AOQ fun K1 k1=>?_
 refine AOP ?_
 refine Bi sv0 r6 (B6 hsa hpo (.slice ao ks.length cap) rfl) fun a2 w2 Cp Dt g2 z2 AJ sv2=>?_
 refine Bi sv2 r6 (Bb o ho.1) fun a3 w3 Bn Fh g3 z3 AI sv3=>?_
 replace AJ:=AC g3 AJ
 replace hr:=(hr.kn g2).kn g3
 replace HG:=AA (AA HG g2) g3
 refine AS (v:=.int .i64 0) sv3 r6 fun a4 sv4=>?_
 refine AD ?_
 refine k1 _ _ ?_
 refine AOQ fun K5 k5=>?_
 refine AOQ fun K6 k6=>?_
 refine AOP ?_
 refine AS (v:=.int .i64 0) sv4 r6 fun a7 sv7=>?_
 refine AD ?_
 refine k6 _ _ ?_
 refine BH fun Q8 x8 y8 r8 o8=>?_
 refine wp_loop (fun a w'=>∃(i:Nat),(i≤ks.length)∧(∀k,k<i→od (ks.map VK.p) k≠o)∧Sv 22 [] [(5,.int .i64 ((i:Int))),(3,pt Bn),(2,pt Cp),(0,Ay sa po (.slice ao ks.length cap)),(1,AQ o)] a∧w.grownBy w' none∧w'.heap[Cp]?=some (.cells ([bv sa,bv po,[.slice ao ks.length cap]].flatten).toArray 36 (0,0))∧w'.heap[Bn]?=some (.cells (bv o).toArray 23 (0,0))∧RdK w' (.slice ao ks.length cap) ks) (fun a _=>(ks.length-intOf (a.tmps.getD 5 undef)).toNat) ⟨0,Nat.zero_le _,fun k hk=>by omega,⟨sv7.1,sv7.2.1,sv7.2.2.1,sv7.2.2.2.2.1,sv7.2.2.2.2.2.1,sv7.2.2.2.2.2.2.1,sv7.2.2.2.2.2.2.2.1,AOW⟩,HG,AJ,AI,hr⟩ fun a9 w9 hI9=>?_
 clear AJ
 clear AI
 clear hr
 clear HG
 obtain⟨i,hin,hb,sv9,HG,AJ,AI,hr⟩:=hI9
 refine AOQ fun K10 k10=>?_
 refine AOQ fun K11 k11=>?_
 by_cases hi:i<ks.length
 · obtain⟨x,hx_x⟩:∃x,ks[i]'hi=x:=⟨_,rfl⟩
   have hod:od (ks.map VK.p) i=x.o:=by rw[SP hi,hx_x]
   refine AOP ?_
   refine AH sv9 5 [(6,.int .i64 ((i:Int))),(7,pk Cp 64),(8,.slice ao ks.length cap),(9,.int .i64 ((ks.length:Nat))),(10,.bool true)]
     ⟨ym r5,yf r6 (fun _=>by kernel_rfl),yp (i:=2) r6 (FP (.slice ao ks.length cap) rfl) AJ rfl (by simp[AO,Af,hsa.1,hpo.1]),BJ (Tryz.underlying34) rfl rfl trivial (oy rfl rfl) (fun _=>rfl),Fg r7 (fun _=>BR (by simp;omega)),AOW⟩ fun a12 w12 g12 DF=>?_
   refine AD ?_
   refine k11 _ _ ?_
   refine Am DF rfl rfl ?_
   refine AOU ?_
   refine k10 _ _ ?_
   refine AOQ fun K13 k13=>?_
   refine BH fun Q14 x14 y14 r14 o14=>?_
   refine AOQ fun K15 k15=>?_
   replace AJ:=AC g12 AJ
   replace AI:=AC g12 AI
   replace hr:=hr.kn g12
   replace HG:=AA HG g12
   by_cases heq:x.o=o
   · have hyes:=Ol hs (by omega) (hod.trans heq)
     refine Dx DF [(13,pk Cp 64),(14,.slice ao ks.length cap),(15,.int .i64 ((i:Int))),(16,pk ((bO ao)) (oO ao+i*33)),(17,pk ((bO ao)) (oO ao+i*33)),(18,AQ x.o),(19,AQ o),(20,.bool true)]
      ⟨yf r6 (fun _=>by kernel_rfl),yp (i:=2) r6 (FP (.slice ao ks.length cap) rfl) AJ rfl (by simp[AO,Af,hsa.1,hpo.1]),ym r5,BD rq8 (fun w=>CF Tryz.underlying34 (by kernel_rfl) (hr.1.1) (by omega) (rfl) w),yf r6 (fun _=>by kernel_rfl),Bj r6 (fun _ g=>Ad (Bb x.o x.ho.1) (RdK.ownerX (hr.kn g) rfl hi hx_x)),yl r6 (Bb o ho.1) AI,Fg r7 (fun _=>(Ff x.ho ho _ _ _).1.trans (by rw[decide_eq_true (heq)])),AOW⟩ fun a16 w16 g16 DG=>?_
     refine k15 _ _ ?_
     refine Am DG rfl rfl ?_
     refine AOQ fun K17 k17=>?_
     refine AOP ?_
     refine AH DG 1 [(21,.int .i64 ((i:Int)))]
      ⟨ym r5,AOW⟩ fun a18 w18 g18 CY=>?_
     have AC0:=AA g16 g18
     refine AS (v:=.int .i64 ((i:Int))) CY r6 fun a19 Dq=>?_
     refine AD ?_
     refine k17 _ _ ?_
     replace AJ:=AC AC0 AJ
     replace AI:=AC AC0 AI
     replace hr:=hr.kn AC0
     replace HG:=AA HG AC0
     refine AOT ?_
     repeat refine AM ?_
     refine r14 _ _ ?_
     repeat refine AM ?_
     refine r8 _ _ ?_
     repeat refine AM ?_
     refine Ap (fn:=Tryz.f84) Dq (BK (p:=4) Tryz.results84 Dq rfl rfl) ?_
     exact⟨AMV (by unfold atV;rw[hyes.1,hyes.2];rfl),HG⟩
   · have hne:=heq
     refine Dx DF [(13,pk Cp 64),(14,.slice ao ks.length cap),(15,.int .i64 ((i:Int))),(16,pk ((bO ao)) (oO ao+i*33)),(17,pk ((bO ao)) (oO ao+i*33)),(18,AQ x.o),(19,AQ o),(20,.bool false)]
      ⟨yf r6 (fun _=>by kernel_rfl),yp (i:=2) r6 (FP (.slice ao ks.length cap) rfl) AJ rfl (by simp[AO,Af,hsa.1,hpo.1]),ym r5,BD rq8 (fun w=>CF Tryz.underlying34 (by kernel_rfl) (hr.1.1) (by omega) (rfl) w),yf r6 (fun _=>by kernel_rfl),Bj r6 (fun _ g=>Ad (Bb x.o x.ho.1) (RdK.ownerX (hr.kn g) rfl hi hx_x)),yl r6 (Bb o ho.1) AI,Fg r7 (fun _=>(Ff x.ho ho _ _ _).1.trans (by rw[decide_eq_false (heq)])),AOW⟩ fun a20 w20 g20 Du=>?_
     refine k15 _ _ ?_
     refine Au Du rfl rfl ?_
     refine AOU ?_
     refine y14 _ _ ?_
     refine k13 _ _ ?_
     refine AOP ?_
     refine AH Du 2 [(11,.int .i64 ((i:Int))),(12,.int .i64 (((i+1:Nat):Int)))]
      ⟨ym r5,Ce r6 (fun _=>Dd (by rw[BT (by omega) (by omega)];omega)),AOW⟩ fun a21 w21 g21 Dl=>?_
     have AJg:=AA g20 g21
     refine AS (v:=.int .i64 (((i+1:Nat):Int))) Dl r6 fun a22 B7=>?_
     refine AD ?_
     replace AJ:=AC AJg AJ
     replace AI:=AC AJg AI
     replace hr:=hr.kn AJg
     replace HG:=AA HG AJg
     exact⟨⟨i+1,by omega,fun k hk=>if e:k=i then (by rw[e,hod];exact hne) else hb k (by omega),⟨B7.1,B7.2.1,B7.2.2.1,(AG (AG B7)).2.2.1,(AG (AG B7)).2.2.2.1,(AG (AG B7)).2.2.2.2.1,(AG (AG B7)).2.2.2.2.2.1,AOW⟩,HG,AJ,AI,hr⟩,by rw[show _=_ from B7.2.2.1,show _=_ from sv9.2.2.1];simp[intOf];omega⟩
 · have hno:Ly (ks.map VK.p) o=false:=ALY fun k hk=>hb k (by omega)
   refine AOP ?_
   refine AH sv9 5 [(6,.int .i64 ((i:Int))),(7,pk Cp 64),(8,.slice ao ks.length cap),(9,.int .i64 ((ks.length:Nat))),(10,.bool false)]
     ⟨ym r5,yf r6 (fun _=>by kernel_rfl),yp (i:=2) r6 (FP (.slice ao ks.length cap) rfl) AJ rfl (by simp[AO,Af,hsa.1,hpo.1]),BJ (Tryz.underlying34) rfl rfl trivial (oy rfl rfl) (fun _=>rfl),Fg r7 (fun _=>BR (by simp;omega)),AOW⟩ fun a23 w23 g23 Cc=>?_
   refine AD ?_
   refine k11 _ _ ?_
   refine Au Cc rfl rfl ?_
   refine wp_exit ?_
   repeat refine CA ?_
   refine x8 _ _ ?_
   refine k5 _ _ ?_
   refine AOQ fun K24 k24=>?_
   refine AOP ?_
   refine AS (v:=.int .i64 (-1)) Cc r6 fun a25 DR=>?_
   refine AD ?_
   refine k24 _ _ ?_
   replace HG:=AA HG g23
   refine AOT ?_
   repeat refine AM ?_
   refine Ap (fn:=Tryz.f84) DR (BK (p:=4) Tryz.results84 DR rfl rfl) ?_
   exact⟨AMV (by unfold atV;rw[hno];rfl),HG⟩
theorem Jz {x y:List Nat} {b:Bool} (hb:E5 x y=b) (hx:Dg x) (hy:Dg y) (w:World):Calls Tryz.prog 86 #[AQ x,AQ y] w fun e w'=>e=.returned (.bool b)∧w.grownBy w' none:=hb▸AFb x y hx hy w
theorem AAM (ks:List VK) (ao:Option Addr) (cap:Nat) (sa po:List Nat) (hsa:Dg sa) (hpo:Dg po) (w:World) (hr:RdK w (.slice ao ks.length cap) ks) :
   Calls Tryz.prog 51 #[Ay sa po (.slice ao ks.length cap)] w fun e w'=>e=.returned (.bool (Co (ks.map VK.p)))∧w.grownBy w' none:=by
 have hlen:=hr.len
 have hmap:(ks.map VK.p).length=ks.length:=List.length_map _
 refine FY Tryz.func51 rfl Tryz.ntmps51 rfl fun a0 sv0=>?_
 have HG:=World.grownBy.refl w none
 replace sv0:Sv 38 [] [(0,Ay sa po (.slice ao ks.length cap))] a0:=sv0
 refine AOQ fun K1 k1=>?_
 refine AOP ?_
 refine Bi sv0 r6 (B6 hsa hpo (.slice ao ks.length cap) rfl) fun a2 w2 B8 Gx g2 z2 Ac sv2=>?_
 replace hr:=hr.kn g2
 replace HG:=AA HG g2
 refine AS (v:=.bool false) sv2 r6 fun a3 sv3=>?_
 refine AD ?_
 refine k1 _ _ ?_
 refine AOQ fun K4 k4=>?_
 refine AOP ?_
 refine Gh sv3 rfl (dd:={ target:=.fn (.func 95) #[],args:=#[] }) rfl (by simp[execOp,resolve,Deferred.ofValue];try rfl) fun a5 sv5=>?_
 refine AD ?_
 refine k4 _ _ ?_
 refine AOQ fun K6 k6=>?_
 refine AOQ fun K7 k7=>?_
 by_cases hbig:64<ks.length
 · refine AOP ?_
   refine AH sv5 4 [(5,pk B8 64),(6,.slice ao ks.length cap),(7,.int .i64 ((ks.length:Nat))),(8,.bool true)]
     ⟨yf r6 (fun _=>by kernel_rfl),yp (i:=2) r6 (FP (.slice ao ks.length cap) rfl) Ac rfl (by simp[AO,Af,hsa.1,hpo.1]),BJ (Tryz.underlying34) rfl rfl trivial (oy rfl rfl) (fun _=>rfl),Ce r6 (fun _=>C3 (by simp;omega)),AOW⟩ fun a8 w8 g8 sv8=>?_
   refine AD ?_
   refine k7 _ _ ?_
   refine Am sv8 rfl rfl ?_
   refine AOQ fun K9 k9=>?_
   refine AOP ?_
   refine AS (v:=.bool false) sv8 r6 fun a10 Bt=>?_
   refine AD ?_
   refine k9 _ _ ?_
   replace Ac:=AC g8 Ac
   replace hr:=hr.kn g8
   replace HG:=AA HG g8
   refine AOT ?_
   repeat refine AM ?_
   refine Bz (fn:=Tryz.f51) Bt (BK (p:=2) Tryz.results51 Bt rfl rfl) (Ch Tryz.func95 (by kernel_rfl) rfl _ _) (Dr _) ?_
   exact⟨E6 ((AAN (by omega)).symm),HG⟩
 · refine AOP ?_
   refine AH sv5 4 [(5,pk B8 64),(6,.slice ao ks.length cap),(7,.int .i64 ((ks.length:Nat))),(8,.bool false)]
     ⟨yf r6 (fun _=>by kernel_rfl),yp (i:=2) r6 (FP (.slice ao ks.length cap) rfl) Ac rfl (by simp[AO,Af,hsa.1,hpo.1]),BJ (Tryz.underlying34) rfl rfl trivial (oy rfl rfl) (fun _=>rfl),Ce r6 (fun _=>C3 (by simp;omega)),AOW⟩ fun a11 w11 g11 CQ=>?_
   refine AD ?_
   refine k7 _ _ ?_
   refine Au CQ rfl rfl ?_
   refine AOU ?_
   refine k6 _ _ ?_
   refine AOQ fun K12 k12=>?_
   refine AOQ fun K13 k13=>?_
   refine AOP ?_
   refine AH CQ 4 [(9,pk B8 64),(10,.slice ao ks.length cap),(11,.int .i64 ((ks.length:Nat))),(12,.int .i64 0)]
     ⟨yf r6 (fun _=>by kernel_rfl),yp (i:=2) r6 (FP (.slice ao ks.length cap) rfl) (AC g11 Ac) rfl (by simp[AO,Af,hsa.1,hpo.1]),BJ (Tryz.underlying34) rfl rfl trivial (oy rfl rfl) (fun _=>rfl),Fw (.inl rfl) rfl trivial (fun _=>rfl),AOW⟩ fun a14 w14 g14 D1=>?_
   have AAO:=AA g11 g14
   refine AD ?_
   refine k13 _ _ ?_
   refine BH fun Q15 x15 y15 r15 o15=>?_
   replace Ac:=AC AAO Ac
   replace hr:=hr.kn AAO
   replace HG:=AA HG AAO
   refine wp_loop (fun a w'=>∃(i:Nat),(i≤ks.length)∧(∀k,k<i→chk (ks.map VK.p) k=true)∧Sv 38 [{ target:=.fn (.func 95) #[],args:=#[] }] [(12,.int .i64 ((i:Int))),(9,pk B8 64),(10,.slice ao ks.length cap),(11,.int .i64 ((ks.length:Nat))),(5,pk B8 64),(6,.slice ao ks.length cap),(7,.int .i64 ((ks.length:Nat))),(8,.bool false),(1,pt B8),(0,Ay sa po (.slice ao ks.length cap))] a∧w.grownBy w' none∧w'.heap[B8]?=some (.cells ([bv sa,bv po,[.slice ao ks.length cap]].flatten).toArray 36 (0,0))∧RdK w' (.slice ao ks.length cap) ks) (fun a _=>(ks.length-intOf (a.tmps.getD 12 undef)).toNat) ⟨0,Nat.zero_le _,fun k hk=>by omega,⟨D1.1,D1.2.1,D1.2.2.2.2.2.1,D1.2.2.1,D1.2.2.2.1,D1.2.2.2.2.1,D1.2.2.2.2.2.2.1,D1.2.2.2.2.2.2.2.1,(AG D1).1,(AG D1).2.1,(AG D1).2.2.2.1,(AG D1).2.2.2.2.1,AOW⟩,HG,Ac,hr⟩ fun a16 w16 hI16=>?_
   clear Ac
   clear hr
   clear HG
   obtain⟨i,hin,hb,DG,HG,Ac,hr⟩:=hI16
   refine AOQ fun K17 k17=>?_
   by_cases hi:i<ks.length
   · have hp:i-1<ks.length:=by omega
     obtain⟨x,hx_x⟩:∃x,ks[i]'hi=x:=⟨_,rfl⟩
     obtain⟨y,hx_y⟩:∃x,ks[(i-1)]'hp=x:=⟨_,rfl⟩
     have hchk:=AKi hi hp hx_x hx_y
     refine AOP ?_
     refine AH DG 1 [(13,.bool true)]
       ⟨Fg r7 (fun _=>BR (by simp;omega)),AOW⟩ fun a18 w18 g18 CY=>?_
     refine AD ?_
     refine k17 _ _ ?_
     refine AOQ fun K19 k19=>?_
     refine Am CY rfl rfl ?_
     refine AOU ?_
     refine k19 _ _ ?_
     refine AOQ fun K20 k20=>?_
     refine BH fun Q21 x21 y21 r21 o21=>?_
     refine AOQ fun K22 k22=>?_
     refine AOP ?_
     replace hr:=hr.kn g18
     refine AH CY 3 [(14,.int .i64 ((i:Int))),(15,pk ((bO ao)) (oO ao+i*33)),(16,JH x)]
       ⟨ym r5,BD rq8 (fun w=>CF Tryz.underlying34 (by kernel_rfl) (hr.1.1) (by omega) (rfl) w),Bj r6 (fun _ g=>Ad (XP x) (RdK.keyX (hr.kn g) rfl hi hx_x)),AOW⟩ fun a23 w23 g23 Cc=>?_
     replace Ac:=AC g23 (AC g18 Ac)
     replace hr:=hr.kn g23
     replace HG:=AA (AA HG g18) g23
     refine A9 (T:=58) (Z:=([bv AR,[.slice none 0 0]].flatten)) Cc rfl rfl rfl (fun a w=>by kernel_rfl) fun a24 w24 QU SR g24 z24 Eg EN=>?_
     have Ua:=Ao Ac SR
     have AHW:=Bq HG SR
     have AAP:=Aw (hr.lt) SR
     refine AS (v:=.int .i64 ((i:Int))) EN r6 fun a25 DR=>?_
     refine Aq DR r7 (XP x) Eg (by first|rfl|simp[Ar,AO,Af,x.ho.1]) fun w26 g26 h26=>?_
     replace Ac:=Aa g26 (AC g24 Ac) (Ne.symm Ua)
     replace hr:=(hr.kn g24).offR g26 (AP AAP)
     replace HG:=AE (AA HG g24) g26 AHW
     replace Eg:=h26
     refine AD ?_
     refine k22 _ _ ?_
     refine AOQ fun K27 k27=>?_
     rcases(show(i=0∧I1 x.l=true)∨(i=0∧I1 x.l=false)∨(0<i∧E5 y.o x.o=true∧I1 x.l=true)∨(0<i∧E5 y.o x.o=true∧I1 x.l=false)∨(0<i∧E5 y.o x.o=false∧I1 x.l=true)∨(0<i∧E5 y.o x.o=false∧I1 x.l=false) by
        rcases Nat.eq_zero_or_pos i with h|h<;>cases h2:I1 x.l<;>cases h3:E5 y.o x.o<;>simp[h]) with ⟨hz,hv⟩|⟨hz,hv⟩|⟨hz,hc,hv⟩|⟨hz,hc,hv⟩|⟨hz,hc,hv⟩|⟨hz,hc,hv⟩
     · have hok:((decide (i=0)||E5 y.o x.o)&&I1 x.l)=true:=by simp[hz,hv]
       refine Dx DR [(17,.int .i64 ((i:Int))),(18,.bool false),(19,.bool false),(20,undef),(21,undef),(22,undef),(23,undef),(24,undef),(25,undef),(26,undef),(27,undef),(28,undef),(29,undef),(30,.bool false),(31,.bool false),(32,pk QU 32),(33,.agg #[VK.s x]),(34,.bool true),(35,.bool false),(36,.bool false)]
        ⟨ym r5,Ce r6 (fun _=>C3 (by simp;omega)),ym r5,AN r6,AN r6,AN r6,AN r6,AN r6,AN r6,AN r6,AN r6,AN r6,AN r6,BF r7,ym r5,BI rq9 (fun _=>by kernel_rfl),A8 rq9 (fun _ g=>Ad (tyT (VK.s x) rfl) (BB (L:=[bv x.o,[VK.s x]]) (i:=1) (AF g Eg (by simp)) rfl (by simp[AO,Af,x.ho.1]))),CG [.agg #[VK.s x]] Tryz.func97 (by kernel_rfl) r7 ⟨(oy rfl rfl),AOW⟩ (A1 fun W g=>KZ hv ((hr.kn g).kt hi hx_x)),I3 rfl rfl (gy rfl rfl rfl) (oy rfl rfl) (fun _=>Bf) (fun _=>rfl),Ah rq9,AOW⟩ fun a28 w28 g28 Dm=>?_
       refine k27 _ _ ?_
       refine Au Dm rfl rfl ?_
       refine AOU ?_
       refine y21 _ _ ?_
       refine k20 _ _ ?_
       refine AOP ?_
       refine AH Dm 1 [(37,.int .i64 (((i+1:Nat):Int)))]
        ⟨Ce r6 (fun _=>Dd (by rw[BT (by omega) (by omega)];omega)),AOW⟩ fun a29 w29 g29 Ck=>?_
       have La:=AA g28 g29
       refine AH (Ck.dl [12]) 1 [(12,.int .i64 (((i+1:Nat):Int)))]
        ⟨ym r5,AOW⟩ fun a30 w30 g30 EF=>?_
       have Ub:=AA La g30
       refine AD ?_
       replace Ac:=AC Ub Ac
       replace Eg:=AC Ub Eg
       replace hr:=hr.kn Ub
       replace HG:=AA HG Ub
       exact⟨⟨i+1,by omega,fun k hk=>if e:k=i then (by rw[e,hchk];exact hok) else hb k (by omega),⟨EF.1,EF.2.1,EF.2.2.1,(AG (AG (AG EF))).2.2.2.2.2.2.1,(AG (AG (AG EF))).2.2.2.2.2.2.2.1,(AG (AG (AG (AG EF)))).1,(AG (AG (AG (AG EF)))).2.1,(AG (AG (AG (AG EF)))).2.2.1,(AG (AG (AG (AG EF)))).2.2.2.1,(AG (AG (AG (AG EF)))).2.2.2.2.1,(AG (AG (AG (AG EF)))).2.2.2.2.2.1,(AG (AG (AG (AG EF)))).2.2.2.2.2.2.1,AOW⟩,HG,Ac,hr⟩,by rw[show _=_ from EF.2.2.1,show _=_ from DG.2.2.1];simp[intOf];omega⟩
     · refine Dx DR [(17,.int .i64 ((i:Int))),(18,.bool false),(19,.bool false),(20,undef),(21,undef),(22,undef),(23,undef),(24,undef),(25,undef),(26,undef),(27,undef),(28,undef),(29,undef),(30,.bool false),(31,.bool false),(32,pk QU 32),(33,.agg #[VK.s x]),(34,.bool false),(35,.bool true),(36,.bool true)]
        ⟨ym r5,Ce r6 (fun _=>C3 (by simp;omega)),ym r5,AN r6,AN r6,AN r6,AN r6,AN r6,AN r6,AN r6,AN r6,AN r6,AN r6,BF r7,ym r5,BI rq9 (fun _=>by kernel_rfl),A8 rq9 (fun _ g=>Ad (tyT (VK.s x) rfl) (BB (L:=[bv x.o,[VK.s x]]) (i:=1) (AF g Eg (by simp)) rfl (by simp[AO,Af,x.ho.1]))),CG [.agg #[VK.s x]] Tryz.func97 (by kernel_rfl) r7 ⟨(oy rfl rfl),AOW⟩ (A1 fun W g=>KZ hv ((hr.kn g).kt hi hx_x)),I3 rfl rfl (gy rfl rfl rfl) (oy rfl rfl) (fun _=>Bf) (fun _=>rfl),Ah rq9,AOW⟩ fun a31 w31 g31 IJ=>?_
       refine k27 _ _ ?_
       refine Am IJ rfl rfl ?_
       refine AOQ fun K32 k32=>?_
       refine AOP ?_
       refine AS (v:=.bool false) IJ r6 fun a33 FS=>?_
       refine AD ?_
       refine k32 _ _ ?_
       replace Ac:=AC g31 Ac
       replace Eg:=AC g31 Eg
       replace hr:=hr.kn g31
       replace HG:=AA HG g31
       refine AOT ?_
       repeat refine AM ?_
       refine r21 _ _ ?_
       repeat refine AM ?_
       refine r15 _ _ ?_
       repeat refine AM ?_
       refine Bz (fn:=Tryz.f51) FS (BK (p:=2) Tryz.results51 FS rfl rfl) (Ch Tryz.func95 (by kernel_rfl) rfl _ _) (Dr _) ?_
       exact⟨E6 ((Kg (i:=i) (by rw[hmap];exact hi) (by rw[hchk];simp[hv])).symm),HG⟩
     · have hok:((decide (i=0)||E5 y.o x.o)&&I1 x.l)=true:=by simp[hz,hv,hc]
       refine Dx DR [(17,.int .i64 ((i:Int))),(18,.bool true),(19,.bool true),(20,pk B8 64),(21,.slice ao ks.length cap),(22,.int .i64 ((i:Int))),(23,.int .i64 (((i-1:Nat):Int))),(24,pk ((bO ao)) (oO ao+(i-1)*33)),(25,JH y),(26,pt QU),(27,AQ x.o),(28,.int .i64 ((I6 y.o x.o))),(29,.bool false),(30,.bool false),(31,.bool false),(32,pk QU 32),(33,.agg #[VK.s x]),(34,.bool true),(35,.bool false),(36,.bool false)]
        ⟨ym r5,Ce r6 (fun _=>C3 (by simp;omega)),ym r5,BI rq9 (fun _=>by kernel_rfl),A8 rq9 (fun _ g=>Ad (FP (.slice ao ks.length cap) rfl) (BB (L:=[bv sa,bv po,[.slice ao ks.length cap]]) (i:=2) (AF g Ac (by simp)) rfl (by simp[AO,Af,hsa.1,hpo.1]))),Ae rq8,Ai rq9 (fun _=>GY (by rw[BT (by omega) (by omega)];omega)),Cf rfl rfl (gy rfl rfl rfl) (oy rfl rfl) (oy rfl rfl) (fun w=>CF Tryz.underlying34 (by kernel_rfl) (hr.1.1) (by omega) (rfl) w) (fun _=>rfl),A8 rq9 (fun _ g=>Ad (XP y) (RdK.keyX (hr.kn g) rfl hp hx_y)),BI rq9 (fun _=>by kernel_rfl),A8 rq9 (fun _ g=>Ad (Bb x.o x.ho.1) (BB (L:=[bv x.o,[VK.s x]]) (i:=0) (AF g Eg (by simp)) rfl rfl)),CG [JH y,AQ x.o] Tryz.func96 (by kernel_rfl) r7 ⟨(oy rfl rfl),(oy rfl rfl),AOW⟩ (A1 fun W g=>IX y x.o x.ho W),Ai rq9 (fun _=>Dp (by rw[NS,hc];rfl)),Ah rq9,ym r5,BI rq9 (fun _=>by kernel_rfl),A8 rq9 (fun _ g=>Ad (tyT (VK.s x) rfl) (BB (L:=[bv x.o,[VK.s x]]) (i:=1) (AF g Eg (by simp)) rfl (by simp[AO,Af,x.ho.1]))),CG [.agg #[VK.s x]] Tryz.func97 (by kernel_rfl) r7 ⟨(oy rfl rfl),AOW⟩ (A1 fun W g=>KZ hv ((hr.kn g).kt hi hx_x)),I3 rfl rfl (gy rfl rfl rfl) (oy rfl rfl) (fun _=>Bf) (fun _=>rfl),Ah rq9,AOW⟩ fun a34 w34 g34 DW=>?_
       refine k27 _ _ ?_
       refine Au DW rfl rfl ?_
       refine AOU ?_
       refine y21 _ _ ?_
       refine k20 _ _ ?_
       refine AOP ?_
       refine AH DW 1 [(37,.int .i64 (((i+1:Nat):Int)))]
        ⟨Ce r6 (fun _=>Dd (by rw[BT (by omega) (by omega)];omega)),AOW⟩ fun a35 w35 g35 Kw=>?_
       have ANR:=AA g34 g35
       refine AH (Kw.dl [12]) 1 [(12,.int .i64 (((i+1:Nat):Int)))]
        ⟨ym r5,AOW⟩ fun a36 w36 g36 GC=>?_
       have Ow:=AA ANR g36
       refine AD ?_
       replace Ac:=AC Ow Ac
       replace Eg:=AC Ow Eg
       replace hr:=hr.kn Ow
       replace HG:=AA HG Ow
       exact⟨⟨i+1,by omega,fun k hk=>if e:k=i then (by rw[e,hchk];exact hok) else hb k (by omega),⟨GC.1,GC.2.1,GC.2.2.1,(AG (AG (AG GC))).2.2.2.2.2.2.1,(AG (AG (AG GC))).2.2.2.2.2.2.2.1,(AG (AG (AG (AG GC)))).1,(AG (AG (AG (AG GC)))).2.1,(AG (AG (AG (AG GC)))).2.2.1,(AG (AG (AG (AG GC)))).2.2.2.1,(AG (AG (AG (AG GC)))).2.2.2.2.1,(AG (AG (AG (AG GC)))).2.2.2.2.2.1,(AG (AG (AG (AG GC)))).2.2.2.2.2.2.1,AOW⟩,HG,Ac,hr⟩,by rw[show _=_ from GC.2.2.1,show _=_ from DG.2.2.1];simp[intOf];omega⟩
     · refine Dx DR [(17,.int .i64 ((i:Int))),(18,.bool true),(19,.bool true),(20,pk B8 64),(21,.slice ao ks.length cap),(22,.int .i64 ((i:Int))),(23,.int .i64 (((i-1:Nat):Int))),(24,pk ((bO ao)) (oO ao+(i-1)*33)),(25,JH y),(26,pt QU),(27,AQ x.o),(28,.int .i64 ((I6 y.o x.o))),(29,.bool false),(30,.bool false),(31,.bool false),(32,pk QU 32),(33,.agg #[VK.s x]),(34,.bool false),(35,.bool true),(36,.bool true)]
        ⟨ym r5,Ce r6 (fun _=>C3 (by simp;omega)),ym r5,BI rq9 (fun _=>by kernel_rfl),A8 rq9 (fun _ g=>Ad (FP (.slice ao ks.length cap) rfl) (BB (L:=[bv sa,bv po,[.slice ao ks.length cap]]) (i:=2) (AF g Ac (by simp)) rfl (by simp[AO,Af,hsa.1,hpo.1]))),Ae rq8,Ai rq9 (fun _=>GY (by rw[BT (by omega) (by omega)];omega)),Cf rfl rfl (gy rfl rfl rfl) (oy rfl rfl) (oy rfl rfl) (fun w=>CF Tryz.underlying34 (by kernel_rfl) (hr.1.1) (by omega) (rfl) w) (fun _=>rfl),A8 rq9 (fun _ g=>Ad (XP y) (RdK.keyX (hr.kn g) rfl hp hx_y)),BI rq9 (fun _=>by kernel_rfl),A8 rq9 (fun _ g=>Ad (Bb x.o x.ho.1) (BB (L:=[bv x.o,[VK.s x]]) (i:=0) (AF g Eg (by simp)) rfl rfl)),CG [JH y,AQ x.o] Tryz.func96 (by kernel_rfl) r7 ⟨(oy rfl rfl),(oy rfl rfl),AOW⟩ (A1 fun W g=>IX y x.o x.ho W),Ai rq9 (fun _=>Dp (by rw[NS,hc];rfl)),Ah rq9,ym r5,BI rq9 (fun _=>by kernel_rfl),A8 rq9 (fun _ g=>Ad (tyT (VK.s x) rfl) (BB (L:=[bv x.o,[VK.s x]]) (i:=1) (AF g Eg (by simp)) rfl (by simp[AO,Af,x.ho.1]))),CG [.agg #[VK.s x]] Tryz.func97 (by kernel_rfl) r7 ⟨(oy rfl rfl),AOW⟩ (A1 fun W g=>KZ hv ((hr.kn g).kt hi hx_x)),I3 rfl rfl (gy rfl rfl rfl) (oy rfl rfl) (fun _=>Bf) (fun _=>rfl),Ah rq9,AOW⟩ fun a37 w37 g37 Gi=>?_
       refine k27 _ _ ?_
       refine Am Gi rfl rfl ?_
       refine AOQ fun K38 k38=>?_
       refine AOP ?_
       refine AS (v:=.bool false) Gi r6 fun a39 JY=>?_
       refine AD ?_
       refine k38 _ _ ?_
       replace Ac:=AC g37 Ac
       replace Eg:=AC g37 Eg
       replace hr:=hr.kn g37
       replace HG:=AA HG g37
       refine AOT ?_
       repeat refine AM ?_
       refine r21 _ _ ?_
       repeat refine AM ?_
       refine r15 _ _ ?_
       repeat refine AM ?_
       refine Bz (fn:=Tryz.f51) JY (BK (p:=2) Tryz.results51 JY rfl rfl) (Ch Tryz.func95 (by kernel_rfl) rfl _ _) (Dr _) ?_
       exact⟨E6 ((Kg (i:=i) (by rw[hmap];exact hi) (by rw[hchk];simp[hv,hc,Nat.ne_of_gt hz])).symm),HG⟩
     · refine Dx DR [(17,.int .i64 ((i:Int))),(18,.bool true),(19,.bool true),(20,pk B8 64),(21,.slice ao ks.length cap),(22,.int .i64 ((i:Int))),(23,.int .i64 (((i-1:Nat):Int))),(24,pk ((bO ao)) (oO ao+(i-1)*33)),(25,JH y),(26,pt QU),(27,AQ x.o),(28,.int .i64 ((I6 y.o x.o))),(29,.bool true),(30,.bool true),(31,.bool true),(32,undef),(33,undef),(34,undef),(35,undef),(36,.bool true)]
        ⟨ym r5,Ce r6 (fun _=>C3 (by simp;omega)),ym r5,BI rq9 (fun _=>by kernel_rfl),A8 rq9 (fun _ g=>Ad (FP (.slice ao ks.length cap) rfl) (BB (L:=[bv sa,bv po,[.slice ao ks.length cap]]) (i:=2) (AF g Ac (by simp)) rfl (by simp[AO,Af,hsa.1,hpo.1]))),Ae rq8,Ai rq9 (fun _=>GY (by rw[BT (by omega) (by omega)];omega)),Cf rfl rfl (gy rfl rfl rfl) (oy rfl rfl) (oy rfl rfl) (fun w=>CF Tryz.underlying34 (by kernel_rfl) (hr.1.1) (by omega) (rfl) w) (fun _=>rfl),A8 rq9 (fun _ g=>Ad (XP y) (RdK.keyX (hr.kn g) rfl hp hx_y)),BI rq9 (fun _=>by kernel_rfl),A8 rq9 (fun _ g=>Ad (Bb x.o x.ho.1) (BB (L:=[bv x.o,[VK.s x]]) (i:=0) (AF g Eg (by simp)) rfl rfl)),CG [JH y,AQ x.o] Tryz.func96 (by kernel_rfl) r7 ⟨(oy rfl rfl),(oy rfl rfl),AOW⟩ (A1 fun W g=>IX y x.o x.ho W),Ai rq9 (fun _=>Dp (by rw[NS,hc];rfl)),Ah rq9,ym r5,AN r6,AN r6,AN r6,AN r6,BF r7,AOW⟩ fun a40 w40 g40 I7=>?_
       refine k27 _ _ ?_
       refine Am I7 rfl rfl ?_
       refine AOQ fun K41 k41=>?_
       refine AOP ?_
       refine AS (v:=.bool false) I7 r6 fun a42 Gj=>?_
       refine AD ?_
       refine k41 _ _ ?_
       replace Ac:=AC g40 Ac
       replace Eg:=AC g40 Eg
       replace hr:=hr.kn g40
       replace HG:=AA HG g40
       refine AOT ?_
       repeat refine AM ?_
       refine r21 _ _ ?_
       repeat refine AM ?_
       refine r15 _ _ ?_
       repeat refine AM ?_
       refine Bz (fn:=Tryz.f51) Gj (BK (p:=2) Tryz.results51 Gj rfl rfl) (Ch Tryz.func95 (by kernel_rfl) rfl _ _) (Dr _) ?_
       exact⟨E6 ((Kg (i:=i) (by rw[hmap];exact hi) (by rw[hchk];simp[hv,hc,Nat.ne_of_gt hz])).symm),HG⟩
     · refine Dx DR [(17,.int .i64 ((i:Int))),(18,.bool true),(19,.bool true),(20,pk B8 64),(21,.slice ao ks.length cap),(22,.int .i64 ((i:Int))),(23,.int .i64 (((i-1:Nat):Int))),(24,pk ((bO ao)) (oO ao+(i-1)*33)),(25,JH y),(26,pt QU),(27,AQ x.o),(28,.int .i64 ((I6 y.o x.o))),(29,.bool true),(30,.bool true),(31,.bool true),(32,undef),(33,undef),(34,undef),(35,undef),(36,.bool true)]
        ⟨ym r5,Ce r6 (fun _=>C3 (by simp;omega)),ym r5,BI rq9 (fun _=>by kernel_rfl),A8 rq9 (fun _ g=>Ad (FP (.slice ao ks.length cap) rfl) (BB (L:=[bv sa,bv po,[.slice ao ks.length cap]]) (i:=2) (AF g Ac (by simp)) rfl (by simp[AO,Af,hsa.1,hpo.1]))),Ae rq8,Ai rq9 (fun _=>GY (by rw[BT (by omega) (by omega)];omega)),Cf rfl rfl (gy rfl rfl rfl) (oy rfl rfl) (oy rfl rfl) (fun w=>CF Tryz.underlying34 (by kernel_rfl) (hr.1.1) (by omega) (rfl) w) (fun _=>rfl),A8 rq9 (fun _ g=>Ad (XP y) (RdK.keyX (hr.kn g) rfl hp hx_y)),BI rq9 (fun _=>by kernel_rfl),A8 rq9 (fun _ g=>Ad (Bb x.o x.ho.1) (BB (L:=[bv x.o,[VK.s x]]) (i:=0) (AF g Eg (by simp)) rfl rfl)),CG [JH y,AQ x.o] Tryz.func96 (by kernel_rfl) r7 ⟨(oy rfl rfl),(oy rfl rfl),AOW⟩ (A1 fun W g=>IX y x.o x.ho W),Ai rq9 (fun _=>Dp (by rw[NS,hc];rfl)),Ah rq9,ym r5,AN r6,AN r6,AN r6,AN r6,BF r7,AOW⟩ fun a43 w43 g43 IK=>?_
       refine k27 _ _ ?_
       refine Am IK rfl rfl ?_
       refine AOQ fun K44 k44=>?_
       refine AOP ?_
       refine AS (v:=.bool false) IK r6 fun a45 FT=>?_
       refine AD ?_
       refine k44 _ _ ?_
       replace HG:=AA HG g43
       refine AOT ?_
       repeat refine AM ?_
       refine r21 _ _ ?_
       repeat refine AM ?_
       refine r15 _ _ ?_
       repeat refine AM ?_
       refine Bz (fn:=Tryz.f51) FT (BK (p:=2) Tryz.results51 FT rfl rfl) (Ch Tryz.func95 (by kernel_rfl) rfl _ _) (Dr _) ?_
       exact⟨E6 ((Kg (i:=i) (by rw[hmap];exact hi) (by rw[hchk];simp[hv,hc,Nat.ne_of_gt hz])).symm),HG⟩
   · refine AOP ?_
     refine AH DG 1 [(13,.bool false)]
       ⟨Fg r7 (fun _=>BR (by simp;omega)),AOW⟩ fun a46 w46 g46 JK=>?_
     refine AD ?_
     refine k17 _ _ ?_
     refine AOQ fun K47 k47=>?_
     refine Au JK rfl rfl ?_
     refine wp_exit ?_
     repeat refine CA ?_
     refine x15 _ _ ?_
     refine k12 _ _ ?_
     refine AOQ fun K48 k48=>?_
     refine AOP ?_
     refine AS (v:=.bool true) JK r6 fun a49 ER=>?_
     refine AD ?_
     refine k48 _ _ ?_
     replace HG:=AA HG g46
     refine AOT ?_
     repeat refine AM ?_
     refine Bz (fn:=Tryz.f51) ER (BK (p:=2) Tryz.results51 ER rfl rfl) (Ch Tryz.func95 (by kernel_rfl) rfl _ _) (Dr _) ?_
     exact⟨E6 ((AAQ (by omega) fun k hk=>hb k (by omega)).symm),HG⟩
theorem XU (ks:List VK) (ao:Option Addr) (cap:Nat) (sa po:List Nat) (hsa:Dg sa) (hpo:Dg po) (w:World) (hr:RdK w (.slice ao ks.length cap) ks) :
   Calls Tryz.prog 40 #[Ay sa po (.slice ao ks.length cap)] w fun e w'=>e=.returned (.bool (Co (ks.map VK.p)))∧w.grownBy w' none:=by
 have hlen:=hr.len
 have hmap:(ks.map VK.p).length=ks.length:=List.length_map _
 refine BV Tryz.func40 rfl Tryz.ntmps40 rfl fun a0 sv0=>?_
 have HG:=World.grownBy.refl w none
 replace sv0:Sv 44 [] [(0,Ay sa po (.slice ao ks.length cap))] a0:=sv0
 refine AOQ fun K1 k1=>?_
 refine AOP ?_
 refine Bi sv0 r6 (B6 hsa hpo (.slice ao ks.length cap) rfl) fun a2 w2 B8 Gx g2 z2 Ac sv2=>?_
 replace hr:=hr.kn g2
 replace HG:=AA HG g2
 refine AS (v:=.bool false) sv2 r6 fun a3 sv3=>?_
 refine AD ?_
 refine k1 _ _ ?_
 refine AOQ fun K4 k4=>?_
 refine AOQ fun K5 k5=>?_
 by_cases hbig:64<ks.length
 · refine AOP ?_
   refine AH sv3 4 [(4,pk B8 64),(5,.slice ao ks.length cap),(6,.int .i64 ((ks.length:Nat))),(7,.bool true)]
     ⟨yf r6 (fun _=>by kernel_rfl),yp (i:=2) r6 (FP (.slice ao ks.length cap) rfl) Ac rfl (by simp[AO,Af,hsa.1,hpo.1]),BJ (Tryz.underlying34) rfl rfl trivial (oy rfl rfl) (fun _=>rfl),Ce r6 (fun _=>C3 (by simp;omega)),AOW⟩ fun a6 w6 g6 sv6=>?_
   refine AD ?_
   refine k5 _ _ ?_
   refine Am sv6 rfl rfl ?_
   refine AOQ fun K7 k7=>?_
   refine AOP ?_
   refine AS (v:=.bool false) sv6 r6 fun a8 sv8=>?_
   refine AD ?_
   refine k7 _ _ ?_
   replace Ac:=AC g6 Ac
   replace hr:=hr.kn g6
   replace HG:=AA HG g6
   refine AOT ?_
   repeat refine AM ?_
   refine Ap (fn:=Tryz.f40) sv8 (BK (p:=2) Tryz.results40 sv8 rfl rfl) ?_
   exact⟨E6 ((AAN (by omega)).symm),HG⟩
 · refine AOP ?_
   refine AH sv3 4 [(4,pk B8 64),(5,.slice ao ks.length cap),(6,.int .i64 ((ks.length:Nat))),(7,.bool false)]
     ⟨yf r6 (fun _=>by kernel_rfl),yp (i:=2) r6 (FP (.slice ao ks.length cap) rfl) Ac rfl (by simp[AO,Af,hsa.1,hpo.1]),BJ (Tryz.underlying34) rfl rfl trivial (oy rfl rfl) (fun _=>rfl),Ce r6 (fun _=>C3 (by simp;omega)),AOW⟩ fun a9 w9 g9 sv9=>?_
   refine AD ?_
   refine k5 _ _ ?_
   refine Au sv9 rfl rfl ?_
   refine AOU ?_
   refine k4 _ _ ?_
   refine AOQ fun K10 k10=>?_
   refine AOQ fun K11 k11=>?_
   refine AOP ?_
   refine AS (v:=.int .i64 0) sv9 r6 fun a12 DF=>?_
   refine AD ?_
   refine k11 _ _ ?_
   refine BH fun Q13 x13 y13 r13 o13=>?_
   replace Ac:=AC g9 Ac
   replace hr:=hr.kn g9
   replace HG:=AA HG g9
   refine wp_loop (fun a w'=>∃(i:Nat),(i≤ks.length)∧(∀k,k<i→chk (ks.map VK.p) k=true)∧Sv 44 [] [(3,.int .i64 ((i:Int))),(4,pk B8 64),(5,.slice ao ks.length cap),(6,.int .i64 ((ks.length:Nat))),(7,.bool false),(1,pt B8),(0,Ay sa po (.slice ao ks.length cap))] a∧w.grownBy w' none∧w'.heap[B8]?=some (.cells ([bv sa,bv po,[.slice ao ks.length cap]].flatten).toArray 36 (0,0))∧RdK w' (.slice ao ks.length cap) ks) (fun a _=>(ks.length-intOf (a.tmps.getD 3 undef)).toNat) ⟨0,Nat.zero_le _,fun k hk=>by omega,⟨DF.1,DF.2.1,DF.2.2.1,DF.2.2.2.1,DF.2.2.2.2.1,DF.2.2.2.2.2.1,DF.2.2.2.2.2.2.1,(AG DF).1,(AG DF).2.1,AOW⟩,HG,Ac,hr⟩ fun a14 w14 hI14=>?_
   clear Ac
   clear hr
   clear HG
   obtain⟨i,hin,hb,D1,HG,Ac,hr⟩:=hI14
   refine AOQ fun K15 k15=>?_
   refine AOQ fun K16 k16=>?_
   by_cases hi:i<ks.length
   · have hp:i-1<ks.length:=by omega
     obtain⟨x,hx_x⟩:∃x,ks[i]'hi=x:=⟨_,rfl⟩
     obtain⟨y,hx_y⟩:∃x,ks[(i-1)]'hp=x:=⟨_,rfl⟩
     have hchk:=AKi hi hp hx_x hx_y
     refine AOP ?_
     refine AH D1 5 [(8,.int .i64 ((i:Int))),(9,pk B8 64),(10,.slice ao ks.length cap),(11,.int .i64 ((ks.length:Nat))),(12,.bool true)]
       ⟨ym r5,yf r6 (fun _=>by kernel_rfl),yp (i:=2) r6 (FP (.slice ao ks.length cap) rfl) Ac rfl (by simp[AO,Af,hsa.1,hpo.1]),BJ (Tryz.underlying34) rfl rfl trivial (oy rfl rfl) (fun _=>rfl),Fg r7 (fun _=>BR (by simp;omega)),AOW⟩ fun a17 w17 g17 EK=>?_
     refine AD ?_
     refine k16 _ _ ?_
     refine Am EK rfl rfl ?_
     refine AOU ?_
     refine k15 _ _ ?_
     refine AOQ fun K18 k18=>?_
     refine BH fun Q19 x19 y19 r19 o19=>?_
     refine AOQ fun K20 k20=>?_
     replace Ac:=AC g17 Ac
     replace hr:=hr.kn g17
     replace HG:=AA HG g17
     rcases(show(i=0∧I1 x.l=true)∨(i=0∧I1 x.l=false)∨(0<i∧E5 y.o x.o=true∧I1 x.l=true)∨(0<i∧E5 y.o x.o=true∧I1 x.l=false)∨(0<i∧E5 y.o x.o=false∧I1 x.l=true)∨(0<i∧E5 y.o x.o=false∧I1 x.l=false) by
        rcases Nat.eq_zero_or_pos i with h|h<;>cases h2:I1 x.l<;>cases h3:E5 y.o x.o<;>simp[h]) with ⟨hz,hv⟩|⟨hz,hv⟩|⟨hz,hc,hv⟩|⟨hz,hc,hv⟩|⟨hz,hc,hv⟩|⟨hz,hc,hv⟩
     · have hok:((decide (i=0)||E5 y.o x.o)&&I1 x.l)=true:=by simp[hz,hv]
       refine Dx EK [(15,pk B8 64),(16,.slice ao ks.length cap),(17,.int .i64 ((i:Int))),(18,pk ((bO ao)) (oO ao+i*33)),(19,pk ((bO ao)) (oO ao+i*33+32)),(20,.agg #[VK.s x]),(21,.bool true),(22,.bool false),(23,.bool false),(24,.int .i64 ((i:Int))),(25,.bool false),(26,.bool false),(27,undef),(28,undef),(29,undef),(30,undef),(31,undef),(32,undef),(33,undef),(34,undef),(35,undef),(36,undef),(37,undef),(38,undef),(39,undef),(40,undef),(41,undef),(42,.bool false),(43,.bool false)]
        ⟨yf r6 (fun _=>by kernel_rfl),yp (i:=2) r6 (FP (.slice ao ks.length cap) rfl) Ac rfl (by simp[AO,Af,hsa.1,hpo.1]),ym r5,BD rq8 (fun w=>CF Tryz.underlying34 (by kernel_rfl) (hr.1.1) (by omega) (rfl) w),yf r6 (fun _=>by kernel_rfl),Bj r6 (fun _ g=>Ad (tyT (VK.s x) rfl) (RdK.treeX (hr.kn g) rfl hi hx_x)),Ag [.agg #[VK.s x]] Tryz.func87 (by kernel_rfl) rq4 ⟨(oy rfl rfl),AOW⟩ (A1 fun W g=>GB hv ((hr.kn g).kt hi hx_x)),C7 r6 (fun _=>Bf),ym r5,Ae rq8,Ai rq9 (fun _=>C3 (by simp;omega)),Ae rq8,AN r6,AN r6,AN r6,AN r6,AN r6,AN r6,AN r6,AN r6,AN r6,AN r6,AN r6,AN r6,AN r6,AN r6,AN r6,E3 rfl rfl (gy rfl rfl rfl) (oy rfl rfl) rfl (fun _=>rfl),Ah rq9,AOW⟩ fun a21 w21 g21 Dl=>?_
       refine k20 _ _ ?_
       refine Au Dl rfl rfl ?_
       refine AOU ?_
       refine y19 _ _ ?_
       refine k18 _ _ ?_
       refine AOP ?_
       refine AH Dl 2 [(13,.int .i64 ((i:Int))),(14,.int .i64 (((i+1:Nat):Int)))]
        ⟨ym r5,Ce r6 (fun _=>Dd (by rw[BT (by omega) (by omega)];omega)),AOW⟩ fun a22 w22 g22 B7=>?_
       have Qs:=AA g21 g22
       refine AS (v:=.int .i64 (((i+1:Nat):Int))) B7 r6 fun a23 Cc=>?_
       refine AD ?_
       replace Ac:=AC Qs Ac
       replace hr:=hr.kn Qs
       replace HG:=AA HG Qs
       exact⟨⟨i+1,by omega,fun k hk=>if e:k=i then (by rw[e,hchk];exact hok) else hb k (by omega),⟨Cc.1,Cc.2.1,Cc.2.2.1,(AG (AG (AG (AG Cc)))).2.2.2.2.2.2.2.1,(AG (AG (AG (AG (AG Cc))))).1,(AG (AG (AG (AG (AG Cc))))).2.1,(AG (AG (AG (AG (AG Cc))))).2.2.1,(AG (AG (AG (AG (AG Cc))))).2.2.2.1,(AG (AG (AG (AG (AG Cc))))).2.2.2.2.1,AOW⟩,HG,Ac,hr⟩,by rw[show _=_ from Cc.2.2.1,show _=_ from D1.2.2.1];simp[intOf];omega⟩
     · refine Dx EK [(15,pk B8 64),(16,.slice ao ks.length cap),(17,.int .i64 ((i:Int))),(18,pk ((bO ao)) (oO ao+i*33)),(19,pk ((bO ao)) (oO ao+i*33+32)),(20,.agg #[VK.s x]),(21,.bool false),(22,.bool true),(23,.bool true),(24,undef),(25,undef),(26,undef),(27,undef),(28,undef),(29,undef),(30,undef),(31,undef),(32,undef),(33,undef),(34,undef),(35,undef),(36,undef),(37,undef),(38,undef),(39,undef),(40,undef),(41,undef),(42,undef),(43,.bool true)]
        ⟨yf r6 (fun _=>by kernel_rfl),yp (i:=2) r6 (FP (.slice ao ks.length cap) rfl) Ac rfl (by simp[AO,Af,hsa.1,hpo.1]),ym r5,BD rq8 (fun w=>CF Tryz.underlying34 (by kernel_rfl) (hr.1.1) (by omega) (rfl) w),yf r6 (fun _=>by kernel_rfl),Bj r6 (fun _ g=>Ad (tyT (VK.s x) rfl) (RdK.treeX (hr.kn g) rfl hi hx_x)),Ag [.agg #[VK.s x]] Tryz.func87 (by kernel_rfl) rq4 ⟨(oy rfl rfl),AOW⟩ (A1 fun W g=>GB hv ((hr.kn g).kt hi hx_x)),C7 r6 (fun _=>Bf),ym r5,AN r6,AN r6,AN r6,Ba ⟨26,rfl,rfl,fun _ _ h=>h⟩ rfl (fun _=>rfl),Ba ⟨26,rfl,rfl,fun _ _ h=>h⟩ rfl (fun _=>rfl),Ba ⟨26,rfl,rfl,fun _ _ h=>h⟩ rfl (fun _=>rfl),Ba ⟨26,rfl,rfl,fun _ _ h=>h⟩ rfl (fun _=>rfl),Ba ⟨26,rfl,rfl,fun _ _ h=>h⟩ rfl (fun _=>rfl),Ba ⟨26,rfl,rfl,fun _ _ h=>h⟩ rfl (fun _=>rfl),Ba ⟨26,rfl,rfl,fun _ _ h=>h⟩ rfl (fun _=>rfl),Ba ⟨26,rfl,rfl,fun _ _ h=>h⟩ rfl (fun _=>rfl),Ba ⟨26,rfl,rfl,fun _ _ h=>h⟩ rfl (fun _=>rfl),Ba ⟨26,rfl,rfl,fun _ _ h=>h⟩ rfl (fun _=>rfl),Ba ⟨26,rfl,rfl,fun _ _ h=>h⟩ rfl (fun _=>rfl),Ba ⟨26,rfl,rfl,fun _ _ h=>h⟩ rfl (fun _=>rfl),Ba ⟨26,rfl,rfl,fun _ _ h=>h⟩ rfl (fun _=>rfl),Ba ⟨26,rfl,rfl,fun _ _ h=>h⟩ rfl (fun _=>rfl),Ba ⟨26,rfl,rfl,fun _ _ h=>h⟩ rfl (fun _=>rfl),AN r6,BF r7,AOW⟩ fun a24 w24 g24 EN=>?_
       refine k20 _ _ ?_
       refine Am EN rfl rfl ?_
       refine AOQ fun K25 k25=>?_
       refine AOP ?_
       refine AS (v:=.bool false) EN r6 fun a26 DH=>?_
       refine AD ?_
       refine k25 _ _ ?_
       replace Ac:=AC g24 Ac
       replace hr:=hr.kn g24
       replace HG:=AA HG g24
       refine AOT ?_
       repeat refine AM ?_
       refine r19 _ _ ?_
       repeat refine AM ?_
       refine r13 _ _ ?_
       repeat refine AM ?_
       refine Ap (fn:=Tryz.f40) DH (BK (p:=2) Tryz.results40 DH rfl rfl) ?_
       exact⟨E6 ((Kg (i:=i) (by rw[hmap];exact hi) (by rw[hchk];simp[hv])).symm),HG⟩
     · have hok:((decide (i=0)||E5 y.o x.o)&&I1 x.l)=true:=by simp[hz,hv,hc]
       refine Dx EK [(15,pk B8 64),(16,.slice ao ks.length cap),(17,.int .i64 ((i:Int))),(18,pk ((bO ao)) (oO ao+i*33)),(19,pk ((bO ao)) (oO ao+i*33+32)),(20,.agg #[VK.s x]),(21,.bool true),(22,.bool false),(23,.bool false),(24,.int .i64 ((i:Int))),(25,.bool true),(26,.bool true),(27,pk B8 64),(28,.slice ao ks.length cap),(29,.int .i64 ((i:Int))),(30,.int .i64 (((i-1:Nat):Int))),(31,pk ((bO ao)) (oO ao+(i-1)*33)),(32,pk ((bO ao)) (oO ao+(i-1)*33)),(33,AQ y.o),(34,pk B8 64),(35,.slice ao ks.length cap),(36,.int .i64 ((i:Int))),(37,pk ((bO ao)) (oO ao+i*33)),(38,pk ((bO ao)) (oO ao+i*33)),(39,AQ x.o),(40,.bool true),(41,.bool false),(42,.bool false),(43,.bool false)]
        ⟨yf r6 (fun _=>by kernel_rfl),yp (i:=2) r6 (FP (.slice ao ks.length cap) rfl) Ac rfl (by simp[AO,Af,hsa.1,hpo.1]),ym r5,BD rq8 (fun w=>CF Tryz.underlying34 (by kernel_rfl) (hr.1.1) (by omega) (rfl) w),yf r6 (fun _=>by kernel_rfl),Bj r6 (fun _ g=>Ad (tyT (VK.s x) rfl) (RdK.treeX (hr.kn g) rfl hi hx_x)),Ag [.agg #[VK.s x]] Tryz.func87 (by kernel_rfl) rq4 ⟨(oy rfl rfl),AOW⟩ (A1 fun W g=>GB hv ((hr.kn g).kt hi hx_x)),C7 r6 (fun _=>Bf),ym r5,Ae rq8,Ai rq9 (fun _=>C3 (by simp;omega)),Ae rq8,BI rq9 (fun _=>by kernel_rfl),A8 rq9 (fun _ g=>Ad (FP (.slice ao ks.length cap) rfl) (BB (L:=[bv sa,bv po,[.slice ao ks.length cap]]) (i:=2) (AF g Ac (by simp)) rfl (by simp[AO,Af,hsa.1,hpo.1]))),Ae rq8,Ai rq9 (fun _=>GY (by rw[BT (by omega) (by omega)];omega)),Cf rfl rfl (gy rfl rfl rfl) (oy rfl rfl) (oy rfl rfl) (fun w=>CF Tryz.underlying34 (by kernel_rfl) (hr.1.1) (by omega) (rfl) w) (fun _=>rfl),BI rq9 (fun _=>by kernel_rfl),A8 rq9 (fun _ g=>Ad (Bb y.o y.ho.1) (RdK.ownerX (hr.kn g) rfl hp hx_y)),BI rq9 (fun _=>by kernel_rfl),A8 rq9 (fun _ g=>Ad (FP (.slice ao ks.length cap) rfl) (BB (L:=[bv sa,bv po,[.slice ao ks.length cap]]) (i:=2) (AF g Ac (by simp)) rfl (by simp[AO,Af,hsa.1,hpo.1]))),Ae rq8,Cf rfl rfl (gy rfl rfl rfl) (oy rfl rfl) (oy rfl rfl) (fun w=>CF Tryz.underlying34 (by kernel_rfl) (hr.1.1) (by omega) (rfl) w) (fun _=>rfl),BI rq9 (fun _=>by kernel_rfl),A8 rq9 (fun _ g=>Ad (Bb x.o x.ho.1) (RdK.ownerX (hr.kn g) rfl hi hx_x)),CG [AQ y.o,AQ x.o] Tryz.func86 (by kernel_rfl) r7 ⟨(oy rfl rfl),(oy rfl rfl),AOW⟩ (A1 fun W g=>Jz hc y.ho x.ho W),I3 rfl rfl (gy rfl rfl rfl) (oy rfl rfl) (fun _=>Bf) (fun _=>rfl),E3 rfl rfl (gy rfl rfl rfl) (oy rfl rfl) (oy rfl rfl) (fun _=>rfl),Ah rq9,AOW⟩ fun a27 w27 g27 HU=>?_
       refine k20 _ _ ?_
       refine Au HU rfl rfl ?_
       refine AOU ?_
       refine y19 _ _ ?_
       refine k18 _ _ ?_
       refine AOP ?_
       refine AH HU 2 [(13,.int .i64 ((i:Int))),(14,.int .i64 (((i+1:Nat):Int)))]
        ⟨ym r5,Ce r6 (fun _=>Dd (by rw[BT (by omega) (by omega)];omega)),AOW⟩ fun a28 w28 g28 Dm=>?_
       have FR:=AA g27 g28
       refine AS (v:=.int .i64 (((i+1:Nat):Int))) Dm r6 fun a29 Ck=>?_
       refine AD ?_
       replace Ac:=AC FR Ac
       replace hr:=hr.kn FR
       replace HG:=AA HG FR
       exact⟨⟨i+1,by omega,fun k hk=>if e:k=i then (by rw[e,hchk];exact hok) else hb k (by omega),⟨Ck.1,Ck.2.1,Ck.2.2.1,(AG (AG (AG (AG Ck)))).2.2.2.2.2.2.2.1,(AG (AG (AG (AG (AG Ck))))).1,(AG (AG (AG (AG (AG Ck))))).2.1,(AG (AG (AG (AG (AG Ck))))).2.2.1,(AG (AG (AG (AG (AG Ck))))).2.2.2.1,(AG (AG (AG (AG (AG Ck))))).2.2.2.2.1,AOW⟩,HG,Ac,hr⟩,by rw[show _=_ from Ck.2.2.1,show _=_ from D1.2.2.1];simp[intOf];omega⟩
     · refine Dx EK [(15,pk B8 64),(16,.slice ao ks.length cap),(17,.int .i64 ((i:Int))),(18,pk ((bO ao)) (oO ao+i*33)),(19,pk ((bO ao)) (oO ao+i*33+32)),(20,.agg #[VK.s x]),(21,.bool false),(22,.bool true),(23,.bool true),(24,undef),(25,undef),(26,undef),(27,undef),(28,undef),(29,undef),(30,undef),(31,undef),(32,undef),(33,undef),(34,undef),(35,undef),(36,undef),(37,undef),(38,undef),(39,undef),(40,undef),(41,undef),(42,undef),(43,.bool true)]
        ⟨yf r6 (fun _=>by kernel_rfl),yp (i:=2) r6 (FP (.slice ao ks.length cap) rfl) Ac rfl (by simp[AO,Af,hsa.1,hpo.1]),ym r5,BD rq8 (fun w=>CF Tryz.underlying34 (by kernel_rfl) (hr.1.1) (by omega) (rfl) w),yf r6 (fun _=>by kernel_rfl),Bj r6 (fun _ g=>Ad (tyT (VK.s x) rfl) (RdK.treeX (hr.kn g) rfl hi hx_x)),Ag [.agg #[VK.s x]] Tryz.func87 (by kernel_rfl) rq4 ⟨(oy rfl rfl),AOW⟩ (A1 fun W g=>GB hv ((hr.kn g).kt hi hx_x)),C7 r6 (fun _=>Bf),ym r5,AN r6,AN r6,AN r6,Ba ⟨26,rfl,rfl,fun _ _ h=>h⟩ rfl (fun _=>rfl),Ba ⟨26,rfl,rfl,fun _ _ h=>h⟩ rfl (fun _=>rfl),Ba ⟨26,rfl,rfl,fun _ _ h=>h⟩ rfl (fun _=>rfl),Ba ⟨26,rfl,rfl,fun _ _ h=>h⟩ rfl (fun _=>rfl),Ba ⟨26,rfl,rfl,fun _ _ h=>h⟩ rfl (fun _=>rfl),Ba ⟨26,rfl,rfl,fun _ _ h=>h⟩ rfl (fun _=>rfl),Ba ⟨26,rfl,rfl,fun _ _ h=>h⟩ rfl (fun _=>rfl),Ba ⟨26,rfl,rfl,fun _ _ h=>h⟩ rfl (fun _=>rfl),Ba ⟨26,rfl,rfl,fun _ _ h=>h⟩ rfl (fun _=>rfl),Ba ⟨26,rfl,rfl,fun _ _ h=>h⟩ rfl (fun _=>rfl),Ba ⟨26,rfl,rfl,fun _ _ h=>h⟩ rfl (fun _=>rfl),Ba ⟨26,rfl,rfl,fun _ _ h=>h⟩ rfl (fun _=>rfl),Ba ⟨26,rfl,rfl,fun _ _ h=>h⟩ rfl (fun _=>rfl),Ba ⟨26,rfl,rfl,fun _ _ h=>h⟩ rfl (fun _=>rfl),Ba ⟨26,rfl,rfl,fun _ _ h=>h⟩ rfl (fun _=>rfl),AN r6,BF r7,AOW⟩ fun a30 w30 g30 EF=>?_
       refine k20 _ _ ?_
       refine Am EF rfl rfl ?_
       refine AOQ fun K31 k31=>?_
       refine AOP ?_
       refine AS (v:=.bool false) EF r6 fun a32 Cu=>?_
       refine AD ?_
       refine k31 _ _ ?_
       replace Ac:=AC g30 Ac
       replace hr:=hr.kn g30
       replace HG:=AA HG g30
       refine AOT ?_
       repeat refine AM ?_
       refine r19 _ _ ?_
       repeat refine AM ?_
       refine r13 _ _ ?_
       repeat refine AM ?_
       refine Ap (fn:=Tryz.f40) Cu (BK (p:=2) Tryz.results40 Cu rfl rfl) ?_
       exact⟨E6 ((Kg (i:=i) (by rw[hmap];exact hi) (by rw[hchk];simp[hv,hc,Nat.ne_of_gt hz])).symm),HG⟩
     · refine Dx EK [(15,pk B8 64),(16,.slice ao ks.length cap),(17,.int .i64 ((i:Int))),(18,pk ((bO ao)) (oO ao+i*33)),(19,pk ((bO ao)) (oO ao+i*33+32)),(20,.agg #[VK.s x]),(21,.bool true),(22,.bool false),(23,.bool false),(24,.int .i64 ((i:Int))),(25,.bool true),(26,.bool true),(27,pk B8 64),(28,.slice ao ks.length cap),(29,.int .i64 ((i:Int))),(30,.int .i64 (((i-1:Nat):Int))),(31,pk ((bO ao)) (oO ao+(i-1)*33)),(32,pk ((bO ao)) (oO ao+(i-1)*33)),(33,AQ y.o),(34,pk B8 64),(35,.slice ao ks.length cap),(36,.int .i64 ((i:Int))),(37,pk ((bO ao)) (oO ao+i*33)),(38,pk ((bO ao)) (oO ao+i*33)),(39,AQ x.o),(40,.bool false),(41,.bool true),(42,.bool true),(43,.bool true)]
        ⟨yf r6 (fun _=>by kernel_rfl),yp (i:=2) r6 (FP (.slice ao ks.length cap) rfl) Ac rfl (by simp[AO,Af,hsa.1,hpo.1]),ym r5,BD rq8 (fun w=>CF Tryz.underlying34 (by kernel_rfl) (hr.1.1) (by omega) (rfl) w),yf r6 (fun _=>by kernel_rfl),Bj r6 (fun _ g=>Ad (tyT (VK.s x) rfl) (RdK.treeX (hr.kn g) rfl hi hx_x)),Ag [.agg #[VK.s x]] Tryz.func87 (by kernel_rfl) rq4 ⟨(oy rfl rfl),AOW⟩ (A1 fun W g=>GB hv ((hr.kn g).kt hi hx_x)),C7 r6 (fun _=>Bf),ym r5,Ae rq8,Ai rq9 (fun _=>C3 (by simp;omega)),Ae rq8,BI rq9 (fun _=>by kernel_rfl),A8 rq9 (fun _ g=>Ad (FP (.slice ao ks.length cap) rfl) (BB (L:=[bv sa,bv po,[.slice ao ks.length cap]]) (i:=2) (AF g Ac (by simp)) rfl (by simp[AO,Af,hsa.1,hpo.1]))),Ae rq8,Ai rq9 (fun _=>GY (by rw[BT (by omega) (by omega)];omega)),Cf rfl rfl (gy rfl rfl rfl) (oy rfl rfl) (oy rfl rfl) (fun w=>CF Tryz.underlying34 (by kernel_rfl) (hr.1.1) (by omega) (rfl) w) (fun _=>rfl),BI rq9 (fun _=>by kernel_rfl),A8 rq9 (fun _ g=>Ad (Bb y.o y.ho.1) (RdK.ownerX (hr.kn g) rfl hp hx_y)),BI rq9 (fun _=>by kernel_rfl),A8 rq9 (fun _ g=>Ad (FP (.slice ao ks.length cap) rfl) (BB (L:=[bv sa,bv po,[.slice ao ks.length cap]]) (i:=2) (AF g Ac (by simp)) rfl (by simp[AO,Af,hsa.1,hpo.1]))),Ae rq8,Cf rfl rfl (gy rfl rfl rfl) (oy rfl rfl) (oy rfl rfl) (fun w=>CF Tryz.underlying34 (by kernel_rfl) (hr.1.1) (by omega) (rfl) w) (fun _=>rfl),BI rq9 (fun _=>by kernel_rfl),A8 rq9 (fun _ g=>Ad (Bb x.o x.ho.1) (RdK.ownerX (hr.kn g) rfl hi hx_x)),CG [AQ y.o,AQ x.o] Tryz.func86 (by kernel_rfl) r7 ⟨(oy rfl rfl),(oy rfl rfl),AOW⟩ (A1 fun W g=>Jz hc y.ho x.ho W),I3 rfl rfl (gy rfl rfl rfl) (oy rfl rfl) (fun _=>Bf) (fun _=>rfl),E3 rfl rfl (gy rfl rfl rfl) (oy rfl rfl) (oy rfl rfl) (fun _=>rfl),Ah rq9,AOW⟩ fun a33 w33 g33 FS=>?_
       refine k20 _ _ ?_
       refine Am FS rfl rfl ?_
       refine AOQ fun K34 k34=>?_
       refine AOP ?_
       refine AS (v:=.bool false) FS r6 fun a35 Kw=>?_
       refine AD ?_
       refine k34 _ _ ?_
       replace Ac:=AC g33 Ac
       replace hr:=hr.kn g33
       replace HG:=AA HG g33
       refine AOT ?_
       repeat refine AM ?_
       refine r19 _ _ ?_
       repeat refine AM ?_
       refine r13 _ _ ?_
       repeat refine AM ?_
       refine Ap (fn:=Tryz.f40) Kw (BK (p:=2) Tryz.results40 Kw rfl rfl) ?_
       exact⟨E6 ((Kg (i:=i) (by rw[hmap];exact hi) (by rw[hchk];simp[hv,hc,Nat.ne_of_gt hz])).symm),HG⟩
     · refine Dx EK [(15,pk B8 64),(16,.slice ao ks.length cap),(17,.int .i64 ((i:Int))),(18,pk ((bO ao)) (oO ao+i*33)),(19,pk ((bO ao)) (oO ao+i*33+32)),(20,.agg #[VK.s x]),(21,.bool false),(22,.bool true),(23,.bool true),(24,undef),(25,undef),(26,undef),(27,undef),(28,undef),(29,undef),(30,undef),(31,undef),(32,undef),(33,undef),(34,undef),(35,undef),(36,undef),(37,undef),(38,undef),(39,undef),(40,undef),(41,undef),(42,undef),(43,.bool true)]
        ⟨yf r6 (fun _=>by kernel_rfl),yp (i:=2) r6 (FP (.slice ao ks.length cap) rfl) Ac rfl (by simp[AO,Af,hsa.1,hpo.1]),ym r5,BD rq8 (fun w=>CF Tryz.underlying34 (by kernel_rfl) (hr.1.1) (by omega) (rfl) w),yf r6 (fun _=>by kernel_rfl),Bj r6 (fun _ g=>Ad (tyT (VK.s x) rfl) (RdK.treeX (hr.kn g) rfl hi hx_x)),Ag [.agg #[VK.s x]] Tryz.func87 (by kernel_rfl) rq4 ⟨(oy rfl rfl),AOW⟩ (A1 fun W g=>GB hv ((hr.kn g).kt hi hx_x)),C7 r6 (fun _=>Bf),ym r5,AN r6,AN r6,AN r6,Ba ⟨26,rfl,rfl,fun _ _ h=>h⟩ rfl (fun _=>rfl),Ba ⟨26,rfl,rfl,fun _ _ h=>h⟩ rfl (fun _=>rfl),Ba ⟨26,rfl,rfl,fun _ _ h=>h⟩ rfl (fun _=>rfl),Ba ⟨26,rfl,rfl,fun _ _ h=>h⟩ rfl (fun _=>rfl),Ba ⟨26,rfl,rfl,fun _ _ h=>h⟩ rfl (fun _=>rfl),Ba ⟨26,rfl,rfl,fun _ _ h=>h⟩ rfl (fun _=>rfl),Ba ⟨26,rfl,rfl,fun _ _ h=>h⟩ rfl (fun _=>rfl),Ba ⟨26,rfl,rfl,fun _ _ h=>h⟩ rfl (fun _=>rfl),Ba ⟨26,rfl,rfl,fun _ _ h=>h⟩ rfl (fun _=>rfl),Ba ⟨26,rfl,rfl,fun _ _ h=>h⟩ rfl (fun _=>rfl),Ba ⟨26,rfl,rfl,fun _ _ h=>h⟩ rfl (fun _=>rfl),Ba ⟨26,rfl,rfl,fun _ _ h=>h⟩ rfl (fun _=>rfl),Ba ⟨26,rfl,rfl,fun _ _ h=>h⟩ rfl (fun _=>rfl),Ba ⟨26,rfl,rfl,fun _ _ h=>h⟩ rfl (fun _=>rfl),Ba ⟨26,rfl,rfl,fun _ _ h=>h⟩ rfl (fun _=>rfl),AN r6,BF r7,AOW⟩ fun a36 w36 g36 GC=>?_
       refine k20 _ _ ?_
       refine Am GC rfl rfl ?_
       refine AOQ fun K37 k37=>?_
       refine AOP ?_
       refine AS (v:=.bool false) GC r6 fun a38 Qt=>?_
       refine AD ?_
       refine k37 _ _ ?_
       replace Ac:=AC g36 Ac
       replace HG:=AA HG g36
       refine AOT ?_
       repeat refine AM ?_
       refine r19 _ _ ?_
       repeat refine AM ?_
       refine r13 _ _ ?_
       repeat refine AM ?_
       refine Ap (fn:=Tryz.f40) Qt (BK (p:=2) Tryz.results40 Qt rfl rfl) ?_
       exact⟨E6 ((Kg (i:=i) (by rw[hmap];exact hi) (by rw[hchk];simp[hv,hc,Nat.ne_of_gt hz])).symm),HG⟩
   · refine AOP ?_
     refine AH D1 5 [(8,.int .i64 ((i:Int))),(9,pk B8 64),(10,.slice ao ks.length cap),(11,.int .i64 ((ks.length:Nat))),(12,.bool false)]
       ⟨ym r5,yf r6 (fun _=>by kernel_rfl),yp (i:=2) r6 (FP (.slice ao ks.length cap) rfl) Ac rfl (by simp[AO,Af,hsa.1,hpo.1]),BJ (Tryz.underlying34) rfl rfl trivial (oy rfl rfl) (fun _=>rfl),Fg r7 (fun _=>BR (by simp;omega)),AOW⟩ fun a39 w39 g39 JY=>?_
     refine AD ?_
     refine k16 _ _ ?_
     refine Au JY rfl rfl ?_
     refine wp_exit ?_
     repeat refine CA ?_
     refine x13 _ _ ?_
     refine k10 _ _ ?_
     refine AOQ fun K40 k40=>?_
     refine AOP ?_
     refine AS (v:=.bool true) JY r6 fun a41 Eu=>?_
     refine AD ?_
     refine k40 _ _ ?_
     replace HG:=AA HG g39
     refine AOT ?_
     repeat refine AM ?_
     refine Ap (fn:=Tryz.f40) Eu (BK (p:=2) Tryz.results40 Eu rfl rfl) ?_
     exact⟨E6 ((AAQ (by omega) fun k hk=>hb k (by omega)).symm),HG⟩
end Go.Proofs.YtbfjfnbcmojpiaaGreat
