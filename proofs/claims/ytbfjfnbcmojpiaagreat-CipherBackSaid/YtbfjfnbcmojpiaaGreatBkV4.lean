import Derived.Test.YtbfjfnbcmojpiaaGreatBkV3
set_option linter.unusedSimpArgs false
set_option linter.unusedVariables false
set_option maxRecDepth 100000
set_option maxHeartbeats 4000000
namespace Go.Proofs.YtbfjfnbcmojpiaaGreat
open Go.RowKit Go.Shelf
theorem Bh {P:Program} {f:Nat} {fn:Func} {c:Code} (hf:P.funcs[f]?=some fn) (hname:(fn.name == "runtime.NumGoroutine")=false) (hb:fn.body=some c) (cap:Array Value) (w:World) :
  (invoke (.fn (.func f) cap) #[]).run P w=.ok (.enter f cap) w:=by
 have h1:fn.name≠"runtime.NumGoroutine":=by simpa using hname
 simp[invoke,callFunc,hf,h1,hb]
theorem MP (w:World):CallsD Tryz.prog 65 #[] .returning w fun e u' w'=>e=.returned (.tuple #[])∧u'=.returning∧w'=w:=by
 refine callsD_of_wpS Tryz.func65 rfl fun c₀ cs hu=>?_
 apply wpS_region
 simp[wpOpsS,go_sem,recoverD,hu,Tryz.ntmps65]
 cases c₀
 simp_all [bodyPostS,results,Tryz.results65]
theorem Cc (w:World):CallsD Tryz.prog 95 #[] .returning w fun e u' w'=>e=.returned (.tuple #[])∧u'=.returning∧w'=w:=by
 refine callsD_of_wpS Tryz.func95 rfl fun c₀ cs hu=>?_
 apply wpS_region
 simp[wpOpsS,go_sem,recoverD,hu,Tryz.ntmps95]
 cases c₀
 simp_all [bodyPostS,results,Tryz.results95]
theorem E3 (p q:Value) (w:World):CallsD Tryz.prog 81 #[p,q] .returning w fun e u' w'=>e=.returned (.tuple #[])∧u'=.returning∧w'=w:=by
 refine callsD_of_wpS Tryz.func81 rfl fun c₀ cs hu=>?_
 apply wpS_seq
 apply wpS_region
 simp[wpOpsS,go_sem,recoverD,hu,Tryz.ntmps81,Exit.thenS]
 refine wpS_cond (t:=false) (by simp[Act.eval,Array.replicate]) ?_
 simp only[Bool.false_eq_true,if_false]
 refine wpS_of_wp (AH8 ?_)
 cases c₀
 simp_all [bodyPostS,results,Tryz.results81]
theorem Gv (p q:Value) (w:World):CallsD Tryz.prog 77 #[p,q] .returning w fun e u' w'=>e=.returned (.tuple #[])∧u'=.returning∧w'=w:=by
 refine callsD_of_wpS Tryz.func77 rfl fun c₀ cs hu=>?_
 apply wpS_seq
 apply wpS_region
 simp[wpOpsS,go_sem,recoverD,hu,Tryz.ntmps77,Exit.thenS]
 refine wpS_cond (t:=false) (by simp[Act.eval,Array.replicate]) ?_
 simp only[Bool.false_eq_true,if_false]
 refine wpS_of_wp (AH8 ?_)
 cases c₀
 simp_all [bodyPostS,results,Tryz.results77]
theorem Gx {w:World} {s:Value} {l:List Nd} {b:Bool} (hb:Fy l=b) (h:RdT w s l):Calls Tryz.prog 97 #[.agg #[s]] w fun e w'=>e=.returned (.bool b)∧w.grownBy w' none:=hb▸VS h
theorem EI {w:World} {s:Value} {l:List Nd} {b:Bool} (hb:Fy l=b) (h:RdT w s l):Calls Tryz.prog 87 #[.agg #[s]] w fun e w'=>e=.returned (.bool b)∧w.grownBy w' none:=hb▸TQ h
theorem Fj {a b:Bool} (h:a=b):Ending.returned (.bool a)=Ending.returned (.bool b):=by rw[h]
theorem AF0 {a b:Int} (h:a=b):Ending.returned (.int .i64 a)=Ending.returned (.int .i64 b):=by rw[h]
theorem RdK.kt {w:World} {v:Value} {ks:List VK} (h:RdK w v ks) {j:Nat} (hj:j<ks.length) {x:VK} (hx:ks[j]=x):RdT w x.s x.l:=h.2 x (hx▸List.getElem_mem hj)
theorem AD2 {ks:List VK} {i:Nat} {x y:VK} (hi:i<ks.length) (hp:i-1<ks.length) (hx:ks[i]=x) (hy:ks[i-1]=y):chk (ks.map VK.p) i=((decide (i=0)||Dk y.o x.o)&&Fy x.l):=by
 unfold chk
 rw[OE hi,OE hp,Vj hi,hx,hy]
theorem Yh (ks:List VK) (ao:Option Addr) (cap:Nat) (sa po:List Nat) (hsa:Dg sa) (hpo:Dg po) (o:List Nat) (ho:Dg o) (w:World) (hr:RdK w (.slice ao ks.length cap) ks) (hs:Srt (ks.map VK.p)) (h64:ks.length≤64) :
  Calls Tryz.prog 71 #[An sa po (.slice ao ks.length cap),AP o] w fun e w'=>e=.returned (.tuple #[.int .i64 (pos (ks.map VK.p) o),.bool (Ix (ks.map VK.p) o)])∧w.grownBy w' none:=by
 refine BH Tryz.func71 rfl Tryz.ntmps71 rfl fun a0 sv0=>?_
 have HG:=World.grownBy.refl w none
 replace sv0:Sv 12 [] [(0,An sa po (.slice ao ks.length cap)),(1,AP o)] a0:=sv0
 refine AH4 fun K1 k1=>?_
 refine AH3 ?_
 refine BQ sv0 r6 (Bm hsa hpo (.slice ao ks.length cap) rfl) fun a2 w2 CJ Cs g2 z2 AH sv2=>?_
 refine BQ sv2 r6 (Bj o ho.1) fun a3 w3 Bw EH g3 z3 AL sv3=>?_
 replace AH:=AC g3 AH
 replace hr:=(hr.kn g2).kn g3
 refine AZ (v:=.int .i64 0) sv3 r6 fun a4 sv4=>?_
 refine AZ (v:=.bool false) sv4 r6 fun a5 sv5=>?_
 refine AE ?_
 refine k1 _ _ ?_
 refine AH4 fun K6 k6=>?_
 refine AH3 ?_
 refine AK sv5 6 [(6,pk CJ 64),(7,.slice ao ks.length cap),(8,AP o),(9,.tuple #[.int .i64 ((pos (ks.map VK.p) o:Int)),.bool (Ix (ks.map VK.p) o)]),(10,.int .i64 ((pos (ks.map VK.p) o:Int))),(11,.bool (Ix (ks.map VK.p) o))]
  ⟨yf r6 (fun _=>by kernel_rfl),yp (i:=2) r6 (Du (.slice ao ks.length cap) rfl) AH rfl (by simp[AI,AU,hsa.1,hpo.1]),yl r6 (Bj o ho.1) AL,Ah [.slice ao ks.length cap,AP o,.func (.func 96) #[] #[]] Tryz.func113 (by kernel_rfl) rq4 ⟨(oy rfl rfl),(oy rfl rfl),rfl,AIA⟩ (Ao fun W g=>RX ks ao cap o ho W (hr.kn g) hs h64),BL rq4 (fun _ _ h=>⟨_,_,h,rfl,rfl⟩),BL rq4 (fun _ _ h=>⟨_,_,h,rfl,rfl⟩),AIA⟩ fun a7 w7 g7 sv7=>?_
 refine AZ (v:=.int .i64 ((pos (ks.map VK.p) o:Int))) sv7 r6 fun a8 sv8=>?_
 refine AZ (v:=.bool (Ix (ks.map VK.p) o)) sv8 r6 fun a9 sv9=>?_
 have CG:Sv _ _ [_,_,_,_] _:=sv9.dl [6,7,8,9,10,11,3,2]
 refine AE ?_
 refine k6 _ _ ?_
 replace HG:=AA (AA (AA HG g2) g3) g7
 refine AH7 ?_
 repeat refine AM ?_
 refine A3 (fn:=Tryz.f71) CG (OB (p:=4) (q:=5) Tryz.results71 CG rfl rfl rfl rfl) ?_
 exact⟨rfl,HG⟩
theorem ACn (ks:List VK) (ao:Option Addr) (cap:Nat) (sa po:List Nat) (hsa:Dg sa) (hpo:Dg po) (o:List Nat) (ho:Dg o) (w:World) (hr:RdK w (.slice ao ks.length cap) ks) (hs:Srt (ks.map VK.p)) :
   Calls Tryz.prog 84 #[An sa po (.slice ao ks.length cap),AP o] w fun e w'=>e=.returned (.int .i64 (atV (ks.map VK.p) o))∧w.grownBy w' none:=by
 have hlen:=hr.len
 have hmap:(ks.map VK.p).length=ks.length:=List.length_map _
 refine BH Tryz.func84 rfl Tryz.ntmps84 rfl fun a0 sv0=>?_
 have HG:=World.grownBy.refl w none
 replace sv0:Sv 22 [] [(0,An sa po (.slice ao ks.length cap)),(1,AP o)] a0:=sv0
 refine AH4 fun K1 k1=>?_
 refine AH3 ?_
 refine BQ sv0 r6 (Bm hsa hpo (.slice ao ks.length cap) rfl) fun a2 w2 CJ Cs g2 z2 AH sv2=>?_
 refine BQ sv2 r6 (Bj o ho.1) fun a3 w3 Bw EH g3 z3 AL sv3=>?_
 replace AH:=AC g3 AH
 replace hr:=(hr.kn g2).kn g3
 replace HG:=AA (AA HG g2) g3
 refine AZ (v:=.int .i64 0) sv3 r6 fun a4 sv4=>?_
 refine AE ?_
 refine k1 _ _ ?_
 refine AH4 fun K5 k5=>?_
 refine AH4 fun K6 k6=>?_
 refine AH3 ?_
 refine AZ (v:=.int .i64 0) sv4 r6 fun a7 sv7=>?_
 refine AE ?_
 refine k6 _ _ ?_
 refine BB fun Q8 x8 y8 r8 o8=>?_
 refine wp_loop (fun a w'=>∃(i:Nat),(i≤ks.length)∧(∀k,k<i→od (ks.map VK.p) k≠o)∧Sv 22 [] [(5,.int .i64 ((i:Int))),(3,pt Bw),(2,pt CJ),(0,An sa po (.slice ao ks.length cap)),(1,AP o)] a∧w.grownBy w' none∧w'.heap[CJ]?=some (.cells ([bv sa,bv po,[.slice ao ks.length cap]].flatten).toArray 36 (0,0))∧w'.heap[Bw]?=some (.cells (bv o).toArray 23 (0,0))∧RdK w' (.slice ao ks.length cap) ks) (fun a _=>(ks.length-intOf (a.tmps.getD 5 undef)).toNat) ⟨0,Nat.zero_le _,fun k hk=>by omega,⟨sv7.1,sv7.2.1,sv7.2.2.1,sv7.2.2.2.2.1,sv7.2.2.2.2.2.1,sv7.2.2.2.2.2.2.1,sv7.2.2.2.2.2.2.2.1,AIA⟩,HG,AH,AL,hr⟩ fun a9 w9 hI9=>?_
 clear AH
 clear AL
 clear hr
 clear HG
 obtain⟨i,hin,hb,sv9,HG,AH,AL,hr⟩:=hI9
 refine AH4 fun K10 k10=>?_
 refine AH4 fun K11 k11=>?_
 by_cases hi:i<ks.length
 · obtain⟨x,hx_x⟩:∃x,ks[i]'hi=x:=⟨_,rfl⟩
   have hod:od (ks.map VK.p) i=x.o:=by rw[OE hi,hx_x]
   refine AH3 ?_
   refine AK sv9 5 [(6,.int .i64 ((i:Int))),(7,pk CJ 64),(8,.slice ao ks.length cap),(9,.int .i64 ((ks.length:Nat))),(10,.bool true)]
     ⟨ym r5,yf r6 (fun _=>by kernel_rfl),yp (i:=2) r6 (Du (.slice ao ks.length cap) rfl) AH rfl (by simp[AI,AU,hsa.1,hpo.1]),Be (Tryz.underlying34) rfl rfl trivial (oy rfl rfl) (fun _=>rfl),Gs r7 (fun _=>Bb (by simp;omega)),AIA⟩ fun a12 w12 g12 Cr=>?_
   refine AE ?_
   refine k11 _ _ ?_
   refine Aq Cr rfl rfl ?_
   refine AH8 ?_
   refine k10 _ _ ?_
   refine AH4 fun K13 k13=>?_
   refine BB fun Q14 x14 y14 r14 o14=>?_
   refine AH4 fun K15 k15=>?_
   replace AH:=AC g12 AH
   replace AL:=AC g12 AL
   replace hr:=hr.kn g12
   replace HG:=AA HG g12
   by_cases heq:x.o=o
   · have hyes:=LH hs (by omega) (hod.trans heq)
     refine Cn Cr [(13,pk CJ 64),(14,.slice ao ks.length cap),(15,.int .i64 ((i:Int))),(16,pk ((bO ao)) (oO ao+i*33)),(17,pk ((bO ao)) (oO ao+i*33)),(18,AP x.o),(19,AP o),(20,.bool true)]
      ⟨yf r6 (fun _=>by kernel_rfl),yp (i:=2) r6 (Du (.slice ao ks.length cap) rfl) AH rfl (by simp[AI,AU,hsa.1,hpo.1]),ym r5,BA rq8 (fun w=>CD Tryz.underlying34 (by kernel_rfl) (hr.1.1) (by omega) (rfl) w),yf r6 (fun _=>by kernel_rfl),Bn r6 (fun _ g=>Ad (Bj x.o x.ho.1) (RdK.ownerX (hr.kn g) rfl hi hx_x)),yl r6 (Bj o ho.1) AL,Gs r7 (fun _=>(Jo x.ho ho _ _ _).1.trans (by rw[decide_eq_true (heq)])),AIA⟩ fun a16 w16 g16 Ck=>?_
     refine k15 _ _ ?_
     refine Aq Ck rfl rfl ?_
     refine AH4 fun K17 k17=>?_
     refine AH3 ?_
     refine AK Ck 1 [(21,.int .i64 ((i:Int)))]
      ⟨ym r5,AIA⟩ fun a18 w18 g18 CF=>?_
     have ACo:=AA g16 g18
     refine AZ (v:=.int .i64 ((i:Int))) CF r6 fun a19 Dv=>?_
     refine AE ?_
     refine k17 _ _ ?_
     replace AH:=AC ACo AH
     replace AL:=AC ACo AL
     replace hr:=hr.kn ACo
     replace HG:=AA HG ACo
     refine AH7 ?_
     repeat refine AM ?_
     refine r14 _ _ ?_
     repeat refine AM ?_
     refine r8 _ _ ?_
     repeat refine AM ?_
     refine A3 (fn:=Tryz.f84) Dv (A2 (p:=4) Tryz.results84 Dv rfl rfl) ?_
     exact⟨AF0 (by unfold atV;rw[hyes.1,hyes.2];rfl),HG⟩
   · have hne:=heq
     refine Cn Cr [(13,pk CJ 64),(14,.slice ao ks.length cap),(15,.int .i64 ((i:Int))),(16,pk ((bO ao)) (oO ao+i*33)),(17,pk ((bO ao)) (oO ao+i*33)),(18,AP x.o),(19,AP o),(20,.bool false)]
      ⟨yf r6 (fun _=>by kernel_rfl),yp (i:=2) r6 (Du (.slice ao ks.length cap) rfl) AH rfl (by simp[AI,AU,hsa.1,hpo.1]),ym r5,BA rq8 (fun w=>CD Tryz.underlying34 (by kernel_rfl) (hr.1.1) (by omega) (rfl) w),yf r6 (fun _=>by kernel_rfl),Bn r6 (fun _ g=>Ad (Bj x.o x.ho.1) (RdK.ownerX (hr.kn g) rfl hi hx_x)),yl r6 (Bj o ho.1) AL,Gs r7 (fun _=>(Jo x.ho ho _ _ _).1.trans (by rw[decide_eq_false (heq)])),AIA⟩ fun a20 w20 g20 Dl=>?_
     refine k15 _ _ ?_
     refine Ax Dl rfl rfl ?_
     refine AH8 ?_
     refine y14 _ _ ?_
     refine k13 _ _ ?_
     refine AH3 ?_
     refine AK Dl 2 [(11,.int .i64 ((i:Int))),(12,.int .i64 (((i+1:Nat):Int)))]
      ⟨ym r5,Cm r6 (fun _=>DH (by rw[A7 (by omega) (by omega)];omega)),AIA⟩ fun a21 w21 g21 DL=>?_
     have ACp:=AA g20 g21
     refine AZ (v:=.int .i64 (((i+1:Nat):Int))) DL r6 fun a22 CU=>?_
     refine AE ?_
     replace AH:=AC ACp AH
     replace AL:=AC ACp AL
     replace hr:=hr.kn ACp
     replace HG:=AA HG ACp
     exact⟨⟨i+1,by omega,fun k hk=>if e:k=i then (by rw[e,hod];exact hne) else hb k (by omega),⟨CU.1,CU.2.1,CU.2.2.1,(AJ (AJ CU)).2.2.1,(AJ (AJ CU)).2.2.2.1,(AJ (AJ CU)).2.2.2.2.1,(AJ (AJ CU)).2.2.2.2.2.1,AIA⟩,HG,AH,AL,hr⟩,by rw[show _=_ from CU.2.2.1,show _=_ from sv9.2.2.1];simp[intOf];omega⟩
 · have hno:Ix (ks.map VK.p) o=false:=AEv fun k hk=>hb k (by omega)
   refine AH3 ?_
   refine AK sv9 5 [(6,.int .i64 ((i:Int))),(7,pk CJ 64),(8,.slice ao ks.length cap),(9,.int .i64 ((ks.length:Nat))),(10,.bool false)]
     ⟨ym r5,yf r6 (fun _=>by kernel_rfl),yp (i:=2) r6 (Du (.slice ao ks.length cap) rfl) AH rfl (by simp[AI,AU,hsa.1,hpo.1]),Be (Tryz.underlying34) rfl rfl trivial (oy rfl rfl) (fun _=>rfl),Gs r7 (fun _=>Bb (by simp;omega)),AIA⟩ fun a23 w23 g23 CX=>?_
   refine AE ?_
   refine k11 _ _ ?_
   refine Ax CX rfl rfl ?_
   refine wp_exit ?_
   repeat refine CH ?_
   refine x8 _ _ ?_
   refine k5 _ _ ?_
   refine AH4 fun K24 k24=>?_
   refine AH3 ?_
   refine AZ (v:=.int .i64 (-1)) CX r6 fun a25 Cu=>?_
   refine AE ?_
   refine k24 _ _ ?_
   replace HG:=AA HG g23
   refine AH7 ?_
   repeat refine AM ?_
   refine A3 (fn:=Tryz.f84) Cu (A2 (p:=4) Tryz.results84 Cu rfl rfl) ?_
   exact⟨AF0 (by unfold atV;rw[hno];rfl),HG⟩
theorem Kj {x y:List Nat} {b:Bool} (hb:Dk x y=b) (hx:Dg x) (hy:Dg y) (w:World):Calls Tryz.prog 86 #[AP x,AP y] w fun e w'=>e=.returned (.bool b)∧w.grownBy w' none:=hb▸Yg x y hx hy w
theorem Tj (ks:List VK) (ao:Option Addr) (cap:Nat) (sa po:List Nat) (hsa:Dg sa) (hpo:Dg po) (w:World) (hr:RdK w (.slice ao ks.length cap) ks) :
   Calls Tryz.prog 51 #[An sa po (.slice ao ks.length cap)] w fun e w'=>e=.returned (.bool (CR (ks.map VK.p)))∧w.grownBy w' none:=by
 have hlen:=hr.len
 have hmap:(ks.map VK.p).length=ks.length:=List.length_map _
 refine DP Tryz.func51 rfl Tryz.ntmps51 rfl fun a0 sv0=>?_
 have HG:=World.grownBy.refl w none
 replace sv0:Sv 38 [] [(0,An sa po (.slice ao ks.length cap))] a0:=sv0
 refine AH4 fun K1 k1=>?_
 refine AH3 ?_
 refine BQ sv0 r6 (Bm hsa hpo (.slice ao ks.length cap) rfl) fun a2 w2 Bv E4 g2 z2 AX sv2=>?_
 replace hr:=hr.kn g2
 replace HG:=AA HG g2
 refine AZ (v:=.bool false) sv2 r6 fun a3 sv3=>?_
 refine AE ?_
 refine k1 _ _ ?_
 refine AH4 fun K4 k4=>?_
 refine AH3 ?_
 refine D9 sv3 rfl (dd:={ target:=.fn (.func 95) #[],args:=#[] }) rfl (by simp[execOp,resolve,Deferred.ofValue];try rfl) fun a5 sv5=>?_
 refine AE ?_
 refine k4 _ _ ?_
 refine AH4 fun K6 k6=>?_
 refine AH4 fun K7 k7=>?_
 by_cases hbig:64<ks.length
 · refine AH3 ?_
   refine AK sv5 4 [(5,pk Bv 64),(6,.slice ao ks.length cap),(7,.int .i64 ((ks.length:Nat))),(8,.bool true)]
     ⟨yf r6 (fun _=>by kernel_rfl),yp (i:=2) r6 (Du (.slice ao ks.length cap) rfl) AX rfl (by simp[AI,AU,hsa.1,hpo.1]),Be (Tryz.underlying34) rfl rfl trivial (oy rfl rfl) (fun _=>rfl),Cm r6 (fun _=>Cj (by simp;omega)),AIA⟩ fun a8 w8 g8 sv8=>?_
   refine AE ?_
   refine k7 _ _ ?_
   refine Aq sv8 rfl rfl ?_
   refine AH4 fun K9 k9=>?_
   refine AH3 ?_
   refine AZ (v:=.bool false) sv8 r6 fun a10 CG=>?_
   refine AE ?_
   refine k9 _ _ ?_
   replace AX:=AC g8 AX
   replace hr:=hr.kn g8
   replace HG:=AA HG g8
   refine AH7 ?_
   repeat refine AM ?_
   refine BI (fn:=Tryz.f51) CG (A2 (p:=2) Tryz.results51 CG rfl rfl) (Bh Tryz.func95 (by kernel_rfl) rfl _ _) (Cc _) ?_
   exact⟨Fj ((Tk (by omega)).symm),HG⟩
 · refine AH3 ?_
   refine AK sv5 4 [(5,pk Bv 64),(6,.slice ao ks.length cap),(7,.int .i64 ((ks.length:Nat))),(8,.bool false)]
     ⟨yf r6 (fun _=>by kernel_rfl),yp (i:=2) r6 (Du (.slice ao ks.length cap) rfl) AX rfl (by simp[AI,AU,hsa.1,hpo.1]),Be (Tryz.underlying34) rfl rfl trivial (oy rfl rfl) (fun _=>rfl),Cm r6 (fun _=>Cj (by simp;omega)),AIA⟩ fun a11 w11 g11 CC=>?_
   refine AE ?_
   refine k7 _ _ ?_
   refine Ax CC rfl rfl ?_
   refine AH8 ?_
   refine k6 _ _ ?_
   refine AH4 fun K12 k12=>?_
   refine AH4 fun K13 k13=>?_
   refine AH3 ?_
   refine AK CC 4 [(9,pk Bv 64),(10,.slice ao ks.length cap),(11,.int .i64 ((ks.length:Nat))),(12,.int .i64 0)]
     ⟨yf r6 (fun _=>by kernel_rfl),yp (i:=2) r6 (Du (.slice ao ks.length cap) rfl) (AC g11 AX) rfl (by simp[AI,AU,hsa.1,hpo.1]),Be (Tryz.underlying34) rfl rfl trivial (oy rfl rfl) (fun _=>rfl),D8 (.inl rfl) rfl trivial (fun _=>rfl),AIA⟩ fun a14 w14 g14 Cy=>?_
   have Tl:=AA g11 g14
   refine AE ?_
   refine k13 _ _ ?_
   refine BB fun Q15 x15 y15 r15 o15=>?_
   replace AX:=AC Tl AX
   replace hr:=hr.kn Tl
   replace HG:=AA HG Tl
   refine wp_loop (fun a w'=>∃(i:Nat),(i≤ks.length)∧(∀k,k<i→chk (ks.map VK.p) k=true)∧Sv 38 [{ target:=.fn (.func 95) #[],args:=#[] }] [(12,.int .i64 ((i:Int))),(9,pk Bv 64),(10,.slice ao ks.length cap),(11,.int .i64 ((ks.length:Nat))),(5,pk Bv 64),(6,.slice ao ks.length cap),(7,.int .i64 ((ks.length:Nat))),(8,.bool false),(1,pt Bv),(0,An sa po (.slice ao ks.length cap))] a∧w.grownBy w' none∧w'.heap[Bv]?=some (.cells ([bv sa,bv po,[.slice ao ks.length cap]].flatten).toArray 36 (0,0))∧RdK w' (.slice ao ks.length cap) ks) (fun a _=>(ks.length-intOf (a.tmps.getD 12 undef)).toNat) ⟨0,Nat.zero_le _,fun k hk=>by omega,⟨Cy.1,Cy.2.1,Cy.2.2.2.2.2.1,Cy.2.2.1,Cy.2.2.2.1,Cy.2.2.2.2.1,Cy.2.2.2.2.2.2.1,Cy.2.2.2.2.2.2.2.1,(AJ Cy).1,(AJ Cy).2.1,(AJ Cy).2.2.2.1,(AJ Cy).2.2.2.2.1,AIA⟩,HG,AX,hr⟩ fun a16 w16 hI16=>?_
   clear AX
   clear hr
   clear HG
   obtain⟨i,hin,hb,Ck,HG,AX,hr⟩:=hI16
   refine AH4 fun K17 k17=>?_
   by_cases hi:i<ks.length
   · have hp:i-1<ks.length:=by omega
     obtain⟨x,hx_x⟩:∃x,ks[i]'hi=x:=⟨_,rfl⟩
     obtain⟨y,hx_y⟩:∃x,ks[(i-1)]'hp=x:=⟨_,rfl⟩
     have hchk:=AD2 hi hp hx_x hx_y
     refine AH3 ?_
     refine AK Ck 1 [(13,.bool true)]
       ⟨Gs r7 (fun _=>Bb (by simp;omega)),AIA⟩ fun a18 w18 g18 CF=>?_
     refine AE ?_
     refine k17 _ _ ?_
     refine AH4 fun K19 k19=>?_
     refine Aq CF rfl rfl ?_
     refine AH8 ?_
     refine k19 _ _ ?_
     refine AH4 fun K20 k20=>?_
     refine BB fun Q21 x21 y21 r21 o21=>?_
     refine AH4 fun K22 k22=>?_
     refine AH3 ?_
     replace hr:=hr.kn g18
     refine AK CF 3 [(14,.int .i64 ((i:Int))),(15,pk ((bO ao)) (oO ao+i*33)),(16,Ft x)]
       ⟨ym r5,BA rq8 (fun w=>CD Tryz.underlying34 (by kernel_rfl) (hr.1.1) (by omega) (rfl) w),Bn r6 (fun _ g=>Ad (RQ x) (RdK.keyX (hr.kn g) rfl hi hx_x)),AIA⟩ fun a23 w23 g23 CX=>?_
     replace AX:=AC g23 (AC g18 AX)
     replace hr:=hr.kn g23
     replace HG:=AA (AA HG g18) g23
     refine Ap (T:=58) (Z:=([bv AS,[.slice none 0 0]].flatten)) CX rfl rfl rfl (fun a w=>by kernel_rfl) fun a24 w24 Mw OH g24 z24 DQ Dw=>?_
     have Pc:=As AX OH
     have AAc:=Bp HG OH
     have Tm:=Av (hr.lt) OH
     refine AZ (v:=.int .i64 ((i:Int))) Dw r6 fun a25 Cu=>?_
     refine Am Cu r7 (RQ x) DQ (by first|rfl|simp[Ac,AI,AU,x.ho.1]) fun w26 g26 h26=>?_
     replace AX:=Aa g26 (AC g24 AX) (Ne.symm Pc)
     replace hr:=(hr.kn g24).offR g26 (AQ Tm)
     replace HG:=AD (AA HG g24) g26 AAc
     replace DQ:=h26
     refine AE ?_
     refine k22 _ _ ?_
     refine AH4 fun K27 k27=>?_
     rcases(show(i=0∧Fy x.l=true)∨(i=0∧Fy x.l=false)∨(0<i∧Dk y.o x.o=true∧Fy x.l=true)∨(0<i∧Dk y.o x.o=true∧Fy x.l=false)∨(0<i∧Dk y.o x.o=false∧Fy x.l=true)∨(0<i∧Dk y.o x.o=false∧Fy x.l=false) by
        rcases Nat.eq_zero_or_pos i with h|h<;>cases h2:Fy x.l<;>cases h3:Dk y.o x.o<;>simp[h]) with ⟨hz,hv⟩|⟨hz,hv⟩|⟨hz,hc,hv⟩|⟨hz,hc,hv⟩|⟨hz,hc,hv⟩|⟨hz,hc,hv⟩
     · have hok:((decide (i=0)||Dk y.o x.o)&&Fy x.l)=true:=by simp[hz,hv]
       refine Cn Cu [(17,.int .i64 ((i:Int))),(18,.bool false),(19,.bool false),(20,undef),(21,undef),(22,undef),(23,undef),(24,undef),(25,undef),(26,undef),(27,undef),(28,undef),(29,undef),(30,.bool false),(31,.bool false),(32,pk Mw 32),(33,.agg #[VK.s x]),(34,.bool true),(35,.bool false),(36,.bool false)]
        ⟨ym r5,Cm r6 (fun _=>Cj (by simp;omega)),ym r5,AY r6,AY r6,AY r6,AY r6,AY r6,AY r6,AY r6,AY r6,AY r6,AY r6,CA r7,ym r5,BK rq9 (fun _=>by kernel_rfl),Au rq9 (fun _ g=>Ad (YJ (VK.s x) rfl) (BT (L:=[bv x.o,[VK.s x]]) (i:=1) (AF g DQ (by simp)) rfl (by simp[AI,AU,x.ho.1]))),Bq [.agg #[VK.s x]] Tryz.func97 (by kernel_rfl) r7 ⟨(oy rfl rfl),AIA⟩ (Ao fun W g=>Gx hv ((hr.kn g).kt hi hx_x)),Hx rfl rfl (gy rfl rfl rfl) (oy rfl rfl) (fun _=>Bf) (fun _=>rfl),A1 rq9,AIA⟩ fun a28 w28 g28 JO=>?_
       refine k27 _ _ ?_
       refine Ax JO rfl rfl ?_
       refine AH8 ?_
       refine y21 _ _ ?_
       refine k20 _ _ ?_
       refine AH3 ?_
       refine AK JO 1 [(37,.int .i64 (((i+1:Nat):Int)))]
        ⟨Cm r6 (fun _=>DH (by rw[A7 (by omega) (by omega)];omega)),AIA⟩ fun a29 w29 g29 CK=>?_
       have Hz:=AA g28 g29
       refine AK (CK.dl [12]) 1 [(12,.int .i64 (((i+1:Nat):Int)))]
        ⟨ym r5,AIA⟩ fun a30 w30 g30 EB=>?_
       have ACq:=AA Hz g30
       refine AE ?_
       replace AX:=AC ACq AX
       replace DQ:=AC ACq DQ
       replace hr:=hr.kn ACq
       replace HG:=AA HG ACq
       exact⟨⟨i+1,by omega,fun k hk=>if e:k=i then (by rw[e,hchk];exact hok) else hb k (by omega),⟨EB.1,EB.2.1,EB.2.2.1,(AJ (AJ (AJ EB))).2.2.2.2.2.2.1,(AJ (AJ (AJ EB))).2.2.2.2.2.2.2.1,(AJ (AJ (AJ (AJ EB)))).1,(AJ (AJ (AJ (AJ EB)))).2.1,(AJ (AJ (AJ (AJ EB)))).2.2.1,(AJ (AJ (AJ (AJ EB)))).2.2.2.1,(AJ (AJ (AJ (AJ EB)))).2.2.2.2.1,(AJ (AJ (AJ (AJ EB)))).2.2.2.2.2.1,(AJ (AJ (AJ (AJ EB)))).2.2.2.2.2.2.1,AIA⟩,HG,AX,hr⟩,by rw[show _=_ from EB.2.2.1,show _=_ from Ck.2.2.1];simp[intOf];omega⟩
     · refine Cn Cu [(17,.int .i64 ((i:Int))),(18,.bool false),(19,.bool false),(20,undef),(21,undef),(22,undef),(23,undef),(24,undef),(25,undef),(26,undef),(27,undef),(28,undef),(29,undef),(30,.bool false),(31,.bool false),(32,pk Mw 32),(33,.agg #[VK.s x]),(34,.bool false),(35,.bool true),(36,.bool true)]
        ⟨ym r5,Cm r6 (fun _=>Cj (by simp;omega)),ym r5,AY r6,AY r6,AY r6,AY r6,AY r6,AY r6,AY r6,AY r6,AY r6,AY r6,CA r7,ym r5,BK rq9 (fun _=>by kernel_rfl),Au rq9 (fun _ g=>Ad (YJ (VK.s x) rfl) (BT (L:=[bv x.o,[VK.s x]]) (i:=1) (AF g DQ (by simp)) rfl (by simp[AI,AU,x.ho.1]))),Bq [.agg #[VK.s x]] Tryz.func97 (by kernel_rfl) r7 ⟨(oy rfl rfl),AIA⟩ (Ao fun W g=>Gx hv ((hr.kn g).kt hi hx_x)),Hx rfl rfl (gy rfl rfl rfl) (oy rfl rfl) (fun _=>Bf) (fun _=>rfl),A1 rq9,AIA⟩ fun a31 w31 g31 Hj=>?_
       refine k27 _ _ ?_
       refine Aq Hj rfl rfl ?_
       refine AH4 fun K32 k32=>?_
       refine AH3 ?_
       refine AZ (v:=.bool false) Hj r6 fun a33 I9=>?_
       refine AE ?_
       refine k32 _ _ ?_
       replace AX:=AC g31 AX
       replace DQ:=AC g31 DQ
       replace hr:=hr.kn g31
       replace HG:=AA HG g31
       refine AH7 ?_
       repeat refine AM ?_
       refine r21 _ _ ?_
       repeat refine AM ?_
       refine r15 _ _ ?_
       repeat refine AM ?_
       refine BI (fn:=Tryz.f51) I9 (A2 (p:=2) Tryz.results51 I9 rfl rfl) (Bh Tryz.func95 (by kernel_rfl) rfl _ _) (Cc _) ?_
       exact⟨Fj ((Gy (i:=i) (by rw[hmap];exact hi) (by rw[hchk];simp[hv])).symm),HG⟩
     · have hok:((decide (i=0)||Dk y.o x.o)&&Fy x.l)=true:=by simp[hz,hv,hc]
       refine Cn Cu [(17,.int .i64 ((i:Int))),(18,.bool true),(19,.bool true),(20,pk Bv 64),(21,.slice ao ks.length cap),(22,.int .i64 ((i:Int))),(23,.int .i64 (((i-1:Nat):Int))),(24,pk ((bO ao)) (oO ao+(i-1)*33)),(25,Ft y),(26,pt Mw),(27,AP x.o),(28,.int .i64 ((Fh y.o x.o))),(29,.bool false),(30,.bool false),(31,.bool false),(32,pk Mw 32),(33,.agg #[VK.s x]),(34,.bool true),(35,.bool false),(36,.bool false)]
        ⟨ym r5,Cm r6 (fun _=>Cj (by simp;omega)),ym r5,BK rq9 (fun _=>by kernel_rfl),Au rq9 (fun _ g=>Ad (Du (.slice ao ks.length cap) rfl) (BT (L:=[bv sa,bv po,[.slice ao ks.length cap]]) (i:=2) (AF g AX (by simp)) rfl (by simp[AI,AU,hsa.1,hpo.1]))),Ar rq8,BD rq9 (fun _=>E0 (by rw[A7 (by omega) (by omega)];omega)),CZ rfl rfl (gy rfl rfl rfl) (oy rfl rfl) (oy rfl rfl) (fun w=>CD Tryz.underlying34 (by kernel_rfl) (hr.1.1) (by omega) (rfl) w) (fun _=>rfl),Au rq9 (fun _ g=>Ad (RQ y) (RdK.keyX (hr.kn g) rfl hp hx_y)),BK rq9 (fun _=>by kernel_rfl),Au rq9 (fun _ g=>Ad (Bj x.o x.ho.1) (BT (L:=[bv x.o,[VK.s x]]) (i:=0) (AF g DQ (by simp)) rfl rfl)),Bq [Ft y,AP x.o] Tryz.func96 (by kernel_rfl) r7 ⟨(oy rfl rfl),(oy rfl rfl),AIA⟩ (Ao fun W g=>FM y x.o x.ho W),BD rq9 (fun _=>EP (by rw[Ju,hc];rfl)),A1 rq9,ym r5,BK rq9 (fun _=>by kernel_rfl),Au rq9 (fun _ g=>Ad (YJ (VK.s x) rfl) (BT (L:=[bv x.o,[VK.s x]]) (i:=1) (AF g DQ (by simp)) rfl (by simp[AI,AU,x.ho.1]))),Bq [.agg #[VK.s x]] Tryz.func97 (by kernel_rfl) r7 ⟨(oy rfl rfl),AIA⟩ (Ao fun W g=>Gx hv ((hr.kn g).kt hi hx_x)),Hx rfl rfl (gy rfl rfl rfl) (oy rfl rfl) (fun _=>Bf) (fun _=>rfl),A1 rq9,AIA⟩ fun a34 w34 g34 LO=>?_
       refine k27 _ _ ?_
       refine Ax LO rfl rfl ?_
       refine AH8 ?_
       refine y21 _ _ ?_
       refine k20 _ _ ?_
       refine AH3 ?_
       refine AK LO 1 [(37,.int .i64 (((i+1:Nat):Int)))]
        ⟨Cm r6 (fun _=>DH (by rw[A7 (by omega) (by omega)];omega)),AIA⟩ fun a35 w35 g35 MR=>?_
       have AG5:=AA g34 g35
       refine AK (MR.dl [12]) 1 [(12,.int .i64 (((i+1:Nat):Int)))]
        ⟨ym r5,AIA⟩ fun a36 w36 g36 FE=>?_
       have OI:=AA AG5 g36
       refine AE ?_
       replace AX:=AC OI AX
       replace DQ:=AC OI DQ
       replace hr:=hr.kn OI
       replace HG:=AA HG OI
       exact⟨⟨i+1,by omega,fun k hk=>if e:k=i then (by rw[e,hchk];exact hok) else hb k (by omega),⟨FE.1,FE.2.1,FE.2.2.1,(AJ (AJ (AJ FE))).2.2.2.2.2.2.1,(AJ (AJ (AJ FE))).2.2.2.2.2.2.2.1,(AJ (AJ (AJ (AJ FE)))).1,(AJ (AJ (AJ (AJ FE)))).2.1,(AJ (AJ (AJ (AJ FE)))).2.2.1,(AJ (AJ (AJ (AJ FE)))).2.2.2.1,(AJ (AJ (AJ (AJ FE)))).2.2.2.2.1,(AJ (AJ (AJ (AJ FE)))).2.2.2.2.2.1,(AJ (AJ (AJ (AJ FE)))).2.2.2.2.2.2.1,AIA⟩,HG,AX,hr⟩,by rw[show _=_ from FE.2.2.1,show _=_ from Ck.2.2.1];simp[intOf];omega⟩
     · refine Cn Cu [(17,.int .i64 ((i:Int))),(18,.bool true),(19,.bool true),(20,pk Bv 64),(21,.slice ao ks.length cap),(22,.int .i64 ((i:Int))),(23,.int .i64 (((i-1:Nat):Int))),(24,pk ((bO ao)) (oO ao+(i-1)*33)),(25,Ft y),(26,pt Mw),(27,AP x.o),(28,.int .i64 ((Fh y.o x.o))),(29,.bool false),(30,.bool false),(31,.bool false),(32,pk Mw 32),(33,.agg #[VK.s x]),(34,.bool false),(35,.bool true),(36,.bool true)]
        ⟨ym r5,Cm r6 (fun _=>Cj (by simp;omega)),ym r5,BK rq9 (fun _=>by kernel_rfl),Au rq9 (fun _ g=>Ad (Du (.slice ao ks.length cap) rfl) (BT (L:=[bv sa,bv po,[.slice ao ks.length cap]]) (i:=2) (AF g AX (by simp)) rfl (by simp[AI,AU,hsa.1,hpo.1]))),Ar rq8,BD rq9 (fun _=>E0 (by rw[A7 (by omega) (by omega)];omega)),CZ rfl rfl (gy rfl rfl rfl) (oy rfl rfl) (oy rfl rfl) (fun w=>CD Tryz.underlying34 (by kernel_rfl) (hr.1.1) (by omega) (rfl) w) (fun _=>rfl),Au rq9 (fun _ g=>Ad (RQ y) (RdK.keyX (hr.kn g) rfl hp hx_y)),BK rq9 (fun _=>by kernel_rfl),Au rq9 (fun _ g=>Ad (Bj x.o x.ho.1) (BT (L:=[bv x.o,[VK.s x]]) (i:=0) (AF g DQ (by simp)) rfl rfl)),Bq [Ft y,AP x.o] Tryz.func96 (by kernel_rfl) r7 ⟨(oy rfl rfl),(oy rfl rfl),AIA⟩ (Ao fun W g=>FM y x.o x.ho W),BD rq9 (fun _=>EP (by rw[Ju,hc];rfl)),A1 rq9,ym r5,BK rq9 (fun _=>by kernel_rfl),Au rq9 (fun _ g=>Ad (YJ (VK.s x) rfl) (BT (L:=[bv x.o,[VK.s x]]) (i:=1) (AF g DQ (by simp)) rfl (by simp[AI,AU,x.ho.1]))),Bq [.agg #[VK.s x]] Tryz.func97 (by kernel_rfl) r7 ⟨(oy rfl rfl),AIA⟩ (Ao fun W g=>Gx hv ((hr.kn g).kt hi hx_x)),Hx rfl rfl (gy rfl rfl rfl) (oy rfl rfl) (fun _=>Bf) (fun _=>rfl),A1 rq9,AIA⟩ fun a37 w37 g37 IW=>?_
       refine k27 _ _ ?_
       refine Aq IW rfl rfl ?_
       refine AH4 fun K38 k38=>?_
       refine AH3 ?_
       refine AZ (v:=.bool false) IW r6 fun a39 JP=>?_
       refine AE ?_
       refine k38 _ _ ?_
       replace AX:=AC g37 AX
       replace DQ:=AC g37 DQ
       replace hr:=hr.kn g37
       replace HG:=AA HG g37
       refine AH7 ?_
       repeat refine AM ?_
       refine r21 _ _ ?_
       repeat refine AM ?_
       refine r15 _ _ ?_
       repeat refine AM ?_
       refine BI (fn:=Tryz.f51) JP (A2 (p:=2) Tryz.results51 JP rfl rfl) (Bh Tryz.func95 (by kernel_rfl) rfl _ _) (Cc _) ?_
       exact⟨Fj ((Gy (i:=i) (by rw[hmap];exact hi) (by rw[hchk];simp[hv,hc,Nat.ne_of_gt hz])).symm),HG⟩
     · refine Cn Cu [(17,.int .i64 ((i:Int))),(18,.bool true),(19,.bool true),(20,pk Bv 64),(21,.slice ao ks.length cap),(22,.int .i64 ((i:Int))),(23,.int .i64 (((i-1:Nat):Int))),(24,pk ((bO ao)) (oO ao+(i-1)*33)),(25,Ft y),(26,pt Mw),(27,AP x.o),(28,.int .i64 ((Fh y.o x.o))),(29,.bool true),(30,.bool true),(31,.bool true),(32,undef),(33,undef),(34,undef),(35,undef),(36,.bool true)]
        ⟨ym r5,Cm r6 (fun _=>Cj (by simp;omega)),ym r5,BK rq9 (fun _=>by kernel_rfl),Au rq9 (fun _ g=>Ad (Du (.slice ao ks.length cap) rfl) (BT (L:=[bv sa,bv po,[.slice ao ks.length cap]]) (i:=2) (AF g AX (by simp)) rfl (by simp[AI,AU,hsa.1,hpo.1]))),Ar rq8,BD rq9 (fun _=>E0 (by rw[A7 (by omega) (by omega)];omega)),CZ rfl rfl (gy rfl rfl rfl) (oy rfl rfl) (oy rfl rfl) (fun w=>CD Tryz.underlying34 (by kernel_rfl) (hr.1.1) (by omega) (rfl) w) (fun _=>rfl),Au rq9 (fun _ g=>Ad (RQ y) (RdK.keyX (hr.kn g) rfl hp hx_y)),BK rq9 (fun _=>by kernel_rfl),Au rq9 (fun _ g=>Ad (Bj x.o x.ho.1) (BT (L:=[bv x.o,[VK.s x]]) (i:=0) (AF g DQ (by simp)) rfl rfl)),Bq [Ft y,AP x.o] Tryz.func96 (by kernel_rfl) r7 ⟨(oy rfl rfl),(oy rfl rfl),AIA⟩ (Ao fun W g=>FM y x.o x.ho W),BD rq9 (fun _=>EP (by rw[Ju,hc];rfl)),A1 rq9,ym r5,AY r6,AY r6,AY r6,AY r6,CA r7,AIA⟩ fun a40 w40 g40 Kk=>?_
       refine k27 _ _ ?_
       refine Aq Kk rfl rfl ?_
       refine AH4 fun K41 k41=>?_
       refine AH3 ?_
       refine AZ (v:=.bool false) Kk r6 fun a42 Hk=>?_
       refine AE ?_
       refine k41 _ _ ?_
       replace AX:=AC g40 AX
       replace DQ:=AC g40 DQ
       replace hr:=hr.kn g40
       replace HG:=AA HG g40
       refine AH7 ?_
       repeat refine AM ?_
       refine r21 _ _ ?_
       repeat refine AM ?_
       refine r15 _ _ ?_
       repeat refine AM ?_
       refine BI (fn:=Tryz.f51) Hk (A2 (p:=2) Tryz.results51 Hk rfl rfl) (Bh Tryz.func95 (by kernel_rfl) rfl _ _) (Cc _) ?_
       exact⟨Fj ((Gy (i:=i) (by rw[hmap];exact hi) (by rw[hchk];simp[hv,hc,Nat.ne_of_gt hz])).symm),HG⟩
     · refine Cn Cu [(17,.int .i64 ((i:Int))),(18,.bool true),(19,.bool true),(20,pk Bv 64),(21,.slice ao ks.length cap),(22,.int .i64 ((i:Int))),(23,.int .i64 (((i-1:Nat):Int))),(24,pk ((bO ao)) (oO ao+(i-1)*33)),(25,Ft y),(26,pt Mw),(27,AP x.o),(28,.int .i64 ((Fh y.o x.o))),(29,.bool true),(30,.bool true),(31,.bool true),(32,undef),(33,undef),(34,undef),(35,undef),(36,.bool true)]
        ⟨ym r5,Cm r6 (fun _=>Cj (by simp;omega)),ym r5,BK rq9 (fun _=>by kernel_rfl),Au rq9 (fun _ g=>Ad (Du (.slice ao ks.length cap) rfl) (BT (L:=[bv sa,bv po,[.slice ao ks.length cap]]) (i:=2) (AF g AX (by simp)) rfl (by simp[AI,AU,hsa.1,hpo.1]))),Ar rq8,BD rq9 (fun _=>E0 (by rw[A7 (by omega) (by omega)];omega)),CZ rfl rfl (gy rfl rfl rfl) (oy rfl rfl) (oy rfl rfl) (fun w=>CD Tryz.underlying34 (by kernel_rfl) (hr.1.1) (by omega) (rfl) w) (fun _=>rfl),Au rq9 (fun _ g=>Ad (RQ y) (RdK.keyX (hr.kn g) rfl hp hx_y)),BK rq9 (fun _=>by kernel_rfl),Au rq9 (fun _ g=>Ad (Bj x.o x.ho.1) (BT (L:=[bv x.o,[VK.s x]]) (i:=0) (AF g DQ (by simp)) rfl rfl)),Bq [Ft y,AP x.o] Tryz.func96 (by kernel_rfl) r7 ⟨(oy rfl rfl),(oy rfl rfl),AIA⟩ (Ao fun W g=>FM y x.o x.ho W),BD rq9 (fun _=>EP (by rw[Ju,hc];rfl)),A1 rq9,ym r5,AY r6,AY r6,AY r6,AY r6,CA r7,AIA⟩ fun a43 w43 g43 IX=>?_
       refine k27 _ _ ?_
       refine Aq IX rfl rfl ?_
       refine AH4 fun K44 k44=>?_
       refine AH3 ?_
       refine AZ (v:=.bool false) IX r6 fun a45 EQ=>?_
       refine AE ?_
       refine k44 _ _ ?_
       replace HG:=AA HG g43
       refine AH7 ?_
       repeat refine AM ?_
       refine r21 _ _ ?_
       repeat refine AM ?_
       refine r15 _ _ ?_
       repeat refine AM ?_
       refine BI (fn:=Tryz.f51) EQ (A2 (p:=2) Tryz.results51 EQ rfl rfl) (Bh Tryz.func95 (by kernel_rfl) rfl _ _) (Cc _) ?_
       exact⟨Fj ((Gy (i:=i) (by rw[hmap];exact hi) (by rw[hchk];simp[hv,hc,Nat.ne_of_gt hz])).symm),HG⟩
   · refine AH3 ?_
     refine AK Ck 1 [(13,.bool false)]
       ⟨Gs r7 (fun _=>Bb (by simp;omega)),AIA⟩ fun a46 w46 g46 IY=>?_
     refine AE ?_
     refine k17 _ _ ?_
     refine AH4 fun K47 k47=>?_
     refine Ax IY rfl rfl ?_
     refine wp_exit ?_
     repeat refine CH ?_
     refine x15 _ _ ?_
     refine k12 _ _ ?_
     refine AH4 fun K48 k48=>?_
     refine AH3 ?_
     refine AZ (v:=.bool true) IY r6 fun a49 J8=>?_
     refine AE ?_
     refine k48 _ _ ?_
     replace HG:=AA HG g46
     refine AH7 ?_
     repeat refine AM ?_
     refine BI (fn:=Tryz.f51) J8 (A2 (p:=2) Tryz.results51 J8 rfl rfl) (Bh Tryz.func95 (by kernel_rfl) rfl _ _) (Cc _) ?_
     exact⟨Fj ((Tn (by omega) fun k hk=>hb k (by omega)).symm),HG⟩
theorem RZ (ks:List VK) (ao:Option Addr) (cap:Nat) (sa po:List Nat) (hsa:Dg sa) (hpo:Dg po) (w:World) (hr:RdK w (.slice ao ks.length cap) ks) :
   Calls Tryz.prog 40 #[An sa po (.slice ao ks.length cap)] w fun e w'=>e=.returned (.bool (CR (ks.map VK.p)))∧w.grownBy w' none:=by
 have hlen:=hr.len
 have hmap:(ks.map VK.p).length=ks.length:=List.length_map _
 refine BH Tryz.func40 rfl Tryz.ntmps40 rfl fun a0 sv0=>?_
 have HG:=World.grownBy.refl w none
 replace sv0:Sv 44 [] [(0,An sa po (.slice ao ks.length cap))] a0:=sv0
 refine AH4 fun K1 k1=>?_
 refine AH3 ?_
 refine BQ sv0 r6 (Bm hsa hpo (.slice ao ks.length cap) rfl) fun a2 w2 Bv E4 g2 z2 AX sv2=>?_
 replace hr:=hr.kn g2
 replace HG:=AA HG g2
 refine AZ (v:=.bool false) sv2 r6 fun a3 sv3=>?_
 refine AE ?_
 refine k1 _ _ ?_
 refine AH4 fun K4 k4=>?_
 refine AH4 fun K5 k5=>?_
 by_cases hbig:64<ks.length
 · refine AH3 ?_
   refine AK sv3 4 [(4,pk Bv 64),(5,.slice ao ks.length cap),(6,.int .i64 ((ks.length:Nat))),(7,.bool true)]
     ⟨yf r6 (fun _=>by kernel_rfl),yp (i:=2) r6 (Du (.slice ao ks.length cap) rfl) AX rfl (by simp[AI,AU,hsa.1,hpo.1]),Be (Tryz.underlying34) rfl rfl trivial (oy rfl rfl) (fun _=>rfl),Cm r6 (fun _=>Cj (by simp;omega)),AIA⟩ fun a6 w6 g6 sv6=>?_
   refine AE ?_
   refine k5 _ _ ?_
   refine Aq sv6 rfl rfl ?_
   refine AH4 fun K7 k7=>?_
   refine AH3 ?_
   refine AZ (v:=.bool false) sv6 r6 fun a8 sv8=>?_
   refine AE ?_
   refine k7 _ _ ?_
   replace AX:=AC g6 AX
   replace hr:=hr.kn g6
   replace HG:=AA HG g6
   refine AH7 ?_
   repeat refine AM ?_
   refine A3 (fn:=Tryz.f40) sv8 (A2 (p:=2) Tryz.results40 sv8 rfl rfl) ?_
   exact⟨Fj ((Tk (by omega)).symm),HG⟩
 · refine AH3 ?_
   refine AK sv3 4 [(4,pk Bv 64),(5,.slice ao ks.length cap),(6,.int .i64 ((ks.length:Nat))),(7,.bool false)]
     ⟨yf r6 (fun _=>by kernel_rfl),yp (i:=2) r6 (Du (.slice ao ks.length cap) rfl) AX rfl (by simp[AI,AU,hsa.1,hpo.1]),Be (Tryz.underlying34) rfl rfl trivial (oy rfl rfl) (fun _=>rfl),Cm r6 (fun _=>Cj (by simp;omega)),AIA⟩ fun a9 w9 g9 sv9=>?_
   refine AE ?_
   refine k5 _ _ ?_
   refine Ax sv9 rfl rfl ?_
   refine AH8 ?_
   refine k4 _ _ ?_
   refine AH4 fun K10 k10=>?_
   refine AH4 fun K11 k11=>?_
   refine AH3 ?_
   refine AZ (v:=.int .i64 0) sv9 r6 fun a12 Cr=>?_
   refine AE ?_
   refine k11 _ _ ?_
   refine BB fun Q13 x13 y13 r13 o13=>?_
   replace AX:=AC g9 AX
   replace hr:=hr.kn g9
   replace HG:=AA HG g9
   refine wp_loop (fun a w'=>∃(i:Nat),(i≤ks.length)∧(∀k,k<i→chk (ks.map VK.p) k=true)∧Sv 44 [] [(3,.int .i64 ((i:Int))),(4,pk Bv 64),(5,.slice ao ks.length cap),(6,.int .i64 ((ks.length:Nat))),(7,.bool false),(1,pt Bv),(0,An sa po (.slice ao ks.length cap))] a∧w.grownBy w' none∧w'.heap[Bv]?=some (.cells ([bv sa,bv po,[.slice ao ks.length cap]].flatten).toArray 36 (0,0))∧RdK w' (.slice ao ks.length cap) ks) (fun a _=>(ks.length-intOf (a.tmps.getD 3 undef)).toNat) ⟨0,Nat.zero_le _,fun k hk=>by omega,⟨Cr.1,Cr.2.1,Cr.2.2.1,Cr.2.2.2.1,Cr.2.2.2.2.1,Cr.2.2.2.2.2.1,Cr.2.2.2.2.2.2.1,(AJ Cr).1,(AJ Cr).2.1,AIA⟩,HG,AX,hr⟩ fun a14 w14 hI14=>?_
   clear AX
   clear hr
   clear HG
   obtain⟨i,hin,hb,Cy,HG,AX,hr⟩:=hI14
   refine AH4 fun K15 k15=>?_
   refine AH4 fun K16 k16=>?_
   by_cases hi:i<ks.length
   · have hp:i-1<ks.length:=by omega
     obtain⟨x,hx_x⟩:∃x,ks[i]'hi=x:=⟨_,rfl⟩
     obtain⟨y,hx_y⟩:∃x,ks[(i-1)]'hp=x:=⟨_,rfl⟩
     have hchk:=AD2 hi hp hx_x hx_y
     refine AH3 ?_
     refine AK Cy 5 [(8,.int .i64 ((i:Int))),(9,pk Bv 64),(10,.slice ao ks.length cap),(11,.int .i64 ((ks.length:Nat))),(12,.bool true)]
       ⟨ym r5,yf r6 (fun _=>by kernel_rfl),yp (i:=2) r6 (Du (.slice ao ks.length cap) rfl) AX rfl (by simp[AI,AU,hsa.1,hpo.1]),Be (Tryz.underlying34) rfl rfl trivial (oy rfl rfl) (fun _=>rfl),Gs r7 (fun _=>Bb (by simp;omega)),AIA⟩ fun a17 w17 g17 E2=>?_
     refine AE ?_
     refine k16 _ _ ?_
     refine Aq E2 rfl rfl ?_
     refine AH8 ?_
     refine k15 _ _ ?_
     refine AH4 fun K18 k18=>?_
     refine BB fun Q19 x19 y19 r19 o19=>?_
     refine AH4 fun K20 k20=>?_
     replace AX:=AC g17 AX
     replace hr:=hr.kn g17
     replace HG:=AA HG g17
     rcases(show(i=0∧Fy x.l=true)∨(i=0∧Fy x.l=false)∨(0<i∧Dk y.o x.o=true∧Fy x.l=true)∨(0<i∧Dk y.o x.o=true∧Fy x.l=false)∨(0<i∧Dk y.o x.o=false∧Fy x.l=true)∨(0<i∧Dk y.o x.o=false∧Fy x.l=false) by
        rcases Nat.eq_zero_or_pos i with h|h<;>cases h2:Fy x.l<;>cases h3:Dk y.o x.o<;>simp[h]) with ⟨hz,hv⟩|⟨hz,hv⟩|⟨hz,hc,hv⟩|⟨hz,hc,hv⟩|⟨hz,hc,hv⟩|⟨hz,hc,hv⟩
     · have hok:((decide (i=0)||Dk y.o x.o)&&Fy x.l)=true:=by simp[hz,hv]
       refine Cn E2 [(15,pk Bv 64),(16,.slice ao ks.length cap),(17,.int .i64 ((i:Int))),(18,pk ((bO ao)) (oO ao+i*33)),(19,pk ((bO ao)) (oO ao+i*33+32)),(20,.agg #[VK.s x]),(21,.bool true),(22,.bool false),(23,.bool false),(24,.int .i64 ((i:Int))),(25,.bool false),(26,.bool false),(27,undef),(28,undef),(29,undef),(30,undef),(31,undef),(32,undef),(33,undef),(34,undef),(35,undef),(36,undef),(37,undef),(38,undef),(39,undef),(40,undef),(41,undef),(42,.bool false),(43,.bool false)]
        ⟨yf r6 (fun _=>by kernel_rfl),yp (i:=2) r6 (Du (.slice ao ks.length cap) rfl) AX rfl (by simp[AI,AU,hsa.1,hpo.1]),ym r5,BA rq8 (fun w=>CD Tryz.underlying34 (by kernel_rfl) (hr.1.1) (by omega) (rfl) w),yf r6 (fun _=>by kernel_rfl),Bn r6 (fun _ g=>Ad (YJ (VK.s x) rfl) (RdK.treeX (hr.kn g) rfl hi hx_x)),Ah [.agg #[VK.s x]] Tryz.func87 (by kernel_rfl) rq4 ⟨(oy rfl rfl),AIA⟩ (Ao fun W g=>EI hv ((hr.kn g).kt hi hx_x)),C3 r6 (fun _=>Bf),ym r5,Ar rq8,BD rq9 (fun _=>Cj (by simp;omega)),Ar rq8,AY r6,AY r6,AY r6,AY r6,AY r6,AY r6,AY r6,AY r6,AY r6,AY r6,AY r6,AY r6,AY r6,AY r6,AY r6,Gu rfl rfl (gy rfl rfl rfl) (oy rfl rfl) rfl (fun _=>rfl),A1 rq9,AIA⟩ fun a21 w21 g21 DL=>?_
       refine k20 _ _ ?_
       refine Ax DL rfl rfl ?_
       refine AH8 ?_
       refine y19 _ _ ?_
       refine k18 _ _ ?_
       refine AH3 ?_
       refine AK DL 2 [(13,.int .i64 ((i:Int))),(14,.int .i64 (((i+1:Nat):Int)))]
        ⟨ym r5,Cm r6 (fun _=>DH (by rw[A7 (by omega) (by omega)];omega)),AIA⟩ fun a22 w22 g22 CU=>?_
       have NE:=AA g21 g22
       refine AZ (v:=.int .i64 (((i+1:Nat):Int))) CU r6 fun a23 CX=>?_
       refine AE ?_
       replace AX:=AC NE AX
       replace hr:=hr.kn NE
       replace HG:=AA HG NE
       exact⟨⟨i+1,by omega,fun k hk=>if e:k=i then (by rw[e,hchk];exact hok) else hb k (by omega),⟨CX.1,CX.2.1,CX.2.2.1,(AJ (AJ (AJ (AJ CX)))).2.2.2.2.2.2.2.1,(AJ (AJ (AJ (AJ (AJ CX))))).1,(AJ (AJ (AJ (AJ (AJ CX))))).2.1,(AJ (AJ (AJ (AJ (AJ CX))))).2.2.1,(AJ (AJ (AJ (AJ (AJ CX))))).2.2.2.1,(AJ (AJ (AJ (AJ (AJ CX))))).2.2.2.2.1,AIA⟩,HG,AX,hr⟩,by rw[show _=_ from CX.2.2.1,show _=_ from Cy.2.2.1];simp[intOf];omega⟩
     · refine Cn E2 [(15,pk Bv 64),(16,.slice ao ks.length cap),(17,.int .i64 ((i:Int))),(18,pk ((bO ao)) (oO ao+i*33)),(19,pk ((bO ao)) (oO ao+i*33+32)),(20,.agg #[VK.s x]),(21,.bool false),(22,.bool true),(23,.bool true),(24,undef),(25,undef),(26,undef),(27,undef),(28,undef),(29,undef),(30,undef),(31,undef),(32,undef),(33,undef),(34,undef),(35,undef),(36,undef),(37,undef),(38,undef),(39,undef),(40,undef),(41,undef),(42,undef),(43,.bool true)]
        ⟨yf r6 (fun _=>by kernel_rfl),yp (i:=2) r6 (Du (.slice ao ks.length cap) rfl) AX rfl (by simp[AI,AU,hsa.1,hpo.1]),ym r5,BA rq8 (fun w=>CD Tryz.underlying34 (by kernel_rfl) (hr.1.1) (by omega) (rfl) w),yf r6 (fun _=>by kernel_rfl),Bn r6 (fun _ g=>Ad (YJ (VK.s x) rfl) (RdK.treeX (hr.kn g) rfl hi hx_x)),Ah [.agg #[VK.s x]] Tryz.func87 (by kernel_rfl) rq4 ⟨(oy rfl rfl),AIA⟩ (Ao fun W g=>EI hv ((hr.kn g).kt hi hx_x)),C3 r6 (fun _=>Bf),ym r5,AY r6,AY r6,AY r6,Az ⟨26,rfl,rfl,fun _ _ h=>h⟩ rfl (fun _=>rfl),Az ⟨26,rfl,rfl,fun _ _ h=>h⟩ rfl (fun _=>rfl),Az ⟨26,rfl,rfl,fun _ _ h=>h⟩ rfl (fun _=>rfl),Az ⟨26,rfl,rfl,fun _ _ h=>h⟩ rfl (fun _=>rfl),Az ⟨26,rfl,rfl,fun _ _ h=>h⟩ rfl (fun _=>rfl),Az ⟨26,rfl,rfl,fun _ _ h=>h⟩ rfl (fun _=>rfl),Az ⟨26,rfl,rfl,fun _ _ h=>h⟩ rfl (fun _=>rfl),Az ⟨26,rfl,rfl,fun _ _ h=>h⟩ rfl (fun _=>rfl),Az ⟨26,rfl,rfl,fun _ _ h=>h⟩ rfl (fun _=>rfl),Az ⟨26,rfl,rfl,fun _ _ h=>h⟩ rfl (fun _=>rfl),Az ⟨26,rfl,rfl,fun _ _ h=>h⟩ rfl (fun _=>rfl),Az ⟨26,rfl,rfl,fun _ _ h=>h⟩ rfl (fun _=>rfl),Az ⟨26,rfl,rfl,fun _ _ h=>h⟩ rfl (fun _=>rfl),Az ⟨26,rfl,rfl,fun _ _ h=>h⟩ rfl (fun _=>rfl),Az ⟨26,rfl,rfl,fun _ _ h=>h⟩ rfl (fun _=>rfl),AY r6,CA r7,AIA⟩ fun a24 w24 g24 Dw=>?_
       refine k20 _ _ ?_
       refine Aq Dw rfl rfl ?_
       refine AH4 fun K25 k25=>?_
       refine AH3 ?_
       refine AZ (v:=.bool false) Dw r6 fun a26 CW=>?_
       refine AE ?_
       refine k25 _ _ ?_
       replace AX:=AC g24 AX
       replace hr:=hr.kn g24
       replace HG:=AA HG g24
       refine AH7 ?_
       repeat refine AM ?_
       refine r19 _ _ ?_
       repeat refine AM ?_
       refine r13 _ _ ?_
       repeat refine AM ?_
       refine A3 (fn:=Tryz.f40) CW (A2 (p:=2) Tryz.results40 CW rfl rfl) ?_
       exact⟨Fj ((Gy (i:=i) (by rw[hmap];exact hi) (by rw[hchk];simp[hv])).symm),HG⟩
     · have hok:((decide (i=0)||Dk y.o x.o)&&Fy x.l)=true:=by simp[hz,hv,hc]
       refine Cn E2 [(15,pk Bv 64),(16,.slice ao ks.length cap),(17,.int .i64 ((i:Int))),(18,pk ((bO ao)) (oO ao+i*33)),(19,pk ((bO ao)) (oO ao+i*33+32)),(20,.agg #[VK.s x]),(21,.bool true),(22,.bool false),(23,.bool false),(24,.int .i64 ((i:Int))),(25,.bool true),(26,.bool true),(27,pk Bv 64),(28,.slice ao ks.length cap),(29,.int .i64 ((i:Int))),(30,.int .i64 (((i-1:Nat):Int))),(31,pk ((bO ao)) (oO ao+(i-1)*33)),(32,pk ((bO ao)) (oO ao+(i-1)*33)),(33,AP y.o),(34,pk Bv 64),(35,.slice ao ks.length cap),(36,.int .i64 ((i:Int))),(37,pk ((bO ao)) (oO ao+i*33)),(38,pk ((bO ao)) (oO ao+i*33)),(39,AP x.o),(40,.bool true),(41,.bool false),(42,.bool false),(43,.bool false)]
        ⟨yf r6 (fun _=>by kernel_rfl),yp (i:=2) r6 (Du (.slice ao ks.length cap) rfl) AX rfl (by simp[AI,AU,hsa.1,hpo.1]),ym r5,BA rq8 (fun w=>CD Tryz.underlying34 (by kernel_rfl) (hr.1.1) (by omega) (rfl) w),yf r6 (fun _=>by kernel_rfl),Bn r6 (fun _ g=>Ad (YJ (VK.s x) rfl) (RdK.treeX (hr.kn g) rfl hi hx_x)),Ah [.agg #[VK.s x]] Tryz.func87 (by kernel_rfl) rq4 ⟨(oy rfl rfl),AIA⟩ (Ao fun W g=>EI hv ((hr.kn g).kt hi hx_x)),C3 r6 (fun _=>Bf),ym r5,Ar rq8,BD rq9 (fun _=>Cj (by simp;omega)),Ar rq8,BK rq9 (fun _=>by kernel_rfl),Au rq9 (fun _ g=>Ad (Du (.slice ao ks.length cap) rfl) (BT (L:=[bv sa,bv po,[.slice ao ks.length cap]]) (i:=2) (AF g AX (by simp)) rfl (by simp[AI,AU,hsa.1,hpo.1]))),Ar rq8,BD rq9 (fun _=>E0 (by rw[A7 (by omega) (by omega)];omega)),CZ rfl rfl (gy rfl rfl rfl) (oy rfl rfl) (oy rfl rfl) (fun w=>CD Tryz.underlying34 (by kernel_rfl) (hr.1.1) (by omega) (rfl) w) (fun _=>rfl),BK rq9 (fun _=>by kernel_rfl),Au rq9 (fun _ g=>Ad (Bj y.o y.ho.1) (RdK.ownerX (hr.kn g) rfl hp hx_y)),BK rq9 (fun _=>by kernel_rfl),Au rq9 (fun _ g=>Ad (Du (.slice ao ks.length cap) rfl) (BT (L:=[bv sa,bv po,[.slice ao ks.length cap]]) (i:=2) (AF g AX (by simp)) rfl (by simp[AI,AU,hsa.1,hpo.1]))),Ar rq8,CZ rfl rfl (gy rfl rfl rfl) (oy rfl rfl) (oy rfl rfl) (fun w=>CD Tryz.underlying34 (by kernel_rfl) (hr.1.1) (by omega) (rfl) w) (fun _=>rfl),BK rq9 (fun _=>by kernel_rfl),Au rq9 (fun _ g=>Ad (Bj x.o x.ho.1) (RdK.ownerX (hr.kn g) rfl hi hx_x)),Bq [AP y.o,AP x.o] Tryz.func86 (by kernel_rfl) r7 ⟨(oy rfl rfl),(oy rfl rfl),AIA⟩ (Ao fun W g=>Kj hc y.ho x.ho W),Hx rfl rfl (gy rfl rfl rfl) (oy rfl rfl) (fun _=>Bf) (fun _=>rfl),Gu rfl rfl (gy rfl rfl rfl) (oy rfl rfl) (oy rfl rfl) (fun _=>rfl),A1 rq9,AIA⟩ fun a27 w27 g27 F8=>?_
       refine k20 _ _ ?_
       refine Ax F8 rfl rfl ?_
       refine AH8 ?_
       refine y19 _ _ ?_
       refine k18 _ _ ?_
       refine AH3 ?_
       refine AK F8 2 [(13,.int .i64 ((i:Int))),(14,.int .i64 (((i+1:Nat):Int)))]
        ⟨ym r5,Cm r6 (fun _=>DH (by rw[A7 (by omega) (by omega)];omega)),AIA⟩ fun a28 w28 g28 JO=>?_
       have Ki:=AA g27 g28
       refine AZ (v:=.int .i64 (((i+1:Nat):Int))) JO r6 fun a29 CK=>?_
       refine AE ?_
       replace AX:=AC Ki AX
       replace hr:=hr.kn Ki
       replace HG:=AA HG Ki
       exact⟨⟨i+1,by omega,fun k hk=>if e:k=i then (by rw[e,hchk];exact hok) else hb k (by omega),⟨CK.1,CK.2.1,CK.2.2.1,(AJ (AJ (AJ (AJ CK)))).2.2.2.2.2.2.2.1,(AJ (AJ (AJ (AJ (AJ CK))))).1,(AJ (AJ (AJ (AJ (AJ CK))))).2.1,(AJ (AJ (AJ (AJ (AJ CK))))).2.2.1,(AJ (AJ (AJ (AJ (AJ CK))))).2.2.2.1,(AJ (AJ (AJ (AJ (AJ CK))))).2.2.2.2.1,AIA⟩,HG,AX,hr⟩,by rw[show _=_ from CK.2.2.1,show _=_ from Cy.2.2.1];simp[intOf];omega⟩
     · refine Cn E2 [(15,pk Bv 64),(16,.slice ao ks.length cap),(17,.int .i64 ((i:Int))),(18,pk ((bO ao)) (oO ao+i*33)),(19,pk ((bO ao)) (oO ao+i*33+32)),(20,.agg #[VK.s x]),(21,.bool false),(22,.bool true),(23,.bool true),(24,undef),(25,undef),(26,undef),(27,undef),(28,undef),(29,undef),(30,undef),(31,undef),(32,undef),(33,undef),(34,undef),(35,undef),(36,undef),(37,undef),(38,undef),(39,undef),(40,undef),(41,undef),(42,undef),(43,.bool true)]
        ⟨yf r6 (fun _=>by kernel_rfl),yp (i:=2) r6 (Du (.slice ao ks.length cap) rfl) AX rfl (by simp[AI,AU,hsa.1,hpo.1]),ym r5,BA rq8 (fun w=>CD Tryz.underlying34 (by kernel_rfl) (hr.1.1) (by omega) (rfl) w),yf r6 (fun _=>by kernel_rfl),Bn r6 (fun _ g=>Ad (YJ (VK.s x) rfl) (RdK.treeX (hr.kn g) rfl hi hx_x)),Ah [.agg #[VK.s x]] Tryz.func87 (by kernel_rfl) rq4 ⟨(oy rfl rfl),AIA⟩ (Ao fun W g=>EI hv ((hr.kn g).kt hi hx_x)),C3 r6 (fun _=>Bf),ym r5,AY r6,AY r6,AY r6,Az ⟨26,rfl,rfl,fun _ _ h=>h⟩ rfl (fun _=>rfl),Az ⟨26,rfl,rfl,fun _ _ h=>h⟩ rfl (fun _=>rfl),Az ⟨26,rfl,rfl,fun _ _ h=>h⟩ rfl (fun _=>rfl),Az ⟨26,rfl,rfl,fun _ _ h=>h⟩ rfl (fun _=>rfl),Az ⟨26,rfl,rfl,fun _ _ h=>h⟩ rfl (fun _=>rfl),Az ⟨26,rfl,rfl,fun _ _ h=>h⟩ rfl (fun _=>rfl),Az ⟨26,rfl,rfl,fun _ _ h=>h⟩ rfl (fun _=>rfl),Az ⟨26,rfl,rfl,fun _ _ h=>h⟩ rfl (fun _=>rfl),Az ⟨26,rfl,rfl,fun _ _ h=>h⟩ rfl (fun _=>rfl),Az ⟨26,rfl,rfl,fun _ _ h=>h⟩ rfl (fun _=>rfl),Az ⟨26,rfl,rfl,fun _ _ h=>h⟩ rfl (fun _=>rfl),Az ⟨26,rfl,rfl,fun _ _ h=>h⟩ rfl (fun _=>rfl),Az ⟨26,rfl,rfl,fun _ _ h=>h⟩ rfl (fun _=>rfl),Az ⟨26,rfl,rfl,fun _ _ h=>h⟩ rfl (fun _=>rfl),Az ⟨26,rfl,rfl,fun _ _ h=>h⟩ rfl (fun _=>rfl),AY r6,CA r7,AIA⟩ fun a30 w30 g30 EB=>?_
       refine k20 _ _ ?_
       refine Aq EB rfl rfl ?_
       refine AH4 fun K31 k31=>?_
       refine AH3 ?_
       refine AZ (v:=.bool false) EB r6 fun a32 CO=>?_
       refine AE ?_
       refine k31 _ _ ?_
       replace AX:=AC g30 AX
       replace hr:=hr.kn g30
       replace HG:=AA HG g30
       refine AH7 ?_
       repeat refine AM ?_
       refine r19 _ _ ?_
       repeat refine AM ?_
       refine r13 _ _ ?_
       repeat refine AM ?_
       refine A3 (fn:=Tryz.f40) CO (A2 (p:=2) Tryz.results40 CO rfl rfl) ?_
       exact⟨Fj ((Gy (i:=i) (by rw[hmap];exact hi) (by rw[hchk];simp[hv,hc,Nat.ne_of_gt hz])).symm),HG⟩
     · refine Cn E2 [(15,pk Bv 64),(16,.slice ao ks.length cap),(17,.int .i64 ((i:Int))),(18,pk ((bO ao)) (oO ao+i*33)),(19,pk ((bO ao)) (oO ao+i*33+32)),(20,.agg #[VK.s x]),(21,.bool true),(22,.bool false),(23,.bool false),(24,.int .i64 ((i:Int))),(25,.bool true),(26,.bool true),(27,pk Bv 64),(28,.slice ao ks.length cap),(29,.int .i64 ((i:Int))),(30,.int .i64 (((i-1:Nat):Int))),(31,pk ((bO ao)) (oO ao+(i-1)*33)),(32,pk ((bO ao)) (oO ao+(i-1)*33)),(33,AP y.o),(34,pk Bv 64),(35,.slice ao ks.length cap),(36,.int .i64 ((i:Int))),(37,pk ((bO ao)) (oO ao+i*33)),(38,pk ((bO ao)) (oO ao+i*33)),(39,AP x.o),(40,.bool false),(41,.bool true),(42,.bool true),(43,.bool true)]
        ⟨yf r6 (fun _=>by kernel_rfl),yp (i:=2) r6 (Du (.slice ao ks.length cap) rfl) AX rfl (by simp[AI,AU,hsa.1,hpo.1]),ym r5,BA rq8 (fun w=>CD Tryz.underlying34 (by kernel_rfl) (hr.1.1) (by omega) (rfl) w),yf r6 (fun _=>by kernel_rfl),Bn r6 (fun _ g=>Ad (YJ (VK.s x) rfl) (RdK.treeX (hr.kn g) rfl hi hx_x)),Ah [.agg #[VK.s x]] Tryz.func87 (by kernel_rfl) rq4 ⟨(oy rfl rfl),AIA⟩ (Ao fun W g=>EI hv ((hr.kn g).kt hi hx_x)),C3 r6 (fun _=>Bf),ym r5,Ar rq8,BD rq9 (fun _=>Cj (by simp;omega)),Ar rq8,BK rq9 (fun _=>by kernel_rfl),Au rq9 (fun _ g=>Ad (Du (.slice ao ks.length cap) rfl) (BT (L:=[bv sa,bv po,[.slice ao ks.length cap]]) (i:=2) (AF g AX (by simp)) rfl (by simp[AI,AU,hsa.1,hpo.1]))),Ar rq8,BD rq9 (fun _=>E0 (by rw[A7 (by omega) (by omega)];omega)),CZ rfl rfl (gy rfl rfl rfl) (oy rfl rfl) (oy rfl rfl) (fun w=>CD Tryz.underlying34 (by kernel_rfl) (hr.1.1) (by omega) (rfl) w) (fun _=>rfl),BK rq9 (fun _=>by kernel_rfl),Au rq9 (fun _ g=>Ad (Bj y.o y.ho.1) (RdK.ownerX (hr.kn g) rfl hp hx_y)),BK rq9 (fun _=>by kernel_rfl),Au rq9 (fun _ g=>Ad (Du (.slice ao ks.length cap) rfl) (BT (L:=[bv sa,bv po,[.slice ao ks.length cap]]) (i:=2) (AF g AX (by simp)) rfl (by simp[AI,AU,hsa.1,hpo.1]))),Ar rq8,CZ rfl rfl (gy rfl rfl rfl) (oy rfl rfl) (oy rfl rfl) (fun w=>CD Tryz.underlying34 (by kernel_rfl) (hr.1.1) (by omega) (rfl) w) (fun _=>rfl),BK rq9 (fun _=>by kernel_rfl),Au rq9 (fun _ g=>Ad (Bj x.o x.ho.1) (RdK.ownerX (hr.kn g) rfl hi hx_x)),Bq [AP y.o,AP x.o] Tryz.func86 (by kernel_rfl) r7 ⟨(oy rfl rfl),(oy rfl rfl),AIA⟩ (Ao fun W g=>Kj hc y.ho x.ho W),Hx rfl rfl (gy rfl rfl rfl) (oy rfl rfl) (fun _=>Bf) (fun _=>rfl),Gu rfl rfl (gy rfl rfl rfl) (oy rfl rfl) (oy rfl rfl) (fun _=>rfl),A1 rq9,AIA⟩ fun a33 w33 g33 I9=>?_
       refine k20 _ _ ?_
       refine Aq I9 rfl rfl ?_
       refine AH4 fun K34 k34=>?_
       refine AH3 ?_
       refine AZ (v:=.bool false) I9 r6 fun a35 MR=>?_
       refine AE ?_
       refine k34 _ _ ?_
       replace AX:=AC g33 AX
       replace hr:=hr.kn g33
       replace HG:=AA HG g33
       refine AH7 ?_
       repeat refine AM ?_
       refine r19 _ _ ?_
       repeat refine AM ?_
       refine r13 _ _ ?_
       repeat refine AM ?_
       refine A3 (fn:=Tryz.f40) MR (A2 (p:=2) Tryz.results40 MR rfl rfl) ?_
       exact⟨Fj ((Gy (i:=i) (by rw[hmap];exact hi) (by rw[hchk];simp[hv,hc,Nat.ne_of_gt hz])).symm),HG⟩
     · refine Cn E2 [(15,pk Bv 64),(16,.slice ao ks.length cap),(17,.int .i64 ((i:Int))),(18,pk ((bO ao)) (oO ao+i*33)),(19,pk ((bO ao)) (oO ao+i*33+32)),(20,.agg #[VK.s x]),(21,.bool false),(22,.bool true),(23,.bool true),(24,undef),(25,undef),(26,undef),(27,undef),(28,undef),(29,undef),(30,undef),(31,undef),(32,undef),(33,undef),(34,undef),(35,undef),(36,undef),(37,undef),(38,undef),(39,undef),(40,undef),(41,undef),(42,undef),(43,.bool true)]
        ⟨yf r6 (fun _=>by kernel_rfl),yp (i:=2) r6 (Du (.slice ao ks.length cap) rfl) AX rfl (by simp[AI,AU,hsa.1,hpo.1]),ym r5,BA rq8 (fun w=>CD Tryz.underlying34 (by kernel_rfl) (hr.1.1) (by omega) (rfl) w),yf r6 (fun _=>by kernel_rfl),Bn r6 (fun _ g=>Ad (YJ (VK.s x) rfl) (RdK.treeX (hr.kn g) rfl hi hx_x)),Ah [.agg #[VK.s x]] Tryz.func87 (by kernel_rfl) rq4 ⟨(oy rfl rfl),AIA⟩ (Ao fun W g=>EI hv ((hr.kn g).kt hi hx_x)),C3 r6 (fun _=>Bf),ym r5,AY r6,AY r6,AY r6,Az ⟨26,rfl,rfl,fun _ _ h=>h⟩ rfl (fun _=>rfl),Az ⟨26,rfl,rfl,fun _ _ h=>h⟩ rfl (fun _=>rfl),Az ⟨26,rfl,rfl,fun _ _ h=>h⟩ rfl (fun _=>rfl),Az ⟨26,rfl,rfl,fun _ _ h=>h⟩ rfl (fun _=>rfl),Az ⟨26,rfl,rfl,fun _ _ h=>h⟩ rfl (fun _=>rfl),Az ⟨26,rfl,rfl,fun _ _ h=>h⟩ rfl (fun _=>rfl),Az ⟨26,rfl,rfl,fun _ _ h=>h⟩ rfl (fun _=>rfl),Az ⟨26,rfl,rfl,fun _ _ h=>h⟩ rfl (fun _=>rfl),Az ⟨26,rfl,rfl,fun _ _ h=>h⟩ rfl (fun _=>rfl),Az ⟨26,rfl,rfl,fun _ _ h=>h⟩ rfl (fun _=>rfl),Az ⟨26,rfl,rfl,fun _ _ h=>h⟩ rfl (fun _=>rfl),Az ⟨26,rfl,rfl,fun _ _ h=>h⟩ rfl (fun _=>rfl),Az ⟨26,rfl,rfl,fun _ _ h=>h⟩ rfl (fun _=>rfl),Az ⟨26,rfl,rfl,fun _ _ h=>h⟩ rfl (fun _=>rfl),Az ⟨26,rfl,rfl,fun _ _ h=>h⟩ rfl (fun _=>rfl),AY r6,CA r7,AIA⟩ fun a36 w36 g36 FE=>?_
       refine k20 _ _ ?_
       refine Aq FE rfl rfl ?_
       refine AH4 fun K37 k37=>?_
       refine AH3 ?_
       refine AZ (v:=.bool false) FE r6 fun a38 Vk=>?_
       refine AE ?_
       refine k37 _ _ ?_
       replace AX:=AC g36 AX
       replace HG:=AA HG g36
       refine AH7 ?_
       repeat refine AM ?_
       refine r19 _ _ ?_
       repeat refine AM ?_
       refine r13 _ _ ?_
       repeat refine AM ?_
       refine A3 (fn:=Tryz.f40) Vk (A2 (p:=2) Tryz.results40 Vk rfl rfl) ?_
       exact⟨Fj ((Gy (i:=i) (by rw[hmap];exact hi) (by rw[hchk];simp[hv,hc,Nat.ne_of_gt hz])).symm),HG⟩
   · refine AH3 ?_
     refine AK Cy 5 [(8,.int .i64 ((i:Int))),(9,pk Bv 64),(10,.slice ao ks.length cap),(11,.int .i64 ((ks.length:Nat))),(12,.bool false)]
       ⟨ym r5,yf r6 (fun _=>by kernel_rfl),yp (i:=2) r6 (Du (.slice ao ks.length cap) rfl) AX rfl (by simp[AI,AU,hsa.1,hpo.1]),Be (Tryz.underlying34) rfl rfl trivial (oy rfl rfl) (fun _=>rfl),Gs r7 (fun _=>Bb (by simp;omega)),AIA⟩ fun a39 w39 g39 JP=>?_
     refine AE ?_
     refine k16 _ _ ?_
     refine Ax JP rfl rfl ?_
     refine wp_exit ?_
     repeat refine CH ?_
     refine x13 _ _ ?_
     refine k10 _ _ ?_
     refine AH4 fun K40 k40=>?_
     refine AH3 ?_
     refine AZ (v:=.bool true) JP r6 fun a41 MS=>?_
     refine AE ?_
     refine k40 _ _ ?_
     replace HG:=AA HG g39
     refine AH7 ?_
     repeat refine AM ?_
     refine A3 (fn:=Tryz.f40) MS (A2 (p:=2) Tryz.results40 MS rfl rfl) ?_
     exact⟨Fj ((Tn (by omega) fun k hk=>hb k (by omega)).symm),HG⟩
end Go.Proofs.YtbfjfnbcmojpiaaGreat
