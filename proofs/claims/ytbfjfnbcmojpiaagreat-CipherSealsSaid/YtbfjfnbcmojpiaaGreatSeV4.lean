import Derived.Test.YtbfjfnbcmojpiaaGreatSeV3
set_option linter.unusedSimpArgs false
set_option linter.unusedVariables false
set_option maxRecDepth 100000
set_option maxHeartbeats 4000000
namespace Go.Proofs.YtbfjfnbcmojpiaaGreat
open Go.RowKit Go.Shelf
theorem CH {P:Program} {f:Nat} {fn:Func} {c:Code} (hf:P.funcs[f]?=some fn) (hname:(fn.name == "runtime.NumGoroutine")=false) (hb:fn.body=some c) (cap:Array Value) (w:World) :
  (invoke (.fn (.func f) cap) #[]).run P w=.ok (.enter f cap) w:=by
 have h1:fn.name≠"runtime.NumGoroutine":=by simpa using hname
 simp[invoke,callFunc,hf,h1,hb]
theorem N1 (w:World):CallsD Tryz.prog 65 #[] .returning w fun e u' w'=>e=.returned (.tuple #[])∧u'=.returning∧w'=w:=by
 refine callsD_of_wpS Tryz.func65 rfl fun c₀ cs hu=>?_
 apply wpS_region
 simp[wpOpsS,go_sem,recoverD,hu,Tryz.ntmps65]
 cases c₀
 simp_all [bodyPostS,results,Tryz.results65]
theorem DH (w:World):CallsD Tryz.prog 95 #[] .returning w fun e u' w'=>e=.returned (.tuple #[])∧u'=.returning∧w'=w:=by
 refine callsD_of_wpS Tryz.func95 rfl fun c₀ cs hu=>?_
 apply wpS_region
 simp[wpOpsS,go_sem,recoverD,hu,Tryz.ntmps95]
 cases c₀
 simp_all [bodyPostS,results,Tryz.results95]
theorem GY (p q:Value) (w:World):CallsD Tryz.prog 81 #[p,q] .returning w fun e u' w'=>e=.returned (.tuple #[])∧u'=.returning∧w'=w:=by
 refine callsD_of_wpS Tryz.func81 rfl fun c₀ cs hu=>?_
 apply wpS_seq
 apply wpS_region
 simp[wpOpsS,go_sem,recoverD,hu,Tryz.ntmps81,Exit.thenS]
 refine wpS_cond (t:=false) (by simp[Act.eval,Array.replicate]) ?_
 simp only[Bool.false_eq_true,if_false]
 refine wpS_of_wp (ALe ?_)
 cases c₀
 simp_all [bodyPostS,results,Tryz.results81]
theorem JD (p q:Value) (w:World):CallsD Tryz.prog 77 #[p,q] .returning w fun e u' w'=>e=.returned (.tuple #[])∧u'=.returning∧w'=w:=by
 refine callsD_of_wpS Tryz.func77 rfl fun c₀ cs hu=>?_
 apply wpS_seq
 apply wpS_region
 simp[wpOpsS,go_sem,recoverD,hu,Tryz.ntmps77,Exit.thenS]
 refine wpS_cond (t:=false) (by simp[Act.eval,Array.replicate]) ?_
 simp only[Bool.false_eq_true,if_false]
 refine wpS_of_wp (ALe ?_)
 cases c₀
 simp_all [bodyPostS,results,Tryz.results77]
theorem JE {w:World} {s:Value} {l:List Nd} {b:Bool} (hb:Ho l=b) (h:RdT w s l):Calls Tryz.prog 97 #[.agg #[s]] w fun e w'=>e=.returned (.bool b)∧w.grownBy w' none:=hb▸Zm h
theorem FO {w:World} {s:Value} {l:List Nd} {b:Bool} (hb:Ho l=b) (h:RdT w s l):Calls Tryz.prog 87 #[.agg #[s]] w fun e w'=>e=.returned (.bool b)∧w.grownBy w' none:=hb▸XH h
theorem FE {a b:Bool} (h:a=b):Ending.returned (.bool a)=Ending.returned (.bool b):=by rw[h]
theorem AJk {a b:Int} (h:a=b):Ending.returned (.int .i64 a)=Ending.returned (.int .i64 b):=by rw[h]
theorem RdK.kt {w:World} {v:Value} {ks:List VK} (h:RdK w v ks) {j:Nat} (hj:j<ks.length) {x:VK} (hx:ks[j]=x):RdT w x.s x.l:=h.2 x (hx▸List.getElem_mem hj)
theorem AHo {ks:List VK} {i:Nat} {x y:VK} (hi:i<ks.length) (hp:i-1<ks.length) (hx:ks[i]=x) (hy:ks[i-1]=y):chk (ks.map VK.p) i=((decide (i=0)||Ea y.o x.o)&&Ho x.l):=by
 unfold chk
 rw[QL hi,QL hp,Ur hi,hx,hy]
theorem ACb (ks:List VK) (ao:Option Addr) (cap:Nat) (sa po:List Nat) (hsa:Dg sa) (hpo:Dg po) (o:List Nat) (ho:Dg o) (w:World) (hr:RdK w (.slice ao ks.length cap) ks) (hs:Srt (ks.map VK.p)) (h64:ks.length≤64) :
  Calls Tryz.prog 71 #[Aw sa po (.slice ao ks.length cap),AO o] w fun e w'=>e=.returned (.tuple #[.int .i64 (pos (ks.map VK.p) o),.bool (J5 (ks.map VK.p) o)])∧w.grownBy w' none:=by
 refine BF Tryz.func71 rfl Tryz.ntmps71 rfl fun a0 sv0=>?_
 have HG:=World.grownBy.refl w none
 replace sv0:Sv 12 [] [(0,Aw sa po (.slice ao ks.length cap)),(1,AO o)] a0:=sv0
 refine ALa fun K1 k1=>?_
 refine ALZ ?_
 refine BZ sv0 r6 (Bq hsa hpo (.slice ao ks.length cap) rfl) fun a2 w2 CO DP g2 z2 AK sv2=>?_
 refine BZ sv2 r6 (BV o ho.1) fun a3 w3 CG E2 g3 z3 AN sv3=>?_
 replace AK:=AC g3 AK
 replace hr:=(hr.kn g2).kn g3
 refine AX (v:=.int .i64 0) sv3 r6 fun a4 sv4=>?_
 refine AX (v:=.bool false) sv4 r6 fun a5 sv5=>?_
 refine AE ?_
 refine k1 _ _ ?_
 refine ALa fun K6 k6=>?_
 refine ALZ ?_
 refine AH sv5 6 [(6,pk CO 64),(7,.slice ao ks.length cap),(8,AO o),(9,.tuple #[.int .i64 ((pos (ks.map VK.p) o:Int)),.bool (J5 (ks.map VK.p) o)]),(10,.int .i64 ((pos (ks.map VK.p) o:Int))),(11,.bool (J5 (ks.map VK.p) o))]
  ⟨yf r6 (fun _=>by kernel_rfl),yp (i:=2) r6 (Eo (.slice ao ks.length cap) rfl) AK rfl (by simp[AL,AZ,hsa.1,hpo.1]),yl r6 (BV o ho.1) AN,Ae [.slice ao ks.length cap,AO o,.func (.func 96) #[] #[]] Tryz.func113 (by kernel_rfl) rq4 ⟨(oy rfl rfl),(oy rfl rfl),rfl,ALg⟩ (Au fun W g=>Ut ks ao cap o ho W (hr.kn g) hs h64),BX rq4 (fun _ _ h=>⟨_,_,h,rfl,rfl⟩),BX rq4 (fun _ _ h=>⟨_,_,h,rfl,rfl⟩),ALg⟩ fun a7 w7 g7 sv7=>?_
 refine AX (v:=.int .i64 ((pos (ks.map VK.p) o:Int))) sv7 r6 fun a8 sv8=>?_
 refine AX (v:=.bool (J5 (ks.map VK.p) o)) sv8 r6 fun a9 sv9=>?_
 have Bj:Sv _ _ [_,_,_,_] _:=sv9.dl [6,7,8,9,10,11,3,2]
 refine AE ?_
 refine k6 _ _ ?_
 replace HG:=AA (AA (AA HG g2) g3) g7
 refine ALd ?_
 repeat refine AJ ?_
 refine Ar (fn:=Tryz.f71) Bj (NC (p:=4) (q:=5) Tryz.results71 Bj rfl rfl rfl rfl) ?_
 exact⟨rfl,HG⟩
theorem AGg (ks:List VK) (ao:Option Addr) (cap:Nat) (sa po:List Nat) (hsa:Dg sa) (hpo:Dg po) (o:List Nat) (ho:Dg o) (w:World) (hr:RdK w (.slice ao ks.length cap) ks) (hs:Srt (ks.map VK.p)) :
   Calls Tryz.prog 84 #[Aw sa po (.slice ao ks.length cap),AO o] w fun e w'=>e=.returned (.int .i64 (atV (ks.map VK.p) o))∧w.grownBy w' none:=by
 have hlen:=hr.len
 have hmap:(ks.map VK.p).length=ks.length:=List.length_map _
 refine BF Tryz.func84 rfl Tryz.ntmps84 rfl fun a0 sv0=>?_
 have HG:=World.grownBy.refl w none
 replace sv0:Sv 22 [] [(0,Aw sa po (.slice ao ks.length cap)),(1,AO o)] a0:=sv0
 refine ALa fun K1 k1=>?_
 refine ALZ ?_
 refine BZ sv0 r6 (Bq hsa hpo (.slice ao ks.length cap) rfl) fun a2 w2 CO DP g2 z2 AK sv2=>?_
 refine BZ sv2 r6 (BV o ho.1) fun a3 w3 CG E2 g3 z3 AN sv3=>?_
 replace AK:=AC g3 AK
 replace hr:=(hr.kn g2).kn g3
 replace HG:=AA (AA HG g2) g3
 refine AX (v:=.int .i64 0) sv3 r6 fun a4 sv4=>?_
 refine AE ?_
 refine k1 _ _ ?_
 refine ALa fun K5 k5=>?_
 refine ALa fun K6 k6=>?_
 refine ALZ ?_
 refine AX (v:=.int .i64 0) sv4 r6 fun a7 sv7=>?_
 refine AE ?_
 refine k6 _ _ ?_
 refine A8 fun Q8 x8 y8 r8 o8=>?_
 refine wp_loop (fun a w'=>∃(i:Nat),(i≤ks.length)∧(∀k,k<i→od (ks.map VK.p) k≠o)∧Sv 22 [] [(5,.int .i64 ((i:Int))),(3,pt CG),(2,pt CO),(0,Aw sa po (.slice ao ks.length cap)),(1,AO o)] a∧w.grownBy w' none∧w'.heap[CO]?=some (.cells ([bv sa,bv po,[.slice ao ks.length cap]].flatten).toArray 36 (0,0))∧w'.heap[CG]?=some (.cells (bv o).toArray 23 (0,0))∧RdK w' (.slice ao ks.length cap) ks) (fun a _=>(ks.length-intOf (a.tmps.getD 5 undef)).toNat) ⟨0,Nat.zero_le _,fun k hk=>by omega,⟨sv7.1,sv7.2.1,sv7.2.2.1,sv7.2.2.2.2.1,sv7.2.2.2.2.2.1,sv7.2.2.2.2.2.2.1,sv7.2.2.2.2.2.2.2.1,ALg⟩,HG,AK,AN,hr⟩ fun a9 w9 hI9=>?_
 clear AK
 clear AN
 clear hr
 clear HG
 obtain⟨i,hin,hb,sv9,HG,AK,AN,hr⟩:=hI9
 refine ALa fun K10 k10=>?_
 refine ALa fun K11 k11=>?_
 by_cases hi:i<ks.length
 · obtain⟨x,hx_x⟩:∃x,ks[i]'hi=x:=⟨_,rfl⟩
   have hod:od (ks.map VK.p) i=x.o:=by rw[QL hi,hx_x]
   refine ALZ ?_
   refine AH sv9 5 [(6,.int .i64 ((i:Int))),(7,pk CO 64),(8,.slice ao ks.length cap),(9,.int .i64 ((ks.length:Nat))),(10,.bool true)]
     ⟨ym r5,yf r6 (fun _=>by kernel_rfl),yp (i:=2) r6 (Eo (.slice ao ks.length cap) rfl) AK rfl (by simp[AL,AZ,hsa.1,hpo.1]),BI (Tryz.underlying34) rfl rfl trivial (oy rfl rfl) (fun _=>rfl),GC r7 (fun _=>BE (by simp;omega)),ALg⟩ fun a12 w12 g12 Cx=>?_
   refine AE ?_
   refine k11 _ _ ?_
   refine Av Cx rfl rfl ?_
   refine ALe ?_
   refine k10 _ _ ?_
   refine ALa fun K13 k13=>?_
   refine A8 fun Q14 x14 y14 r14 o14=>?_
   refine ALa fun K15 k15=>?_
   replace AK:=AC g12 AK
   replace AN:=AC g12 AN
   replace hr:=hr.kn g12
   replace HG:=AA HG g12
   by_cases heq:x.o=o
   · have hyes:=M7 hs (by omega) (hod.trans heq)
     refine DK Cx [(13,pk CO 64),(14,.slice ao ks.length cap),(15,.int .i64 ((i:Int))),(16,pk ((bO ao)) (oO ao+i*33)),(17,pk ((bO ao)) (oO ao+i*33)),(18,AO x.o),(19,AO o),(20,.bool true)]
      ⟨yf r6 (fun _=>by kernel_rfl),yp (i:=2) r6 (Eo (.slice ao ks.length cap) rfl) AK rfl (by simp[AL,AZ,hsa.1,hpo.1]),ym r5,BA rq8 (fun w=>B8 Tryz.underlying34 (by kernel_rfl) (hr.1.1) (by omega) (rfl) w),yf r6 (fun _=>by kernel_rfl),Bc r6 (fun _ g=>Ab (BV x.o x.ho.1) (RdK.ownerX (hr.kn g) rfl hi hx_x)),yl r6 (BV o ho.1) AN,GC r7 (fun _=>(JB x.ho ho _ _ _).1.trans (by rw[decide_eq_true (heq)])),ALg⟩ fun a16 w16 g16 Ch=>?_
     refine k15 _ _ ?_
     refine Av Ch rfl rfl ?_
     refine ALa fun K17 k17=>?_
     refine ALZ ?_
     refine AH Ch 1 [(21,.int .i64 ((i:Int)))]
      ⟨ym r5,ALg⟩ fun a18 w18 g18 CD=>?_
     have QN:=AA g16 g18
     refine AX (v:=.int .i64 ((i:Int))) CD r6 fun a19 Cs=>?_
     refine AE ?_
     refine k17 _ _ ?_
     replace AK:=AC QN AK
     replace AN:=AC QN AN
     replace hr:=hr.kn QN
     replace HG:=AA HG QN
     refine ALd ?_
     repeat refine AJ ?_
     refine r14 _ _ ?_
     repeat refine AJ ?_
     refine r8 _ _ ?_
     repeat refine AJ ?_
     refine Ar (fn:=Tryz.f84) Cs (A7 (p:=4) Tryz.results84 Cs rfl rfl) ?_
     exact⟨AJk (by unfold atV;rw[hyes.1,hyes.2];rfl),HG⟩
   · have hne:=heq
     refine DK Cx [(13,pk CO 64),(14,.slice ao ks.length cap),(15,.int .i64 ((i:Int))),(16,pk ((bO ao)) (oO ao+i*33)),(17,pk ((bO ao)) (oO ao+i*33)),(18,AO x.o),(19,AO o),(20,.bool false)]
      ⟨yf r6 (fun _=>by kernel_rfl),yp (i:=2) r6 (Eo (.slice ao ks.length cap) rfl) AK rfl (by simp[AL,AZ,hsa.1,hpo.1]),ym r5,BA rq8 (fun w=>B8 Tryz.underlying34 (by kernel_rfl) (hr.1.1) (by omega) (rfl) w),yf r6 (fun _=>by kernel_rfl),Bc r6 (fun _ g=>Ab (BV x.o x.ho.1) (RdK.ownerX (hr.kn g) rfl hi hx_x)),yl r6 (BV o ho.1) AN,GC r7 (fun _=>(JB x.ho ho _ _ _).1.trans (by rw[decide_eq_false (heq)])),ALg⟩ fun a20 w20 g20 DR=>?_
     refine k15 _ _ ?_
     refine A1 DR rfl rfl ?_
     refine ALe ?_
     refine y14 _ _ ?_
     refine k13 _ _ ?_
     refine ALZ ?_
     refine AH DR 2 [(11,.int .i64 ((i:Int))),(12,.int .i64 (((i+1:Nat):Int)))]
      ⟨ym r5,Cm r6 (fun _=>DB (by rw[BG (by omega) (by omega)];omega)),ALg⟩ fun a21 w21 g21 Di=>?_
     have AGh:=AA g20 g21
     refine AX (v:=.int .i64 (((i+1:Nat):Int))) Di r6 fun a22 Bl=>?_
     refine AE ?_
     replace AK:=AC AGh AK
     replace AN:=AC AGh AN
     replace hr:=hr.kn AGh
     replace HG:=AA HG AGh
     exact⟨⟨i+1,by omega,fun k hk=>if e:k=i then (by rw[e,hod];exact hne) else hb k (by omega),⟨Bl.1,Bl.2.1,Bl.2.2.1,(AG (AG Bl)).2.2.1,(AG (AG Bl)).2.2.2.1,(AG (AG Bl)).2.2.2.2.1,(AG (AG Bl)).2.2.2.2.2.1,ALg⟩,HG,AK,AN,hr⟩,by rw[show _=_ from Bl.2.2.1,show _=_ from sv9.2.2.1];simp[intOf];omega⟩
 · have hno:J5 (ks.map VK.p) o=false:=AIh fun k hk=>hb k (by omega)
   refine ALZ ?_
   refine AH sv9 5 [(6,.int .i64 ((i:Int))),(7,pk CO 64),(8,.slice ao ks.length cap),(9,.int .i64 ((ks.length:Nat))),(10,.bool false)]
     ⟨ym r5,yf r6 (fun _=>by kernel_rfl),yp (i:=2) r6 (Eo (.slice ao ks.length cap) rfl) AK rfl (by simp[AL,AZ,hsa.1,hpo.1]),BI (Tryz.underlying34) rfl rfl trivial (oy rfl rfl) (fun _=>rfl),GC r7 (fun _=>BE (by simp;omega)),ALg⟩ fun a23 w23 g23 CS=>?_
   refine AE ?_
   refine k11 _ _ ?_
   refine A1 CS rfl rfl ?_
   refine wp_exit ?_
   repeat refine Bo ?_
   refine x8 _ _ ?_
   refine k5 _ _ ?_
   refine ALa fun K24 k24=>?_
   refine ALZ ?_
   refine AX (v:=.int .i64 (-1)) CS r6 fun a25 Co=>?_
   refine AE ?_
   refine k24 _ _ ?_
   replace HG:=AA HG g23
   refine ALd ?_
   repeat refine AJ ?_
   refine Ar (fn:=Tryz.f84) Co (A7 (p:=4) Tryz.results84 Co rfl rfl) ?_
   exact⟨AJk (by unfold atV;rw[hno];rfl),HG⟩
theorem Ip {x y:List Nat} {b:Bool} (hb:Ea x y=b) (hx:Dg x) (hy:Dg y) (w:World):Calls Tryz.prog 86 #[AO x,AO y] w fun e w'=>e=.returned (.bool b)∧w.grownBy w' none:=hb▸ACa x y hx hy w
theorem XY (ks:List VK) (ao:Option Addr) (cap:Nat) (sa po:List Nat) (hsa:Dg sa) (hpo:Dg po) (w:World) (hr:RdK w (.slice ao ks.length cap) ks) :
   Calls Tryz.prog 51 #[Aw sa po (.slice ao ks.length cap)] w fun e w'=>e=.returned (.bool (CZ (ks.map VK.p)))∧w.grownBy w' none:=by
 have hlen:=hr.len
 have hmap:(ks.map VK.p).length=ks.length:=List.length_map _
 refine Eu Tryz.func51 rfl Tryz.ntmps51 rfl fun a0 sv0=>?_
 have HG:=World.grownBy.refl w none
 replace sv0:Sv 38 [] [(0,Aw sa po (.slice ao ks.length cap))] a0:=sv0
 refine ALa fun K1 k1=>?_
 refine ALZ ?_
 refine BZ sv0 r6 (Bq hsa hpo (.slice ao ks.length cap) rfl) fun a2 w2 CP GZ g2 z2 Ad sv2=>?_
 replace hr:=hr.kn g2
 replace HG:=AA HG g2
 refine AX (v:=.bool false) sv2 r6 fun a3 sv3=>?_
 refine AE ?_
 refine k1 _ _ ?_
 refine ALa fun K4 k4=>?_
 refine ALZ ?_
 refine Fe sv3 rfl (dd:={ target:=.fn (.func 95) #[],args:=#[] }) rfl (by simp[execOp,resolve,Deferred.ofValue];try rfl) fun a5 sv5=>?_
 refine AE ?_
 refine k4 _ _ ?_
 refine ALa fun K6 k6=>?_
 refine ALa fun K7 k7=>?_
 by_cases hbig:64<ks.length
 · refine ALZ ?_
   refine AH sv5 4 [(5,pk CP 64),(6,.slice ao ks.length cap),(7,.int .i64 ((ks.length:Nat))),(8,.bool true)]
     ⟨yf r6 (fun _=>by kernel_rfl),yp (i:=2) r6 (Eo (.slice ao ks.length cap) rfl) Ad rfl (by simp[AL,AZ,hsa.1,hpo.1]),BI (Tryz.underlying34) rfl rfl trivial (oy rfl rfl) (fun _=>rfl),Cm r6 (fun _=>C4 (by simp;omega)),ALg⟩ fun a8 w8 g8 sv8=>?_
   refine AE ?_
   refine k7 _ _ ?_
   refine Av sv8 rfl rfl ?_
   refine ALa fun K9 k9=>?_
   refine ALZ ?_
   refine AX (v:=.bool false) sv8 r6 fun a10 Bj=>?_
   refine AE ?_
   refine k9 _ _ ?_
   replace Ad:=AC g8 Ad
   replace hr:=hr.kn g8
   replace HG:=AA HG g8
   refine ALd ?_
   repeat refine AJ ?_
   refine Bi (fn:=Tryz.f51) Bj (A7 (p:=2) Tryz.results51 Bj rfl rfl) (CH Tryz.func95 (by kernel_rfl) rfl _ _) (DH _) ?_
   exact⟨FE ((XZ (by omega)).symm),HG⟩
 · refine ALZ ?_
   refine AH sv5 4 [(5,pk CP 64),(6,.slice ao ks.length cap),(7,.int .i64 ((ks.length:Nat))),(8,.bool false)]
     ⟨yf r6 (fun _=>by kernel_rfl),yp (i:=2) r6 (Eo (.slice ao ks.length cap) rfl) Ad rfl (by simp[AL,AZ,hsa.1,hpo.1]),BI (Tryz.underlying34) rfl rfl trivial (oy rfl rfl) (fun _=>rfl),Cm r6 (fun _=>C4 (by simp;omega)),ALg⟩ fun a11 w11 g11 B7=>?_
   refine AE ?_
   refine k7 _ _ ?_
   refine A1 B7 rfl rfl ?_
   refine ALe ?_
   refine k6 _ _ ?_
   refine ALa fun K12 k12=>?_
   refine ALa fun K13 k13=>?_
   refine ALZ ?_
   refine AH B7 4 [(9,pk CP 64),(10,.slice ao ks.length cap),(11,.int .i64 ((ks.length:Nat))),(12,.int .i64 0)]
     ⟨yf r6 (fun _=>by kernel_rfl),yp (i:=2) r6 (Eo (.slice ao ks.length cap) rfl) (AC g11 Ad) rfl (by simp[AL,AZ,hsa.1,hpo.1]),BI (Tryz.underlying34) rfl rfl trivial (oy rfl rfl) (fun _=>rfl),FA (.inl rfl) rfl trivial (fun _=>rfl),ALg⟩ fun a14 w14 g14 DQ=>?_
   have Xa:=AA g11 g14
   refine AE ?_
   refine k13 _ _ ?_
   refine A8 fun Q15 x15 y15 r15 o15=>?_
   replace Ad:=AC Xa Ad
   replace hr:=hr.kn Xa
   replace HG:=AA HG Xa
   refine wp_loop (fun a w'=>∃(i:Nat),(i≤ks.length)∧(∀k,k<i→chk (ks.map VK.p) k=true)∧Sv 38 [{ target:=.fn (.func 95) #[],args:=#[] }] [(12,.int .i64 ((i:Int))),(9,pk CP 64),(10,.slice ao ks.length cap),(11,.int .i64 ((ks.length:Nat))),(5,pk CP 64),(6,.slice ao ks.length cap),(7,.int .i64 ((ks.length:Nat))),(8,.bool false),(1,pt CP),(0,Aw sa po (.slice ao ks.length cap))] a∧w.grownBy w' none∧w'.heap[CP]?=some (.cells ([bv sa,bv po,[.slice ao ks.length cap]].flatten).toArray 36 (0,0))∧RdK w' (.slice ao ks.length cap) ks) (fun a _=>(ks.length-intOf (a.tmps.getD 12 undef)).toNat) ⟨0,Nat.zero_le _,fun k hk=>by omega,⟨DQ.1,DQ.2.1,DQ.2.2.2.2.2.1,DQ.2.2.1,DQ.2.2.2.1,DQ.2.2.2.2.1,DQ.2.2.2.2.2.2.1,DQ.2.2.2.2.2.2.2.1,(AG DQ).1,(AG DQ).2.1,(AG DQ).2.2.2.1,(AG DQ).2.2.2.2.1,ALg⟩,HG,Ad,hr⟩ fun a16 w16 hI16=>?_
   clear Ad
   clear hr
   clear HG
   obtain⟨i,hin,hb,Ch,HG,Ad,hr⟩:=hI16
   refine ALa fun K17 k17=>?_
   by_cases hi:i<ks.length
   · have hp:i-1<ks.length:=by omega
     obtain⟨x,hx_x⟩:∃x,ks[i]'hi=x:=⟨_,rfl⟩
     obtain⟨y,hx_y⟩:∃x,ks[(i-1)]'hp=x:=⟨_,rfl⟩
     have hchk:=AHo hi hp hx_x hx_y
     refine ALZ ?_
     refine AH Ch 1 [(13,.bool true)]
       ⟨GC r7 (fun _=>BE (by simp;omega)),ALg⟩ fun a18 w18 g18 CD=>?_
     refine AE ?_
     refine k17 _ _ ?_
     refine ALa fun K19 k19=>?_
     refine Av CD rfl rfl ?_
     refine ALe ?_
     refine k19 _ _ ?_
     refine ALa fun K20 k20=>?_
     refine A8 fun Q21 x21 y21 r21 o21=>?_
     refine ALa fun K22 k22=>?_
     refine ALZ ?_
     replace hr:=hr.kn g18
     refine AH CD 3 [(14,.int .i64 ((i:Int))),(15,pk ((bO ao)) (oO ao+i*33)),(16,IE x)]
       ⟨ym r5,BA rq8 (fun w=>B8 Tryz.underlying34 (by kernel_rfl) (hr.1.1) (by omega) (rfl) w),Bc r6 (fun _ g=>Ab (Uq x) (RdK.keyX (hr.kn g) rfl hi hx_x)),ALg⟩ fun a23 w23 g23 CS=>?_
     replace Ad:=AC g23 (AC g18 Ad)
     replace hr:=hr.kn g23
     replace HG:=AA (AA HG g18) g23
     refine Az (T:=58) (Z:=([bv AM,[.slice none 0 0]].flatten)) CS rfl rfl rfl (fun a w=>by kernel_rfl) fun a24 w24 Oi QO g24 z24 EF ER=>?_
     have Rx:=Ax Ad QO
     have AEW:=Bk HG QO
     have Xb:=Ay (hr.lt) QO
     refine AX (v:=.int .i64 ((i:Int))) ER r6 fun a25 Co=>?_
     refine As Co r7 (Uq x) EF (by first|rfl|simp[Ak,AL,AZ,x.ho.1]) fun w26 g26 h26=>?_
     replace Ad:=Ac g26 (AC g24 Ad) (Ne.symm Rx)
     replace hr:=(hr.kn g24).offR g26 (AR Xb)
     replace HG:=AD (AA HG g24) g26 AEW
     replace EF:=h26
     refine AE ?_
     refine k22 _ _ ?_
     refine ALa fun K27 k27=>?_
     rcases(show(i=0∧Ho x.l=true)∨(i=0∧Ho x.l=false)∨(0<i∧Ea y.o x.o=true∧Ho x.l=true)∨(0<i∧Ea y.o x.o=true∧Ho x.l=false)∨(0<i∧Ea y.o x.o=false∧Ho x.l=true)∨(0<i∧Ea y.o x.o=false∧Ho x.l=false) by
        rcases Nat.eq_zero_or_pos i with h|h<;>cases h2:Ho x.l<;>cases h3:Ea y.o x.o<;>simp[h]) with ⟨hz,hv⟩|⟨hz,hv⟩|⟨hz,hc,hv⟩|⟨hz,hc,hv⟩|⟨hz,hc,hv⟩|⟨hz,hc,hv⟩
     · have hok:((decide (i=0)||Ea y.o x.o)&&Ho x.l)=true:=by simp[hz,hv]
       refine DK Co [(17,.int .i64 ((i:Int))),(18,.bool false),(19,.bool false),(20,undef),(21,undef),(22,undef),(23,undef),(24,undef),(25,undef),(26,undef),(27,undef),(28,undef),(29,undef),(30,.bool false),(31,.bool false),(32,pk Oi 32),(33,.agg #[VK.s x]),(34,.bool true),(35,.bool false),(36,.bool false)]
        ⟨ym r5,Cm r6 (fun _=>C4 (by simp;omega)),ym r5,AS r6,AS r6,AS r6,AS r6,AS r6,AS r6,AS r6,AS r6,AS r6,AS r6,BQ r7,ym r5,BH rq9 (fun _=>by kernel_rfl),A2 rq9 (fun _ g=>Ab (tyT (VK.s x) rfl) (BK (L:=[bv x.o,[VK.s x]]) (i:=1) (AF g EF (by simp)) rfl (by simp[AL,AZ,x.ho.1]))),Bn [.agg #[VK.s x]] Tryz.func97 (by kernel_rfl) r7 ⟨(oy rfl rfl),ALg⟩ (Au fun W g=>JE hv ((hr.kn g).kt hi hx_x)),Ik rfl rfl (gy rfl rfl rfl) (oy rfl rfl) (fun _=>Ba) (fun _=>rfl),Ag rq9,ALg⟩ fun a28 w28 g28 Dp=>?_
       refine k27 _ _ ?_
       refine A1 Dp rfl rfl ?_
       refine ALe ?_
       refine y21 _ _ ?_
       refine k20 _ _ ?_
       refine ALZ ?_
       refine AH Dp 1 [(37,.int .i64 (((i+1:Nat):Int)))]
        ⟨Cm r6 (fun _=>DB (by rw[BG (by omega) (by omega)];omega)),ALg⟩ fun a29 w29 g29 CU=>?_
       have Jk:=AA g28 g29
       refine AH (CU.dl [12]) 1 [(12,.int .i64 (((i+1:Nat):Int)))]
        ⟨ym r5,ALg⟩ fun a30 w30 g30 Ds=>?_
       have Ry:=AA Jk g30
       refine AE ?_
       replace Ad:=AC Ry Ad
       replace EF:=AC Ry EF
       replace hr:=hr.kn Ry
       replace HG:=AA HG Ry
       exact⟨⟨i+1,by omega,fun k hk=>if e:k=i then (by rw[e,hchk];exact hok) else hb k (by omega),⟨Ds.1,Ds.2.1,Ds.2.2.1,(AG (AG (AG Ds))).2.2.2.2.2.2.1,(AG (AG (AG Ds))).2.2.2.2.2.2.2.1,(AG (AG (AG (AG Ds)))).1,(AG (AG (AG (AG Ds)))).2.1,(AG (AG (AG (AG Ds)))).2.2.1,(AG (AG (AG (AG Ds)))).2.2.2.1,(AG (AG (AG (AG Ds)))).2.2.2.2.1,(AG (AG (AG (AG Ds)))).2.2.2.2.2.1,(AG (AG (AG (AG Ds)))).2.2.2.2.2.2.1,ALg⟩,HG,Ad,hr⟩,by rw[show _=_ from Ds.2.2.1,show _=_ from Ch.2.2.1];simp[intOf];omega⟩
     · refine DK Co [(17,.int .i64 ((i:Int))),(18,.bool false),(19,.bool false),(20,undef),(21,undef),(22,undef),(23,undef),(24,undef),(25,undef),(26,undef),(27,undef),(28,undef),(29,undef),(30,.bool false),(31,.bool false),(32,pk Oi 32),(33,.agg #[VK.s x]),(34,.bool false),(35,.bool true),(36,.bool true)]
        ⟨ym r5,Cm r6 (fun _=>C4 (by simp;omega)),ym r5,AS r6,AS r6,AS r6,AS r6,AS r6,AS r6,AS r6,AS r6,AS r6,AS r6,BQ r7,ym r5,BH rq9 (fun _=>by kernel_rfl),A2 rq9 (fun _ g=>Ab (tyT (VK.s x) rfl) (BK (L:=[bv x.o,[VK.s x]]) (i:=1) (AF g EF (by simp)) rfl (by simp[AL,AZ,x.ho.1]))),Bn [.agg #[VK.s x]] Tryz.func97 (by kernel_rfl) r7 ⟨(oy rfl rfl),ALg⟩ (Au fun W g=>JE hv ((hr.kn g).kt hi hx_x)),Ik rfl rfl (gy rfl rfl rfl) (oy rfl rfl) (fun _=>Ba) (fun _=>rfl),Ag rq9,ALg⟩ fun a31 w31 g31 Hv=>?_
       refine k27 _ _ ?_
       refine Av Hv rfl rfl ?_
       refine ALa fun K32 k32=>?_
       refine ALZ ?_
       refine AX (v:=.bool false) Hv r6 fun a33 Fb=>?_
       refine AE ?_
       refine k32 _ _ ?_
       replace Ad:=AC g31 Ad
       replace EF:=AC g31 EF
       replace hr:=hr.kn g31
       replace HG:=AA HG g31
       refine ALd ?_
       repeat refine AJ ?_
       refine r21 _ _ ?_
       repeat refine AJ ?_
       refine r15 _ _ ?_
       repeat refine AJ ?_
       refine Bi (fn:=Tryz.f51) Fb (A7 (p:=2) Tryz.results51 Fb rfl rfl) (CH Tryz.func95 (by kernel_rfl) rfl _ _) (DH _) ?_
       exact⟨FE ((JF (i:=i) (by rw[hmap];exact hi) (by rw[hchk];simp[hv])).symm),HG⟩
     · have hok:((decide (i=0)||Ea y.o x.o)&&Ho x.l)=true:=by simp[hz,hv,hc]
       refine DK Co [(17,.int .i64 ((i:Int))),(18,.bool true),(19,.bool true),(20,pk CP 64),(21,.slice ao ks.length cap),(22,.int .i64 ((i:Int))),(23,.int .i64 (((i-1:Nat):Int))),(24,pk ((bO ao)) (oO ao+(i-1)*33)),(25,IE y),(26,pt Oi),(27,AO x.o),(28,.int .i64 ((Hu y.o x.o))),(29,.bool false),(30,.bool false),(31,.bool false),(32,pk Oi 32),(33,.agg #[VK.s x]),(34,.bool true),(35,.bool false),(36,.bool false)]
        ⟨ym r5,Cm r6 (fun _=>C4 (by simp;omega)),ym r5,BH rq9 (fun _=>by kernel_rfl),A2 rq9 (fun _ g=>Ab (Eo (.slice ao ks.length cap) rfl) (BK (L:=[bv sa,bv po,[.slice ao ks.length cap]]) (i:=2) (AF g Ad (by simp)) rfl (by simp[AL,AZ,hsa.1,hpo.1]))),Aa rq8,Ap rq9 (fun _=>Fa (by rw[BG (by omega) (by omega)];omega)),DE rfl rfl (gy rfl rfl rfl) (oy rfl rfl) (oy rfl rfl) (fun w=>B8 Tryz.underlying34 (by kernel_rfl) (hr.1.1) (by omega) (rfl) w) (fun _=>rfl),A2 rq9 (fun _ g=>Ab (Uq y) (RdK.keyX (hr.kn g) rfl hp hx_y)),BH rq9 (fun _=>by kernel_rfl),A2 rq9 (fun _ g=>Ab (BV x.o x.ho.1) (BK (L:=[bv x.o,[VK.s x]]) (i:=0) (AF g EF (by simp)) rfl rfl)),Bn [IE y,AO x.o] Tryz.func96 (by kernel_rfl) r7 ⟨(oy rfl rfl),(oy rfl rfl),ALg⟩ (Au fun W g=>Gu y x.o x.ho W),Ap rq9 (fun _=>DG (by rw[Lv,hc];rfl)),Ag rq9,ym r5,BH rq9 (fun _=>by kernel_rfl),A2 rq9 (fun _ g=>Ab (tyT (VK.s x) rfl) (BK (L:=[bv x.o,[VK.s x]]) (i:=1) (AF g EF (by simp)) rfl (by simp[AL,AZ,x.ho.1]))),Bn [.agg #[VK.s x]] Tryz.func97 (by kernel_rfl) r7 ⟨(oy rfl rfl),ALg⟩ (Au fun W g=>JE hv ((hr.kn g).kt hi hx_x)),Ik rfl rfl (gy rfl rfl rfl) (oy rfl rfl) (fun _=>Ba) (fun _=>rfl),Ag rq9,ALg⟩ fun a34 w34 g34 Hw=>?_
       refine k27 _ _ ?_
       refine A1 Hw rfl rfl ?_
       refine ALe ?_
       refine y21 _ _ ?_
       refine k20 _ _ ?_
       refine ALZ ?_
       refine AH Hw 1 [(37,.int .i64 (((i+1:Nat):Int)))]
        ⟨Cm r6 (fun _=>DB (by rw[BG (by omega) (by omega)];omega)),ALg⟩ fun a35 w35 g35 Mj=>?_
       have AKh:=AA g34 g35
       refine AH (Mj.dl [12]) 1 [(12,.int .i64 (((i+1:Nat):Int)))]
        ⟨ym r5,ALg⟩ fun a36 w36 g36 FG=>?_
       have NE:=AA AKh g36
       refine AE ?_
       replace Ad:=AC NE Ad
       replace EF:=AC NE EF
       replace hr:=hr.kn NE
       replace HG:=AA HG NE
       exact⟨⟨i+1,by omega,fun k hk=>if e:k=i then (by rw[e,hchk];exact hok) else hb k (by omega),⟨FG.1,FG.2.1,FG.2.2.1,(AG (AG (AG FG))).2.2.2.2.2.2.1,(AG (AG (AG FG))).2.2.2.2.2.2.2.1,(AG (AG (AG (AG FG)))).1,(AG (AG (AG (AG FG)))).2.1,(AG (AG (AG (AG FG)))).2.2.1,(AG (AG (AG (AG FG)))).2.2.2.1,(AG (AG (AG (AG FG)))).2.2.2.2.1,(AG (AG (AG (AG FG)))).2.2.2.2.2.1,(AG (AG (AG (AG FG)))).2.2.2.2.2.2.1,ALg⟩,HG,Ad,hr⟩,by rw[show _=_ from FG.2.2.1,show _=_ from Ch.2.2.1];simp[intOf];omega⟩
     · refine DK Co [(17,.int .i64 ((i:Int))),(18,.bool true),(19,.bool true),(20,pk CP 64),(21,.slice ao ks.length cap),(22,.int .i64 ((i:Int))),(23,.int .i64 (((i-1:Nat):Int))),(24,pk ((bO ao)) (oO ao+(i-1)*33)),(25,IE y),(26,pt Oi),(27,AO x.o),(28,.int .i64 ((Hu y.o x.o))),(29,.bool false),(30,.bool false),(31,.bool false),(32,pk Oi 32),(33,.agg #[VK.s x]),(34,.bool false),(35,.bool true),(36,.bool true)]
        ⟨ym r5,Cm r6 (fun _=>C4 (by simp;omega)),ym r5,BH rq9 (fun _=>by kernel_rfl),A2 rq9 (fun _ g=>Ab (Eo (.slice ao ks.length cap) rfl) (BK (L:=[bv sa,bv po,[.slice ao ks.length cap]]) (i:=2) (AF g Ad (by simp)) rfl (by simp[AL,AZ,hsa.1,hpo.1]))),Aa rq8,Ap rq9 (fun _=>Fa (by rw[BG (by omega) (by omega)];omega)),DE rfl rfl (gy rfl rfl rfl) (oy rfl rfl) (oy rfl rfl) (fun w=>B8 Tryz.underlying34 (by kernel_rfl) (hr.1.1) (by omega) (rfl) w) (fun _=>rfl),A2 rq9 (fun _ g=>Ab (Uq y) (RdK.keyX (hr.kn g) rfl hp hx_y)),BH rq9 (fun _=>by kernel_rfl),A2 rq9 (fun _ g=>Ab (BV x.o x.ho.1) (BK (L:=[bv x.o,[VK.s x]]) (i:=0) (AF g EF (by simp)) rfl rfl)),Bn [IE y,AO x.o] Tryz.func96 (by kernel_rfl) r7 ⟨(oy rfl rfl),(oy rfl rfl),ALg⟩ (Au fun W g=>Gu y x.o x.ho W),Ap rq9 (fun _=>DG (by rw[Lv,hc];rfl)),Ag rq9,ym r5,BH rq9 (fun _=>by kernel_rfl),A2 rq9 (fun _ g=>Ab (tyT (VK.s x) rfl) (BK (L:=[bv x.o,[VK.s x]]) (i:=1) (AF g EF (by simp)) rfl (by simp[AL,AZ,x.ho.1]))),Bn [.agg #[VK.s x]] Tryz.func97 (by kernel_rfl) r7 ⟨(oy rfl rfl),ALg⟩ (Au fun W g=>JE hv ((hr.kn g).kt hi hx_x)),Ik rfl rfl (gy rfl rfl rfl) (oy rfl rfl) (fun _=>Ba) (fun _=>rfl),Ag rq9,ALg⟩ fun a37 w37 g37 Gx=>?_
       refine k27 _ _ ?_
       refine Av Gx rfl rfl ?_
       refine ALa fun K38 k38=>?_
       refine ALZ ?_
       refine AX (v:=.bool false) Gx r6 fun a39 Jl=>?_
       refine AE ?_
       refine k38 _ _ ?_
       replace Ad:=AC g37 Ad
       replace EF:=AC g37 EF
       replace hr:=hr.kn g37
       replace HG:=AA HG g37
       refine ALd ?_
       repeat refine AJ ?_
       refine r21 _ _ ?_
       repeat refine AJ ?_
       refine r15 _ _ ?_
       repeat refine AJ ?_
       refine Bi (fn:=Tryz.f51) Jl (A7 (p:=2) Tryz.results51 Jl rfl rfl) (CH Tryz.func95 (by kernel_rfl) rfl _ _) (DH _) ?_
       exact⟨FE ((JF (i:=i) (by rw[hmap];exact hi) (by rw[hchk];simp[hv,hc,Nat.ne_of_gt hz])).symm),HG⟩
     · refine DK Co [(17,.int .i64 ((i:Int))),(18,.bool true),(19,.bool true),(20,pk CP 64),(21,.slice ao ks.length cap),(22,.int .i64 ((i:Int))),(23,.int .i64 (((i-1:Nat):Int))),(24,pk ((bO ao)) (oO ao+(i-1)*33)),(25,IE y),(26,pt Oi),(27,AO x.o),(28,.int .i64 ((Hu y.o x.o))),(29,.bool true),(30,.bool true),(31,.bool true),(32,undef),(33,undef),(34,undef),(35,undef),(36,.bool true)]
        ⟨ym r5,Cm r6 (fun _=>C4 (by simp;omega)),ym r5,BH rq9 (fun _=>by kernel_rfl),A2 rq9 (fun _ g=>Ab (Eo (.slice ao ks.length cap) rfl) (BK (L:=[bv sa,bv po,[.slice ao ks.length cap]]) (i:=2) (AF g Ad (by simp)) rfl (by simp[AL,AZ,hsa.1,hpo.1]))),Aa rq8,Ap rq9 (fun _=>Fa (by rw[BG (by omega) (by omega)];omega)),DE rfl rfl (gy rfl rfl rfl) (oy rfl rfl) (oy rfl rfl) (fun w=>B8 Tryz.underlying34 (by kernel_rfl) (hr.1.1) (by omega) (rfl) w) (fun _=>rfl),A2 rq9 (fun _ g=>Ab (Uq y) (RdK.keyX (hr.kn g) rfl hp hx_y)),BH rq9 (fun _=>by kernel_rfl),A2 rq9 (fun _ g=>Ab (BV x.o x.ho.1) (BK (L:=[bv x.o,[VK.s x]]) (i:=0) (AF g EF (by simp)) rfl rfl)),Bn [IE y,AO x.o] Tryz.func96 (by kernel_rfl) r7 ⟨(oy rfl rfl),(oy rfl rfl),ALg⟩ (Au fun W g=>Gu y x.o x.ho W),Ap rq9 (fun _=>DG (by rw[Lv,hc];rfl)),Ag rq9,ym r5,AS r6,AS r6,AS r6,AS r6,BQ r7,ALg⟩ fun a40 w40 g40 Jm=>?_
       refine k27 _ _ ?_
       refine Av Jm rfl rfl ?_
       refine ALa fun K41 k41=>?_
       refine ALZ ?_
       refine AX (v:=.bool false) Jm r6 fun a42 GH=>?_
       refine AE ?_
       refine k41 _ _ ?_
       replace Ad:=AC g40 Ad
       replace EF:=AC g40 EF
       replace hr:=hr.kn g40
       replace HG:=AA HG g40
       refine ALd ?_
       repeat refine AJ ?_
       refine r21 _ _ ?_
       repeat refine AJ ?_
       refine r15 _ _ ?_
       repeat refine AJ ?_
       refine Bi (fn:=Tryz.f51) GH (A7 (p:=2) Tryz.results51 GH rfl rfl) (CH Tryz.func95 (by kernel_rfl) rfl _ _) (DH _) ?_
       exact⟨FE ((JF (i:=i) (by rw[hmap];exact hi) (by rw[hchk];simp[hv,hc,Nat.ne_of_gt hz])).symm),HG⟩
     · refine DK Co [(17,.int .i64 ((i:Int))),(18,.bool true),(19,.bool true),(20,pk CP 64),(21,.slice ao ks.length cap),(22,.int .i64 ((i:Int))),(23,.int .i64 (((i-1:Nat):Int))),(24,pk ((bO ao)) (oO ao+(i-1)*33)),(25,IE y),(26,pt Oi),(27,AO x.o),(28,.int .i64 ((Hu y.o x.o))),(29,.bool true),(30,.bool true),(31,.bool true),(32,undef),(33,undef),(34,undef),(35,undef),(36,.bool true)]
        ⟨ym r5,Cm r6 (fun _=>C4 (by simp;omega)),ym r5,BH rq9 (fun _=>by kernel_rfl),A2 rq9 (fun _ g=>Ab (Eo (.slice ao ks.length cap) rfl) (BK (L:=[bv sa,bv po,[.slice ao ks.length cap]]) (i:=2) (AF g Ad (by simp)) rfl (by simp[AL,AZ,hsa.1,hpo.1]))),Aa rq8,Ap rq9 (fun _=>Fa (by rw[BG (by omega) (by omega)];omega)),DE rfl rfl (gy rfl rfl rfl) (oy rfl rfl) (oy rfl rfl) (fun w=>B8 Tryz.underlying34 (by kernel_rfl) (hr.1.1) (by omega) (rfl) w) (fun _=>rfl),A2 rq9 (fun _ g=>Ab (Uq y) (RdK.keyX (hr.kn g) rfl hp hx_y)),BH rq9 (fun _=>by kernel_rfl),A2 rq9 (fun _ g=>Ab (BV x.o x.ho.1) (BK (L:=[bv x.o,[VK.s x]]) (i:=0) (AF g EF (by simp)) rfl rfl)),Bn [IE y,AO x.o] Tryz.func96 (by kernel_rfl) r7 ⟨(oy rfl rfl),(oy rfl rfl),ALg⟩ (Au fun W g=>Gu y x.o x.ho W),Ap rq9 (fun _=>DG (by rw[Lv,hc];rfl)),Ag rq9,ym r5,AS r6,AS r6,AS r6,AS r6,BQ r7,ALg⟩ fun a43 w43 g43 JX=>?_
       refine k27 _ _ ?_
       refine Av JX rfl rfl ?_
       refine ALa fun K44 k44=>?_
       refine ALZ ?_
       refine AX (v:=.bool false) JX r6 fun a45 Ep=>?_
       refine AE ?_
       refine k44 _ _ ?_
       replace HG:=AA HG g43
       refine ALd ?_
       repeat refine AJ ?_
       refine r21 _ _ ?_
       repeat refine AJ ?_
       refine r15 _ _ ?_
       repeat refine AJ ?_
       refine Bi (fn:=Tryz.f51) Ep (A7 (p:=2) Tryz.results51 Ep rfl rfl) (CH Tryz.func95 (by kernel_rfl) rfl _ _) (DH _) ?_
       exact⟨FE ((JF (i:=i) (by rw[hmap];exact hi) (by rw[hchk];simp[hv,hc,Nat.ne_of_gt hz])).symm),HG⟩
   · refine ALZ ?_
     refine AH Ch 1 [(13,.bool false)]
       ⟨GC r7 (fun _=>BE (by simp;omega)),ALg⟩ fun a46 w46 g46 Iq=>?_
     refine AE ?_
     refine k17 _ _ ?_
     refine ALa fun K47 k47=>?_
     refine A1 Iq rfl rfl ?_
     refine wp_exit ?_
     repeat refine Bo ?_
     refine x15 _ _ ?_
     refine k12 _ _ ?_
     refine ALa fun K48 k48=>?_
     refine ALZ ?_
     refine AX (v:=.bool true) Iq r6 fun a49 ES=>?_
     refine AE ?_
     refine k48 _ _ ?_
     replace HG:=AA HG g46
     refine ALd ?_
     repeat refine AJ ?_
     refine Bi (fn:=Tryz.f51) ES (A7 (p:=2) Tryz.results51 ES rfl rfl) (CH Tryz.func95 (by kernel_rfl) rfl _ _) (DH _) ?_
     exact⟨FE ((Xc (by omega) fun k hk=>hb k (by omega)).symm),HG⟩
theorem Uv (ks:List VK) (ao:Option Addr) (cap:Nat) (sa po:List Nat) (hsa:Dg sa) (hpo:Dg po) (w:World) (hr:RdK w (.slice ao ks.length cap) ks) :
   Calls Tryz.prog 40 #[Aw sa po (.slice ao ks.length cap)] w fun e w'=>e=.returned (.bool (CZ (ks.map VK.p)))∧w.grownBy w' none:=by
 have hlen:=hr.len
 have hmap:(ks.map VK.p).length=ks.length:=List.length_map _
 refine BF Tryz.func40 rfl Tryz.ntmps40 rfl fun a0 sv0=>?_
 have HG:=World.grownBy.refl w none
 replace sv0:Sv 44 [] [(0,Aw sa po (.slice ao ks.length cap))] a0:=sv0
 refine ALa fun K1 k1=>?_
 refine ALZ ?_
 refine BZ sv0 r6 (Bq hsa hpo (.slice ao ks.length cap) rfl) fun a2 w2 CP GZ g2 z2 Ad sv2=>?_
 replace hr:=hr.kn g2
 replace HG:=AA HG g2
 refine AX (v:=.bool false) sv2 r6 fun a3 sv3=>?_
 refine AE ?_
 refine k1 _ _ ?_
 refine ALa fun K4 k4=>?_
 refine ALa fun K5 k5=>?_
 by_cases hbig:64<ks.length
 · refine ALZ ?_
   refine AH sv3 4 [(4,pk CP 64),(5,.slice ao ks.length cap),(6,.int .i64 ((ks.length:Nat))),(7,.bool true)]
     ⟨yf r6 (fun _=>by kernel_rfl),yp (i:=2) r6 (Eo (.slice ao ks.length cap) rfl) Ad rfl (by simp[AL,AZ,hsa.1,hpo.1]),BI (Tryz.underlying34) rfl rfl trivial (oy rfl rfl) (fun _=>rfl),Cm r6 (fun _=>C4 (by simp;omega)),ALg⟩ fun a6 w6 g6 sv6=>?_
   refine AE ?_
   refine k5 _ _ ?_
   refine Av sv6 rfl rfl ?_
   refine ALa fun K7 k7=>?_
   refine ALZ ?_
   refine AX (v:=.bool false) sv6 r6 fun a8 sv8=>?_
   refine AE ?_
   refine k7 _ _ ?_
   replace Ad:=AC g6 Ad
   replace hr:=hr.kn g6
   replace HG:=AA HG g6
   refine ALd ?_
   repeat refine AJ ?_
   refine Ar (fn:=Tryz.f40) sv8 (A7 (p:=2) Tryz.results40 sv8 rfl rfl) ?_
   exact⟨FE ((XZ (by omega)).symm),HG⟩
 · refine ALZ ?_
   refine AH sv3 4 [(4,pk CP 64),(5,.slice ao ks.length cap),(6,.int .i64 ((ks.length:Nat))),(7,.bool false)]
     ⟨yf r6 (fun _=>by kernel_rfl),yp (i:=2) r6 (Eo (.slice ao ks.length cap) rfl) Ad rfl (by simp[AL,AZ,hsa.1,hpo.1]),BI (Tryz.underlying34) rfl rfl trivial (oy rfl rfl) (fun _=>rfl),Cm r6 (fun _=>C4 (by simp;omega)),ALg⟩ fun a9 w9 g9 sv9=>?_
   refine AE ?_
   refine k5 _ _ ?_
   refine A1 sv9 rfl rfl ?_
   refine ALe ?_
   refine k4 _ _ ?_
   refine ALa fun K10 k10=>?_
   refine ALa fun K11 k11=>?_
   refine ALZ ?_
   refine AX (v:=.int .i64 0) sv9 r6 fun a12 Cx=>?_
   refine AE ?_
   refine k11 _ _ ?_
   refine A8 fun Q13 x13 y13 r13 o13=>?_
   replace Ad:=AC g9 Ad
   replace hr:=hr.kn g9
   replace HG:=AA HG g9
   refine wp_loop (fun a w'=>∃(i:Nat),(i≤ks.length)∧(∀k,k<i→chk (ks.map VK.p) k=true)∧Sv 44 [] [(3,.int .i64 ((i:Int))),(4,pk CP 64),(5,.slice ao ks.length cap),(6,.int .i64 ((ks.length:Nat))),(7,.bool false),(1,pt CP),(0,Aw sa po (.slice ao ks.length cap))] a∧w.grownBy w' none∧w'.heap[CP]?=some (.cells ([bv sa,bv po,[.slice ao ks.length cap]].flatten).toArray 36 (0,0))∧RdK w' (.slice ao ks.length cap) ks) (fun a _=>(ks.length-intOf (a.tmps.getD 3 undef)).toNat) ⟨0,Nat.zero_le _,fun k hk=>by omega,⟨Cx.1,Cx.2.1,Cx.2.2.1,Cx.2.2.2.1,Cx.2.2.2.2.1,Cx.2.2.2.2.2.1,Cx.2.2.2.2.2.2.1,(AG Cx).1,(AG Cx).2.1,ALg⟩,HG,Ad,hr⟩ fun a14 w14 hI14=>?_
   clear Ad
   clear hr
   clear HG
   obtain⟨i,hin,hb,DQ,HG,Ad,hr⟩:=hI14
   refine ALa fun K15 k15=>?_
   refine ALa fun K16 k16=>?_
   by_cases hi:i<ks.length
   · have hp:i-1<ks.length:=by omega
     obtain⟨x,hx_x⟩:∃x,ks[i]'hi=x:=⟨_,rfl⟩
     obtain⟨y,hx_y⟩:∃x,ks[(i-1)]'hp=x:=⟨_,rfl⟩
     have hchk:=AHo hi hp hx_x hx_y
     refine ALZ ?_
     refine AH DQ 5 [(8,.int .i64 ((i:Int))),(9,pk CP 64),(10,.slice ao ks.length cap),(11,.int .i64 ((ks.length:Nat))),(12,.bool true)]
       ⟨ym r5,yf r6 (fun _=>by kernel_rfl),yp (i:=2) r6 (Eo (.slice ao ks.length cap) rfl) Ad rfl (by simp[AL,AZ,hsa.1,hpo.1]),BI (Tryz.underlying34) rfl rfl trivial (oy rfl rfl) (fun _=>rfl),GC r7 (fun _=>BE (by simp;omega)),ALg⟩ fun a17 w17 g17 Dq=>?_
     refine AE ?_
     refine k16 _ _ ?_
     refine Av Dq rfl rfl ?_
     refine ALe ?_
     refine k15 _ _ ?_
     refine ALa fun K18 k18=>?_
     refine A8 fun Q19 x19 y19 r19 o19=>?_
     refine ALa fun K20 k20=>?_
     replace Ad:=AC g17 Ad
     replace hr:=hr.kn g17
     replace HG:=AA HG g17
     rcases(show(i=0∧Ho x.l=true)∨(i=0∧Ho x.l=false)∨(0<i∧Ea y.o x.o=true∧Ho x.l=true)∨(0<i∧Ea y.o x.o=true∧Ho x.l=false)∨(0<i∧Ea y.o x.o=false∧Ho x.l=true)∨(0<i∧Ea y.o x.o=false∧Ho x.l=false) by
        rcases Nat.eq_zero_or_pos i with h|h<;>cases h2:Ho x.l<;>cases h3:Ea y.o x.o<;>simp[h]) with ⟨hz,hv⟩|⟨hz,hv⟩|⟨hz,hc,hv⟩|⟨hz,hc,hv⟩|⟨hz,hc,hv⟩|⟨hz,hc,hv⟩
     · have hok:((decide (i=0)||Ea y.o x.o)&&Ho x.l)=true:=by simp[hz,hv]
       refine DK Dq [(15,pk CP 64),(16,.slice ao ks.length cap),(17,.int .i64 ((i:Int))),(18,pk ((bO ao)) (oO ao+i*33)),(19,pk ((bO ao)) (oO ao+i*33+32)),(20,.agg #[VK.s x]),(21,.bool true),(22,.bool false),(23,.bool false),(24,.int .i64 ((i:Int))),(25,.bool false),(26,.bool false),(27,undef),(28,undef),(29,undef),(30,undef),(31,undef),(32,undef),(33,undef),(34,undef),(35,undef),(36,undef),(37,undef),(38,undef),(39,undef),(40,undef),(41,undef),(42,.bool false),(43,.bool false)]
        ⟨yf r6 (fun _=>by kernel_rfl),yp (i:=2) r6 (Eo (.slice ao ks.length cap) rfl) Ad rfl (by simp[AL,AZ,hsa.1,hpo.1]),ym r5,BA rq8 (fun w=>B8 Tryz.underlying34 (by kernel_rfl) (hr.1.1) (by omega) (rfl) w),yf r6 (fun _=>by kernel_rfl),Bc r6 (fun _ g=>Ab (tyT (VK.s x) rfl) (RdK.treeX (hr.kn g) rfl hi hx_x)),Ae [.agg #[VK.s x]] Tryz.func87 (by kernel_rfl) rq4 ⟨(oy rfl rfl),ALg⟩ (Au fun W g=>FO hv ((hr.kn g).kt hi hx_x)),Cr r6 (fun _=>Ba),ym r5,Aa rq8,Ap rq9 (fun _=>C4 (by simp;omega)),Aa rq8,AS r6,AS r6,AS r6,AS r6,AS r6,AS r6,AS r6,AS r6,AS r6,AS r6,AS r6,AS r6,AS r6,AS r6,AS r6,EZ rfl rfl (gy rfl rfl rfl) (oy rfl rfl) rfl (fun _=>rfl),Ag rq9,ALg⟩ fun a21 w21 g21 Di=>?_
       refine k20 _ _ ?_
       refine A1 Di rfl rfl ?_
       refine ALe ?_
       refine y19 _ _ ?_
       refine k18 _ _ ?_
       refine ALZ ?_
       refine AH Di 2 [(13,.int .i64 ((i:Int))),(14,.int .i64 (((i+1:Nat):Int)))]
        ⟨ym r5,Cm r6 (fun _=>DB (by rw[BG (by omega) (by omega)];omega)),ALg⟩ fun a22 w22 g22 Bl=>?_
       have O7:=AA g21 g22
       refine AX (v:=.int .i64 (((i+1:Nat):Int))) Bl r6 fun a23 CS=>?_
       refine AE ?_
       replace Ad:=AC O7 Ad
       replace hr:=hr.kn O7
       replace HG:=AA HG O7
       exact⟨⟨i+1,by omega,fun k hk=>if e:k=i then (by rw[e,hchk];exact hok) else hb k (by omega),⟨CS.1,CS.2.1,CS.2.2.1,(AG (AG (AG (AG CS)))).2.2.2.2.2.2.2.1,(AG (AG (AG (AG (AG CS))))).1,(AG (AG (AG (AG (AG CS))))).2.1,(AG (AG (AG (AG (AG CS))))).2.2.1,(AG (AG (AG (AG (AG CS))))).2.2.2.1,(AG (AG (AG (AG (AG CS))))).2.2.2.2.1,ALg⟩,HG,Ad,hr⟩,by rw[show _=_ from CS.2.2.1,show _=_ from DQ.2.2.1];simp[intOf];omega⟩
     · refine DK Dq [(15,pk CP 64),(16,.slice ao ks.length cap),(17,.int .i64 ((i:Int))),(18,pk ((bO ao)) (oO ao+i*33)),(19,pk ((bO ao)) (oO ao+i*33+32)),(20,.agg #[VK.s x]),(21,.bool false),(22,.bool true),(23,.bool true),(24,undef),(25,undef),(26,undef),(27,undef),(28,undef),(29,undef),(30,undef),(31,undef),(32,undef),(33,undef),(34,undef),(35,undef),(36,undef),(37,undef),(38,undef),(39,undef),(40,undef),(41,undef),(42,undef),(43,.bool true)]
        ⟨yf r6 (fun _=>by kernel_rfl),yp (i:=2) r6 (Eo (.slice ao ks.length cap) rfl) Ad rfl (by simp[AL,AZ,hsa.1,hpo.1]),ym r5,BA rq8 (fun w=>B8 Tryz.underlying34 (by kernel_rfl) (hr.1.1) (by omega) (rfl) w),yf r6 (fun _=>by kernel_rfl),Bc r6 (fun _ g=>Ab (tyT (VK.s x) rfl) (RdK.treeX (hr.kn g) rfl hi hx_x)),Ae [.agg #[VK.s x]] Tryz.func87 (by kernel_rfl) rq4 ⟨(oy rfl rfl),ALg⟩ (Au fun W g=>FO hv ((hr.kn g).kt hi hx_x)),Cr r6 (fun _=>Ba),ym r5,AS r6,AS r6,AS r6,BL ⟨26,rfl,rfl,fun _ _ h=>h⟩ rfl (fun _=>rfl),BL ⟨26,rfl,rfl,fun _ _ h=>h⟩ rfl (fun _=>rfl),BL ⟨26,rfl,rfl,fun _ _ h=>h⟩ rfl (fun _=>rfl),BL ⟨26,rfl,rfl,fun _ _ h=>h⟩ rfl (fun _=>rfl),BL ⟨26,rfl,rfl,fun _ _ h=>h⟩ rfl (fun _=>rfl),BL ⟨26,rfl,rfl,fun _ _ h=>h⟩ rfl (fun _=>rfl),BL ⟨26,rfl,rfl,fun _ _ h=>h⟩ rfl (fun _=>rfl),BL ⟨26,rfl,rfl,fun _ _ h=>h⟩ rfl (fun _=>rfl),BL ⟨26,rfl,rfl,fun _ _ h=>h⟩ rfl (fun _=>rfl),BL ⟨26,rfl,rfl,fun _ _ h=>h⟩ rfl (fun _=>rfl),BL ⟨26,rfl,rfl,fun _ _ h=>h⟩ rfl (fun _=>rfl),BL ⟨26,rfl,rfl,fun _ _ h=>h⟩ rfl (fun _=>rfl),BL ⟨26,rfl,rfl,fun _ _ h=>h⟩ rfl (fun _=>rfl),BL ⟨26,rfl,rfl,fun _ _ h=>h⟩ rfl (fun _=>rfl),BL ⟨26,rfl,rfl,fun _ _ h=>h⟩ rfl (fun _=>rfl),AS r6,BQ r7,ALg⟩ fun a24 w24 g24 ER=>?_
       refine k20 _ _ ?_
       refine Av ER rfl rfl ?_
       refine ALa fun K25 k25=>?_
       refine ALZ ?_
       refine AX (v:=.bool false) ER r6 fun a26 Cp=>?_
       refine AE ?_
       refine k25 _ _ ?_
       replace Ad:=AC g24 Ad
       replace hr:=hr.kn g24
       replace HG:=AA HG g24
       refine ALd ?_
       repeat refine AJ ?_
       refine r19 _ _ ?_
       repeat refine AJ ?_
       refine r13 _ _ ?_
       repeat refine AJ ?_
       refine Ar (fn:=Tryz.f40) Cp (A7 (p:=2) Tryz.results40 Cp rfl rfl) ?_
       exact⟨FE ((JF (i:=i) (by rw[hmap];exact hi) (by rw[hchk];simp[hv])).symm),HG⟩
     · have hok:((decide (i=0)||Ea y.o x.o)&&Ho x.l)=true:=by simp[hz,hv,hc]
       refine DK Dq [(15,pk CP 64),(16,.slice ao ks.length cap),(17,.int .i64 ((i:Int))),(18,pk ((bO ao)) (oO ao+i*33)),(19,pk ((bO ao)) (oO ao+i*33+32)),(20,.agg #[VK.s x]),(21,.bool true),(22,.bool false),(23,.bool false),(24,.int .i64 ((i:Int))),(25,.bool true),(26,.bool true),(27,pk CP 64),(28,.slice ao ks.length cap),(29,.int .i64 ((i:Int))),(30,.int .i64 (((i-1:Nat):Int))),(31,pk ((bO ao)) (oO ao+(i-1)*33)),(32,pk ((bO ao)) (oO ao+(i-1)*33)),(33,AO y.o),(34,pk CP 64),(35,.slice ao ks.length cap),(36,.int .i64 ((i:Int))),(37,pk ((bO ao)) (oO ao+i*33)),(38,pk ((bO ao)) (oO ao+i*33)),(39,AO x.o),(40,.bool true),(41,.bool false),(42,.bool false),(43,.bool false)]
        ⟨yf r6 (fun _=>by kernel_rfl),yp (i:=2) r6 (Eo (.slice ao ks.length cap) rfl) Ad rfl (by simp[AL,AZ,hsa.1,hpo.1]),ym r5,BA rq8 (fun w=>B8 Tryz.underlying34 (by kernel_rfl) (hr.1.1) (by omega) (rfl) w),yf r6 (fun _=>by kernel_rfl),Bc r6 (fun _ g=>Ab (tyT (VK.s x) rfl) (RdK.treeX (hr.kn g) rfl hi hx_x)),Ae [.agg #[VK.s x]] Tryz.func87 (by kernel_rfl) rq4 ⟨(oy rfl rfl),ALg⟩ (Au fun W g=>FO hv ((hr.kn g).kt hi hx_x)),Cr r6 (fun _=>Ba),ym r5,Aa rq8,Ap rq9 (fun _=>C4 (by simp;omega)),Aa rq8,BH rq9 (fun _=>by kernel_rfl),A2 rq9 (fun _ g=>Ab (Eo (.slice ao ks.length cap) rfl) (BK (L:=[bv sa,bv po,[.slice ao ks.length cap]]) (i:=2) (AF g Ad (by simp)) rfl (by simp[AL,AZ,hsa.1,hpo.1]))),Aa rq8,Ap rq9 (fun _=>Fa (by rw[BG (by omega) (by omega)];omega)),DE rfl rfl (gy rfl rfl rfl) (oy rfl rfl) (oy rfl rfl) (fun w=>B8 Tryz.underlying34 (by kernel_rfl) (hr.1.1) (by omega) (rfl) w) (fun _=>rfl),BH rq9 (fun _=>by kernel_rfl),A2 rq9 (fun _ g=>Ab (BV y.o y.ho.1) (RdK.ownerX (hr.kn g) rfl hp hx_y)),BH rq9 (fun _=>by kernel_rfl),A2 rq9 (fun _ g=>Ab (Eo (.slice ao ks.length cap) rfl) (BK (L:=[bv sa,bv po,[.slice ao ks.length cap]]) (i:=2) (AF g Ad (by simp)) rfl (by simp[AL,AZ,hsa.1,hpo.1]))),Aa rq8,DE rfl rfl (gy rfl rfl rfl) (oy rfl rfl) (oy rfl rfl) (fun w=>B8 Tryz.underlying34 (by kernel_rfl) (hr.1.1) (by omega) (rfl) w) (fun _=>rfl),BH rq9 (fun _=>by kernel_rfl),A2 rq9 (fun _ g=>Ab (BV x.o x.ho.1) (RdK.ownerX (hr.kn g) rfl hi hx_x)),Bn [AO y.o,AO x.o] Tryz.func86 (by kernel_rfl) r7 ⟨(oy rfl rfl),(oy rfl rfl),ALg⟩ (Au fun W g=>Ip hc y.ho x.ho W),Ik rfl rfl (gy rfl rfl rfl) (oy rfl rfl) (fun _=>Ba) (fun _=>rfl),EZ rfl rfl (gy rfl rfl rfl) (oy rfl rfl) (oy rfl rfl) (fun _=>rfl),Ag rq9,ALg⟩ fun a27 w27 g27 GF=>?_
       refine k20 _ _ ?_
       refine A1 GF rfl rfl ?_
       refine ALe ?_
       refine y19 _ _ ?_
       refine k18 _ _ ?_
       refine ALZ ?_
       refine AH GF 2 [(13,.int .i64 ((i:Int))),(14,.int .i64 (((i+1:Nat):Int)))]
        ⟨ym r5,Cm r6 (fun _=>DB (by rw[BG (by omega) (by omega)];omega)),ALg⟩ fun a28 w28 g28 Dp=>?_
       have KF:=AA g27 g28
       refine AX (v:=.int .i64 (((i+1:Nat):Int))) Dp r6 fun a29 CU=>?_
       refine AE ?_
       replace Ad:=AC KF Ad
       replace hr:=hr.kn KF
       replace HG:=AA HG KF
       exact⟨⟨i+1,by omega,fun k hk=>if e:k=i then (by rw[e,hchk];exact hok) else hb k (by omega),⟨CU.1,CU.2.1,CU.2.2.1,(AG (AG (AG (AG CU)))).2.2.2.2.2.2.2.1,(AG (AG (AG (AG (AG CU))))).1,(AG (AG (AG (AG (AG CU))))).2.1,(AG (AG (AG (AG (AG CU))))).2.2.1,(AG (AG (AG (AG (AG CU))))).2.2.2.1,(AG (AG (AG (AG (AG CU))))).2.2.2.2.1,ALg⟩,HG,Ad,hr⟩,by rw[show _=_ from CU.2.2.1,show _=_ from DQ.2.2.1];simp[intOf];omega⟩
     · refine DK Dq [(15,pk CP 64),(16,.slice ao ks.length cap),(17,.int .i64 ((i:Int))),(18,pk ((bO ao)) (oO ao+i*33)),(19,pk ((bO ao)) (oO ao+i*33+32)),(20,.agg #[VK.s x]),(21,.bool false),(22,.bool true),(23,.bool true),(24,undef),(25,undef),(26,undef),(27,undef),(28,undef),(29,undef),(30,undef),(31,undef),(32,undef),(33,undef),(34,undef),(35,undef),(36,undef),(37,undef),(38,undef),(39,undef),(40,undef),(41,undef),(42,undef),(43,.bool true)]
        ⟨yf r6 (fun _=>by kernel_rfl),yp (i:=2) r6 (Eo (.slice ao ks.length cap) rfl) Ad rfl (by simp[AL,AZ,hsa.1,hpo.1]),ym r5,BA rq8 (fun w=>B8 Tryz.underlying34 (by kernel_rfl) (hr.1.1) (by omega) (rfl) w),yf r6 (fun _=>by kernel_rfl),Bc r6 (fun _ g=>Ab (tyT (VK.s x) rfl) (RdK.treeX (hr.kn g) rfl hi hx_x)),Ae [.agg #[VK.s x]] Tryz.func87 (by kernel_rfl) rq4 ⟨(oy rfl rfl),ALg⟩ (Au fun W g=>FO hv ((hr.kn g).kt hi hx_x)),Cr r6 (fun _=>Ba),ym r5,AS r6,AS r6,AS r6,BL ⟨26,rfl,rfl,fun _ _ h=>h⟩ rfl (fun _=>rfl),BL ⟨26,rfl,rfl,fun _ _ h=>h⟩ rfl (fun _=>rfl),BL ⟨26,rfl,rfl,fun _ _ h=>h⟩ rfl (fun _=>rfl),BL ⟨26,rfl,rfl,fun _ _ h=>h⟩ rfl (fun _=>rfl),BL ⟨26,rfl,rfl,fun _ _ h=>h⟩ rfl (fun _=>rfl),BL ⟨26,rfl,rfl,fun _ _ h=>h⟩ rfl (fun _=>rfl),BL ⟨26,rfl,rfl,fun _ _ h=>h⟩ rfl (fun _=>rfl),BL ⟨26,rfl,rfl,fun _ _ h=>h⟩ rfl (fun _=>rfl),BL ⟨26,rfl,rfl,fun _ _ h=>h⟩ rfl (fun _=>rfl),BL ⟨26,rfl,rfl,fun _ _ h=>h⟩ rfl (fun _=>rfl),BL ⟨26,rfl,rfl,fun _ _ h=>h⟩ rfl (fun _=>rfl),BL ⟨26,rfl,rfl,fun _ _ h=>h⟩ rfl (fun _=>rfl),BL ⟨26,rfl,rfl,fun _ _ h=>h⟩ rfl (fun _=>rfl),BL ⟨26,rfl,rfl,fun _ _ h=>h⟩ rfl (fun _=>rfl),BL ⟨26,rfl,rfl,fun _ _ h=>h⟩ rfl (fun _=>rfl),AS r6,BQ r7,ALg⟩ fun a30 w30 g30 Ds=>?_
       refine k20 _ _ ?_
       refine Av Ds rfl rfl ?_
       refine ALa fun K31 k31=>?_
       refine ALZ ?_
       refine AX (v:=.bool false) Ds r6 fun a32 Ci=>?_
       refine AE ?_
       refine k31 _ _ ?_
       replace Ad:=AC g30 Ad
       replace hr:=hr.kn g30
       replace HG:=AA HG g30
       refine ALd ?_
       repeat refine AJ ?_
       refine r19 _ _ ?_
       repeat refine AJ ?_
       refine r13 _ _ ?_
       repeat refine AJ ?_
       refine Ar (fn:=Tryz.f40) Ci (A7 (p:=2) Tryz.results40 Ci rfl rfl) ?_
       exact⟨FE ((JF (i:=i) (by rw[hmap];exact hi) (by rw[hchk];simp[hv,hc,Nat.ne_of_gt hz])).symm),HG⟩
     · refine DK Dq [(15,pk CP 64),(16,.slice ao ks.length cap),(17,.int .i64 ((i:Int))),(18,pk ((bO ao)) (oO ao+i*33)),(19,pk ((bO ao)) (oO ao+i*33+32)),(20,.agg #[VK.s x]),(21,.bool true),(22,.bool false),(23,.bool false),(24,.int .i64 ((i:Int))),(25,.bool true),(26,.bool true),(27,pk CP 64),(28,.slice ao ks.length cap),(29,.int .i64 ((i:Int))),(30,.int .i64 (((i-1:Nat):Int))),(31,pk ((bO ao)) (oO ao+(i-1)*33)),(32,pk ((bO ao)) (oO ao+(i-1)*33)),(33,AO y.o),(34,pk CP 64),(35,.slice ao ks.length cap),(36,.int .i64 ((i:Int))),(37,pk ((bO ao)) (oO ao+i*33)),(38,pk ((bO ao)) (oO ao+i*33)),(39,AO x.o),(40,.bool false),(41,.bool true),(42,.bool true),(43,.bool true)]
        ⟨yf r6 (fun _=>by kernel_rfl),yp (i:=2) r6 (Eo (.slice ao ks.length cap) rfl) Ad rfl (by simp[AL,AZ,hsa.1,hpo.1]),ym r5,BA rq8 (fun w=>B8 Tryz.underlying34 (by kernel_rfl) (hr.1.1) (by omega) (rfl) w),yf r6 (fun _=>by kernel_rfl),Bc r6 (fun _ g=>Ab (tyT (VK.s x) rfl) (RdK.treeX (hr.kn g) rfl hi hx_x)),Ae [.agg #[VK.s x]] Tryz.func87 (by kernel_rfl) rq4 ⟨(oy rfl rfl),ALg⟩ (Au fun W g=>FO hv ((hr.kn g).kt hi hx_x)),Cr r6 (fun _=>Ba),ym r5,Aa rq8,Ap rq9 (fun _=>C4 (by simp;omega)),Aa rq8,BH rq9 (fun _=>by kernel_rfl),A2 rq9 (fun _ g=>Ab (Eo (.slice ao ks.length cap) rfl) (BK (L:=[bv sa,bv po,[.slice ao ks.length cap]]) (i:=2) (AF g Ad (by simp)) rfl (by simp[AL,AZ,hsa.1,hpo.1]))),Aa rq8,Ap rq9 (fun _=>Fa (by rw[BG (by omega) (by omega)];omega)),DE rfl rfl (gy rfl rfl rfl) (oy rfl rfl) (oy rfl rfl) (fun w=>B8 Tryz.underlying34 (by kernel_rfl) (hr.1.1) (by omega) (rfl) w) (fun _=>rfl),BH rq9 (fun _=>by kernel_rfl),A2 rq9 (fun _ g=>Ab (BV y.o y.ho.1) (RdK.ownerX (hr.kn g) rfl hp hx_y)),BH rq9 (fun _=>by kernel_rfl),A2 rq9 (fun _ g=>Ab (Eo (.slice ao ks.length cap) rfl) (BK (L:=[bv sa,bv po,[.slice ao ks.length cap]]) (i:=2) (AF g Ad (by simp)) rfl (by simp[AL,AZ,hsa.1,hpo.1]))),Aa rq8,DE rfl rfl (gy rfl rfl rfl) (oy rfl rfl) (oy rfl rfl) (fun w=>B8 Tryz.underlying34 (by kernel_rfl) (hr.1.1) (by omega) (rfl) w) (fun _=>rfl),BH rq9 (fun _=>by kernel_rfl),A2 rq9 (fun _ g=>Ab (BV x.o x.ho.1) (RdK.ownerX (hr.kn g) rfl hi hx_x)),Bn [AO y.o,AO x.o] Tryz.func86 (by kernel_rfl) r7 ⟨(oy rfl rfl),(oy rfl rfl),ALg⟩ (Au fun W g=>Ip hc y.ho x.ho W),Ik rfl rfl (gy rfl rfl rfl) (oy rfl rfl) (fun _=>Ba) (fun _=>rfl),EZ rfl rfl (gy rfl rfl rfl) (oy rfl rfl) (oy rfl rfl) (fun _=>rfl),Ag rq9,ALg⟩ fun a33 w33 g33 Fb=>?_
       refine k20 _ _ ?_
       refine Av Fb rfl rfl ?_
       refine ALa fun K34 k34=>?_
       refine ALZ ?_
       refine AX (v:=.bool false) Fb r6 fun a35 Mj=>?_
       refine AE ?_
       refine k34 _ _ ?_
       replace Ad:=AC g33 Ad
       replace hr:=hr.kn g33
       replace HG:=AA HG g33
       refine ALd ?_
       repeat refine AJ ?_
       refine r19 _ _ ?_
       repeat refine AJ ?_
       refine r13 _ _ ?_
       repeat refine AJ ?_
       refine Ar (fn:=Tryz.f40) Mj (A7 (p:=2) Tryz.results40 Mj rfl rfl) ?_
       exact⟨FE ((JF (i:=i) (by rw[hmap];exact hi) (by rw[hchk];simp[hv,hc,Nat.ne_of_gt hz])).symm),HG⟩
     · refine DK Dq [(15,pk CP 64),(16,.slice ao ks.length cap),(17,.int .i64 ((i:Int))),(18,pk ((bO ao)) (oO ao+i*33)),(19,pk ((bO ao)) (oO ao+i*33+32)),(20,.agg #[VK.s x]),(21,.bool false),(22,.bool true),(23,.bool true),(24,undef),(25,undef),(26,undef),(27,undef),(28,undef),(29,undef),(30,undef),(31,undef),(32,undef),(33,undef),(34,undef),(35,undef),(36,undef),(37,undef),(38,undef),(39,undef),(40,undef),(41,undef),(42,undef),(43,.bool true)]
        ⟨yf r6 (fun _=>by kernel_rfl),yp (i:=2) r6 (Eo (.slice ao ks.length cap) rfl) Ad rfl (by simp[AL,AZ,hsa.1,hpo.1]),ym r5,BA rq8 (fun w=>B8 Tryz.underlying34 (by kernel_rfl) (hr.1.1) (by omega) (rfl) w),yf r6 (fun _=>by kernel_rfl),Bc r6 (fun _ g=>Ab (tyT (VK.s x) rfl) (RdK.treeX (hr.kn g) rfl hi hx_x)),Ae [.agg #[VK.s x]] Tryz.func87 (by kernel_rfl) rq4 ⟨(oy rfl rfl),ALg⟩ (Au fun W g=>FO hv ((hr.kn g).kt hi hx_x)),Cr r6 (fun _=>Ba),ym r5,AS r6,AS r6,AS r6,BL ⟨26,rfl,rfl,fun _ _ h=>h⟩ rfl (fun _=>rfl),BL ⟨26,rfl,rfl,fun _ _ h=>h⟩ rfl (fun _=>rfl),BL ⟨26,rfl,rfl,fun _ _ h=>h⟩ rfl (fun _=>rfl),BL ⟨26,rfl,rfl,fun _ _ h=>h⟩ rfl (fun _=>rfl),BL ⟨26,rfl,rfl,fun _ _ h=>h⟩ rfl (fun _=>rfl),BL ⟨26,rfl,rfl,fun _ _ h=>h⟩ rfl (fun _=>rfl),BL ⟨26,rfl,rfl,fun _ _ h=>h⟩ rfl (fun _=>rfl),BL ⟨26,rfl,rfl,fun _ _ h=>h⟩ rfl (fun _=>rfl),BL ⟨26,rfl,rfl,fun _ _ h=>h⟩ rfl (fun _=>rfl),BL ⟨26,rfl,rfl,fun _ _ h=>h⟩ rfl (fun _=>rfl),BL ⟨26,rfl,rfl,fun _ _ h=>h⟩ rfl (fun _=>rfl),BL ⟨26,rfl,rfl,fun _ _ h=>h⟩ rfl (fun _=>rfl),BL ⟨26,rfl,rfl,fun _ _ h=>h⟩ rfl (fun _=>rfl),BL ⟨26,rfl,rfl,fun _ _ h=>h⟩ rfl (fun _=>rfl),BL ⟨26,rfl,rfl,fun _ _ h=>h⟩ rfl (fun _=>rfl),AS r6,BQ r7,ALg⟩ fun a36 w36 g36 FG=>?_
       refine k20 _ _ ?_
       refine Av FG rfl rfl ?_
       refine ALa fun K37 k37=>?_
       refine ALZ ?_
       refine AX (v:=.bool false) FG r6 fun a38 Uw=>?_
       refine AE ?_
       refine k37 _ _ ?_
       replace Ad:=AC g36 Ad
       replace HG:=AA HG g36
       refine ALd ?_
       repeat refine AJ ?_
       refine r19 _ _ ?_
       repeat refine AJ ?_
       refine r13 _ _ ?_
       repeat refine AJ ?_
       refine Ar (fn:=Tryz.f40) Uw (A7 (p:=2) Tryz.results40 Uw rfl rfl) ?_
       exact⟨FE ((JF (i:=i) (by rw[hmap];exact hi) (by rw[hchk];simp[hv,hc,Nat.ne_of_gt hz])).symm),HG⟩
   · refine ALZ ?_
     refine AH DQ 5 [(8,.int .i64 ((i:Int))),(9,pk CP 64),(10,.slice ao ks.length cap),(11,.int .i64 ((ks.length:Nat))),(12,.bool false)]
       ⟨ym r5,yf r6 (fun _=>by kernel_rfl),yp (i:=2) r6 (Eo (.slice ao ks.length cap) rfl) Ad rfl (by simp[AL,AZ,hsa.1,hpo.1]),BI (Tryz.underlying34) rfl rfl trivial (oy rfl rfl) (fun _=>rfl),GC r7 (fun _=>BE (by simp;omega)),ALg⟩ fun a39 w39 g39 Jl=>?_
     refine AE ?_
     refine k16 _ _ ?_
     refine A1 Jl rfl rfl ?_
     refine wp_exit ?_
     repeat refine Bo ?_
     refine x13 _ _ ?_
     refine k10 _ _ ?_
     refine ALa fun K40 k40=>?_
     refine ALZ ?_
     refine AX (v:=.bool true) Jl r6 fun a41 N2=>?_
     refine AE ?_
     refine k40 _ _ ?_
     replace HG:=AA HG g39
     refine ALd ?_
     repeat refine AJ ?_
     refine Ar (fn:=Tryz.f40) N2 (A7 (p:=2) Tryz.results40 N2 rfl rfl) ?_
     exact⟨FE ((Xc (by omega) fun k hk=>hb k (by omega)).symm),HG⟩
end Go.Proofs.YtbfjfnbcmojpiaaGreat
