import Derived.Test.YtbfjfnbcmojpiaaGreatDaY5
set_option linter.unusedSimpArgs false
set_option linter.unusedVariables false
set_option maxRecDepth 100000
set_option maxHeartbeats 4000000
namespace Go.Proofs.YtbfjfnbcmojpiaaGreat
open Go.RowKit Go.Shelf
def Bv (a:Int) (os:Value) (j:Int) (ws bs:Value) (tg:List Nat):Value:=.agg ([[.int .i64 a],[os],[.int .i64 j],[ws],[bs],bv tg].flatten).toArray
theorem EG {x y:List Nat} (hx:Dg x) (hy:Dg y) {a j b k:Int} {os ws bs os' ws' bs':Value}:([[.int .i64 a],[os],[.int .i64 j],[ws],[bs],bv x].flatten).length=([[.int .i64 b],[os'],[.int .i64 k],[ws'],[bs'],bv y].flatten).length:=by simp[AO,hx.1,hy.1]
theorem Dh (a j:Int) {tg:List Nat} (ht:Dg tg) (os ws bs:Value) (h1:os.oneCell'=true) (h2:ws.oneCell'=true) (h3:bs.oneCell'=true):TY Tryz.prog 31 ([[.int .i64 a],[os],[.int .i64 j],[ws],[bs],bv tg].flatten) (Bv a os j ws bs tg):=by
 refine TY.agg Tryz.underlying31 rfl ?_ ?_
 · rw[show([[.int .i64 a],[os],[.int .i64 j],[ws],[bs],bv tg].flatten).length=37 by simp[AO,ht.1]]
   kernel_rfl
 · intro c hc
   simp only[List.flatten_cons,List.flatten_nil,List.append_nil,List.mem_append,List.mem_singleton] at hc
   rcases hc with rfl|rfl|rfl|rfl|rfl|hc
   · rfl
   · exact h1
   · rfl
   · exact h2
   · exact h3
   · exact JR _ _ hc
theorem AAu (w:World):(Instr.build 31 #[]).run Tryz.prog w=.ok (Bv 0 (.slice none 0 0) 0 (.slice none 0 0) (.slice none 0 0) AR) w:=by kernel_rfl
theorem AMm (a:Int) (ao:Option Addr) (n c:Nat) (j:Int) (w:World):(Instr.build 31 #[(0,.int .i64 a),(1,.slice ao n c),(2,.int .i64 j)]).run Tryz.prog w=.ok (Bv a (.slice ao n c) j (.slice none 0 0) (.slice none 0 0) AR) w:=by kernel_rfl
theorem DE (x:Int):TY Tryz.prog 3 [.int .i64 x] (.int .i64 x):=TY.one' Tryz.underlying3 rfl (by kernel_rfl) rfl
def fl (ds:List DD) (i:Nat):List Nat:=(ds.take i).flatMap DD.x
theorem Xm {ds:List DD} {i:Nat} {x:DD} (hi:i<ds.length) (hx:ds[i]=x):fl ds (i+1)=fl ds i++x.x:=by
 unfold fl
 rw[List.take_add_one,List.getElem?_eq_getElem hi,hx,List.flatMap_append]
 simp
theorem MO (d:BitVec 64) (l:List Nat):Dg (QJ d l):=⟨Io _ _,Pj _ _⟩
theorem AHx {ds:List DD}:∀{i:Nat},i≤ds.length→(fl ds i).length=32*i
 | 0,_=>rfl
 | i+1,h=>by rw[Xm (i:=i) (by omega) rfl,List.length_append,AHx (by omega),(ds[i]).h.1];omega
theorem AHy (ds:List DD) (i:Nat):By (fl ds i):=fun b hb=>by
 obtain⟨d,_,hd⟩:=List.mem_flatMap.1 hb
 exact d.h.2 b hd
theorem AHz {ds:List DD} {i:Nat} (h:ds.length≤i):fl ds i=(ds.map DD.x).flatten:=by
 unfold fl
 rw[List.take_of_length_le h,List.flatMap_def]
theorem AH0 {w:World} {b:Nat} {k:List Nat} (hk:Dg k) (h:w.rangeAt b 0 (bv k)):Sl w 1 (.slice (some ⟨b,0,none⟩) 32 32) 32 (bv k):=by
 have:=AHw hk h
 rwa [hk.1] at this
theorem AH1 {w:World} {v:Value} {ds:List DD} {i:Nat} (hi:i≤ds.length) (h:Sl w 1 v (32*i) (bv (fl ds i))):Sl w 1 v (fl ds i).length (bv (fl ds i)):=by rw[AHx hi];exact h
theorem AFy {w:World} {d:List Nat} (hd:Dg d):Calls Tryz.prog 34 #[AQ d] w fun e w'=>∃v,e=.returned v∧(Own w' 5 1 v 32 (bv d)∧Fresh w w' v):=OA d hd.1 w
theorem AEe (ds:List DD):(ds.flatMap Ja).all Value.oneCell'=true:=by
 rw[List.all_eq_true]
 intro v hv
 obtain⟨d,_,hd⟩:=List.mem_flatMap.1 hv
 exact JR _ _ hd
theorem ALo {a b:List Nat} (h:a=b):Ending.returned (AQ a)=Ending.returned (AQ b):=by rw[h]
theorem Ei (w:World):CallsD Tryz.prog 69 #[] .returning w fun e u' w'=>e=.returned (.tuple #[])∧u'=.returning∧w'=w:=by
 refine callsD_of_wpS Tryz.func69 rfl fun c₀ cs hu=>?_
 apply wpS_region
 simp[wpOpsS,go_sem,recoverD,hu,Tryz.ntmps69]
 cases c₀
 simp_all [bodyPostS,results,Tryz.results69]
theorem AFz (joint:Int) (ds:List DD) (ao:Option Addr) (cap:Nat) (w:World) (hr:RdD w (.slice ao ds.length cap) ds) (hl:ds.length≤1000) :
   Calls Tryz.prog 55 #[.int .i64 joint,.slice ao ds.length cap] w fun e w'=>e=.returned (AQ (Qx (decide (joint=1)) (ds.map DD.x)))∧w.grownBy w' none:=by
 obtain⟨dm,hdm⟩:∃dm:Nat,dm=if decide (joint=1)=true then 282 else 281:=⟨_,rfl⟩
 have hdl:dm<1000:=by rw[hdm];split<;>decide
 refine BV Tryz.func55 rfl Tryz.ntmps55 rfl fun a0 sv0=>?_
 have HG:=World.grownBy.refl w none
 replace sv0:Sv 24 [] [(0,.int .i64 joint),(1,.slice ao ds.length cap)] a0:=sv0
 refine AOQ fun K1 k1=>?_
 refine AOP ?_
 refine A9 (T:=23) (Z:=(bv AR)) sv0 rfl rfl rfl (fun a w=>by kernel_rfl) fun a2 w2 LZ Iq g2 z2 BU sv2=>?_
 have Kk:=Bq HG Iq
 replace hr:=hr.kn g2
 replace HG:=AA HG g2
 refine AD ?_
 refine k1 _ _ ?_
 refine AOQ fun K3 k3=>?_
 refine AOP ?_
 refine AS (v:=.int .u64 281) sv2 r6 fun a4 sv4=>?_
 refine AD ?_
 refine k3 _ _ ?_
 refine AOQ fun K5 k5=>?_
 suffices MG6:∀(a':Act) (w':World),Sv 24 [] [(5,.int .u64 ((dm:Int))),(4,pt LZ),(0,.int .i64 joint),(1,.slice ao ds.length cap)] a'→w.grownBy w' none→w'.heap[LZ]?=some (.cells ((bv AR)).toArray 23 (0,0))→(RdD w' (.slice ao ds.length cap) ds)→K5 a' w' by
   by_cases hj:joint=1
   · obtain rfl:dm=282:=by rw[hdm,decide_eq_true hj];rfl
     refine AOQ fun K7 k7=>?_
     refine AOP ?_
     refine AH sv4 2 [(9,.int .i64 joint),(10,.bool true)]
      ⟨ym r5,Ce r6 (fun _=>BM (by simpa using hj)),AOW⟩ fun a8 w8 g8 sv8=>?_
     refine AD ?_
     refine k7 _ _ ?_
     refine Am sv8 rfl rfl ?_
     refine AOP ?_
     refine AS (v:=.int .u64 282) sv8 r6 fun a9 sv9=>?_
     refine AD ?_
     replace BU:=AC g8 BU
     replace hr:=hr.kn g8
     replace HG:=AA HG g8
     have svm:Sv 24 [] [(5,_),(4,_),(0,_),(1,_)] a9:=⟨sv9.1,sv9.2.1,sv9.2.2.1,sv9.2.2.2.2.2.1,sv9.2.2.2.2.2.2.1,sv9.2.2.2.2.2.2.2.1,AOW⟩
     exact MG6 _ _ svm HG BU hr
   · obtain rfl:dm=281:=by rw[hdm,decide_eq_false hj];rfl
     refine AOQ fun K10 k10=>?_
     refine AOP ?_
     refine AH sv4 2 [(9,.int .i64 joint),(10,.bool false)]
      ⟨ym r5,Ce r6 (fun _=>BM (by simpa using hj)),AOW⟩ fun a11 w11 g11 CQ=>?_
     refine AD ?_
     refine k10 _ _ ?_
     refine Au CQ rfl rfl ?_
     refine AOU ?_
     replace BU:=AC g11 BU
     replace hr:=hr.kn g11
     replace HG:=AA HG g11
     have svm:Sv 24 [] [(5,_),(4,_),(0,_),(1,_)] a11:=⟨CQ.1,CQ.2.1,CQ.2.2.2.2.1,CQ.2.2.2.2.2.1,CQ.2.2.2.2.2.2.1,CQ.2.2.2.2.2.2.2.1,AOW⟩
     exact MG6 _ _ svm HG BU hr
 clear BU
 clear hr
 clear HG
 intro a6 w6 sv6 HG BU hr
 refine k5 _ _ ?_
 refine AOQ fun K12 k12=>?_
 refine AOP ?_
 refine AS (v:=.slice none 0 0) sv6 r6 fun a13 Cx=>?_
 refine AD ?_
 refine k12 _ _ ?_
 refine AOQ fun K14 k14=>?_
 refine AOQ fun K15 k15=>?_
 refine AOP ?_
 refine AH Cx 3 [(11,.slice ao ds.length cap),(12,.int .i64 ((ds.length:Nat))),(13,.int .i64 0)]
   ⟨ym r5,BJ (Tryz.underlying28) rfl rfl trivial (oy rfl rfl) (fun _=>rfl),Fw (.inl rfl) rfl trivial (fun _=>rfl),AOW⟩ fun a16 w16 g16 DG=>?_
 refine AD ?_
 refine k15 _ _ ?_
 refine BH fun Q17 x17 y17 rt17 o17=>?_
 replace BU:=AC g16 BU
 replace hr:=hr.kn g16
 replace HG:=AA HG g16
 have ob:=Own.nil w16 5 1
 have EC:=Gg LZ
 have ap_hr_ob:=GV (BC (.slice ao ds.length cap))
 have lo_ob:=UZ w
 refine wp_loop (fun a w'=>∃(i:Nat) (bo:Option Addr) (bc:Nat),(i≤ds.length)∧Sv 24 [] [(13,.int .i64 ((i:Int))),(6,.slice bo (32*i) bc),(11,.slice ao ds.length cap),(12,.int .i64 ((ds.length:Nat))),(5,.int .u64 ((dm:Int))),(4,pt LZ),(0,.int .i64 joint),(1,.slice ao ds.length cap)] a∧w.grownBy w' none∧w'.heap[LZ]?=some (.cells ((bv AR)).toArray 23 (0,0))∧RdD w' (.slice ao ds.length cap) ds∧Own w' 5 1 (.slice bo (32*i) bc) ((32*i)) (bv ((fl ds i)))∧(∀k,BC (.slice bo (32*i) bc) k→k≠LZ)∧(∀k,BC (.slice ao ds.length cap) k→¬BC (.slice bo (32*i) bc) k)∧(∀k,BC (.slice bo (32*i) bc) k→w.heap.size≤k)) (fun a _=>(ds.length-intOf (a.tmps.getD 13 undef)).toNat) ⟨0,none,0,Nat.zero_le _,⟨DG.1,DG.2.1,DG.2.2.2.2.1,DG.2.2.2.2.2.1,DG.2.2.1,DG.2.2.2.1,DG.2.2.2.2.2.2.1,DG.2.2.2.2.2.2.2.1,(AG DG).1,(AG DG).2.1,AOW⟩,HG,BU,hr,ob,EC,ap_hr_ob,lo_ob⟩ fun a18 w18 hI18=>?_
 clear BU
 clear hr
 clear ob
 clear HG
 obtain⟨i,bo,bc,hin,CY,HG,BU,hr,ob,EC,ap_hr_ob,lo_ob⟩:=hI18
 refine AOQ fun K19 k19=>?_
 by_cases hi:i<ds.length
 · obtain⟨x,hx_x⟩:∃zx,ds[i]'hi=zx:=⟨_,rfl⟩
   have hfs:=Xm hi hx_x
   refine AOP ?_
   refine AH CY 1 [(14,.bool true)]
     ⟨Fg r7 (fun _=>BR (by simp;omega)),AOW⟩ fun a20 w20 g20 Du=>?_
   refine AD ?_
   refine k19 _ _ ?_
   refine AOQ fun K21 k21=>?_
   refine Am Du rfl rfl ?_
   refine AOU ?_
   refine k21 _ _ ?_
   refine AOQ fun K22 k22=>?_
   refine BH fun Q23 x23 y23 rt23 o23=>?_
   refine AOQ fun K24 k24=>?_
   refine AOP ?_
   replace hr:=hr.kn g20
   refine AH Du 2 [(15,pk ((bO ao)) (oO ao+i*32)),(16,AQ x.x)]
     ⟨BD rq8 (fun w=>CF Tryz.underlying28 (by kernel_rfl) (hr.1) (by omega) (rfl) w),Bj r6 (fun _ g=>Ad (Bb x.x x.h.1) (by have:=CW (hr.kn g).1 Dj hi (by decide);rw[hx_x] at this;exact this)),AOW⟩ fun a25 w25 g25 DR=>?_
   replace BU:=AC g25 (AC g20 BU)
   replace hr:=hr.kn g25
   replace ob:=(ob.kn g20).kn g25
   replace HG:=AA (AA HG g20) g25
   refine A9 (T:=23) (Z:=(bv AR)) DR rfl rfl rfl (fun a w=>by kernel_rfl) fun a26 w26 AKo PD g26 z26 ADT DH=>?_
   have Um:=Ao BU PD
   have AH2:=Bq HG PD
   have AAv:=Aw (hr.lt) PD
   have AAw:=Aw (Own.ltS ob) PD
   refine Aq DH r7 (Bb x.x x.h.1) ADT (EM x.h) fun w27 g27 h27=>?_
   refine AD ?_
   refine k24 _ _ ?_
   refine AOP ?_
   refine AH DH 2 [(17,.slice bo (32*i) bc),(18,.slice ((some ⟨AKo,0,none⟩)) 32 32)]
     ⟨ym r5,I4 (l:=none) (u:=none) rfl rfl trivial (oy rfl rfl) trivial trivial (Mr AKo 0) (fun _=>rfl),AOW⟩ fun a28 w28 g28 Dm=>?_
   replace BU:=AC g28 (Aa g27 (AC g26 BU) (Ne.symm Um))
   replace ADT:=AC g28 h27
   replace hr:=((hr.kn g26).offR g27 (AP AAv)).kn g28
   replace ob:=((ob.kn g26).offR g27 (AP AAw)).kn g28
   replace HG:=AA (AE (AA HG g26) g27 AH2) g28
   refine GZ Di Dm rfl rfl rfl rfl rfl rfl rfl rfl ob (AH0 x.h (Av ADT)) (Dk _) (by omega) fun a29 ao29 cap29 w29 owx29 Bk Ck=>?_
   have Un:=Fo Bk.2 EC BU
   have AAx:=E4 Bk.2 ap_hr_ob (hr.lt)
   have Su:=Oq Bk.2 lo_ob HG
   replace BU:=AF Bk.1 BU (fun e=>EC _ e.symm rfl)
   replace hr:=hr.offR Bk.1 (fun k hk e=>ap_hr_ob k hk (e))
   replace HG:=Bu HG Bk.1 fun k e=>lo_ob k (e)
   rw[←DS,←hfs] at owx29
   refine AS (v:=.slice ao29 (32*i+32) cap29) Ck r6 fun a30 EF=>?_
   refine AD ?_
   refine y23 _ _ ?_
   refine k22 _ _ ?_
   refine AOP ?_
   refine AH EF 1 [(20,.int .i64 (((i+1:Nat):Int)))]
     ⟨Ce r6 (fun _=>Dd (by rw[BT (by omega) (by omega)];omega)),AOW⟩ fun a31 w31 g31 IJ=>?_
   refine AH (IJ.dl [13]) 1 [(13,.int .i64 (((i+1:Nat):Int)))]
     ⟨ym r5,AOW⟩ fun a32 w32 g32 Cu=>?_
   have AJ3:=AA g31 g32
   refine AD ?_
   replace BU:=AC AJ3 BU
   replace hr:=hr.kn AJ3
   replace owx29:=owx29.kn AJ3
   replace HG:=AA HG AJ3
   exact⟨⟨i+1,ao29,cap29,by omega,⟨Cu.1,Cu.2.1,Cu.2.2.1,Cu.2.2.2.2.1,(AG Cu).2.2.2.2.1,(AG Cu).2.2.2.2.2.1,(AG Cu).2.2.2.2.2.2.1,(AG Cu).2.2.2.2.2.2.2.1,(AG (AG Cu)).1,(AG (AG Cu)).2.1,AOW⟩,HG,BU,hr,owx29,Un,AAx,Su⟩,by rw[show _=_ from Cu.2.2.1,show _=_ from CY.2.2.1];simp[intOf];omega⟩
 · have hall:=AHz (ds:=ds) (i:=i) (by omega)
   refine AOP ?_
   refine AH CY 1 [(14,.bool false)]
     ⟨Fg r7 (fun _=>BR (by simp;omega)),AOW⟩ fun a33 w33 g33 FS=>?_
   refine AD ?_
   refine k19 _ _ ?_
   refine AOQ fun K34 k34=>?_
   refine Au FS rfl rfl ?_
   refine wp_exit ?_
   repeat refine CA ?_
   refine x17 _ _ ?_
   refine k14 _ _ ?_
   refine AOQ fun K35 k35=>?_
   refine AOP ?_
   refine AH FS 2 [(21,.int .u64 ((dm:Int))),(22,.slice bo (32*i) bc)]
     ⟨ym r5,ym r5,AOW⟩ fun a36 w36 g36 GC=>?_
   have Ow:=AA g33 g36
   replace ob:=ob.kn Ow
   refine BA GC Tryz.func101 (by kernel_rfl) r6 (Jb (AKn (dom:=dm) hdl rfl (AHy ds i) (by rw[AHx (by omega)];omega) (AH1 (by omega) (Sl.of_own ob)))) fun a37 v37 w37 hR37 Gi=>?_
   obtain⟨rfl,g37⟩:=hR37
   replace BU:=AC g37 (AC Ow BU)
   refine Aq Gi r7 (Bb ((QJ (BitVec.ofNat 64 dm) (fl ds i))) (MO _ _).1) BU (EM (MO _ _)) fun w38 g38 h38=>?_
   replace ob:=(ob.kn g37).offR g38 (AP EC)
   replace HG:=AE (AA (AA HG Ow) g37) g38 Kk
   replace BU:=h38
   refine AD ?_
   refine k35 _ _ ?_
   refine AOT ?_
   repeat refine AM ?_
   refine Ap (fn:=Tryz.f55) Gi (EE (p:=4) Tryz.results55 Gi rfl rfl (Bb ((QJ (BitVec.ofNat 64 dm) (fl ds i))) (MO _ _).1) BU) ?_
   exact⟨ALo (by rw[hall,hdm];rfl),HG⟩
theorem Xn (joint:Int) (ds:List DD) (ao:Option Addr) (cap:Nat) (w:World) (hr:RdD w (.slice ao ds.length cap) ds) (hl:ds.length≤1000) (hj:joint=0∨joint=1) :
   Calls Tryz.prog 45 #[.int .i64 joint,.slice ao ds.length cap] w fun e w'=>e=.returned (AQ (Qx (decide (joint=1)) (ds.map DD.x)))∧w.grownBy w' none:=by
 refine BV Tryz.func45 rfl Tryz.ntmps45 rfl fun a0 sv0=>?_
 have HG:=World.grownBy.refl w none
 replace sv0:Sv 27 [] [(0,.int .i64 joint),(1,.slice ao ds.length cap)] a0:=sv0
 refine AOQ fun K1 k1=>?_
 refine AOP ?_
 refine A9 (T:=23) (Z:=(bv AR)) sv0 rfl rfl rfl (fun a w=>by kernel_rfl) fun a2 w2 LZ Iq g2 z2 BU sv2=>?_
 have Kk:=Bq HG Iq
 replace hr:=hr.kn g2
 replace HG:=AA HG g2
 refine AD ?_
 refine k1 _ _ ?_
 refine AOQ fun K3 k3=>?_
 refine AOP ?_
 refine Xe (e:=5) sv2 rfl rfl rfl rfl (fun W=>by kernel_rfl) fun a4 w4 ON It g4 z4 Kj sv4=>?_
 have Xo:=Ao BU It
 have PB:=Bq HG It
 have ADU:=Aw (hr.lt) It
 replace BU:=AC g4 BU
 replace hr:=hr.kn g4
 replace HG:=AA HG g4
 have ob:=Sk (sz:=1) Kj
 have EC:∀k,BC (.slice ((some ⟨ON,0,none⟩)) 0 0) k→k≠LZ:=fun k hk e=>Xo ((Option.some.inj hk).trans e)
 have ap_hr_ob:∀k,BC (.slice ao ds.length cap) k→¬BC (.slice ((some ⟨ON,0,none⟩)) 0 0) k:=fun k hk e=>ADU k hk (Option.some.inj e).symm
 have lo_ob:∀k,BC (.slice ((some ⟨ON,0,none⟩)) 0 0) k→w.heap.size≤k:=fun k hk=>(Option.some.inj hk)▸PB
 clear Kj
 refine AS (v:=.slice ((some ⟨ON,0,none⟩)) 0 0) sv4 r6 fun a5 sv5=>?_
 refine AD ?_
 refine k3 _ _ ?_
 refine AOQ fun K6 k6=>?_
 refine AOQ fun K7 k7=>?_
 refine AOP ?_
 refine AS (v:=.int .i64 0) sv5 r6 fun a8 sv8=>?_
 refine AD ?_
 refine k7 _ _ ?_
 refine BH fun Q9 x9 y9 rt9 o9=>?_
 refine wp_loop (fun a w'=>∃(i:Nat) (bo:Option Addr) (bc:Nat),(i≤ds.length)∧Sv 27 [] [(6,.int .i64 ((i:Int))),(5,.slice bo (32*i) bc),(7,.slice ((some ⟨ON,0,none⟩)) 0 0),(4,pt LZ),(0,.int .i64 joint),(1,.slice ao ds.length cap)] a∧w.grownBy w' none∧w'.heap[LZ]?=some (.cells ((bv AR)).toArray 23 (0,0))∧RdD w' (.slice ao ds.length cap) ds∧Own w' 5 1 (.slice bo (32*i) bc) ((32*i)) (bv ((fl ds i)))∧(∀k,BC (.slice bo (32*i) bc) k→k≠LZ)∧(∀k,BC (.slice ao ds.length cap) k→¬BC (.slice bo (32*i) bc) k)∧(∀k,BC (.slice bo (32*i) bc) k→w.heap.size≤k)) (fun a _=>(ds.length-intOf (a.tmps.getD 6 undef)).toNat) ⟨0,(some ⟨ON,0,none⟩),0,Nat.zero_le _,⟨sv8.1,sv8.2.1,sv8.2.2.1,sv8.2.2.2.1,sv8.2.2.2.2.1,sv8.2.2.2.2.2.1,sv8.2.2.2.2.2.2.1,sv8.2.2.2.2.2.2.2.1,AOW⟩,HG,BU,hr,ob,EC,ap_hr_ob,lo_ob⟩ fun a10 w10 hI10=>?_
 clear BU
 clear hr
 clear ob
 clear HG
 obtain⟨i,bo,bc,hin,Bt,HG,BU,hr,ob,EC,ap_hr_ob,lo_ob⟩:=hI10
 refine AOQ fun K11 k11=>?_
 refine AOQ fun K12 k12=>?_
 by_cases hi:i<ds.length
 · obtain⟨x,hx_x⟩:∃zx,ds[i]'hi=zx:=⟨_,rfl⟩
   have hfs:=Xm hi hx_x
   refine AOP ?_
   refine AH Bt 4 [(8,.int .i64 ((i:Int))),(9,.slice ao ds.length cap),(10,.int .i64 ((ds.length:Nat))),(11,.bool true)]
     ⟨ym r5,ym r5,BJ (Tryz.underlying28) rfl rfl trivial (oy rfl rfl) (fun _=>rfl),Fg r7 (fun _=>BR (by simp;omega)),AOW⟩ fun a13 w13 g13 Cx=>?_
   refine AD ?_
   refine k12 _ _ ?_
   refine Am Cx rfl rfl ?_
   refine AOU ?_
   refine k11 _ _ ?_
   refine AOQ fun K14 k14=>?_
   refine BH fun Q15 x15 y15 rt15 o15=>?_
   refine AOP ?_
   replace hr:=hr.kn g13
   refine AH Cx 5 [(14,.slice bo (32*i) bc),(15,.slice ao ds.length cap),(16,.int .i64 ((i:Int))),(17,pk ((bO ao)) (oO ao+i*32)),(18,AQ x.x)]
     ⟨ym r5,ym r5,ym r5,BD rq8 (fun w=>CF Tryz.underlying28 (by kernel_rfl) (hr.1) (by omega) (rfl) w),Bj r6 (fun _ g=>Ad (Bb x.x x.h.1) (by have:=CW (hr.kn g).1 Dj hi (by decide);rw[hx_x] at this;exact this)),AOW⟩ fun a16 w16 g16 DG=>?_
   refine BA DG Tryz.func34 (by kernel_rfl) r6 (AFy x.h) fun a17 v17 w17 hR17 EK=>?_
   obtain⟨ao17,cap17,rfl,_⟩:=(Sl.of_own hR17.1).shape
   obtain⟨by_,fr17⟩:=hR17
   replace fr17:=DT fr17
   have g17:=fr17.1
   replace fr17:=fr17.2
   replace BU:=AC g17 (AC g16 (AC g13 BU))
   replace hr:=(hr.kn g16).kn g17
   replace ob:=((ob.kn g13).kn g16).kn g17
   replace HG:=AA (AA (AA HG g13) g16) g17
   refine GZ Di EK rfl rfl rfl rfl rfl rfl rfl rfl ob (Sl.of_own by_) (Dk _) (by omega) fun a18 ao18 cap18 w18 owx18 Bk CY=>?_
   have Uo:=Fo Bk.2 EC BU
   have AAy:=E4 Bk.2 ap_hr_ob (hr.lt)
   have AH3:=Oq Bk.2 lo_ob HG
   replace BU:=AF Bk.1 BU (fun e=>EC _ e.symm rfl)
   replace hr:=hr.offR Bk.1 (fun k hk e=>ap_hr_ob k hk (e))
   replace HG:=Bu HG Bk.1 fun k e=>lo_ob k (e)
   rw[←DS,←hfs] at owx18
   refine AS (v:=.slice ao18 (32*i+32) cap18) CY r6 fun a19 Dq=>?_
   have Du:Sv _ _ [_,_,_,_,_,_,_,_,_,_] _:=Dq.dl [20,19,14,15,16,17,18]
   refine AD ?_
   refine y15 _ _ ?_
   refine k14 _ _ ?_
   refine AOP ?_
   refine AH Du 2 [(12,.int .i64 ((i:Int))),(13,.int .i64 (((i+1:Nat):Int)))]
     ⟨ym r5,Ce r6 (fun _=>Dd (by rw[BT (by omega) (by omega)];omega)),AOW⟩ fun a21 w21 g21 Dl=>?_
   refine AS (v:=.int .i64 (((i+1:Nat):Int))) Dl r6 fun a22 B7=>?_
   refine AD ?_
   replace BU:=AC g21 BU
   replace hr:=hr.kn g21
   replace owx18:=owx18.kn g21
   replace HG:=AA HG g21
   exact⟨⟨i+1,ao18,cap18,by omega,⟨B7.1,B7.2.1,B7.2.2.1,B7.2.2.2.2.2.1,(AG B7).2.2.1,(AG B7).2.2.2.1,(AG B7).2.2.2.2.1,(AG B7).2.2.2.2.2.1,AOW⟩,HG,BU,hr,owx18,Uo,AAy,AH3⟩,by rw[show _=_ from B7.2.2.1,show _=_ from Bt.2.2.1];simp[intOf];omega⟩
 · have hall:=AHz (ds:=ds) (i:=i) (by omega)
   refine AOP ?_
   refine AH Bt 4 [(8,.int .i64 ((i:Int))),(9,.slice ao ds.length cap),(10,.int .i64 ((ds.length:Nat))),(11,.bool false)]
     ⟨ym r5,ym r5,BJ (Tryz.underlying28) rfl rfl trivial (oy rfl rfl) (fun _=>rfl),Fg r7 (fun _=>BR (by simp;omega)),AOW⟩ fun a23 w23 g23 Cc=>?_
   refine AD ?_
   refine k12 _ _ ?_
   refine Au Cc rfl rfl ?_
   refine wp_exit ?_
   repeat refine CA ?_
   refine x9 _ _ ?_
   refine k6 _ _ ?_
   refine AOQ fun K24 k24=>?_
   refine AOQ fun K25 k25=>?_
   replace BU:=AC g23 BU
   replace ob:=ob.kn g23
   replace HG:=AA HG g23
   rcases hj with rfl|rfl
   · refine AOP ?_
     refine AH Cc 2 [(21,.int .i64 0),(22,.bool true)]
      ⟨ym r5,Ce r6 (fun _=>BM rfl),AOW⟩ fun a26 w26 g26 DH=>?_
     refine AD ?_
     refine k25 _ _ ?_
     refine Am DH rfl rfl ?_
     refine AOQ fun K27 k27=>?_
     refine AOP ?_
     refine AH DH 1 [(23,.slice bo (32*i) bc)]
      ⟨ym r5,AOW⟩ fun a28 w28 g28 Dm=>?_
     have FR:=AA g26 g28
     replace ob:=ob.kn FR
     refine BA Dm Tryz.func33 (by kernel_rfl) r6 (Jb (ADQ (dom:=281) (by decide) rfl (AHy ds i) (by rw[AHx (by omega)];omega) (AH1 (by omega) (Sl.of_own ob)))) fun a29 v29 w29 hR29 Ck=>?_
     obtain⟨rfl,g29⟩:=hR29
     replace BU:=AC g29 (AC FR BU)
     refine Aq Ck r7 (Bb ((QJ (BitVec.ofNat 64 281) (fl ds i))) (MO _ _).1) BU (EM (MO _ _)) fun w30 g30 h30=>?_
     replace ob:=(ob.kn g29).offR g30 (AP EC)
     replace HG:=AE (AA (AA HG FR) g29) g30 Kk
     replace BU:=h30
     refine AD ?_
     refine k27 _ _ ?_
     refine AOT ?_
     repeat refine AM ?_
     refine Ap (fn:=Tryz.f45) Ck (EE (p:=4) Tryz.results45 Ck rfl rfl (Bb ((QJ (BitVec.ofNat 64 281) (fl ds i))) (MO _ _).1) BU) ?_
     exact⟨ALo (by rw[hall];rfl),HG⟩
   · refine AOP ?_
     refine AH Cc 2 [(21,.int .i64 1),(22,.bool false)]
      ⟨ym r5,Ce r6 (fun _=>BM rfl),AOW⟩ fun a31 w31 g31 IJ=>?_
     refine AD ?_
     refine k25 _ _ ?_
     refine Au IJ rfl rfl ?_
     refine AOU ?_
     refine k24 _ _ ?_
     refine AOQ fun K32 k32=>?_
     refine AOP ?_
     refine AH IJ 1 [(25,.slice bo (32*i) bc)]
      ⟨ym r5,AOW⟩ fun a33 w33 g33 FS=>?_
     have ALp:=AA g31 g33
     replace ob:=ob.kn ALp
     refine BA FS Tryz.func33 (by kernel_rfl) r6 (Jb (ADQ (dom:=282) (by decide) rfl (AHy ds i) (by rw[AHx (by omega)];omega) (AH1 (by omega) (Sl.of_own ob)))) fun a34 v34 w34 hR34 DW=>?_
     obtain⟨rfl,g34⟩:=hR34
     replace BU:=AC g34 (AC ALp BU)
     refine Aq DW r7 (Bb ((QJ (BitVec.ofNat 64 282) (fl ds i))) (MO _ _).1) BU (EM (MO _ _)) fun w35 g35 h35=>?_
     replace ob:=(ob.kn g34).offR g35 (AP EC)
     replace HG:=AE (AA (AA HG ALp) g34) g35 Kk
     replace BU:=h35
     refine AD ?_
     refine k32 _ _ ?_
     refine AOT ?_
     repeat refine AM ?_
     refine Ap (fn:=Tryz.f45) DW (EE (p:=4) Tryz.results45 DW rfl rfl (Bb ((QJ (BitVec.ofNat 64 282) (fl ds i))) (MO _ _).1) BU) ?_
     exact⟨ALo (by rw[hall];rfl),HG⟩
theorem AH4  (w:World) :
  Calls Tryz.prog 52 #[.slice none 0 0] w fun e w'=>e=.returned (.slice none 0 0)∧w.grownBy w' none:=by
 refine BV Tryz.func52 rfl Tryz.ntmps52 rfl fun a0 sv0=>?_
 have HG:=World.grownBy.refl w none
 replace sv0:Sv 8 [] [(0,.slice none 0 0)] a0:=sv0
 refine AOQ fun K1 k1=>?_
 refine AOP ?_
 refine AS (v:=.slice none 0 0) sv0 r6 fun a2 sv2=>?_
 refine AD ?_
 refine k1 _ _ ?_
 refine AOQ fun K3 k3=>?_
 refine AOQ fun K4 k4=>?_
 refine AOP ?_
 refine AH sv2 2 [(3,.slice none 0 0),(4,.bool true)]
  ⟨ym r5,Ce r6 (fun _=>XK Tryz.underlying28 rfl),AOW⟩ fun a5 w5 g5 sv5=>?_
 refine AD ?_
 refine k4 _ _ ?_
 refine Am sv5 rfl rfl ?_
 refine AOQ fun K6 k6=>?_
 refine AOP ?_
 refine AS (v:=.slice none 0 0) sv5 r6 fun a7 sv7=>?_
 refine AD ?_
 refine k6 _ _ ?_
 replace HG:=AA HG g5
 refine AOT ?_
 repeat refine AM ?_
 refine Ap (fn:=Tryz.f52) sv7 (BK (p:=2) Tryz.results52 sv7 rfl rfl) ?_
 exact⟨rfl,HG⟩
theorem AF0 (ds:List DD) (hl:ds.length≤1000) (ad:Addr) (cap:Nat) (w:World) (hr:RdD w (.slice ((some ad)) ds.length cap) ds) :
  Calls Tryz.prog 52 #[.slice ((some ad)) ds.length cap] w fun e w'=>∃v,e=.returned v∧w.grownBy w' none∧(Sp.row w.heap.size 23 32 ds.length (ds.flatMap Ja)).on w' v:=by
 refine BV Tryz.func52 rfl Tryz.ntmps52 rfl fun a0 sv0=>?_
 have HG:=World.grownBy.refl w none
 replace sv0:Sv 8 [] [(0,.slice ((some ad)) ds.length cap)] a0:=sv0
 refine AOQ fun K1 k1=>?_
 refine AOP ?_
 refine AS (v:=.slice none 0 0) sv0 r6 fun a2 sv2=>?_
 refine AD ?_
 refine k1 _ _ ?_
 refine AOQ fun K3 k3=>?_
 refine AOQ fun K4 k4=>?_
 refine AOP ?_
 refine AH sv2 2 [(3,.slice ((some ad)) ds.length cap),(4,.bool false)]
  ⟨ym r5,Ce r6 (fun _=>XK Tryz.underlying28 rfl),AOW⟩ fun a5 w5 g5 sv5=>?_
 refine AD ?_
 refine k4 _ _ ?_
 refine Au sv5 rfl rfl ?_
 refine AOU ?_
 refine k3 _ _ ?_
 refine AOQ fun K6 k6=>?_
 refine AOP ?_
 replace hr:=hr.kn g5
 replace HG:=AA HG g5
 refine JX (sv5.st w5) 3 [(5,Sp.lit0 w5.heap.size 23),(6,Sp.is (.slice ((some ad)) ds.length cap)),(7,Sp.row w5.heap.size 23 32 ds.length (ds.flatMap Ja))] rfl (by kernel_rfl) (by kernel_rfl) (by kernel_rfl)
  ⟨XN (t:=0) rfl trivial (Nat.le_refl _) (fun a w=>by kernel_rfl) (fun _ _ h=>h),ym r5,XO (news:=ds.flatMap Ja) dsT rfl rfl trivial rfl (fun _ _ h=>h) (oy rfl rfl) (fun _ g=>(hr.kn g).1) (AEe ds) (by omega) (Nat.le_refl _) (fun _ _ h=>h),AOW⟩ fun a7 w7 g7 st7=>?_
 obtain⟨hn7,hd7,e7_5,e7_6,e7_7,e7_3,e7_4,e7_2,e7_0,-⟩:=st7
 obtain⟨ao8,cap8,e7_7q,ow8,fr8⟩:=e7_7
 have AC7:=IM HG fr8
 replace HG:=AA HG g7
 have sv7:Sv 8 [] [(3,_),(4,_),(2,_),(0,_),(7,_)] a7:=⟨hn7,hd7,e7_3,e7_4,e7_2,e7_0,e7_7q,AOW⟩
 refine AS (v:=.slice ao8 ds.length cap8) sv7 r6 fun a9 sv9=>?_
 refine AD ?_
 refine k6 _ _ ?_
 refine AOT ?_
 repeat refine AM ?_
 refine Ap (fn:=Tryz.f52) sv9 (BK (p:=2) Tryz.results52 sv9 rfl rfl) ?_
 exact⟨_,rfl,HG,_,_,rfl,ow8,AC7⟩
theorem AF1 {ds:List DD} {s:Value} {w:World} (hl:ds.length≤1000) (hr:RdD w s ds):Calls Tryz.prog 52 #[s] w fun e w'=>∃v,e=.returned v∧w.grownBy w' none∧(Sp.row w.heap.size 23 32 ds.length (ds.flatMap Ja)).on w' v:=by
 obtain⟨ao,cap,rfl⟩:=hr.shape
 cases ao with
 | some ad=>exact AF0 ds hl ad cap w hr
 | none =>
  have h0:ds.length=0∧cap=0:=by
   obtain⟨⟨_,ao',cap',e,h1,_,h3,_⟩,_⟩:=hr
   simp only[Value.slice.injEq,true_and] at e
   obtain⟨rfl,rfl⟩:=e
   have:=h3 rfl
   omega
  obtain⟨h1,rfl⟩:=h0
  obtain rfl:ds=[]:=List.eq_nil_of_length_eq_zero h1
  exact(AH4 w).mono fun e w' ⟨h1,h2⟩=>⟨_,h1,h2,none,0,rfl,Own.nil _ _ _,fun k hk=>by simp[Value.ownBlock] at hk⟩
theorem ALq {ds:List DD} {s:Value} {w:World} (hl:ds.length≤1000) (hr:RdD w s ds):Calls Tryz.prog 52 #[s] w fun e w'=>∃v,e=.returned v∧(∃ao cap,v=.slice ao ds.length cap∧w.grownBy w' none∧Own w' 23 32 (.slice ao ds.length cap) ds.length (ds.flatMap Ja)∧∀k,BC (.slice ao ds.length cap) k→w.heap.size≤k):=
 (AF1 hl hr).mono fun e w' ⟨v,h1,h2,ao,cap,h3,h4,h5⟩=>⟨v,h1,ao,cap,h3,h2,h4,h5⟩
theorem Rd {w:World} {ds:List DD} {ao:Option Addr} {cap:Nat} {joint addr:Int} {b:Bool} (hr:RdD w (.slice ao ds.length cap) ds) (hb:hd (ds.map DD.x) joint addr=b):Calls Tryz.prog 50 #[.slice ao ds.length cap,.int .i64 joint,.int .i64 addr] w fun e w'=>e=.returned (.bool b)∧w.grownBy w' none:=hb▸ADM ds ao cap joint addr w hr
theorem PE {w:World} {ds:List DD} {ao:Option Addr} {cap:Nat} {joint addr:Int} {b:Bool} (hr:RdD w (.slice ao ds.length cap) ds) (hb:hd (ds.map DD.x) joint addr=b):Calls Tryz.prog 41 #[.slice ao ds.length cap,.int .i64 joint,.int .i64 addr] w fun e w'=>e=.returned (.bool b)∧w.grownBy w' none:=hb▸ADN ds ao cap joint addr w hr
theorem Sz {own:List (List Nat)} {joint addr:Int} (h:hd own joint addr=true):(0≤addr∧addr<17179869184)∧(joint=0∨joint=1)∧own.length≤16∧ZR own=true:=by
 unfold hd at h
 simp only[Bool.and_eq_true,Bool.or_eq_true,decide_eq_true_eq] at h
 exact⟨SV h.1.1.1,h.1.1.2,h.1.2,h.2⟩
theorem AEf {s:Sd} (h:hd s.own s.joint s.addr=false):Ed s=false:=by unfold Ed;rw[h];rfl
theorem Wa {s:Sd} (h:64<s.body.length):Ed s=false:=by
 have:decide (s.body.length≤64)=false:=decide_eq_false (by omega)
 unfold Ed;rw[this];simp
theorem NX {s:Sd} (h1:hd s.own s.joint s.addr=true) (h2:s.body.length≤64) {b:Bool} (h3:(if s.joint=1 then decide (s.wr.length=s.own.length) else decide (s.wr.length=0))=b):Ed s=b:=by
 unfold Ed
 rw[h1,decide_eq_true h2,←h3]
 split<;>rfl
theorem AJ4 (a joint:Int) (own wr:List DD) (ao wo bo:Option Addr) (ac wc bc:Nat) (body tg:List Nat) (htg:Dg tg) (w:World) (ho:RdD w (.slice ao own.length ac) own) (hw:RdD w (.slice wo wr.length wc) wr) (hb:SlB w 1 (.slice bo body.length bc) body.length (bv body)) :
   Calls Tryz.prog 27 #[Bv a (.slice ao own.length ac) joint (.slice wo wr.length wc) (.slice bo body.length bc) tg] w fun e w'=>e=.returned (.bool (Ed ⟨a,own.map DD.x,joint,wr.map DD.x,body,tg⟩))∧w.grownBy w' none:=by
 refine FY Tryz.func27 rfl Tryz.ntmps27 rfl fun a0 sv0=>?_
 have HG:=World.grownBy.refl w none
 replace sv0:Sv 31 [] [(0,Bv a (.slice ao own.length ac) joint (.slice wo wr.length wc) (.slice bo body.length bc) tg)] a0:=sv0
 refine AOQ fun K1 k1=>?_
 refine AOP ?_
 refine Bi sv0 r6 (Dh _ _ htg (.slice ao own.length ac) (.slice wo wr.length wc) (.slice bo body.length bc) rfl rfl rfl) fun a2 w2 B8 Gx g2 z2 Ac sv2=>?_
 replace ho:=ho.kn g2
 replace HG:=AA HG g2
 refine AS (v:=.bool false) sv2 r6 fun a3 sv3=>?_
 refine AD ?_
 refine k1 _ _ ?_
 refine AOQ fun K4 k4=>?_
 refine AOP ?_
 refine Gh sv3 rfl (dd:={ target:=.fn (.func 69) #[],args:=#[] }) rfl (by simp[execOp,resolve,Deferred.ofValue];try rfl) fun a5 sv5=>?_
 refine AD ?_
 refine k4 _ _ ?_
 refine AOQ fun K6 k6=>?_
 refine AOQ fun K7 k7=>?_
 rcases(show hd (own.map DD.x) joint a=false∨(hd (own.map DD.x) joint a=true∧64<body.length)∨(hd (own.map DD.x) joint a=true∧body.length≤64) by cases hd (own.map DD.x) joint a<;>simp<;>omega) with hh|⟨hh,hbl⟩|⟨hh,hbl⟩
 · refine AOP ?_
   refine AH sv5 14 [(3,pk B8 1),(4,.slice ao own.length ac),(5,pk B8 2),(6,.int .i64 joint),(7,pt B8),(8,.int .i64 a),(9,.bool false),(10,.bool true),(11,.bool true),(12,undef),(13,undef),(14,undef),(15,undef),(16,.bool true)]
     ⟨yf r6 (fun _=>by kernel_rfl),yp (i:=1) r6 (Fe (.slice ao own.length ac) rfl) Ac rfl rfl,yf r6 (fun _=>by kernel_rfl),yp (i:=2) r6 (DE joint) Ac rfl rfl,yf r6 (fun _=>by kernel_rfl),yp (i:=0) r6 (D9 a) Ac rfl rfl,Ag [.slice ao own.length ac,.int .i64 joint,.int .i64 a] Tryz.func50 (by kernel_rfl) rq4 ⟨(oy rfl rfl),(oy rfl rfl),(oy rfl rfl),AOW⟩ (A1 fun W g=>Rd (ho.kn g) hh),C7 r6 (fun _=>Bf),ym r5,AN r6,AN r6,AN r6,AN r6,BF r7,AOW⟩ fun a8 w8 g8 sv8=>?_
   refine AD ?_
   refine k7 _ _ ?_
   refine Am sv8 rfl rfl ?_
   refine AOQ fun K9 k9=>?_
   refine AOP ?_
   refine AS (v:=.bool false) sv8 r6 fun a10 Bt=>?_
   refine AD ?_
   refine k9 _ _ ?_
   replace Ac:=AC g8 Ac
   replace ho:=ho.kn g8
   replace HG:=AA HG g8
   refine AOT ?_
   repeat refine AM ?_
   refine Bz (fn:=Tryz.f27) Bt (BK (p:=2) Tryz.results27 Bt rfl rfl) (Ch Tryz.func69 (by kernel_rfl) rfl _ _) (Ei _) ?_
   exact⟨E6 ((AEf (s:=⟨a,own.map DD.x,joint,wr.map DD.x,body,tg⟩) hh).symm),HG⟩
 · refine AOP ?_
   refine AH sv5 14 [(3,pk B8 1),(4,.slice ao own.length ac),(5,pk B8 2),(6,.int .i64 joint),(7,pt B8),(8,.int .i64 a),(9,.bool true),(10,.bool false),(11,.bool false),(12,pk B8 4),(13,.slice bo body.length bc),(14,.int .i64 ((body.length:Nat))),(15,.bool true),(16,.bool true)]
     ⟨yf r6 (fun _=>by kernel_rfl),yp (i:=1) r6 (Fe (.slice ao own.length ac) rfl) Ac rfl rfl,yf r6 (fun _=>by kernel_rfl),yp (i:=2) r6 (DE joint) Ac rfl rfl,yf r6 (fun _=>by kernel_rfl),yp (i:=0) r6 (D9 a) Ac rfl rfl,Ag [.slice ao own.length ac,.int .i64 joint,.int .i64 a] Tryz.func50 (by kernel_rfl) rq4 ⟨(oy rfl rfl),(oy rfl rfl),(oy rfl rfl),AOW⟩ (A1 fun W g=>Rd (ho.kn g) hh),C7 r6 (fun _=>Bf),ym r5,BI rq9 (fun _=>by kernel_rfl),A8 rq9 (fun _ g=>Ad (D5 (.slice bo body.length bc) rfl) (BB (L:=[[.int .i64 a],[.slice ao own.length ac],[.int .i64 joint],[.slice wo wr.length wc],[.slice bo body.length bc],bv tg]) (i:=4) (AF g Ac (by simp)) rfl rfl)),BJ (Tryz.underlying29) rfl rfl (gy rfl rfl rfl) (oy rfl rfl) (fun _=>rfl),Ai rq9 (fun _=>C3 (by simp;omega)),Ah rq9,AOW⟩ fun a11 w11 g11 CQ=>?_
   refine AD ?_
   refine k7 _ _ ?_
   refine Am CQ rfl rfl ?_
   refine AOQ fun K12 k12=>?_
   refine AOP ?_
   refine AS (v:=.bool false) CQ r6 fun a13 Cx=>?_
   refine AD ?_
   refine k12 _ _ ?_
   replace Ac:=AC g11 Ac
   replace ho:=ho.kn g11
   replace HG:=AA HG g11
   refine AOT ?_
   repeat refine AM ?_
   refine Bz (fn:=Tryz.f27) Cx (BK (p:=2) Tryz.results27 Cx rfl rfl) (Ch Tryz.func69 (by kernel_rfl) rfl _ _) (Ei _) ?_
   exact⟨E6 ((Wa (s:=⟨a,own.map DD.x,joint,wr.map DD.x,body,tg⟩) hbl).symm),HG⟩
 · refine AOP ?_
   refine AH sv5 14 [(3,pk B8 1),(4,.slice ao own.length ac),(5,pk B8 2),(6,.int .i64 joint),(7,pt B8),(8,.int .i64 a),(9,.bool true),(10,.bool false),(11,.bool false),(12,pk B8 4),(13,.slice bo body.length bc),(14,.int .i64 ((body.length:Nat))),(15,.bool false),(16,.bool false)]
     ⟨yf r6 (fun _=>by kernel_rfl),yp (i:=1) r6 (Fe (.slice ao own.length ac) rfl) Ac rfl rfl,yf r6 (fun _=>by kernel_rfl),yp (i:=2) r6 (DE joint) Ac rfl rfl,yf r6 (fun _=>by kernel_rfl),yp (i:=0) r6 (D9 a) Ac rfl rfl,Ag [.slice ao own.length ac,.int .i64 joint,.int .i64 a] Tryz.func50 (by kernel_rfl) rq4 ⟨(oy rfl rfl),(oy rfl rfl),(oy rfl rfl),AOW⟩ (A1 fun W g=>Rd (ho.kn g) hh),C7 r6 (fun _=>Bf),ym r5,BI rq9 (fun _=>by kernel_rfl),A8 rq9 (fun _ g=>Ad (D5 (.slice bo body.length bc) rfl) (BB (L:=[[.int .i64 a],[.slice ao own.length ac],[.int .i64 joint],[.slice wo wr.length wc],[.slice bo body.length bc],bv tg]) (i:=4) (AF g Ac (by simp)) rfl rfl)),BJ (Tryz.underlying29) rfl rfl (gy rfl rfl rfl) (oy rfl rfl) (fun _=>rfl),Ai rq9 (fun _=>C3 (by simp;omega)),Ah rq9,AOW⟩ fun a14 w14 g14 D1=>?_
   refine AD ?_
   refine k7 _ _ ?_
   refine Au D1 rfl rfl ?_
   refine AOU ?_
   refine k6 _ _ ?_
   refine AOQ fun K15 k15=>?_
   refine AOQ fun K16 k16=>?_
   replace Ac:=AC g14 Ac
   replace HG:=AA HG g14
   by_cases hj:joint=1
   · refine AOP ?_
     refine AH D1 3 [(17,pk B8 2),(18,.int .i64 joint),(19,.bool true)]
       ⟨yf r6 (fun _=>by kernel_rfl),yp (i:=2) r6 (DE joint) Ac rfl rfl,Ce r6 (fun _=>BM (by simpa using hj)),AOW⟩ fun a17 w17 g17 EK=>?_
     refine AD ?_
     refine k16 _ _ ?_
     refine Am EK rfl rfl ?_
     refine AOQ fun K18 k18=>?_
     replace Ac:=AC g17 Ac
     replace HG:=AA HG g17
     by_cases hwl:wr.length=own.length
     · refine AOP ?_
       refine AH EK 7 [(20,pk B8 3),(21,.slice wo wr.length wc),(22,.int .i64 ((wr.length:Nat))),(23,pk B8 1),(24,.slice ao own.length ac),(25,.int .i64 ((own.length:Nat))),(26,.bool true)]
        ⟨yf r6 (fun _=>by kernel_rfl),yp (i:=3) r6 (Fe (.slice wo wr.length wc) rfl) Ac rfl rfl,BJ (Tryz.underlying28) rfl rfl trivial (oy rfl rfl) (fun _=>rfl),yf r6 (fun _=>by kernel_rfl),yp (i:=1) r6 (Fe (.slice ao own.length ac) rfl) Ac rfl rfl,BJ (Tryz.underlying28) rfl rfl trivial (oy rfl rfl) (fun _=>rfl),Fg r7 (fun _=>BM (Ks (by omega))),AOW⟩ fun a19 w19 g19 Dq=>?_
       refine AS (v:=.bool true) Dq r6 fun a20 Du=>?_
       have Dl:Sv _ _ [_,_,_,_,_,_,_,_,_,_,_,_,_,_,_,_,_,_,_,_] _:=Du.dl [20,21,22,23,24,25,26]
       refine AD ?_
       refine k18 _ _ ?_
       replace Ac:=AC g19 Ac
       replace HG:=AA HG g19
       refine AOT ?_
       repeat refine AM ?_
       refine Bz (fn:=Tryz.f27) Dl (BK (p:=2) Tryz.results27 Dl rfl rfl) (Ch Tryz.func69 (by kernel_rfl) rfl _ _) (Ei _) ?_
       exact⟨E6 ((NX (s:=⟨a,own.map DD.x,joint,wr.map DD.x,body,tg⟩) hh hbl (b:=true) (by simp only[List.length_map];rw[if_pos hj];simp[hwl])).symm),HG⟩
     · refine AOP ?_
       refine AH EK 7 [(20,pk B8 3),(21,.slice wo wr.length wc),(22,.int .i64 ((wr.length:Nat))),(23,pk B8 1),(24,.slice ao own.length ac),(25,.int .i64 ((own.length:Nat))),(26,.bool false)]
        ⟨yf r6 (fun _=>by kernel_rfl),yp (i:=3) r6 (Fe (.slice wo wr.length wc) rfl) Ac rfl rfl,BJ (Tryz.underlying28) rfl rfl trivial (oy rfl rfl) (fun _=>rfl),yf r6 (fun _=>by kernel_rfl),yp (i:=1) r6 (Fe (.slice ao own.length ac) rfl) Ac rfl rfl,BJ (Tryz.underlying28) rfl rfl trivial (oy rfl rfl) (fun _=>rfl),Fg r7 (fun _=>BM (I2 (by omega))),AOW⟩ fun a22 w22 g22 B7=>?_
       refine AS (v:=.bool false) B7 r6 fun a23 Cc=>?_
       have EN:Sv _ _ [_,_,_,_,_,_,_,_,_,_,_,_,_,_,_,_,_,_,_,_] _:=Cc.dl [20,21,22,23,24,25,26]
       refine AD ?_
       refine k18 _ _ ?_
       replace Ac:=AC g22 Ac
       replace HG:=AA HG g22
       refine AOT ?_
       repeat refine AM ?_
       refine Bz (fn:=Tryz.f27) EN (BK (p:=2) Tryz.results27 EN rfl rfl) (Ch Tryz.func69 (by kernel_rfl) rfl _ _) (Ei _) ?_
       exact⟨E6 ((NX (s:=⟨a,own.map DD.x,joint,wr.map DD.x,body,tg⟩) hh hbl (b:=false) (by simp only[List.length_map];rw[if_pos hj];simp[hwl])).symm),HG⟩
   · refine AOP ?_
     refine AH D1 3 [(17,pk B8 2),(18,.int .i64 joint),(19,.bool false)]
       ⟨yf r6 (fun _=>by kernel_rfl),yp (i:=2) r6 (DE joint) Ac rfl rfl,Ce r6 (fun _=>BM (by simpa using hj)),AOW⟩ fun a25 w25 g25 DR=>?_
     refine AD ?_
     refine k16 _ _ ?_
     refine Au DR rfl rfl ?_
     refine AOU ?_
     refine k15 _ _ ?_
     refine AOQ fun K26 k26=>?_
     replace Ac:=AC g25 Ac
     replace HG:=AA HG g25
     by_cases hwl:wr.length=0
     · refine AOP ?_
       refine AH DR 4 [(27,pk B8 3),(28,.slice wo wr.length wc),(29,.int .i64 ((wr.length:Nat))),(30,.bool true)]
        ⟨yf r6 (fun _=>by kernel_rfl),yp (i:=3) r6 (Fe (.slice wo wr.length wc) rfl) Ac rfl rfl,BJ (Tryz.underlying28) rfl rfl trivial (oy rfl rfl) (fun _=>rfl),Ce r6 (fun _=>BM (Ks (by omega))),AOW⟩ fun a27 w27 g27 HU=>?_
       refine AS (v:=.bool true) HU r6 fun a28 Dm=>?_
       have Ck:Sv _ _ [_,_,_,_,_,_,_,_,_,_,_,_,_,_,_,_,_,_,_,_] _:=Dm.dl [27,28,29,30]
       refine AD ?_
       refine k26 _ _ ?_
       replace Ac:=AC g27 Ac
       replace HG:=AA HG g27
       refine AOT ?_
       repeat refine AM ?_
       refine Bz (fn:=Tryz.f27) Ck (BK (p:=2) Tryz.results27 Ck rfl rfl) (Ch Tryz.func69 (by kernel_rfl) rfl _ _) (Ei _) ?_
       exact⟨E6 ((NX (s:=⟨a,own.map DD.x,joint,wr.map DD.x,body,tg⟩) hh hbl (b:=true) (by simp only[List.length_map];rw[if_neg hj];simp[hwl])).symm),HG⟩
     · refine AOP ?_
       refine AH DR 4 [(27,pk B8 3),(28,.slice wo wr.length wc),(29,.int .i64 ((wr.length:Nat))),(30,.bool false)]
        ⟨yf r6 (fun _=>by kernel_rfl),yp (i:=3) r6 (Fe (.slice wo wr.length wc) rfl) Ac rfl rfl,BJ (Tryz.underlying28) rfl rfl trivial (oy rfl rfl) (fun _=>rfl),Ce r6 (fun _=>BM (I2 (by omega))),AOW⟩ fun a30 w30 g30 EF=>?_
       refine AS (v:=.bool false) EF r6 fun a31 IJ=>?_
       have Cu:Sv _ _ [_,_,_,_,_,_,_,_,_,_,_,_,_,_,_,_,_,_,_,_] _:=IJ.dl [27,28,29,30]
       refine AD ?_
       refine k26 _ _ ?_
       replace HG:=AA HG g30
       refine AOT ?_
       repeat refine AM ?_
       refine Bz (fn:=Tryz.f27) Cu (BK (p:=2) Tryz.results27 Cu rfl rfl) (Ch Tryz.func69 (by kernel_rfl) rfl _ _) (Ei _) ?_
       exact⟨E6 ((NX (s:=⟨a,own.map DD.x,joint,wr.map DD.x,body,tg⟩) hh hbl (b:=false) (by simp only[List.length_map];rw[if_neg hj];simp[hwl])).symm),HG⟩
theorem AH5 (a joint:Int) (own wr:List DD) (ao wo bo:Option Addr) (ac wc bc:Nat) (body tg:List Nat) (htg:Dg tg) (w:World) (ho:RdD w (.slice ao own.length ac) own) (hw:RdD w (.slice wo wr.length wc) wr) (hb:SlB w 1 (.slice bo body.length bc) body.length (bv body)) :
   Calls Tryz.prog 28 #[Bv a (.slice ao own.length ac) joint (.slice wo wr.length wc) (.slice bo body.length bc) tg] w fun e w'=>e=.returned (.bool (Ed ⟨a,own.map DD.x,joint,wr.map DD.x,body,tg⟩))∧w.grownBy w' none:=by
 obtain⟨m,hm⟩:∃m:Nat,m=if joint=1 then own.length else 0:=⟨_,rfl⟩
 refine BV Tryz.func28 rfl Tryz.ntmps28 rfl fun a0 sv0=>?_
 have HG:=World.grownBy.refl w none
 replace sv0:Sv 30 [] [(0,Bv a (.slice ao own.length ac) joint (.slice wo wr.length wc) (.slice bo body.length bc) tg)] a0:=sv0
 refine AOQ fun K1 k1=>?_
 refine AOP ?_
 refine Bi sv0 r6 (Dh _ _ htg (.slice ao own.length ac) (.slice wo wr.length wc) (.slice bo body.length bc) rfl rfl rfl) fun a2 w2 B8 Gx g2 z2 Ac sv2=>?_
 replace ho:=ho.kn g2
 replace hw:=hw.kn g2
 replace hb:=hb.kn g2
 replace HG:=AA HG g2
 refine AS (v:=.bool false) sv2 r6 fun a3 sv3=>?_
 refine AD ?_
 refine k1 _ _ ?_
 refine AOQ fun K4 k4=>?_
 refine AOP ?_
 refine AS (v:=.int .i64 0) sv3 r6 fun a5 sv5=>?_
 refine AD ?_
 refine k4 _ _ ?_
 refine AOQ fun K6 k6=>?_
 suffices MG7:∀(a':Act) (w':World),Sv 30 [] [(3,.int .i64 ((m:Int))),(2,.bool false),(1,pt B8),(0,Bv a (.slice ao own.length ac) joint (.slice wo wr.length wc) (.slice bo body.length bc) tg)] a'→w.grownBy w' none→w'.heap[B8]?=some (.cells ([[.int .i64 a],[.slice ao own.length ac],[.int .i64 joint],[.slice wo wr.length wc],[.slice bo body.length bc],bv tg].flatten).toArray 31 (0,0))→(RdD w' (.slice ao own.length ac) own)→(RdD w' (.slice wo wr.length wc) wr)→(SlB w' 1 (.slice bo body.length bc) body.length (bv body))→K6 a' w' by
   by_cases hj:joint=1
   · obtain rfl:m=own.length:=by rw[hm,if_pos hj]
     refine AOQ fun K8 k8=>?_
     refine AOP ?_
     refine AH sv5 3 [(4,pk B8 2),(5,.int .i64 joint),(6,.bool true)]
      ⟨yf r6 (fun _=>by kernel_rfl),yp (i:=2) r6 (DE joint) Ac rfl rfl,Ce r6 (fun _=>BM (by simpa using hj)),AOW⟩ fun a9 w9 g9 sv9=>?_
     refine AD ?_
     refine k8 _ _ ?_
     refine Am sv9 rfl rfl ?_
     refine AOP ?_
     refine AH sv9 3 [(7,pk B8 1),(8,.slice ao own.length ac),(9,.int .i64 ((own.length:Nat)))]
      ⟨yf r6 (fun _=>by kernel_rfl),yp (i:=1) r6 (Fe (.slice ao own.length ac) rfl) (AC g9 Ac) rfl rfl,BJ (Tryz.underlying28) rfl rfl trivial (oy rfl rfl) (fun _=>rfl),AOW⟩ fun a10 w10 g10 Bt=>?_
     have AH6:=AA g9 g10
     refine AS (v:=.int .i64 ((own.length:Nat))) Bt r6 fun a11 CQ=>?_
     refine AD ?_
     replace Ac:=AC AH6 Ac
     replace ho:=ho.kn AH6
     replace hw:=hw.kn AH6
     replace hb:=hb.kn AH6
     replace HG:=AA HG AH6
     have svm:Sv 30 [] [(3,_),(2,_),(1,_),(0,_)] a11:=⟨CQ.1,CQ.2.1,CQ.2.2.1,(AG CQ).2.1,(AG CQ).2.2.1,(AG CQ).2.2.2.1,AOW⟩
     exact MG7 _ _ svm HG Ac ho hw hb
   · obtain rfl:m=0:=by rw[hm,if_neg hj]
     refine AOQ fun K12 k12=>?_
     refine AOP ?_
     refine AH sv5 3 [(4,pk B8 2),(5,.int .i64 joint),(6,.bool false)]
      ⟨yf r6 (fun _=>by kernel_rfl),yp (i:=2) r6 (DE joint) Ac rfl rfl,Ce r6 (fun _=>BM (by simpa using hj)),AOW⟩ fun a13 w13 g13 Cx=>?_
     refine AD ?_
     refine k12 _ _ ?_
     refine Au Cx rfl rfl ?_
     refine AOU ?_
     replace Ac:=AC g13 Ac
     replace ho:=ho.kn g13
     replace hw:=hw.kn g13
     replace hb:=hb.kn g13
     replace HG:=AA HG g13
     have svm:Sv 30 [] [(3,_),(2,_),(1,_),(0,_)] a13:=⟨Cx.1,Cx.2.1,Cx.2.2.2.2.2.1,Cx.2.2.2.2.2.2.1,Cx.2.2.2.2.2.2.2.1,(AG Cx).1,AOW⟩
     exact MG7 _ _ svm HG Ac ho hw hb
 clear Ac
 clear ho
 clear hw
 clear hb
 clear HG
 intro a7 w7 sv7 HG Ac ho hw hb
 refine k6 _ _ ?_
 refine AOQ fun K14 k14=>?_
 rcases(show hd (own.map DD.x) joint a=false∨(hd (own.map DD.x) joint a=true∧64<body.length)∨(hd (own.map DD.x) joint a=true∧body.length≤64∧wr.length=m)∨(hd (own.map DD.x) joint a=true∧body.length≤64∧wr.length≠m) by cases hd (own.map DD.x) joint a<;>simp<;>omega) with hh|⟨hh,hbl⟩|⟨hh,hbl,hwl⟩|⟨hh,hbl,hwl⟩
 · refine AOP ?_
   refine AH sv7 20 [(10,pk B8 1),(11,.slice ao own.length ac),(12,pk B8 2),(13,.int .i64 joint),(14,pt B8),(15,.int .i64 a),(16,.bool false),(17,.bool false),(18,undef),(19,undef),(20,undef),(21,undef),(22,.bool false),(23,.bool false),(24,undef),(25,undef),(26,undef),(27,undef),(28,undef),(29,.bool false)]
     ⟨yf r6 (fun _=>by kernel_rfl),yp (i:=1) r6 (Fe (.slice ao own.length ac) rfl) Ac rfl rfl,yf r6 (fun _=>by kernel_rfl),yp (i:=2) r6 (DE joint) Ac rfl rfl,yf r6 (fun _=>by kernel_rfl),yp (i:=0) r6 (D9 a) Ac rfl rfl,Ag [.slice ao own.length ac,.int .i64 joint,.int .i64 a] Tryz.func41 (by kernel_rfl) rq4 ⟨(oy rfl rfl),(oy rfl rfl),(oy rfl rfl),AOW⟩ (A1 fun W g=>PE (ho.kn g) hh),ym r5,AN r6,AN r6,AN r6,AN r6,BF r7,ym r5,AN r6,AN r6,AN r6,AN r6,AN r6,BF r7,AOW⟩ fun a15 w15 g15 Fp=>?_
   refine AS (v:=.bool false) Fp r6 fun a16 DG=>?_
   have EK:Sv _ _ [_,_,_] _:=DG.dl [10,11,12,13,14,15,16,17,18,19,20,21,22,23,24,25,26,27,28,29,3]
   refine AD ?_
   refine k14 _ _ ?_
   replace Ac:=AC g15 Ac
   replace ho:=ho.kn g15
   replace HG:=AA HG g15
   refine AOT ?_
   repeat refine AM ?_
   refine Ap (fn:=Tryz.f28) EK (BK (p:=2) Tryz.results28 EK rfl rfl) ?_
   exact⟨E6 ((AEf (s:=⟨a,own.map DD.x,joint,wr.map DD.x,body,tg⟩) hh).symm),HG⟩
 · refine AOP ?_
   refine AH sv7 20 [(10,pk B8 1),(11,.slice ao own.length ac),(12,pk B8 2),(13,.int .i64 joint),(14,pt B8),(15,.int .i64 a),(16,.bool true),(17,.bool true),(18,pk B8 4),(19,.slice bo body.length bc),(20,.int .i64 ((body.length:Nat))),(21,.bool false),(22,.bool false),(23,.bool false),(24,undef),(25,undef),(26,undef),(27,undef),(28,undef),(29,.bool false)]
     ⟨yf r6 (fun _=>by kernel_rfl),yp (i:=1) r6 (Fe (.slice ao own.length ac) rfl) Ac rfl rfl,yf r6 (fun _=>by kernel_rfl),yp (i:=2) r6 (DE joint) Ac rfl rfl,yf r6 (fun _=>by kernel_rfl),yp (i:=0) r6 (D9 a) Ac rfl rfl,Ag [.slice ao own.length ac,.int .i64 joint,.int .i64 a] Tryz.func41 (by kernel_rfl) rq4 ⟨(oy rfl rfl),(oy rfl rfl),(oy rfl rfl),AOW⟩ (A1 fun W g=>PE (ho.kn g) hh),ym r5,BI rq9 (fun _=>by kernel_rfl),A8 rq9 (fun _ g=>Ad (D5 (.slice bo body.length bc) rfl) (BB (L:=[[.int .i64 a],[.slice ao own.length ac],[.int .i64 joint],[.slice wo wr.length wc],[.slice bo body.length bc],bv tg]) (i:=4) (AF g Ac (by simp)) rfl rfl)),BJ (Tryz.underlying29) rfl rfl (gy rfl rfl rfl) (oy rfl rfl) (fun _=>rfl),Ai rq9 (fun _=>Jv (by simp;omega)),Ah rq9,ym r5,AN r6,AN r6,AN r6,AN r6,AN r6,BF r7,AOW⟩ fun a18 w18 g18 CY=>?_
   refine AS (v:=.bool false) CY r6 fun a19 Dq=>?_
   have Du:Sv _ _ [_,_,_] _:=Dq.dl [10,11,12,13,14,15,16,17,18,19,20,21,22,23,24,25,26,27,28,29,3]
   refine AD ?_
   refine k14 _ _ ?_
   replace Ac:=AC g18 Ac
   replace ho:=ho.kn g18
   replace HG:=AA HG g18
   refine AOT ?_
   repeat refine AM ?_
   refine Ap (fn:=Tryz.f28) Du (BK (p:=2) Tryz.results28 Du rfl rfl) ?_
   exact⟨E6 ((Wa (s:=⟨a,own.map DD.x,joint,wr.map DD.x,body,tg⟩) hbl).symm),HG⟩
 · refine AOP ?_
   refine AH sv7 20 [(10,pk B8 1),(11,.slice ao own.length ac),(12,pk B8 2),(13,.int .i64 joint),(14,pt B8),(15,.int .i64 a),(16,.bool true),(17,.bool true),(18,pk B8 4),(19,.slice bo body.length bc),(20,.int .i64 ((body.length:Nat))),(21,.bool true),(22,.bool true),(23,.bool true),(24,pk B8 3),(25,.slice wo wr.length wc),(26,.int .i64 ((wr.length:Nat))),(27,.int .i64 ((m:Int))),(28,.bool true),(29,.bool true)]
     ⟨yf r6 (fun _=>by kernel_rfl),yp (i:=1) r6 (Fe (.slice ao own.length ac) rfl) Ac rfl rfl,yf r6 (fun _=>by kernel_rfl),yp (i:=2) r6 (DE joint) Ac rfl rfl,yf r6 (fun _=>by kernel_rfl),yp (i:=0) r6 (D9 a) Ac rfl rfl,Ag [.slice ao own.length ac,.int .i64 joint,.int .i64 a] Tryz.func41 (by kernel_rfl) rq4 ⟨(oy rfl rfl),(oy rfl rfl),(oy rfl rfl),AOW⟩ (A1 fun W g=>PE (ho.kn g) hh),ym r5,BI rq9 (fun _=>by kernel_rfl),A8 rq9 (fun _ g=>Ad (D5 (.slice bo body.length bc) rfl) (BB (L:=[[.int .i64 a],[.slice ao own.length ac],[.int .i64 joint],[.slice wo wr.length wc],[.slice bo body.length bc],bv tg]) (i:=4) (AF g Ac (by simp)) rfl rfl)),BJ (Tryz.underlying29) rfl rfl (gy rfl rfl rfl) (oy rfl rfl) (fun _=>rfl),Ai rq9 (fun _=>Jv (by simp;omega)),Ah rq9,ym r5,BI rq9 (fun _=>by kernel_rfl),A8 rq9 (fun _ g=>Ad (Fe (.slice wo wr.length wc) rfl) (BB (L:=[[.int .i64 a],[.slice ao own.length ac],[.int .i64 joint],[.slice wo wr.length wc],[.slice bo body.length bc],bv tg]) (i:=3) (AF g Ac (by simp)) rfl rfl)),BJ (Tryz.underlying28) rfl rfl (gy rfl rfl rfl) (oy rfl rfl) (fun _=>rfl),Ae rq8,Mp rfl rfl (gy rfl rfl rfl) (oy rfl rfl) (oy rfl rfl) (fun _=>BM (Ks (by omega))) (fun _=>rfl),Ah rq9,AOW⟩ fun a21 w21 g21 Dl=>?_
   refine AS (v:=.bool true) Dl r6 fun a22 B7=>?_
   have Cc:Sv _ _ [_,_,_] _:=B7.dl [10,11,12,13,14,15,16,17,18,19,20,21,22,23,24,25,26,27,28,29,3]
   refine AD ?_
   refine k14 _ _ ?_
   replace Ac:=AC g21 Ac
   replace ho:=ho.kn g21
   replace HG:=AA HG g21
   refine AOT ?_
   repeat refine AM ?_
   refine Ap (fn:=Tryz.f28) Cc (BK (p:=2) Tryz.results28 Cc rfl rfl) ?_
   exact⟨E6 ((NX (s:=⟨a,own.map DD.x,joint,wr.map DD.x,body,tg⟩) hh hbl (b:=true) (by simp only[List.length_map];rw[hm] at hwl;split<;>simp_all)).symm),HG⟩
 · refine AOP ?_
   refine AH sv7 20 [(10,pk B8 1),(11,.slice ao own.length ac),(12,pk B8 2),(13,.int .i64 joint),(14,pt B8),(15,.int .i64 a),(16,.bool true),(17,.bool true),(18,pk B8 4),(19,.slice bo body.length bc),(20,.int .i64 ((body.length:Nat))),(21,.bool true),(22,.bool true),(23,.bool true),(24,pk B8 3),(25,.slice wo wr.length wc),(26,.int .i64 ((wr.length:Nat))),(27,.int .i64 ((m:Int))),(28,.bool false),(29,.bool false)]
     ⟨yf r6 (fun _=>by kernel_rfl),yp (i:=1) r6 (Fe (.slice ao own.length ac) rfl) Ac rfl rfl,yf r6 (fun _=>by kernel_rfl),yp (i:=2) r6 (DE joint) Ac rfl rfl,yf r6 (fun _=>by kernel_rfl),yp (i:=0) r6 (D9 a) Ac rfl rfl,Ag [.slice ao own.length ac,.int .i64 joint,.int .i64 a] Tryz.func41 (by kernel_rfl) rq4 ⟨(oy rfl rfl),(oy rfl rfl),(oy rfl rfl),AOW⟩ (A1 fun W g=>PE (ho.kn g) hh),ym r5,BI rq9 (fun _=>by kernel_rfl),A8 rq9 (fun _ g=>Ad (D5 (.slice bo body.length bc) rfl) (BB (L:=[[.int .i64 a],[.slice ao own.length ac],[.int .i64 joint],[.slice wo wr.length wc],[.slice bo body.length bc],bv tg]) (i:=4) (AF g Ac (by simp)) rfl rfl)),BJ (Tryz.underlying29) rfl rfl (gy rfl rfl rfl) (oy rfl rfl) (fun _=>rfl),Ai rq9 (fun _=>Jv (by simp;omega)),Ah rq9,ym r5,BI rq9 (fun _=>by kernel_rfl),A8 rq9 (fun _ g=>Ad (Fe (.slice wo wr.length wc) rfl) (BB (L:=[[.int .i64 a],[.slice ao own.length ac],[.int .i64 joint],[.slice wo wr.length wc],[.slice bo body.length bc],bv tg]) (i:=3) (AF g Ac (by simp)) rfl rfl)),BJ (Tryz.underlying28) rfl rfl (gy rfl rfl rfl) (oy rfl rfl) (fun _=>rfl),Ae rq8,Mp rfl rfl (gy rfl rfl rfl) (oy rfl rfl) (oy rfl rfl) (fun _=>BM (I2 (by omega))) (fun _=>rfl),Ah rq9,AOW⟩ fun a24 w24 g24 EN=>?_
   refine AS (v:=.bool false) EN r6 fun a25 DR=>?_
   have DH:Sv _ _ [_,_,_] _:=DR.dl [10,11,12,13,14,15,16,17,18,19,20,21,22,23,24,25,26,27,28,29,3]
   refine AD ?_
   refine k14 _ _ ?_
   replace HG:=AA HG g24
   refine AOT ?_
   repeat refine AM ?_
   refine Ap (fn:=Tryz.f28) DH (BK (p:=2) Tryz.results28 DH rfl rfl) ?_
   exact⟨E6 ((NX (s:=⟨a,own.map DD.x,joint,wr.map DD.x,body,tg⟩) hh hbl (b:=false) (by simp only[List.length_map];rw[hm] at hwl;split<;>simp_all)).symm),HG⟩
end Go.Proofs.YtbfjfnbcmojpiaaGreat
