import Derived.Test.YtbfjfnbcmojpiaaGreatOpY5
set_option linter.unusedSimpArgs false
set_option linter.unusedVariables false
set_option maxRecDepth 100000
set_option maxHeartbeats 4000000
namespace Go.Proofs.YtbfjfnbcmojpiaaGreat
open Go.RowKit Go.Shelf
def BR (a:Int) (os:Value) (j:Int) (ws bs:Value) (tg:List Nat):Value:=.agg ([[.int .i64 a],[os],[.int .i64 j],[ws],[bs],bv tg].flatten).toArray
theorem Gc {x y:List Nat} (hx:Dg x) (hy:Dg y) {a j b k:Int} {os ws bs os' ws' bs':Value}:([[.int .i64 a],[os],[.int .i64 j],[ws],[bs],bv x].flatten).length=([[.int .i64 b],[os'],[.int .i64 k],[ws'],[bs'],bv y].flatten).length:=by simp[AO,hx.1,hy.1]
theorem Df (a j:Int) {tg:List Nat} (ht:Dg tg) (os ws bs:Value) (h1:os.oneCell'=true) (h2:ws.oneCell'=true) (h3:bs.oneCell'=true):TY Tryz.prog 31 ([[.int .i64 a],[os],[.int .i64 j],[ws],[bs],bv tg].flatten) (BR a os j ws bs tg):=by
 refine TY.agg Tryz.underlying31 rfl ?_ ?_
 · rw[show([[.int .i64 a],[os],[.int .i64 j],[ws],[bs],bv tg].flatten).length=37 by simp[AO,ht.1]]
   kernel_rfl
 · intro c hc
   simp only[List.flatten_cons,List.flatten_nil,List.append_nil,List.mem_append,List.mem_singleton] at hc
   rcases hc with rfl|rfl|rfl|rfl|rfl|hc
   · rfl
   · exact h1
   · rfl
   · exact h2
   · exact h3
   · exact Hh _ _ hc
theorem AF1 (w:World):(Instr.build 31 #[]).run Tryz.prog w=.ok (BR 0 (.slice none 0 0) 0 (.slice none 0 0) (.slice none 0 0) AS) w:=by kernel_rfl
theorem AJe (a:Int) (ao:Option Addr) (n c:Nat) (j:Int) (w:World):(Instr.build 31 #[(0,.int .i64 a),(1,.slice ao n c),(2,.int .i64 j)]).run Tryz.prog w=.ok (BR a (.slice ao n c) j (.slice none 0 0) (.slice none 0 0) AS) w:=by kernel_rfl
theorem DE (x:Int):TY Tryz.prog 3 [.int .i64 x] (.int .i64 x):=TY.one' Tryz.underlying3 rfl (by kernel_rfl) rfl
def fl (ds:List DD) (i:Nat):List Nat:=(ds.take i).flatMap DD.x
theorem Tm {ds:List DD} {i:Nat} {x:DD} (hi:i<ds.length) (hx:ds[i]=x):fl ds (i+1)=fl ds i++x.x:=by
 unfold fl
 rw[List.take_add_one,List.getElem?_eq_getElem hi,hx,List.flatMap_append]
 simp
theorem Jr (d:BitVec 64) (l:List Nat):Dg (Ng d l):=⟨GQ _ _,M9 _ _⟩
theorem ADm {ds:List DD}:∀{i:Nat},i≤ds.length→(fl ds i).length=32*i
 | 0,_=>rfl
 | i+1,h=>by rw[Tm (i:=i) (by omega) rfl,List.length_append,ADm (by omega),(ds[i]).h.1];omega
theorem ADn (ds:List DD) (i:Nat):By (fl ds i):=fun b hb=>by
 obtain⟨d,_,hd⟩:=List.mem_flatMap.1 hb
 exact d.h.2 b hd
theorem ADo {ds:List DD} {i:Nat} (h:ds.length≤i):fl ds i=(ds.map DD.x).flatten:=by
 unfold fl
 rw[List.take_of_length_le h,List.flatMap_def]
theorem ADp {w:World} {b:Nat} {k:List Nat} (hk:Dg k) (h:w.rangeAt b 0 (bv k)):Sl w 1 (.slice (some ⟨b,0,none⟩) 32 32) 32 (bv k):=by
 have:=ADk hk h
 rwa [hk.1] at this
theorem ADq {w:World} {v:Value} {ds:List DD} {i:Nat} (hi:i≤ds.length) (h:Sl w 1 v (32*i) (bv (fl ds i))):Sl w 1 v (fl ds i).length (bv (fl ds i)):=by rw[ADm hi];exact h
theorem ABu {w:World} {d:List Nat} (hd:Dg d):Calls Tryz.prog 34 #[AQ d] w fun e w'=>∃v,e=.returned v∧(Own w' 5 1 v 32 (bv d)∧Fresh w w' v):=Ls d hd.1 w
theorem AF2 (ds:List DD):(ds.flatMap J4).all Value.oneCell'=true:=by
 rw[List.all_eq_true]
 intro v hv
 obtain⟨d,_,hd⟩:=List.mem_flatMap.1 hv
 exact Hh _ _ hd
theorem AHp {a b:List Nat} (h:a=b):Ending.returned (AQ a)=Ending.returned (AQ b):=by rw[h]
theorem D5 (w:World):CallsD Tryz.prog 69 #[] .returning w fun e u' w'=>e=.returned (.tuple #[])∧u'=.returning∧w'=w:=by
 refine callsD_of_wpS Tryz.func69 rfl fun c₀ cs hu=>?_
 apply wpS_region
 simp[wpOpsS,go_sem,recoverD,hu,Tryz.ntmps69]
 cases c₀
 simp_all [bodyPostS,results,Tryz.results69]
theorem ABv (joint:Int) (ds:List DD) (ao:Option Addr) (cap:Nat) (w:World) (hr:RdD w (.slice ao ds.length cap) ds) (hl:ds.length≤1000) :
   Calls Tryz.prog 55 #[.int .i64 joint,.slice ao ds.length cap] w fun e w'=>e=.returned (AQ (PT (decide (joint=1)) (ds.map DD.x)))∧w.grownBy w' none:=by
 obtain⟨dm,hdm⟩:∃dm:Nat,dm=if decide (joint=1)=true then 282 else 281:=⟨_,rfl⟩
 have hdl:dm<1000:=by rw[hdm];split<;>decide
 refine BV Tryz.func55 rfl Tryz.ntmps55 rfl fun a0 sv0=>?_
 have HG:=World.grownBy.refl w none
 replace sv0:Sv 24 [] [(0,.int .i64 joint),(1,.slice ao ds.length cap)] a0:=sv0
 refine AKQ fun K1 k1=>?_
 refine AKP ?_
 refine BB (T:=23) (Z:=(bv AS)) sv0 rfl rfl rfl (fun a w=>by kernel_rfl) fun a2 w2 JI GY g2 z2 BG sv2=>?_
 have Ij:=Bq HG GY
 replace hr:=hr.kn g2
 replace HG:=AA HG g2
 refine AE ?_
 refine k1 _ _ ?_
 refine AKQ fun K3 k3=>?_
 refine AKP ?_
 refine AR (v:=.int .u64 281) sv2 r6 fun a4 sv4=>?_
 refine AE ?_
 refine k3 _ _ ?_
 refine AKQ fun K5 k5=>?_
 suffices MG6:∀(a':Act) (w':World),Sv 24 [] [(5,.int .u64 ((dm:Int))),(4,pt JI),(0,.int .i64 joint),(1,.slice ao ds.length cap)] a'→w.grownBy w' none→w'.heap[JI]?=some (.cells ((bv AS)).toArray 23 (0,0))→(RdD w' (.slice ao ds.length cap) ds)→K5 a' w' by
   by_cases hj:joint=1
   · obtain rfl:dm=282:=by rw[hdm,decide_eq_true hj];rfl
     refine AKQ fun K7 k7=>?_
     refine AKP ?_
     refine AJ sv4 2 [(9,.int .i64 joint),(10,.bool true)]
      ⟨ym r5,Cp r6 (fun _=>BU (by simpa using hj)),AKW⟩ fun a8 w8 g8 sv8=>?_
     refine AE ?_
     refine k7 _ _ ?_
     refine Ar sv8 rfl rfl ?_
     refine AKP ?_
     refine AR (v:=.int .u64 282) sv8 r6 fun a9 sv9=>?_
     refine AE ?_
     replace BG:=AC g8 BG
     replace hr:=hr.kn g8
     replace HG:=AA HG g8
     have svm:Sv 24 [] [(5,_),(4,_),(0,_),(1,_)] a9:=⟨sv9.1,sv9.2.1,sv9.2.2.1,sv9.2.2.2.2.2.1,sv9.2.2.2.2.2.2.1,sv9.2.2.2.2.2.2.2.1,AKW⟩
     exact MG6 _ _ svm HG BG hr
   · obtain rfl:dm=281:=by rw[hdm,decide_eq_false hj];rfl
     refine AKQ fun K10 k10=>?_
     refine AKP ?_
     refine AJ sv4 2 [(9,.int .i64 joint),(10,.bool false)]
      ⟨ym r5,Cp r6 (fun _=>BU (by simpa using hj)),AKW⟩ fun a11 w11 g11 Bv=>?_
     refine AE ?_
     refine k10 _ _ ?_
     refine A2 Bv rfl rfl ?_
     refine AKU ?_
     replace BG:=AC g11 BG
     replace hr:=hr.kn g11
     replace HG:=AA HG g11
     have svm:Sv 24 [] [(5,_),(4,_),(0,_),(1,_)] a11:=⟨Bv.1,Bv.2.1,Bv.2.2.2.2.1,Bv.2.2.2.2.2.1,Bv.2.2.2.2.2.2.1,Bv.2.2.2.2.2.2.2.1,AKW⟩
     exact MG6 _ _ svm HG BG hr
 clear BG
 clear hr
 clear HG
 intro a6 w6 sv6 HG BG hr
 refine k5 _ _ ?_
 refine AKQ fun K12 k12=>?_
 refine AKP ?_
 refine AR (v:=.slice none 0 0) sv6 r6 fun a13 Cg=>?_
 refine AE ?_
 refine k12 _ _ ?_
 refine AKQ fun K14 k14=>?_
 refine AKQ fun K15 k15=>?_
 refine AKP ?_
 refine AJ Cg 3 [(11,.slice ao ds.length cap),(12,.int .i64 ((ds.length:Nat))),(13,.int .i64 0)]
   ⟨ym r5,Au (Tryz.underlying28) rfl rfl trivial (oy rfl rfl) (fun _=>rfl),En (.inl rfl) rfl trivial (fun _=>rfl),AKW⟩ fun a16 w16 g16 Cr=>?_
 refine AE ?_
 refine k15 _ _ ?_
 refine BI fun Q17 x17 y17 rt17 o17=>?_
 replace BG:=AC g16 BG
 replace hr:=hr.kn g16
 replace HG:=AA HG g16
 have ob:=Own.nil w16 5 1
 have DS:=Hm JI
 have ap_hr_ob:=Gk (Ba (.slice ao ds.length cap))
 have lo_ob:=Yt w
 refine wp_loop (fun a w'=>∃(i:Nat) (bo:Option Addr) (bc:Nat),(i≤ds.length)∧Sv 24 [] [(13,.int .i64 ((i:Int))),(6,.slice bo (32*i) bc),(11,.slice ao ds.length cap),(12,.int .i64 ((ds.length:Nat))),(5,.int .u64 ((dm:Int))),(4,pt JI),(0,.int .i64 joint),(1,.slice ao ds.length cap)] a∧w.grownBy w' none∧w'.heap[JI]?=some (.cells ((bv AS)).toArray 23 (0,0))∧RdD w' (.slice ao ds.length cap) ds∧Own w' 5 1 (.slice bo (32*i) bc) ((32*i)) (bv ((fl ds i)))∧(∀k,Ba (.slice bo (32*i) bc) k→k≠JI)∧(∀k,Ba (.slice ao ds.length cap) k→¬Ba (.slice bo (32*i) bc) k)∧(∀k,Ba (.slice bo (32*i) bc) k→w.heap.size≤k)) (fun a _=>(ds.length-intOf (a.tmps.getD 13 undef)).toNat) ⟨0,none,0,Nat.zero_le _,⟨Cr.1,Cr.2.1,Cr.2.2.2.2.1,Cr.2.2.2.2.2.1,Cr.2.2.1,Cr.2.2.2.1,Cr.2.2.2.2.2.2.1,Cr.2.2.2.2.2.2.2.1,(AL Cr).1,(AL Cr).2.1,AKW⟩,HG,BG,hr,ob,DS,ap_hr_ob,lo_ob⟩ fun a18 w18 hI18=>?_
 clear BG
 clear hr
 clear ob
 clear HG
 obtain⟨i,bo,bc,hin,CQ,HG,BG,hr,ob,DS,ap_hr_ob,lo_ob⟩:=hI18
 refine AKQ fun K19 k19=>?_
 by_cases hi:i<ds.length
 · obtain⟨x,hx_x⟩:∃zx,ds[i]'hi=zx:=⟨_,rfl⟩
   have hfs:=Tm hi hx_x
   refine AKP ?_
   refine AJ CQ 1 [(14,.bool true)]
     ⟨FG r7 (fun _=>BJ (by simp;omega)),AKW⟩ fun a20 w20 g20 DH=>?_
   refine AE ?_
   refine k19 _ _ ?_
   refine AKQ fun K21 k21=>?_
   refine Ar DH rfl rfl ?_
   refine AKU ?_
   refine k21 _ _ ?_
   refine AKQ fun K22 k22=>?_
   refine BI fun Q23 x23 y23 rt23 o23=>?_
   refine AKQ fun K24 k24=>?_
   refine AKP ?_
   replace hr:=hr.kn g20
   refine AJ DH 2 [(15,pk ((bO ao)) (oO ao+i*32)),(16,AQ x.x)]
     ⟨BH rq8 (fun w=>CU Tryz.underlying28 (by kernel_rfl) (hr.1) (by omega) (rfl) w),Bg r6 (fun _ g=>AY (Bb x.x x.h.1) (by have:=Cb (hr.kn g).1 DV hi (by decide);rw[hx_x] at this;exact this)),AKW⟩ fun a25 w25 g25 Bz=>?_
   replace BG:=AC g25 (AC g20 BG)
   replace hr:=hr.kn g25
   replace ob:=(ob.kn g20).kn g25
   replace HG:=AA (AA HG g20) g25
   refine BB (T:=23) (Z:=(bv AS)) Bz rfl rfl rfl (fun a w=>by kernel_rfl) fun a26 w26 AGk Mp g26 z26 ZZ Cy=>?_
   have Ql:=As BG Mp
   have ADr:=Bq HG Mp
   have WW:=Ay (hr.lt) Mp
   have WX:=Ay (Own.ltS ob) Mp
   refine Av Cy r7 (Bb x.x x.h.1) ZZ (Dk x.h) fun w27 g27 h27=>?_
   refine AE ?_
   refine k24 _ _ ?_
   refine AKP ?_
   refine AJ Cy 2 [(17,.slice bo (32*i) bc),(18,.slice ((some ⟨AGk,0,none⟩)) 32 32)]
     ⟨ym r5,Gl (l:=none) (u:=none) rfl rfl trivial (oy rfl rfl) trivial trivial (KP AGk 0) (fun _=>rfl),AKW⟩ fun a28 w28 g28 GI=>?_
   replace BG:=AC g28 (AZ g27 (AC g26 BG) (Ne.symm Ql))
   replace ZZ:=AC g28 h27
   replace hr:=((hr.kn g26).offR g27 (AP WW)).kn g28
   replace ob:=((ob.kn g26).offR g27 (AP WX)).kn g28
   replace HG:=AA (AD (AA HG g26) g27 ADr) g28
   refine IC DR GI rfl rfl rfl rfl rfl rfl rfl rfl ob (ADp x.h (Aj ZZ)) (Dx _) (by omega) fun a29 ao29 cap29 w29 owx29 CG CY=>?_
   have Qm:=Ha CG.2 DS BG
   have WY:=Fl CG.2 ap_hr_ob (hr.lt)
   have Pe:=TB CG.2 lo_ob HG
   replace BG:=AF CG.1 BG (fun e=>DS _ e.symm rfl)
   replace hr:=hr.offR CG.1 (fun k hk e=>ap_hr_ob k hk (e))
   replace HG:=Ca HG CG.1 fun k e=>lo_ob k (e)
   rw[←C9,←hfs] at owx29
   refine AR (v:=.slice ao29 (32*i+32) cap29) CY r6 fun a30 Dl=>?_
   refine AE ?_
   refine y23 _ _ ?_
   refine k22 _ _ ?_
   refine AKP ?_
   refine AJ Dl 1 [(20,.int .i64 (((i+1:Nat):Int)))]
     ⟨Cp r6 (fun _=>DL (by rw[Bc (by omega) (by omega)];omega)),AKW⟩ fun a31 w31 g31 Fp=>?_
   refine AJ (Fp.dl [13]) 1 [(13,.int .i64 (((i+1:Nat):Int)))]
     ⟨ym r5,AKW⟩ fun a32 w32 g32 Dm=>?_
   have AF3:=AA g31 g32
   refine AE ?_
   replace BG:=AC AF3 BG
   replace hr:=hr.kn AF3
   replace owx29:=owx29.kn AF3
   replace HG:=AA HG AF3
   exact⟨⟨i+1,ao29,cap29,by omega,⟨Dm.1,Dm.2.1,Dm.2.2.1,Dm.2.2.2.2.1,(AL Dm).2.2.2.2.1,(AL Dm).2.2.2.2.2.1,(AL Dm).2.2.2.2.2.2.1,(AL Dm).2.2.2.2.2.2.2.1,(AL (AL Dm)).1,(AL (AL Dm)).2.1,AKW⟩,HG,BG,hr,owx29,Qm,WY,Pe⟩,by rw[show _=_ from Dm.2.2.1,show _=_ from CQ.2.2.1];simp[intOf];omega⟩
 · have hall:=ADo (ds:=ds) (i:=i) (by omega)
   refine AKP ?_
   refine AJ CQ 1 [(14,.bool false)]
     ⟨FG r7 (fun _=>BJ (by simp;omega)),AKW⟩ fun a33 w33 g33 Eu=>?_
   refine AE ?_
   refine k19 _ _ ?_
   refine AKQ fun K34 k34=>?_
   refine A2 Eu rfl rfl ?_
   refine wp_exit ?_
   repeat refine CT ?_
   refine x17 _ _ ?_
   refine k14 _ _ ?_
   refine AKQ fun K35 k35=>?_
   refine AKP ?_
   refine AJ Eu 2 [(21,.int .u64 ((dm:Int))),(22,.slice bo (32*i) bc)]
     ⟨ym r5,ym r5,AKW⟩ fun a36 w36 g36 Ep=>?_
   have Mc:=AA g33 g36
   replace ob:=ob.kn Mc
   refine BD Ep Tryz.func101 (by kernel_rfl) r6 (I1 (AGj (dom:=dm) hdl rfl (ADn ds i) (by rw[ADm (by omega)];omega) (ADq (by omega) (Sl.of_own ob)))) fun a37 v37 w37 hR37 IE=>?_
   obtain⟨rfl,g37⟩:=hR37
   replace BG:=AC g37 (AC Mc BG)
   refine Av IE r7 (Bb ((Ng (BitVec.ofNat 64 dm) (fl ds i))) (Jr _ _).1) BG (Dk (Jr _ _)) fun w38 g38 h38=>?_
   replace ob:=(ob.kn g37).offR g38 (AP DS)
   replace HG:=AD (AA (AA HG Mc) g37) g38 Ij
   replace BG:=h38
   refine AE ?_
   refine k35 _ _ ?_
   refine AKT ?_
   repeat refine AK ?_
   refine Aw (fn:=Tryz.f55) IE (Dz (p:=4) Tryz.results55 IE rfl rfl (Bb ((Ng (BitVec.ofNat 64 dm) (fl ds i))) (Jr _ _).1) BG) ?_
   exact⟨AHp (by rw[hall,hdm];rfl),HG⟩
theorem Tn (joint:Int) (ds:List DD) (ao:Option Addr) (cap:Nat) (w:World) (hr:RdD w (.slice ao ds.length cap) ds) (hl:ds.length≤1000) (hj:joint=0∨joint=1) :
   Calls Tryz.prog 45 #[.int .i64 joint,.slice ao ds.length cap] w fun e w'=>e=.returned (AQ (PT (decide (joint=1)) (ds.map DD.x)))∧w.grownBy w' none:=by
 refine BV Tryz.func45 rfl Tryz.ntmps45 rfl fun a0 sv0=>?_
 have HG:=World.grownBy.refl w none
 replace sv0:Sv 27 [] [(0,.int .i64 joint),(1,.slice ao ds.length cap)] a0:=sv0
 refine AKQ fun K1 k1=>?_
 refine AKP ?_
 refine BB (T:=23) (Z:=(bv AS)) sv0 rfl rfl rfl (fun a w=>by kernel_rfl) fun a2 w2 JI GY g2 z2 BG sv2=>?_
 have Ij:=Bq HG GY
 replace hr:=hr.kn g2
 replace HG:=AA HG g2
 refine AE ?_
 refine k1 _ _ ?_
 refine AKQ fun K3 k3=>?_
 refine AKP ?_
 refine AAf (e:=5) sv2 rfl rfl rfl rfl (fun W=>by kernel_rfl) fun a4 w4 MG Ga g4 z4 Ii sv4=>?_
 have To:=As BG Ga
 have Mn:=Bq HG Ga
 have Za:=Ay (hr.lt) Ga
 replace BG:=AC g4 BG
 replace hr:=hr.kn g4
 replace HG:=AA HG g4
 have ob:=WM (sz:=1) Ii
 have DS:∀k,Ba (.slice ((some ⟨MG,0,none⟩)) 0 0) k→k≠JI:=fun k hk e=>To ((Option.some.inj hk).trans e)
 have ap_hr_ob:∀k,Ba (.slice ao ds.length cap) k→¬Ba (.slice ((some ⟨MG,0,none⟩)) 0 0) k:=fun k hk e=>Za k hk (Option.some.inj e).symm
 have lo_ob:∀k,Ba (.slice ((some ⟨MG,0,none⟩)) 0 0) k→w.heap.size≤k:=fun k hk=>(Option.some.inj hk)▸Mn
 clear Ii
 refine AR (v:=.slice ((some ⟨MG,0,none⟩)) 0 0) sv4 r6 fun a5 sv5=>?_
 refine AE ?_
 refine k3 _ _ ?_
 refine AKQ fun K6 k6=>?_
 refine AKQ fun K7 k7=>?_
 refine AKP ?_
 refine AR (v:=.int .i64 0) sv5 r6 fun a8 sv8=>?_
 refine AE ?_
 refine k7 _ _ ?_
 refine BI fun Q9 x9 y9 rt9 o9=>?_
 refine wp_loop (fun a w'=>∃(i:Nat) (bo:Option Addr) (bc:Nat),(i≤ds.length)∧Sv 27 [] [(6,.int .i64 ((i:Int))),(5,.slice bo (32*i) bc),(7,.slice ((some ⟨MG,0,none⟩)) 0 0),(4,pt JI),(0,.int .i64 joint),(1,.slice ao ds.length cap)] a∧w.grownBy w' none∧w'.heap[JI]?=some (.cells ((bv AS)).toArray 23 (0,0))∧RdD w' (.slice ao ds.length cap) ds∧Own w' 5 1 (.slice bo (32*i) bc) ((32*i)) (bv ((fl ds i)))∧(∀k,Ba (.slice bo (32*i) bc) k→k≠JI)∧(∀k,Ba (.slice ao ds.length cap) k→¬Ba (.slice bo (32*i) bc) k)∧(∀k,Ba (.slice bo (32*i) bc) k→w.heap.size≤k)) (fun a _=>(ds.length-intOf (a.tmps.getD 6 undef)).toNat) ⟨0,(some ⟨MG,0,none⟩),0,Nat.zero_le _,⟨sv8.1,sv8.2.1,sv8.2.2.1,sv8.2.2.2.1,sv8.2.2.2.2.1,sv8.2.2.2.2.2.1,sv8.2.2.2.2.2.2.1,sv8.2.2.2.2.2.2.2.1,AKW⟩,HG,BG,hr,ob,DS,ap_hr_ob,lo_ob⟩ fun a10 w10 hI10=>?_
 clear BG
 clear hr
 clear ob
 clear HG
 obtain⟨i,bo,bc,hin,BF,HG,BG,hr,ob,DS,ap_hr_ob,lo_ob⟩:=hI10
 refine AKQ fun K11 k11=>?_
 refine AKQ fun K12 k12=>?_
 by_cases hi:i<ds.length
 · obtain⟨x,hx_x⟩:∃zx,ds[i]'hi=zx:=⟨_,rfl⟩
   have hfs:=Tm hi hx_x
   refine AKP ?_
   refine AJ BF 4 [(8,.int .i64 ((i:Int))),(9,.slice ao ds.length cap),(10,.int .i64 ((ds.length:Nat))),(11,.bool true)]
     ⟨ym r5,ym r5,Au (Tryz.underlying28) rfl rfl trivial (oy rfl rfl) (fun _=>rfl),FG r7 (fun _=>BJ (by simp;omega)),AKW⟩ fun a13 w13 g13 Cg=>?_
   refine AE ?_
   refine k12 _ _ ?_
   refine Ar Cg rfl rfl ?_
   refine AKU ?_
   refine k11 _ _ ?_
   refine AKQ fun K14 k14=>?_
   refine BI fun Q15 x15 y15 rt15 o15=>?_
   refine AKP ?_
   replace hr:=hr.kn g13
   refine AJ Cg 5 [(14,.slice bo (32*i) bc),(15,.slice ao ds.length cap),(16,.int .i64 ((i:Int))),(17,pk ((bO ao)) (oO ao+i*32)),(18,AQ x.x)]
     ⟨ym r5,ym r5,ym r5,BH rq8 (fun w=>CU Tryz.underlying28 (by kernel_rfl) (hr.1) (by omega) (rfl) w),Bg r6 (fun _ g=>AY (Bb x.x x.h.1) (by have:=Cb (hr.kn g).1 DV hi (by decide);rw[hx_x] at this;exact this)),AKW⟩ fun a16 w16 g16 Cr=>?_
   refine BD Cr Tryz.func34 (by kernel_rfl) r6 (ABu x.h) fun a17 v17 w17 hR17 De=>?_
   obtain⟨ao17,cap17,rfl,_⟩:=(Sl.of_own hR17.1).shape
   obtain⟨by_,fr17⟩:=hR17
   replace fr17:=C7 fr17
   have g17:=fr17.1
   replace fr17:=fr17.2
   replace BG:=AC g17 (AC g16 (AC g13 BG))
   replace hr:=(hr.kn g16).kn g17
   replace ob:=((ob.kn g13).kn g16).kn g17
   replace HG:=AA (AA (AA HG g13) g16) g17
   refine IC DR De rfl rfl rfl rfl rfl rfl rfl rfl ob (Sl.of_own by_) (Dx _) (by omega) fun a18 ao18 cap18 w18 owx18 CG CQ=>?_
   have Qn:=Ha CG.2 DS BG
   have WZ:=Fl CG.2 ap_hr_ob (hr.lt)
   have ADs:=TB CG.2 lo_ob HG
   replace BG:=AF CG.1 BG (fun e=>DS _ e.symm rfl)
   replace hr:=hr.offR CG.1 (fun k hk e=>ap_hr_ob k hk (e))
   replace HG:=Ca HG CG.1 fun k e=>lo_ob k (e)
   rw[←C9,←hfs] at owx18
   refine AR (v:=.slice ao18 (32*i+32) cap18) CQ r6 fun a19 Cs=>?_
   have DH:Sv _ _ [_,_,_,_,_,_,_,_,_,_] _:=Cs.dl [20,19,14,15,16,17,18]
   refine AE ?_
   refine y15 _ _ ?_
   refine k14 _ _ ?_
   refine AKP ?_
   refine AJ DH 2 [(12,.int .i64 ((i:Int))),(13,.int .i64 (((i+1:Nat):Int)))]
     ⟨ym r5,Cp r6 (fun _=>DL (by rw[Bc (by omega) (by omega)];omega)),AKW⟩ fun a21 w21 g21 CK=>?_
   refine AR (v:=.int .i64 (((i+1:Nat):Int))) CK r6 fun a22 Bu=>?_
   refine AE ?_
   replace BG:=AC g21 BG
   replace hr:=hr.kn g21
   replace owx18:=owx18.kn g21
   replace HG:=AA HG g21
   exact⟨⟨i+1,ao18,cap18,by omega,⟨Bu.1,Bu.2.1,Bu.2.2.1,Bu.2.2.2.2.2.1,(AL Bu).2.2.1,(AL Bu).2.2.2.1,(AL Bu).2.2.2.2.1,(AL Bu).2.2.2.2.2.1,AKW⟩,HG,BG,hr,owx18,Qn,WZ,ADs⟩,by rw[show _=_ from Bu.2.2.1,show _=_ from BF.2.2.1];simp[intOf];omega⟩
 · have hall:=ADo (ds:=ds) (i:=i) (by omega)
   refine AKP ?_
   refine AJ BF 4 [(8,.int .i64 ((i:Int))),(9,.slice ao ds.length cap),(10,.int .i64 ((ds.length:Nat))),(11,.bool false)]
     ⟨ym r5,ym r5,Au (Tryz.underlying28) rfl rfl trivial (oy rfl rfl) (fun _=>rfl),FG r7 (fun _=>BJ (by simp;omega)),AKW⟩ fun a23 w23 g23 Cl=>?_
   refine AE ?_
   refine k12 _ _ ?_
   refine A2 Cl rfl rfl ?_
   refine wp_exit ?_
   repeat refine CT ?_
   refine x9 _ _ ?_
   refine k6 _ _ ?_
   refine AKQ fun K24 k24=>?_
   refine AKQ fun K25 k25=>?_
   replace BG:=AC g23 BG
   replace ob:=ob.kn g23
   replace HG:=AA HG g23
   rcases hj with rfl|rfl
   · refine AKP ?_
     refine AJ Cl 2 [(21,.int .i64 0),(22,.bool true)]
      ⟨ym r5,Cp r6 (fun _=>BU rfl),AKW⟩ fun a26 w26 g26 Cy=>?_
     refine AE ?_
     refine k25 _ _ ?_
     refine Ar Cy rfl rfl ?_
     refine AKQ fun K27 k27=>?_
     refine AKP ?_
     refine AJ Cy 1 [(23,.slice bo (32*i) bc)]
      ⟨ym r5,AKW⟩ fun a28 w28 g28 GI=>?_
     have EW:=AA g26 g28
     replace ob:=ob.kn EW
     refine BD GI Tryz.func33 (by kernel_rfl) r6 (I1 (ZU (dom:=281) (by decide) rfl (ADn ds i) (by rw[ADm (by omega)];omega) (ADq (by omega) (Sl.of_own ob)))) fun a29 v29 w29 hR29 CY=>?_
     obtain⟨rfl,g29⟩:=hR29
     replace BG:=AC g29 (AC EW BG)
     refine Av CY r7 (Bb ((Ng (BitVec.ofNat 64 281) (fl ds i))) (Jr _ _).1) BG (Dk (Jr _ _)) fun w30 g30 h30=>?_
     replace ob:=(ob.kn g29).offR g30 (AP DS)
     replace HG:=AD (AA (AA HG EW) g29) g30 Ij
     replace BG:=h30
     refine AE ?_
     refine k27 _ _ ?_
     refine AKT ?_
     repeat refine AK ?_
     refine Aw (fn:=Tryz.f45) CY (Dz (p:=4) Tryz.results45 CY rfl rfl (Bb ((Ng (BitVec.ofNat 64 281) (fl ds i))) (Jr _ _).1) BG) ?_
     exact⟨AHp (by rw[hall];rfl),HG⟩
   · refine AKP ?_
     refine AJ Cl 2 [(21,.int .i64 1),(22,.bool false)]
      ⟨ym r5,Cp r6 (fun _=>BU rfl),AKW⟩ fun a31 w31 g31 Fp=>?_
     refine AE ?_
     refine k25 _ _ ?_
     refine A2 Fp rfl rfl ?_
     refine AKU ?_
     refine k24 _ _ ?_
     refine AKQ fun K32 k32=>?_
     refine AKP ?_
     refine AJ Fp 1 [(25,.slice bo (32*i) bc)]
      ⟨ym r5,AKW⟩ fun a33 w33 g33 Eu=>?_
     have AHq:=AA g31 g33
     replace ob:=ob.kn AHq
     refine BD Eu Tryz.func33 (by kernel_rfl) r6 (I1 (ZU (dom:=282) (by decide) rfl (ADn ds i) (by rw[ADm (by omega)];omega) (ADq (by omega) (Sl.of_own ob)))) fun a34 v34 w34 hR34 FI=>?_
     obtain⟨rfl,g34⟩:=hR34
     replace BG:=AC g34 (AC AHq BG)
     refine Av FI r7 (Bb ((Ng (BitVec.ofNat 64 282) (fl ds i))) (Jr _ _).1) BG (Dk (Jr _ _)) fun w35 g35 h35=>?_
     replace ob:=(ob.kn g34).offR g35 (AP DS)
     replace HG:=AD (AA (AA HG AHq) g34) g35 Ij
     replace BG:=h35
     refine AE ?_
     refine k32 _ _ ?_
     refine AKT ?_
     repeat refine AK ?_
     refine Aw (fn:=Tryz.f45) FI (Dz (p:=4) Tryz.results45 FI rfl rfl (Bb ((Ng (BitVec.ofNat 64 282) (fl ds i))) (Jr _ _).1) BG) ?_
     exact⟨AHp (by rw[hall];rfl),HG⟩
theorem ADt  (w:World) :
  Calls Tryz.prog 52 #[.slice none 0 0] w fun e w'=>e=.returned (.slice none 0 0)∧w.grownBy w' none:=by
 refine BV Tryz.func52 rfl Tryz.ntmps52 rfl fun a0 sv0=>?_
 have HG:=World.grownBy.refl w none
 replace sv0:Sv 8 [] [(0,.slice none 0 0)] a0:=sv0
 refine AKQ fun K1 k1=>?_
 refine AKP ?_
 refine AR (v:=.slice none 0 0) sv0 r6 fun a2 sv2=>?_
 refine AE ?_
 refine k1 _ _ ?_
 refine AKQ fun K3 k3=>?_
 refine AKQ fun K4 k4=>?_
 refine AKP ?_
 refine AJ sv2 2 [(3,.slice none 0 0),(4,.bool true)]
  ⟨ym r5,Cp r6 (fun _=>TC Tryz.underlying28 rfl),AKW⟩ fun a5 w5 g5 sv5=>?_
 refine AE ?_
 refine k4 _ _ ?_
 refine Ar sv5 rfl rfl ?_
 refine AKQ fun K6 k6=>?_
 refine AKP ?_
 refine AR (v:=.slice none 0 0) sv5 r6 fun a7 sv7=>?_
 refine AE ?_
 refine k6 _ _ ?_
 replace HG:=AA HG g5
 refine AKT ?_
 repeat refine AK ?_
 refine Aw (fn:=Tryz.f52) sv7 (BC (p:=2) Tryz.results52 sv7 rfl rfl) ?_
 exact⟨rfl,HG⟩
theorem ABw (ds:List DD) (hl:ds.length≤1000) (ad:Addr) (cap:Nat) (w:World) (hr:RdD w (.slice ((some ad)) ds.length cap) ds) :
  Calls Tryz.prog 52 #[.slice ((some ad)) ds.length cap] w fun e w'=>∃v,e=.returned v∧w.grownBy w' none∧(Sp.row w.heap.size 23 32 ds.length (ds.flatMap J4)).on w' v:=by
 refine BV Tryz.func52 rfl Tryz.ntmps52 rfl fun a0 sv0=>?_
 have HG:=World.grownBy.refl w none
 replace sv0:Sv 8 [] [(0,.slice ((some ad)) ds.length cap)] a0:=sv0
 refine AKQ fun K1 k1=>?_
 refine AKP ?_
 refine AR (v:=.slice none 0 0) sv0 r6 fun a2 sv2=>?_
 refine AE ?_
 refine k1 _ _ ?_
 refine AKQ fun K3 k3=>?_
 refine AKQ fun K4 k4=>?_
 refine AKP ?_
 refine AJ sv2 2 [(3,.slice ((some ad)) ds.length cap),(4,.bool false)]
  ⟨ym r5,Cp r6 (fun _=>TC Tryz.underlying28 rfl),AKW⟩ fun a5 w5 g5 sv5=>?_
 refine AE ?_
 refine k4 _ _ ?_
 refine A2 sv5 rfl rfl ?_
 refine AKU ?_
 refine k3 _ _ ?_
 refine AKQ fun K6 k6=>?_
 refine AKP ?_
 replace hr:=hr.kn g5
 replace HG:=AA HG g5
 refine Ic (sv5.st w5) 3 [(5,Sp.lit0 w5.heap.size 23),(6,Sp.is (.slice ((some ad)) ds.length cap)),(7,Sp.row w5.heap.size 23 32 ds.length (ds.flatMap J4))] rfl (by kernel_rfl) (by kernel_rfl) (by kernel_rfl)
  ⟨AAV (t:=0) rfl trivial (Nat.le_refl _) (fun a w=>by kernel_rfl) (fun _ _ h=>h),ym r5,AAW (news:=ds.flatMap J4) dsT rfl rfl trivial rfl (fun _ _ h=>h) (oy rfl rfl) (fun _ g=>(hr.kn g).1) (AF2 ds) (by omega) (Nat.le_refl _) (fun _ _ h=>h),AKW⟩ fun a7 w7 g7 st7=>?_
 obtain⟨hn7,hd7,e7_5,e7_6,e7_7,e7_3,e7_4,e7_2,e7_0,-⟩:=st7
 obtain⟨ao8,cap8,e7_7q,ow8,fr8⟩:=e7_7
 have ZE:=JG HG fr8
 replace HG:=AA HG g7
 have sv7:Sv 8 [] [(3,_),(4,_),(2,_),(0,_),(7,_)] a7:=⟨hn7,hd7,e7_3,e7_4,e7_2,e7_0,e7_7q,AKW⟩
 refine AR (v:=.slice ao8 ds.length cap8) sv7 r6 fun a9 sv9=>?_
 refine AE ?_
 refine k6 _ _ ?_
 refine AKT ?_
 repeat refine AK ?_
 refine Aw (fn:=Tryz.f52) sv9 (BC (p:=2) Tryz.results52 sv9 rfl rfl) ?_
 exact⟨_,rfl,HG,_,_,rfl,ow8,ZE⟩
theorem ABx {ds:List DD} {s:Value} {w:World} (hl:ds.length≤1000) (hr:RdD w s ds):Calls Tryz.prog 52 #[s] w fun e w'=>∃v,e=.returned v∧w.grownBy w' none∧(Sp.row w.heap.size 23 32 ds.length (ds.flatMap J4)).on w' v:=by
 obtain⟨ao,cap,rfl⟩:=hr.shape
 cases ao with
 | some ad=>exact ABw ds hl ad cap w hr
 | none =>
  have h0:ds.length=0∧cap=0:=by
   obtain⟨⟨_,ao',cap',e,h1,_,h3,_⟩,_⟩:=hr
   simp only[Value.slice.injEq,true_and] at e
   obtain⟨rfl,rfl⟩:=e
   have:=h3 rfl
   omega
  obtain⟨h1,rfl⟩:=h0
  obtain rfl:ds=[]:=List.eq_nil_of_length_eq_zero h1
  exact(ADt w).mono fun e w' ⟨h1,h2⟩=>⟨_,h1,h2,none,0,rfl,Own.nil _ _ _,fun k hk=>by simp[Value.ownBlock] at hk⟩
theorem AHr {ds:List DD} {s:Value} {w:World} (hl:ds.length≤1000) (hr:RdD w s ds):Calls Tryz.prog 52 #[s] w fun e w'=>∃v,e=.returned v∧(∃ao cap,v=.slice ao ds.length cap∧w.grownBy w' none∧Own w' 23 32 (.slice ao ds.length cap) ds.length (ds.flatMap J4)∧∀k,Ba (.slice ao ds.length cap) k→w.heap.size≤k):=
 (ABx hl hr).mono fun e w' ⟨v,h1,h2,ao,cap,h3,h4,h5⟩=>⟨v,h1,ao,cap,h3,h2,h4,h5⟩
theorem Of {w:World} {ds:List DD} {ao:Option Addr} {cap:Nat} {joint addr:Int} {b:Bool} (hr:RdD w (.slice ao ds.length cap) ds) (hb:hd (ds.map DD.x) joint addr=b):Calls Tryz.prog 50 #[.slice ao ds.length cap,.int .i64 joint,.int .i64 addr] w fun e w'=>e=.returned (.bool b)∧w.grownBy w' none:=hb▸ZR ds ao cap joint addr w hr
theorem Og {w:World} {ds:List DD} {ao:Option Addr} {cap:Nat} {joint addr:Int} {b:Bool} (hr:RdD w (.slice ao ds.length cap) ds) (hb:hd (ds.map DD.x) joint addr=b):Calls Tryz.prog 41 #[.slice ao ds.length cap,.int .i64 joint,.int .i64 addr] w fun e w'=>e=.returned (.bool b)∧w.grownBy w' none:=hb▸ZS ds ao cap joint addr w hr
theorem Wa {own:List (List Nat)} {joint addr:Int} (h:hd own joint addr=true):(0≤addr∧addr<17179869184)∧(joint=0∨joint=1)∧own.length≤16∧YJ own=true:=by
 unfold hd at h
 simp only[Bool.and_eq_true,Bool.or_eq_true,decide_eq_true_eq] at h
 exact⟨PK h.1.1.1,h.1.1.2,h.1.2,h.2⟩
theorem AAk {s:Sd} (h:hd s.own s.joint s.addr=false):EX s=false:=by unfold EX;rw[h];rfl
theorem SU {s:Sd} (h:64<s.body.length):EX s=false:=by
 have:decide (s.body.length≤64)=false:=decide_eq_false (by omega)
 unfold EX;rw[this];simp
theorem LJ {s:Sd} (h1:hd s.own s.joint s.addr=true) (h2:s.body.length≤64) {b:Bool} (h3:(if s.joint=1 then decide (s.wr.length=s.own.length) else decide (s.wr.length=0))=b):EX s=b:=by
 unfold EX
 rw[h1,decide_eq_true h2,←h3]
 split<;>rfl
theorem AF4 (a joint:Int) (own wr:List DD) (ao wo bo:Option Addr) (ac wc bc:Nat) (body tg:List Nat) (htg:Dg tg) (w:World) (ho:RdD w (.slice ao own.length ac) own) (hw:RdD w (.slice wo wr.length wc) wr) (hb:SlB w 1 (.slice bo body.length bc) body.length (bv body)) :
   Calls Tryz.prog 27 #[BR a (.slice ao own.length ac) joint (.slice wo wr.length wc) (.slice bo body.length bc) tg] w fun e w'=>e=.returned (.bool (EX ⟨a,own.map DD.x,joint,wr.map DD.x,body,tg⟩))∧w.grownBy w' none:=by
 refine Dy Tryz.func27 rfl Tryz.ntmps27 rfl fun a0 sv0=>?_
 have HG:=World.grownBy.refl w none
 replace sv0:Sv 31 [] [(0,BR a (.slice ao own.length ac) joint (.slice wo wr.length wc) (.slice bo body.length bc) tg)] a0:=sv0
 refine AKQ fun K1 k1=>?_
 refine AKP ?_
 refine Be sv0 r6 (Df _ _ htg (.slice ao own.length ac) (.slice wo wr.length wc) (.slice bo body.length bc) rfl rfl rfl) fun a2 w2 CE LB g2 z2 Ae sv2=>?_
 replace ho:=ho.kn g2
 replace HG:=AA HG g2
 refine AR (v:=.bool false) sv2 r6 fun a3 sv3=>?_
 refine AE ?_
 refine k1 _ _ ?_
 refine AKQ fun K4 k4=>?_
 refine AKP ?_
 refine Eo sv3 rfl (dd:={ target:=.fn (.func 69) #[],args:=#[] }) rfl (by simp[execOp,resolve,Deferred.ofValue];try rfl) fun a5 sv5=>?_
 refine AE ?_
 refine k4 _ _ ?_
 refine AKQ fun K6 k6=>?_
 refine AKQ fun K7 k7=>?_
 rcases(show hd (own.map DD.x) joint a=false∨(hd (own.map DD.x) joint a=true∧64<body.length)∨(hd (own.map DD.x) joint a=true∧body.length≤64) by cases hd (own.map DD.x) joint a<;>simp<;>omega) with hh|⟨hh,hbl⟩|⟨hh,hbl⟩
 · refine AKP ?_
   refine AJ sv5 14 [(3,pk CE 1),(4,.slice ao own.length ac),(5,pk CE 2),(6,.int .i64 joint),(7,pt CE),(8,.int .i64 a),(9,.bool false),(10,.bool true),(11,.bool true),(12,undef),(13,undef),(14,undef),(15,undef),(16,.bool true)]
     ⟨yf r6 (fun _=>by kernel_rfl),yp (i:=1) r6 (D4 (.slice ao own.length ac) rfl) Ae rfl rfl,yf r6 (fun _=>by kernel_rfl),yp (i:=2) r6 (DE joint) Ae rfl rfl,yf r6 (fun _=>by kernel_rfl),yp (i:=0) r6 (Dr a) Ae rfl rfl,Al [.slice ao own.length ac,.int .i64 joint,.int .i64 a] Tryz.func50 (by kernel_rfl) rq4 ⟨(oy rfl rfl),(oy rfl rfl),(oy rfl rfl),AKW⟩ (A7 fun W g=>Of (ho.kn g) hh),C3 r6 (fun _=>Bi),ym r5,AN r6,AN r6,AN r6,AN r6,A1 r7,AKW⟩ fun a8 w8 g8 sv8=>?_
   refine AE ?_
   refine k7 _ _ ?_
   refine Ar sv8 rfl rfl ?_
   refine AKQ fun K9 k9=>?_
   refine AKP ?_
   refine AR (v:=.bool false) sv8 r6 fun a10 BF=>?_
   refine AE ?_
   refine k9 _ _ ?_
   replace Ae:=AC g8 Ae
   replace ho:=ho.kn g8
   replace HG:=AA HG g8
   refine AKT ?_
   repeat refine AK ?_
   refine Bj (fn:=Tryz.f27) BF (BC (p:=2) Tryz.results27 BF rfl rfl) (CH Tryz.func69 (by kernel_rfl) rfl _ _) (D5 _) ?_
   exact⟨D0 ((AAk (s:=⟨a,own.map DD.x,joint,wr.map DD.x,body,tg⟩) hh).symm),HG⟩
 · refine AKP ?_
   refine AJ sv5 14 [(3,pk CE 1),(4,.slice ao own.length ac),(5,pk CE 2),(6,.int .i64 joint),(7,pt CE),(8,.int .i64 a),(9,.bool true),(10,.bool false),(11,.bool false),(12,pk CE 4),(13,.slice bo body.length bc),(14,.int .i64 ((body.length:Nat))),(15,.bool true),(16,.bool true)]
     ⟨yf r6 (fun _=>by kernel_rfl),yp (i:=1) r6 (D4 (.slice ao own.length ac) rfl) Ae rfl rfl,yf r6 (fun _=>by kernel_rfl),yp (i:=2) r6 (DE joint) Ae rfl rfl,yf r6 (fun _=>by kernel_rfl),yp (i:=0) r6 (Dr a) Ae rfl rfl,Al [.slice ao own.length ac,.int .i64 joint,.int .i64 a] Tryz.func50 (by kernel_rfl) rq4 ⟨(oy rfl rfl),(oy rfl rfl),(oy rfl rfl),AKW⟩ (A7 fun W g=>Of (ho.kn g) hh),C3 r6 (fun _=>Bi),ym r5,Aq rq9 (fun _=>by kernel_rfl),Ai rq9 (fun _ g=>AY (Di (.slice bo body.length bc) rfl) (Ak (L:=[[.int .i64 a],[.slice ao own.length ac],[.int .i64 joint],[.slice wo wr.length wc],[.slice bo body.length bc],bv tg]) (i:=4) (AF g Ae (by simp)) rfl rfl)),Au (Tryz.underlying29) rfl rfl (gy rfl rfl rfl) (oy rfl rfl) (fun _=>rfl),Af rq9 (fun _=>Bl (by simp;omega)),Aa rq9,AKW⟩ fun a11 w11 g11 Bv=>?_
   refine AE ?_
   refine k7 _ _ ?_
   refine Ar Bv rfl rfl ?_
   refine AKQ fun K12 k12=>?_
   refine AKP ?_
   refine AR (v:=.bool false) Bv r6 fun a13 Cg=>?_
   refine AE ?_
   refine k12 _ _ ?_
   replace Ae:=AC g11 Ae
   replace ho:=ho.kn g11
   replace HG:=AA HG g11
   refine AKT ?_
   repeat refine AK ?_
   refine Bj (fn:=Tryz.f27) Cg (BC (p:=2) Tryz.results27 Cg rfl rfl) (CH Tryz.func69 (by kernel_rfl) rfl _ _) (D5 _) ?_
   exact⟨D0 ((SU (s:=⟨a,own.map DD.x,joint,wr.map DD.x,body,tg⟩) hbl).symm),HG⟩
 · refine AKP ?_
   refine AJ sv5 14 [(3,pk CE 1),(4,.slice ao own.length ac),(5,pk CE 2),(6,.int .i64 joint),(7,pt CE),(8,.int .i64 a),(9,.bool true),(10,.bool false),(11,.bool false),(12,pk CE 4),(13,.slice bo body.length bc),(14,.int .i64 ((body.length:Nat))),(15,.bool false),(16,.bool false)]
     ⟨yf r6 (fun _=>by kernel_rfl),yp (i:=1) r6 (D4 (.slice ao own.length ac) rfl) Ae rfl rfl,yf r6 (fun _=>by kernel_rfl),yp (i:=2) r6 (DE joint) Ae rfl rfl,yf r6 (fun _=>by kernel_rfl),yp (i:=0) r6 (Dr a) Ae rfl rfl,Al [.slice ao own.length ac,.int .i64 joint,.int .i64 a] Tryz.func50 (by kernel_rfl) rq4 ⟨(oy rfl rfl),(oy rfl rfl),(oy rfl rfl),AKW⟩ (A7 fun W g=>Of (ho.kn g) hh),C3 r6 (fun _=>Bi),ym r5,Aq rq9 (fun _=>by kernel_rfl),Ai rq9 (fun _ g=>AY (Di (.slice bo body.length bc) rfl) (Ak (L:=[[.int .i64 a],[.slice ao own.length ac],[.int .i64 joint],[.slice wo wr.length wc],[.slice bo body.length bc],bv tg]) (i:=4) (AF g Ae (by simp)) rfl rfl)),Au (Tryz.underlying29) rfl rfl (gy rfl rfl rfl) (oy rfl rfl) (fun _=>rfl),Af rq9 (fun _=>Bl (by simp;omega)),Aa rq9,AKW⟩ fun a14 w14 g14 C6=>?_
   refine AE ?_
   refine k7 _ _ ?_
   refine A2 C6 rfl rfl ?_
   refine AKU ?_
   refine k6 _ _ ?_
   refine AKQ fun K15 k15=>?_
   refine AKQ fun K16 k16=>?_
   replace Ae:=AC g14 Ae
   replace HG:=AA HG g14
   by_cases hj:joint=1
   · refine AKP ?_
     refine AJ C6 3 [(17,pk CE 2),(18,.int .i64 joint),(19,.bool true)]
       ⟨yf r6 (fun _=>by kernel_rfl),yp (i:=2) r6 (DE joint) Ae rfl rfl,Cp r6 (fun _=>BU (by simpa using hj)),AKW⟩ fun a17 w17 g17 De=>?_
     refine AE ?_
     refine k16 _ _ ?_
     refine Ar De rfl rfl ?_
     refine AKQ fun K18 k18=>?_
     replace Ae:=AC g17 Ae
     replace HG:=AA HG g17
     by_cases hwl:wr.length=own.length
     · refine AKP ?_
       refine AJ De 7 [(20,pk CE 3),(21,.slice wo wr.length wc),(22,.int .i64 ((wr.length:Nat))),(23,pk CE 1),(24,.slice ao own.length ac),(25,.int .i64 ((own.length:Nat))),(26,.bool true)]
        ⟨yf r6 (fun _=>by kernel_rfl),yp (i:=3) r6 (D4 (.slice wo wr.length wc) rfl) Ae rfl rfl,Au (Tryz.underlying28) rfl rfl trivial (oy rfl rfl) (fun _=>rfl),yf r6 (fun _=>by kernel_rfl),yp (i:=1) r6 (D4 (.slice ao own.length ac) rfl) Ae rfl rfl,Au (Tryz.underlying28) rfl rfl trivial (oy rfl rfl) (fun _=>rfl),FG r7 (fun _=>BU (JE (by omega))),AKW⟩ fun a19 w19 g19 Cs=>?_
       refine AR (v:=.bool true) Cs r6 fun a20 DH=>?_
       have CK:Sv _ _ [_,_,_,_,_,_,_,_,_,_,_,_,_,_,_,_,_,_,_,_] _:=DH.dl [20,21,22,23,24,25,26]
       refine AE ?_
       refine k18 _ _ ?_
       replace Ae:=AC g19 Ae
       replace HG:=AA HG g19
       refine AKT ?_
       repeat refine AK ?_
       refine Bj (fn:=Tryz.f27) CK (BC (p:=2) Tryz.results27 CK rfl rfl) (CH Tryz.func69 (by kernel_rfl) rfl _ _) (D5 _) ?_
       exact⟨D0 ((LJ (s:=⟨a,own.map DD.x,joint,wr.map DD.x,body,tg⟩) hh hbl (b:=true) (by simp only[List.length_map];rw[if_pos hj];simp[hwl])).symm),HG⟩
     · refine AKP ?_
       refine AJ De 7 [(20,pk CE 3),(21,.slice wo wr.length wc),(22,.int .i64 ((wr.length:Nat))),(23,pk CE 1),(24,.slice ao own.length ac),(25,.int .i64 ((own.length:Nat))),(26,.bool false)]
        ⟨yf r6 (fun _=>by kernel_rfl),yp (i:=3) r6 (D4 (.slice wo wr.length wc) rfl) Ae rfl rfl,Au (Tryz.underlying28) rfl rfl trivial (oy rfl rfl) (fun _=>rfl),yf r6 (fun _=>by kernel_rfl),yp (i:=1) r6 (D4 (.slice ao own.length ac) rfl) Ae rfl rfl,Au (Tryz.underlying28) rfl rfl trivial (oy rfl rfl) (fun _=>rfl),FG r7 (fun _=>BU (HH (by omega))),AKW⟩ fun a22 w22 g22 Bu=>?_
       refine AR (v:=.bool false) Bu r6 fun a23 Cl=>?_
       have Du:Sv _ _ [_,_,_,_,_,_,_,_,_,_,_,_,_,_,_,_,_,_,_,_] _:=Cl.dl [20,21,22,23,24,25,26]
       refine AE ?_
       refine k18 _ _ ?_
       replace Ae:=AC g22 Ae
       replace HG:=AA HG g22
       refine AKT ?_
       repeat refine AK ?_
       refine Bj (fn:=Tryz.f27) Du (BC (p:=2) Tryz.results27 Du rfl rfl) (CH Tryz.func69 (by kernel_rfl) rfl _ _) (D5 _) ?_
       exact⟨D0 ((LJ (s:=⟨a,own.map DD.x,joint,wr.map DD.x,body,tg⟩) hh hbl (b:=false) (by simp only[List.length_map];rw[if_pos hj];simp[hwl])).symm),HG⟩
   · refine AKP ?_
     refine AJ C6 3 [(17,pk CE 2),(18,.int .i64 joint),(19,.bool false)]
       ⟨yf r6 (fun _=>by kernel_rfl),yp (i:=2) r6 (DE joint) Ae rfl rfl,Cp r6 (fun _=>BU (by simpa using hj)),AKW⟩ fun a25 w25 g25 Bz=>?_
     refine AE ?_
     refine k16 _ _ ?_
     refine A2 Bz rfl rfl ?_
     refine AKU ?_
     refine k15 _ _ ?_
     refine AKQ fun K26 k26=>?_
     replace Ae:=AC g25 Ae
     replace HG:=AA HG g25
     by_cases hwl:wr.length=0
     · refine AKP ?_
       refine AJ Bz 4 [(27,pk CE 3),(28,.slice wo wr.length wc),(29,.int .i64 ((wr.length:Nat))),(30,.bool true)]
        ⟨yf r6 (fun _=>by kernel_rfl),yp (i:=3) r6 (D4 (.slice wo wr.length wc) rfl) Ae rfl rfl,Au (Tryz.underlying28) rfl rfl trivial (oy rfl rfl) (fun _=>rfl),Cp r6 (fun _=>BU (JE (by omega))),AKW⟩ fun a27 w27 g27 F6=>?_
       refine AR (v:=.bool true) F6 r6 fun a28 GI=>?_
       have CY:Sv _ _ [_,_,_,_,_,_,_,_,_,_,_,_,_,_,_,_,_,_,_,_] _:=GI.dl [27,28,29,30]
       refine AE ?_
       refine k26 _ _ ?_
       replace Ae:=AC g27 Ae
       replace HG:=AA HG g27
       refine AKT ?_
       repeat refine AK ?_
       refine Bj (fn:=Tryz.f27) CY (BC (p:=2) Tryz.results27 CY rfl rfl) (CH Tryz.func69 (by kernel_rfl) rfl _ _) (D5 _) ?_
       exact⟨D0 ((LJ (s:=⟨a,own.map DD.x,joint,wr.map DD.x,body,tg⟩) hh hbl (b:=true) (by simp only[List.length_map];rw[if_neg hj];simp[hwl])).symm),HG⟩
     · refine AKP ?_
       refine AJ Bz 4 [(27,pk CE 3),(28,.slice wo wr.length wc),(29,.int .i64 ((wr.length:Nat))),(30,.bool false)]
        ⟨yf r6 (fun _=>by kernel_rfl),yp (i:=3) r6 (D4 (.slice wo wr.length wc) rfl) Ae rfl rfl,Au (Tryz.underlying28) rfl rfl trivial (oy rfl rfl) (fun _=>rfl),Cp r6 (fun _=>BU (HH (by omega))),AKW⟩ fun a30 w30 g30 Dl=>?_
       refine AR (v:=.bool false) Dl r6 fun a31 Fp=>?_
       have Dm:Sv _ _ [_,_,_,_,_,_,_,_,_,_,_,_,_,_,_,_,_,_,_,_] _:=Fp.dl [27,28,29,30]
       refine AE ?_
       refine k26 _ _ ?_
       replace HG:=AA HG g30
       refine AKT ?_
       repeat refine AK ?_
       refine Bj (fn:=Tryz.f27) Dm (BC (p:=2) Tryz.results27 Dm rfl rfl) (CH Tryz.func69 (by kernel_rfl) rfl _ _) (D5 _) ?_
       exact⟨D0 ((LJ (s:=⟨a,own.map DD.x,joint,wr.map DD.x,body,tg⟩) hh hbl (b:=false) (by simp only[List.length_map];rw[if_neg hj];simp[hwl])).symm),HG⟩
theorem ADu (a joint:Int) (own wr:List DD) (ao wo bo:Option Addr) (ac wc bc:Nat) (body tg:List Nat) (htg:Dg tg) (w:World) (ho:RdD w (.slice ao own.length ac) own) (hw:RdD w (.slice wo wr.length wc) wr) (hb:SlB w 1 (.slice bo body.length bc) body.length (bv body)) :
   Calls Tryz.prog 28 #[BR a (.slice ao own.length ac) joint (.slice wo wr.length wc) (.slice bo body.length bc) tg] w fun e w'=>e=.returned (.bool (EX ⟨a,own.map DD.x,joint,wr.map DD.x,body,tg⟩))∧w.grownBy w' none:=by
 obtain⟨m,hm⟩:∃m:Nat,m=if joint=1 then own.length else 0:=⟨_,rfl⟩
 refine BV Tryz.func28 rfl Tryz.ntmps28 rfl fun a0 sv0=>?_
 have HG:=World.grownBy.refl w none
 replace sv0:Sv 30 [] [(0,BR a (.slice ao own.length ac) joint (.slice wo wr.length wc) (.slice bo body.length bc) tg)] a0:=sv0
 refine AKQ fun K1 k1=>?_
 refine AKP ?_
 refine Be sv0 r6 (Df _ _ htg (.slice ao own.length ac) (.slice wo wr.length wc) (.slice bo body.length bc) rfl rfl rfl) fun a2 w2 CE LB g2 z2 Ae sv2=>?_
 replace ho:=ho.kn g2
 replace hw:=hw.kn g2
 replace hb:=hb.kn g2
 replace HG:=AA HG g2
 refine AR (v:=.bool false) sv2 r6 fun a3 sv3=>?_
 refine AE ?_
 refine k1 _ _ ?_
 refine AKQ fun K4 k4=>?_
 refine AKP ?_
 refine AR (v:=.int .i64 0) sv3 r6 fun a5 sv5=>?_
 refine AE ?_
 refine k4 _ _ ?_
 refine AKQ fun K6 k6=>?_
 suffices MG7:∀(a':Act) (w':World),Sv 30 [] [(3,.int .i64 ((m:Int))),(2,.bool false),(1,pt CE),(0,BR a (.slice ao own.length ac) joint (.slice wo wr.length wc) (.slice bo body.length bc) tg)] a'→w.grownBy w' none→w'.heap[CE]?=some (.cells ([[.int .i64 a],[.slice ao own.length ac],[.int .i64 joint],[.slice wo wr.length wc],[.slice bo body.length bc],bv tg].flatten).toArray 31 (0,0))→(RdD w' (.slice ao own.length ac) own)→(RdD w' (.slice wo wr.length wc) wr)→(SlB w' 1 (.slice bo body.length bc) body.length (bv body))→K6 a' w' by
   by_cases hj:joint=1
   · obtain rfl:m=own.length:=by rw[hm,if_pos hj]
     refine AKQ fun K8 k8=>?_
     refine AKP ?_
     refine AJ sv5 3 [(4,pk CE 2),(5,.int .i64 joint),(6,.bool true)]
      ⟨yf r6 (fun _=>by kernel_rfl),yp (i:=2) r6 (DE joint) Ae rfl rfl,Cp r6 (fun _=>BU (by simpa using hj)),AKW⟩ fun a9 w9 g9 sv9=>?_
     refine AE ?_
     refine k8 _ _ ?_
     refine Ar sv9 rfl rfl ?_
     refine AKP ?_
     refine AJ sv9 3 [(7,pk CE 1),(8,.slice ao own.length ac),(9,.int .i64 ((own.length:Nat)))]
      ⟨yf r6 (fun _=>by kernel_rfl),yp (i:=1) r6 (D4 (.slice ao own.length ac) rfl) (AC g9 Ae) rfl rfl,Au (Tryz.underlying28) rfl rfl trivial (oy rfl rfl) (fun _=>rfl),AKW⟩ fun a10 w10 g10 BF=>?_
     have ADv:=AA g9 g10
     refine AR (v:=.int .i64 ((own.length:Nat))) BF r6 fun a11 Bv=>?_
     refine AE ?_
     replace Ae:=AC ADv Ae
     replace ho:=ho.kn ADv
     replace hw:=hw.kn ADv
     replace hb:=hb.kn ADv
     replace HG:=AA HG ADv
     have svm:Sv 30 [] [(3,_),(2,_),(1,_),(0,_)] a11:=⟨Bv.1,Bv.2.1,Bv.2.2.1,(AL Bv).2.1,(AL Bv).2.2.1,(AL Bv).2.2.2.1,AKW⟩
     exact MG7 _ _ svm HG Ae ho hw hb
   · obtain rfl:m=0:=by rw[hm,if_neg hj]
     refine AKQ fun K12 k12=>?_
     refine AKP ?_
     refine AJ sv5 3 [(4,pk CE 2),(5,.int .i64 joint),(6,.bool false)]
      ⟨yf r6 (fun _=>by kernel_rfl),yp (i:=2) r6 (DE joint) Ae rfl rfl,Cp r6 (fun _=>BU (by simpa using hj)),AKW⟩ fun a13 w13 g13 Cg=>?_
     refine AE ?_
     refine k12 _ _ ?_
     refine A2 Cg rfl rfl ?_
     refine AKU ?_
     replace Ae:=AC g13 Ae
     replace ho:=ho.kn g13
     replace hw:=hw.kn g13
     replace hb:=hb.kn g13
     replace HG:=AA HG g13
     have svm:Sv 30 [] [(3,_),(2,_),(1,_),(0,_)] a13:=⟨Cg.1,Cg.2.1,Cg.2.2.2.2.2.1,Cg.2.2.2.2.2.2.1,Cg.2.2.2.2.2.2.2.1,(AL Cg).1,AKW⟩
     exact MG7 _ _ svm HG Ae ho hw hb
 clear Ae
 clear ho
 clear hw
 clear hb
 clear HG
 intro a7 w7 sv7 HG Ae ho hw hb
 refine k6 _ _ ?_
 refine AKQ fun K14 k14=>?_
 rcases(show hd (own.map DD.x) joint a=false∨(hd (own.map DD.x) joint a=true∧64<body.length)∨(hd (own.map DD.x) joint a=true∧body.length≤64∧wr.length=m)∨(hd (own.map DD.x) joint a=true∧body.length≤64∧wr.length≠m) by cases hd (own.map DD.x) joint a<;>simp<;>omega) with hh|⟨hh,hbl⟩|⟨hh,hbl,hwl⟩|⟨hh,hbl,hwl⟩
 · refine AKP ?_
   refine AJ sv7 20 [(10,pk CE 1),(11,.slice ao own.length ac),(12,pk CE 2),(13,.int .i64 joint),(14,pt CE),(15,.int .i64 a),(16,.bool false),(17,.bool false),(18,undef),(19,undef),(20,undef),(21,undef),(22,.bool false),(23,.bool false),(24,undef),(25,undef),(26,undef),(27,undef),(28,undef),(29,.bool false)]
     ⟨yf r6 (fun _=>by kernel_rfl),yp (i:=1) r6 (D4 (.slice ao own.length ac) rfl) Ae rfl rfl,yf r6 (fun _=>by kernel_rfl),yp (i:=2) r6 (DE joint) Ae rfl rfl,yf r6 (fun _=>by kernel_rfl),yp (i:=0) r6 (Dr a) Ae rfl rfl,Al [.slice ao own.length ac,.int .i64 joint,.int .i64 a] Tryz.func41 (by kernel_rfl) rq4 ⟨(oy rfl rfl),(oy rfl rfl),(oy rfl rfl),AKW⟩ (A7 fun W g=>Og (ho.kn g) hh),ym r5,AN r6,AN r6,AN r6,AN r6,A1 r7,ym r5,AN r6,AN r6,AN r6,AN r6,AN r6,A1 r7,AKW⟩ fun a15 w15 g15 EE=>?_
   refine AR (v:=.bool false) EE r6 fun a16 Cr=>?_
   have De:Sv _ _ [_,_,_] _:=Cr.dl [10,11,12,13,14,15,16,17,18,19,20,21,22,23,24,25,26,27,28,29,3]
   refine AE ?_
   refine k14 _ _ ?_
   replace Ae:=AC g15 Ae
   replace ho:=ho.kn g15
   replace HG:=AA HG g15
   refine AKT ?_
   repeat refine AK ?_
   refine Aw (fn:=Tryz.f28) De (BC (p:=2) Tryz.results28 De rfl rfl) ?_
   exact⟨D0 ((AAk (s:=⟨a,own.map DD.x,joint,wr.map DD.x,body,tg⟩) hh).symm),HG⟩
 · refine AKP ?_
   refine AJ sv7 20 [(10,pk CE 1),(11,.slice ao own.length ac),(12,pk CE 2),(13,.int .i64 joint),(14,pt CE),(15,.int .i64 a),(16,.bool true),(17,.bool true),(18,pk CE 4),(19,.slice bo body.length bc),(20,.int .i64 ((body.length:Nat))),(21,.bool false),(22,.bool false),(23,.bool false),(24,undef),(25,undef),(26,undef),(27,undef),(28,undef),(29,.bool false)]
     ⟨yf r6 (fun _=>by kernel_rfl),yp (i:=1) r6 (D4 (.slice ao own.length ac) rfl) Ae rfl rfl,yf r6 (fun _=>by kernel_rfl),yp (i:=2) r6 (DE joint) Ae rfl rfl,yf r6 (fun _=>by kernel_rfl),yp (i:=0) r6 (Dr a) Ae rfl rfl,Al [.slice ao own.length ac,.int .i64 joint,.int .i64 a] Tryz.func41 (by kernel_rfl) rq4 ⟨(oy rfl rfl),(oy rfl rfl),(oy rfl rfl),AKW⟩ (A7 fun W g=>Og (ho.kn g) hh),ym r5,Aq rq9 (fun _=>by kernel_rfl),Ai rq9 (fun _ g=>AY (Di (.slice bo body.length bc) rfl) (Ak (L:=[[.int .i64 a],[.slice ao own.length ac],[.int .i64 joint],[.slice wo wr.length wc],[.slice bo body.length bc],bv tg]) (i:=4) (AF g Ae (by simp)) rfl rfl)),Au (Tryz.underlying29) rfl rfl (gy rfl rfl rfl) (oy rfl rfl) (fun _=>rfl),Af rq9 (fun _=>Jb (by simp;omega)),Aa rq9,ym r5,AN r6,AN r6,AN r6,AN r6,AN r6,A1 r7,AKW⟩ fun a18 w18 g18 CQ=>?_
   refine AR (v:=.bool false) CQ r6 fun a19 Cs=>?_
   have DH:Sv _ _ [_,_,_] _:=Cs.dl [10,11,12,13,14,15,16,17,18,19,20,21,22,23,24,25,26,27,28,29,3]
   refine AE ?_
   refine k14 _ _ ?_
   replace Ae:=AC g18 Ae
   replace ho:=ho.kn g18
   replace HG:=AA HG g18
   refine AKT ?_
   repeat refine AK ?_
   refine Aw (fn:=Tryz.f28) DH (BC (p:=2) Tryz.results28 DH rfl rfl) ?_
   exact⟨D0 ((SU (s:=⟨a,own.map DD.x,joint,wr.map DD.x,body,tg⟩) hbl).symm),HG⟩
 · refine AKP ?_
   refine AJ sv7 20 [(10,pk CE 1),(11,.slice ao own.length ac),(12,pk CE 2),(13,.int .i64 joint),(14,pt CE),(15,.int .i64 a),(16,.bool true),(17,.bool true),(18,pk CE 4),(19,.slice bo body.length bc),(20,.int .i64 ((body.length:Nat))),(21,.bool true),(22,.bool true),(23,.bool true),(24,pk CE 3),(25,.slice wo wr.length wc),(26,.int .i64 ((wr.length:Nat))),(27,.int .i64 ((m:Int))),(28,.bool true),(29,.bool true)]
     ⟨yf r6 (fun _=>by kernel_rfl),yp (i:=1) r6 (D4 (.slice ao own.length ac) rfl) Ae rfl rfl,yf r6 (fun _=>by kernel_rfl),yp (i:=2) r6 (DE joint) Ae rfl rfl,yf r6 (fun _=>by kernel_rfl),yp (i:=0) r6 (Dr a) Ae rfl rfl,Al [.slice ao own.length ac,.int .i64 joint,.int .i64 a] Tryz.func41 (by kernel_rfl) rq4 ⟨(oy rfl rfl),(oy rfl rfl),(oy rfl rfl),AKW⟩ (A7 fun W g=>Og (ho.kn g) hh),ym r5,Aq rq9 (fun _=>by kernel_rfl),Ai rq9 (fun _ g=>AY (Di (.slice bo body.length bc) rfl) (Ak (L:=[[.int .i64 a],[.slice ao own.length ac],[.int .i64 joint],[.slice wo wr.length wc],[.slice bo body.length bc],bv tg]) (i:=4) (AF g Ae (by simp)) rfl rfl)),Au (Tryz.underlying29) rfl rfl (gy rfl rfl rfl) (oy rfl rfl) (fun _=>rfl),Af rq9 (fun _=>Jb (by simp;omega)),Aa rq9,ym r5,Aq rq9 (fun _=>by kernel_rfl),Ai rq9 (fun _ g=>AY (D4 (.slice wo wr.length wc) rfl) (Ak (L:=[[.int .i64 a],[.slice ao own.length ac],[.int .i64 joint],[.slice wo wr.length wc],[.slice bo body.length bc],bv tg]) (i:=3) (AF g Ae (by simp)) rfl rfl)),Au (Tryz.underlying28) rfl rfl (gy rfl rfl rfl) (oy rfl rfl) (fun _=>rfl),Ad rq8,JY rfl rfl (gy rfl rfl rfl) (oy rfl rfl) (oy rfl rfl) (fun _=>BU (JE (by omega))) (fun _=>rfl),Aa rq9,AKW⟩ fun a21 w21 g21 CK=>?_
   refine AR (v:=.bool true) CK r6 fun a22 Bu=>?_
   have Cl:Sv _ _ [_,_,_] _:=Bu.dl [10,11,12,13,14,15,16,17,18,19,20,21,22,23,24,25,26,27,28,29,3]
   refine AE ?_
   refine k14 _ _ ?_
   replace Ae:=AC g21 Ae
   replace ho:=ho.kn g21
   replace HG:=AA HG g21
   refine AKT ?_
   repeat refine AK ?_
   refine Aw (fn:=Tryz.f28) Cl (BC (p:=2) Tryz.results28 Cl rfl rfl) ?_
   exact⟨D0 ((LJ (s:=⟨a,own.map DD.x,joint,wr.map DD.x,body,tg⟩) hh hbl (b:=true) (by simp only[List.length_map];rw[hm] at hwl;split<;>simp_all)).symm),HG⟩
 · refine AKP ?_
   refine AJ sv7 20 [(10,pk CE 1),(11,.slice ao own.length ac),(12,pk CE 2),(13,.int .i64 joint),(14,pt CE),(15,.int .i64 a),(16,.bool true),(17,.bool true),(18,pk CE 4),(19,.slice bo body.length bc),(20,.int .i64 ((body.length:Nat))),(21,.bool true),(22,.bool true),(23,.bool true),(24,pk CE 3),(25,.slice wo wr.length wc),(26,.int .i64 ((wr.length:Nat))),(27,.int .i64 ((m:Int))),(28,.bool false),(29,.bool false)]
     ⟨yf r6 (fun _=>by kernel_rfl),yp (i:=1) r6 (D4 (.slice ao own.length ac) rfl) Ae rfl rfl,yf r6 (fun _=>by kernel_rfl),yp (i:=2) r6 (DE joint) Ae rfl rfl,yf r6 (fun _=>by kernel_rfl),yp (i:=0) r6 (Dr a) Ae rfl rfl,Al [.slice ao own.length ac,.int .i64 joint,.int .i64 a] Tryz.func41 (by kernel_rfl) rq4 ⟨(oy rfl rfl),(oy rfl rfl),(oy rfl rfl),AKW⟩ (A7 fun W g=>Og (ho.kn g) hh),ym r5,Aq rq9 (fun _=>by kernel_rfl),Ai rq9 (fun _ g=>AY (Di (.slice bo body.length bc) rfl) (Ak (L:=[[.int .i64 a],[.slice ao own.length ac],[.int .i64 joint],[.slice wo wr.length wc],[.slice bo body.length bc],bv tg]) (i:=4) (AF g Ae (by simp)) rfl rfl)),Au (Tryz.underlying29) rfl rfl (gy rfl rfl rfl) (oy rfl rfl) (fun _=>rfl),Af rq9 (fun _=>Jb (by simp;omega)),Aa rq9,ym r5,Aq rq9 (fun _=>by kernel_rfl),Ai rq9 (fun _ g=>AY (D4 (.slice wo wr.length wc) rfl) (Ak (L:=[[.int .i64 a],[.slice ao own.length ac],[.int .i64 joint],[.slice wo wr.length wc],[.slice bo body.length bc],bv tg]) (i:=3) (AF g Ae (by simp)) rfl rfl)),Au (Tryz.underlying28) rfl rfl (gy rfl rfl rfl) (oy rfl rfl) (fun _=>rfl),Ad rq8,JY rfl rfl (gy rfl rfl rfl) (oy rfl rfl) (oy rfl rfl) (fun _=>BU (HH (by omega))) (fun _=>rfl),Aa rq9,AKW⟩ fun a24 w24 g24 Du=>?_
   refine AR (v:=.bool false) Du r6 fun a25 Bz=>?_
   have Cy:Sv _ _ [_,_,_] _:=Bz.dl [10,11,12,13,14,15,16,17,18,19,20,21,22,23,24,25,26,27,28,29,3]
   refine AE ?_
   refine k14 _ _ ?_
   replace HG:=AA HG g24
   refine AKT ?_
   repeat refine AK ?_
   refine Aw (fn:=Tryz.f28) Cy (BC (p:=2) Tryz.results28 Cy rfl rfl) ?_
   exact⟨D0 ((LJ (s:=⟨a,own.map DD.x,joint,wr.map DD.x,body,tg⟩) hh hbl (b:=false) (by simp only[List.length_map];rw[hm] at hwl;split<;>simp_all)).symm),HG⟩
end Go.Proofs.YtbfjfnbcmojpiaaGreat
