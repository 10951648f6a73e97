import Derived.Test.YtbfjfnbcmojpiaaGreatSeY5
set_option linter.unusedSimpArgs false
set_option linter.unusedVariables false
set_option maxRecDepth 100000
set_option maxHeartbeats 4000000
namespace Go.Proofs.YtbfjfnbcmojpiaaGreat
open Go.RowKit Go.Shelf
def Bm (a:Int) (os:Value) (j:Int) (ws bs:Value) (tg:List Nat):Value:=.agg ([[.int .i64 a],[os],[.int .i64 j],[ws],[bs],bv tg].flatten).toArray
theorem C7 {x y:List Nat} (hx:Dg x) (hy:Dg y) {a j b k:Int} {os ws bs os' ws' bs':Value}:([[.int .i64 a],[os],[.int .i64 j],[ws],[bs],bv x].flatten).length=([[.int .i64 b],[os'],[.int .i64 k],[ws'],[bs'],bv y].flatten).length:=by simp[AL,hx.1,hy.1]
theorem Cy (a j:Int) {tg:List Nat} (ht:Dg tg) (os ws bs:Value) (h1:os.oneCell'=true) (h2:ws.oneCell'=true) (h3:bs.oneCell'=true):TY Tryz.prog 31 ([[.int .i64 a],[os],[.int .i64 j],[ws],[bs],bv tg].flatten) (Bm a os j ws bs tg):=by
 refine TY.agg Tryz.underlying31 rfl ?_ ?_
 · rw[show([[.int .i64 a],[os],[.int .i64 j],[ws],[bs],bv tg].flatten).length=37 by simp[AL,ht.1]]
   kernel_rfl
 · intro c hc
   simp only[List.flatten_cons,List.flatten_nil,List.append_nil,List.mem_append,List.mem_singleton] at hc
   rcases hc with rfl|rfl|rfl|rfl|rfl|hc
   · rfl
   · exact h1
   · rfl
   · exact h2
   · exact h3
   · exact IK _ _ hc
theorem YM (w:World):(Instr.build 31 #[]).run Tryz.prog w=.ok (Bm 0 (.slice none 0 0) 0 (.slice none 0 0) (.slice none 0 0) AM) w:=by kernel_rfl
theorem AJ4 (a:Int) (ao:Option Addr) (n c:Nat) (j:Int) (w:World):(Instr.build 31 #[(0,.int .i64 a),(1,.slice ao n c),(2,.int .i64 j)]).run Tryz.prog w=.ok (Bm a (.slice ao n c) j (.slice none 0 0) (.slice none 0 0) AM) w:=by kernel_rfl
theorem D9 (x:Int):TY Tryz.prog 3 [.int .i64 x] (.int .i64 x):=TY.one' Tryz.underlying3 rfl (by kernel_rfl) rfl
def fl (ds:List DD) (i:Nat):List Nat:=(ds.take i).flatMap DD.x
theorem VM {ds:List DD} {i:Nat} {x:DD} (hi:i<ds.length) (hx:ds[i]=x):fl ds (i+1)=fl ds i++x.x:=by
 unfold fl
 rw[List.take_add_one,List.getElem?_eq_getElem hi,hx,List.flatMap_append]
 simp
theorem KW (d:BitVec 64) (l:List Nat):Dg (OZ d l):=⟨Hd _ _,Nu _ _⟩
theorem AE0 {ds:List DD}:∀{i:Nat},i≤ds.length→(fl ds i).length=32*i
 | 0,_=>rfl
 | i+1,h=>by rw[VM (i:=i) (by omega) rfl,List.length_append,AE0 (by omega),(ds[i]).h.1];omega
theorem AE1 (ds:List DD) (i:Nat):By (fl ds i):=fun b hb=>by
 obtain⟨d,_,hd⟩:=List.mem_flatMap.1 hb
 exact d.h.2 b hd
theorem AE2 {ds:List DD} {i:Nat} (h:ds.length≤i):fl ds i=(ds.map DD.x).flatten:=by
 unfold fl
 rw[List.take_of_length_le h,List.flatMap_def]
theorem AE3 {w:World} {b:Nat} {k:List Nat} (hk:Dg k) (h:w.rangeAt b 0 (bv k)):Sl w 1 (.slice (some ⟨b,0,none⟩) 32 32) 32 (bv k):=by
 have:=AEz hk h
 rwa [hk.1] at this
theorem AE4 {w:World} {v:Value} {ds:List DD} {i:Nat} (hi:i≤ds.length) (h:Sl w 1 v (32*i) (bv (fl ds i))):Sl w 1 v (fl ds i).length (bv (fl ds i)):=by rw[AE0 hi];exact h
theorem ACz {w:World} {d:List Nat} (hd:Dg d):Calls Tryz.prog 34 #[AO d] w fun e w'=>∃v,e=.returned v∧(Own w' 5 1 v 32 (bv d)∧Fresh w w' v):=Mb d hd.1 w
theorem ABb (ds:List DD):(ds.flatMap Ic).all Value.oneCell'=true:=by
 rw[List.all_eq_true]
 intro v hv
 obtain⟨d,_,hd⟩:=List.mem_flatMap.1 hv
 exact IK _ _ hd
theorem AIy {a b:List Nat} (h:a=b):Ending.returned (AO a)=Ending.returned (AO b):=by rw[h]
theorem EG (w:World):CallsD Tryz.prog 69 #[] .returning w fun e u' w'=>e=.returned (.tuple #[])∧u'=.returning∧w'=w:=by
 refine callsD_of_wpS Tryz.func69 rfl fun c₀ cs hu=>?_
 apply wpS_region
 simp[wpOpsS,go_sem,recoverD,hu,Tryz.ntmps69]
 cases c₀
 simp_all [bodyPostS,results,Tryz.results69]
theorem AC0 (joint:Int) (ds:List DD) (ao:Option Addr) (cap:Nat) (w:World) (hr:RdD w (.slice ao ds.length cap) ds) (hl:ds.length≤1000) :
   Calls Tryz.prog 55 #[.int .i64 joint,.slice ao ds.length cap] w fun e w'=>e=.returned (AO (Tx (decide (joint=1)) (ds.map DD.x)))∧w.grownBy w' none:=by
 obtain⟨dm,hdm⟩:∃dm:Nat,dm=if decide (joint=1)=true then 282 else 281:=⟨_,rfl⟩
 have hdl:dm<1000:=by rw[hdm];split<;>decide
 refine BF Tryz.func55 rfl Tryz.ntmps55 rfl fun a0 sv0=>?_
 have HG:=World.grownBy.refl w none
 replace sv0:Sv 24 [] [(0,.int .i64 joint),(1,.slice ao ds.length cap)] a0:=sv0
 refine ALa fun K1 k1=>?_
 refine ALZ ?_
 refine Az (T:=23) (Z:=(bv AM)) sv0 rfl rfl rfl (fun a w=>by kernel_rfl) fun a2 w2 Jj He g2 z2 BC sv2=>?_
 have JJ:=Bk HG He
 replace hr:=hr.kn g2
 replace HG:=AA HG g2
 refine AE ?_
 refine k1 _ _ ?_
 refine ALa fun K3 k3=>?_
 refine ALZ ?_
 refine AX (v:=.int .u64 281) sv2 r6 fun a4 sv4=>?_
 refine AE ?_
 refine k3 _ _ ?_
 refine ALa fun K5 k5=>?_
 suffices MG6:∀(a':Act) (w':World),Sv 24 [] [(5,.int .u64 ((dm:Int))),(4,pt Jj),(0,.int .i64 joint),(1,.slice ao ds.length cap)] a'→w.grownBy w' none→w'.heap[Jj]?=some (.cells ((bv AM)).toArray 23 (0,0))→(RdD w' (.slice ao ds.length cap) ds)→K5 a' w' by
   by_cases hj:joint=1
   · obtain rfl:dm=282:=by rw[hdm,decide_eq_true hj];rfl
     refine ALa fun K7 k7=>?_
     refine ALZ ?_
     refine AH sv4 2 [(9,.int .i64 joint),(10,.bool true)]
      ⟨ym r5,Cm r6 (fun _=>Bd (by simpa using hj)),ALg⟩ fun a8 w8 g8 sv8=>?_
     refine AE ?_
     refine k7 _ _ ?_
     refine Av sv8 rfl rfl ?_
     refine ALZ ?_
     refine AX (v:=.int .u64 282) sv8 r6 fun a9 sv9=>?_
     refine AE ?_
     replace BC:=AC g8 BC
     replace hr:=hr.kn g8
     replace HG:=AA HG g8
     have svm:Sv 24 [] [(5,_),(4,_),(0,_),(1,_)] a9:=⟨sv9.1,sv9.2.1,sv9.2.2.1,sv9.2.2.2.2.2.1,sv9.2.2.2.2.2.2.1,sv9.2.2.2.2.2.2.2.1,ALg⟩
     exact MG6 _ _ svm HG BC hr
   · obtain rfl:dm=281:=by rw[hdm,decide_eq_false hj];rfl
     refine ALa fun K10 k10=>?_
     refine ALZ ?_
     refine AH sv4 2 [(9,.int .i64 joint),(10,.bool false)]
      ⟨ym r5,Cm r6 (fun _=>Bd (by simpa using hj)),ALg⟩ fun a11 w11 g11 B7=>?_
     refine AE ?_
     refine k10 _ _ ?_
     refine A1 B7 rfl rfl ?_
     refine ALe ?_
     replace BC:=AC g11 BC
     replace hr:=hr.kn g11
     replace HG:=AA HG g11
     have svm:Sv 24 [] [(5,_),(4,_),(0,_),(1,_)] a11:=⟨B7.1,B7.2.1,B7.2.2.2.2.1,B7.2.2.2.2.2.1,B7.2.2.2.2.2.2.1,B7.2.2.2.2.2.2.2.1,ALg⟩
     exact MG6 _ _ svm HG BC hr
 clear BC
 clear hr
 clear HG
 intro a6 w6 sv6 HG BC hr
 refine k5 _ _ ?_
 refine ALa fun K12 k12=>?_
 refine ALZ ?_
 refine AX (v:=.slice none 0 0) sv6 r6 fun a13 Cl=>?_
 refine AE ?_
 refine k12 _ _ ?_
 refine ALa fun K14 k14=>?_
 refine ALa fun K15 k15=>?_
 refine ALZ ?_
 refine AH Cl 3 [(11,.slice ao ds.length cap),(12,.int .i64 ((ds.length:Nat))),(13,.int .i64 0)]
   ⟨ym r5,BI (Tryz.underlying28) rfl rfl trivial (oy rfl rfl) (fun _=>rfl),FA (.inl rfl) rfl trivial (fun _=>rfl),ALg⟩ fun a16 w16 g16 Ch=>?_
 refine AE ?_
 refine k15 _ _ ?_
 refine A8 fun Q17 x17 y17 rt17 o17=>?_
 replace BC:=AC g16 BC
 replace hr:=hr.kn g16
 replace HG:=AA HG g16
 have ob:=Own.nil w16 5 1
 have Da:=Hr Jj
 have ap_hr_ob:=IC (BM (.slice ao ds.length cap))
 have lo_ob:=XT w
 refine wp_loop (fun a w'=>∃(i:Nat) (bo:Option Addr) (bc:Nat),(i≤ds.length)∧Sv 24 [] [(13,.int .i64 ((i:Int))),(6,.slice bo (32*i) bc),(11,.slice ao ds.length cap),(12,.int .i64 ((ds.length:Nat))),(5,.int .u64 ((dm:Int))),(4,pt Jj),(0,.int .i64 joint),(1,.slice ao ds.length cap)] a∧w.grownBy w' none∧w'.heap[Jj]?=some (.cells ((bv AM)).toArray 23 (0,0))∧RdD w' (.slice ao ds.length cap) ds∧Own w' 5 1 (.slice bo (32*i) bc) ((32*i)) (bv ((fl ds i)))∧(∀k,BM (.slice bo (32*i) bc) k→k≠Jj)∧(∀k,BM (.slice ao ds.length cap) k→¬BM (.slice bo (32*i) bc) k)∧(∀k,BM (.slice bo (32*i) bc) k→w.heap.size≤k)) (fun a _=>(ds.length-intOf (a.tmps.getD 13 undef)).toNat) ⟨0,none,0,Nat.zero_le _,⟨Ch.1,Ch.2.1,Ch.2.2.2.2.1,Ch.2.2.2.2.2.1,Ch.2.2.1,Ch.2.2.2.1,Ch.2.2.2.2.2.2.1,Ch.2.2.2.2.2.2.2.1,(AG Ch).1,(AG Ch).2.1,ALg⟩,HG,BC,hr,ob,Da,ap_hr_ob,lo_ob⟩ fun a18 w18 hI18=>?_
 clear BC
 clear hr
 clear ob
 clear HG
 obtain⟨i,bo,bc,hin,CD,HG,BC,hr,ob,Da,ap_hr_ob,lo_ob⟩:=hI18
 refine ALa fun K19 k19=>?_
 by_cases hi:i<ds.length
 · obtain⟨x,hx_x⟩:∃zx,ds[i]'hi=zx:=⟨_,rfl⟩
   have hfs:=VM hi hx_x
   refine ALZ ?_
   refine AH CD 1 [(14,.bool true)]
     ⟨GC r7 (fun _=>BE (by simp;omega)),ALg⟩ fun a20 w20 g20 DR=>?_
   refine AE ?_
   refine k19 _ _ ?_
   refine ALa fun K21 k21=>?_
   refine Av DR rfl rfl ?_
   refine ALe ?_
   refine k21 _ _ ?_
   refine ALa fun K22 k22=>?_
   refine A8 fun Q23 x23 y23 rt23 o23=>?_
   refine ALa fun K24 k24=>?_
   refine ALZ ?_
   replace hr:=hr.kn g20
   refine AH DR 2 [(15,pk ((bO ao)) (oO ao+i*32)),(16,AO x.x)]
     ⟨BA rq8 (fun w=>B8 Tryz.underlying28 (by kernel_rfl) (hr.1) (by omega) (rfl) w),Bc r6 (fun _ g=>Ab (BV x.x x.h.1) (by have:=CT (hr.kn g).1 DW hi (by decide);rw[hx_x] at this;exact this)),ALg⟩ fun a25 w25 g25 Co=>?_
   replace BC:=AC g25 (AC g20 BC)
   replace hr:=hr.kn g25
   replace ob:=(ob.kn g20).kn g25
   replace HG:=AA (AA HG g20) g25
   refine Az (T:=23) (Z:=(bv AM)) Co rfl rfl rfl (fun a w=>by kernel_rfl) fun a26 w26 AHu NT g26 z26 AAb Cp=>?_
   have SE:=Ax BC NT
   have AE5:=Bk HG NT
   have YN:=Ay (hr.lt) NT
   have YO:=Ay (Own.ltS ob) NT
   refine As Cp r7 (BV x.x x.h.1) AAb (En x.h) fun w27 g27 h27=>?_
   refine AE ?_
   refine k24 _ _ ?_
   refine ALZ ?_
   refine AH Cp 2 [(17,.slice bo (32*i) bc),(18,.slice ((some ⟨AHu,0,none⟩)) 32 32)]
     ⟨ym r5,Hs (l:=none) (u:=none) rfl rfl trivial (oy rfl rfl) trivial trivial (LL AHu 0) (fun _=>rfl),ALg⟩ fun a28 w28 g28 Dp=>?_
   replace BC:=AC g28 (Ac g27 (AC g26 BC) (Ne.symm SE))
   replace AAb:=AC g28 h27
   replace hr:=((hr.kn g26).offR g27 (AR YN)).kn g28
   replace ob:=((ob.kn g26).offR g27 (AR YO)).kn g28
   replace HG:=AA (AD (AA HG g26) g27 AE5) g28
   refine GV DF Dp rfl rfl rfl rfl rfl rfl rfl rfl ob (AE3 x.h (Am AAb)) (Dj _) (by omega) fun a29 ao29 cap29 w29 owx29 Bh CU=>?_
   have SI:=GD Bh.2 Da BC
   have YP:=Fo Bh.2 ap_hr_ob (hr.lt)
   have Qj:=Oz Bh.2 lo_ob HG
   replace BC:=AF Bh.1 BC (fun e=>Da _ e.symm rfl)
   replace hr:=hr.offR Bh.1 (fun k hk e=>ap_hr_ob k hk (e))
   replace HG:=Br HG Bh.1 fun k e=>lo_ob k (e)
   rw[←Ck,←hfs] at owx29
   refine AX (v:=.slice ao29 (32*i+32) cap29) CU r6 fun a30 Ds=>?_
   refine AE ?_
   refine y23 _ _ ?_
   refine k22 _ _ ?_
   refine ALZ ?_
   refine AH Ds 1 [(20,.int .i64 (((i+1:Nat):Int)))]
     ⟨Cm r6 (fun _=>DB (by rw[BG (by omega) (by omega)];omega)),ALg⟩ fun a31 w31 g31 Hv=>?_
   refine AH (Hv.dl [13]) 1 [(13,.int .i64 (((i+1:Nat):Int)))]
     ⟨ym r5,ALg⟩ fun a32 w32 g32 Ci=>?_
   have AG6:=AA g31 g32
   refine AE ?_
   replace BC:=AC AG6 BC
   replace hr:=hr.kn AG6
   replace owx29:=owx29.kn AG6
   replace HG:=AA HG AG6
   exact⟨⟨i+1,ao29,cap29,by omega,⟨Ci.1,Ci.2.1,Ci.2.2.1,Ci.2.2.2.2.1,(AG Ci).2.2.2.2.1,(AG Ci).2.2.2.2.2.1,(AG Ci).2.2.2.2.2.2.1,(AG Ci).2.2.2.2.2.2.2.1,(AG (AG Ci)).1,(AG (AG Ci)).2.1,ALg⟩,HG,BC,hr,owx29,SI,YP,Qj⟩,by rw[show _=_ from Ci.2.2.1,show _=_ from CD.2.2.1];simp[intOf];omega⟩
 · have hall:=AE2 (ds:=ds) (i:=i) (by omega)
   refine ALZ ?_
   refine AH CD 1 [(14,.bool false)]
     ⟨GC r7 (fun _=>BE (by simp;omega)),ALg⟩ fun a33 w33 g33 Fb=>?_
   refine AE ?_
   refine k19 _ _ ?_
   refine ALa fun K34 k34=>?_
   refine A1 Fb rfl rfl ?_
   refine wp_exit ?_
   repeat refine Bo ?_
   refine x17 _ _ ?_
   refine k14 _ _ ?_
   refine ALa fun K35 k35=>?_
   refine ALZ ?_
   refine AH Fb 2 [(21,.int .u64 ((dm:Int))),(22,.slice bo (32*i) bc)]
     ⟨ym r5,ym r5,ALg⟩ fun a36 w36 g36 FG=>?_
   have NE:=AA g33 g36
   replace ob:=ob.kn NE
   refine BB FG Tryz.func101 (by kernel_rfl) r6 (Jq (AHt (dom:=dm) hdl rfl (AE1 ds i) (by rw[AE0 (by omega)];omega) (AE4 (by omega) (Sl.of_own ob)))) fun a37 v37 w37 hR37 Gx=>?_
   obtain⟨rfl,g37⟩:=hR37
   replace BC:=AC g37 (AC NE BC)
   refine As Gx r7 (BV ((OZ (BitVec.ofNat 64 dm) (fl ds i))) (KW _ _).1) BC (En (KW _ _)) fun w38 g38 h38=>?_
   replace ob:=(ob.kn g37).offR g38 (AR Da)
   replace HG:=AD (AA (AA HG NE) g37) g38 JJ
   replace BC:=h38
   refine AE ?_
   refine k35 _ _ ?_
   refine ALd ?_
   repeat refine AJ ?_
   refine Ar (fn:=Tryz.f55) Gx (Dc (p:=4) Tryz.results55 Gx rfl rfl (BV ((OZ (BitVec.ofNat 64 dm) (fl ds i))) (KW _ _).1) BC) ?_
   exact⟨AIy (by rw[hall,hdm];rfl),HG⟩
theorem VN (joint:Int) (ds:List DD) (ao:Option Addr) (cap:Nat) (w:World) (hr:RdD w (.slice ao ds.length cap) ds) (hl:ds.length≤1000) (hj:joint=0∨joint=1) :
   Calls Tryz.prog 45 #[.int .i64 joint,.slice ao ds.length cap] w fun e w'=>e=.returned (AO (Tx (decide (joint=1)) (ds.map DD.x)))∧w.grownBy w' none:=by
 refine BF Tryz.func45 rfl Tryz.ntmps45 rfl fun a0 sv0=>?_
 have HG:=World.grownBy.refl w none
 replace sv0:Sv 27 [] [(0,.int .i64 joint),(1,.slice ao ds.length cap)] a0:=sv0
 refine ALa fun K1 k1=>?_
 refine ALZ ?_
 refine Az (T:=23) (Z:=(bv AM)) sv0 rfl rfl rfl (fun a w=>by kernel_rfl) fun a2 w2 Jj He g2 z2 BC sv2=>?_
 have JJ:=Bk HG He
 replace hr:=hr.kn g2
 replace HG:=AA HG g2
 refine AE ?_
 refine k1 _ _ ?_
 refine ALa fun K3 k3=>?_
 refine ALZ ?_
 refine U7 (e:=5) sv2 rfl rfl rfl rfl (fun W=>by kernel_rfl) fun a4 w4 Mp Hg g4 z4 JI sv4=>?_
 have VO:=Ax BC Hg
 have NQ:=Bk HG Hg
 have AAc:=Ay (hr.lt) Hg
 replace BC:=AC g4 BC
 replace hr:=hr.kn g4
 replace HG:=AA HG g4
 have ob:=Qc (sz:=1) JI
 have Da:∀k,BM (.slice ((some ⟨Mp,0,none⟩)) 0 0) k→k≠Jj:=fun k hk e=>VO ((Option.some.inj hk).trans e)
 have ap_hr_ob:∀k,BM (.slice ao ds.length cap) k→¬BM (.slice ((some ⟨Mp,0,none⟩)) 0 0) k:=fun k hk e=>AAc k hk (Option.some.inj e).symm
 have lo_ob:∀k,BM (.slice ((some ⟨Mp,0,none⟩)) 0 0) k→w.heap.size≤k:=fun k hk=>(Option.some.inj hk)▸NQ
 clear JI
 refine AX (v:=.slice ((some ⟨Mp,0,none⟩)) 0 0) sv4 r6 fun a5 sv5=>?_
 refine AE ?_
 refine k3 _ _ ?_
 refine ALa fun K6 k6=>?_
 refine ALa fun K7 k7=>?_
 refine ALZ ?_
 refine AX (v:=.int .i64 0) sv5 r6 fun a8 sv8=>?_
 refine AE ?_
 refine k7 _ _ ?_
 refine A8 fun Q9 x9 y9 rt9 o9=>?_
 refine wp_loop (fun a w'=>∃(i:Nat) (bo:Option Addr) (bc:Nat),(i≤ds.length)∧Sv 27 [] [(6,.int .i64 ((i:Int))),(5,.slice bo (32*i) bc),(7,.slice ((some ⟨Mp,0,none⟩)) 0 0),(4,pt Jj),(0,.int .i64 joint),(1,.slice ao ds.length cap)] a∧w.grownBy w' none∧w'.heap[Jj]?=some (.cells ((bv AM)).toArray 23 (0,0))∧RdD w' (.slice ao ds.length cap) ds∧Own w' 5 1 (.slice bo (32*i) bc) ((32*i)) (bv ((fl ds i)))∧(∀k,BM (.slice bo (32*i) bc) k→k≠Jj)∧(∀k,BM (.slice ao ds.length cap) k→¬BM (.slice bo (32*i) bc) k)∧(∀k,BM (.slice bo (32*i) bc) k→w.heap.size≤k)) (fun a _=>(ds.length-intOf (a.tmps.getD 6 undef)).toNat) ⟨0,(some ⟨Mp,0,none⟩),0,Nat.zero_le _,⟨sv8.1,sv8.2.1,sv8.2.2.1,sv8.2.2.2.1,sv8.2.2.2.2.1,sv8.2.2.2.2.2.1,sv8.2.2.2.2.2.2.1,sv8.2.2.2.2.2.2.2.1,ALg⟩,HG,BC,hr,ob,Da,ap_hr_ob,lo_ob⟩ fun a10 w10 hI10=>?_
 clear BC
 clear hr
 clear ob
 clear HG
 obtain⟨i,bo,bc,hin,Bj,HG,BC,hr,ob,Da,ap_hr_ob,lo_ob⟩:=hI10
 refine ALa fun K11 k11=>?_
 refine ALa fun K12 k12=>?_
 by_cases hi:i<ds.length
 · obtain⟨x,hx_x⟩:∃zx,ds[i]'hi=zx:=⟨_,rfl⟩
   have hfs:=VM hi hx_x
   refine ALZ ?_
   refine AH Bj 4 [(8,.int .i64 ((i:Int))),(9,.slice ao ds.length cap),(10,.int .i64 ((ds.length:Nat))),(11,.bool true)]
     ⟨ym r5,ym r5,BI (Tryz.underlying28) rfl rfl trivial (oy rfl rfl) (fun _=>rfl),GC r7 (fun _=>BE (by simp;omega)),ALg⟩ fun a13 w13 g13 Cl=>?_
   refine AE ?_
   refine k12 _ _ ?_
   refine Av Cl rfl rfl ?_
   refine ALe ?_
   refine k11 _ _ ?_
   refine ALa fun K14 k14=>?_
   refine A8 fun Q15 x15 y15 rt15 o15=>?_
   refine ALZ ?_
   replace hr:=hr.kn g13
   refine AH Cl 5 [(14,.slice bo (32*i) bc),(15,.slice ao ds.length cap),(16,.int .i64 ((i:Int))),(17,pk ((bO ao)) (oO ao+i*32)),(18,AO x.x)]
     ⟨ym r5,ym r5,ym r5,BA rq8 (fun w=>B8 Tryz.underlying28 (by kernel_rfl) (hr.1) (by omega) (rfl) w),Bc r6 (fun _ g=>Ab (BV x.x x.h.1) (by have:=CT (hr.kn g).1 DW hi (by decide);rw[hx_x] at this;exact this)),ALg⟩ fun a16 w16 g16 Ch=>?_
   refine BB Ch Tryz.func34 (by kernel_rfl) r6 (ACz x.h) fun a17 v17 w17 hR17 Dq=>?_
   obtain⟨ao17,cap17,rfl,_⟩:=(Sl.of_own hR17.1).shape
   obtain⟨by_,fr17⟩:=hR17
   replace fr17:=Cq fr17
   have g17:=fr17.1
   replace fr17:=fr17.2
   replace BC:=AC g17 (AC g16 (AC g13 BC))
   replace hr:=(hr.kn g16).kn g17
   replace ob:=((ob.kn g13).kn g16).kn g17
   replace HG:=AA (AA (AA HG g13) g16) g17
   refine GV DF Dq rfl rfl rfl rfl rfl rfl rfl rfl ob (Sl.of_own by_) (Dj _) (by omega) fun a18 ao18 cap18 w18 owx18 Bh CD=>?_
   have SL:=GD Bh.2 Da BC
   have YQ:=Fo Bh.2 ap_hr_ob (hr.lt)
   have AE6:=Oz Bh.2 lo_ob HG
   replace BC:=AF Bh.1 BC (fun e=>Da _ e.symm rfl)
   replace hr:=hr.offR Bh.1 (fun k hk e=>ap_hr_ob k hk (e))
   replace HG:=Br HG Bh.1 fun k e=>lo_ob k (e)
   rw[←Ck,←hfs] at owx18
   refine AX (v:=.slice ao18 (32*i+32) cap18) CD r6 fun a19 Cs=>?_
   have DR:Sv _ _ [_,_,_,_,_,_,_,_,_,_] _:=Cs.dl [20,19,14,15,16,17,18]
   refine AE ?_
   refine y15 _ _ ?_
   refine k14 _ _ ?_
   refine ALZ ?_
   refine AH DR 2 [(12,.int .i64 ((i:Int))),(13,.int .i64 (((i+1:Nat):Int)))]
     ⟨ym r5,Cm r6 (fun _=>DB (by rw[BG (by omega) (by omega)];omega)),ALg⟩ fun a21 w21 g21 Di=>?_
   refine AX (v:=.int .i64 (((i+1:Nat):Int))) Di r6 fun a22 Bl=>?_
   refine AE ?_
   replace BC:=AC g21 BC
   replace hr:=hr.kn g21
   replace owx18:=owx18.kn g21
   replace HG:=AA HG g21
   exact⟨⟨i+1,ao18,cap18,by omega,⟨Bl.1,Bl.2.1,Bl.2.2.1,Bl.2.2.2.2.2.1,(AG Bl).2.2.1,(AG Bl).2.2.2.1,(AG Bl).2.2.2.2.1,(AG Bl).2.2.2.2.2.1,ALg⟩,HG,BC,hr,owx18,SL,YQ,AE6⟩,by rw[show _=_ from Bl.2.2.1,show _=_ from Bj.2.2.1];simp[intOf];omega⟩
 · have hall:=AE2 (ds:=ds) (i:=i) (by omega)
   refine ALZ ?_
   refine AH Bj 4 [(8,.int .i64 ((i:Int))),(9,.slice ao ds.length cap),(10,.int .i64 ((ds.length:Nat))),(11,.bool false)]
     ⟨ym r5,ym r5,BI (Tryz.underlying28) rfl rfl trivial (oy rfl rfl) (fun _=>rfl),GC r7 (fun _=>BE (by simp;omega)),ALg⟩ fun a23 w23 g23 CS=>?_
   refine AE ?_
   refine k12 _ _ ?_
   refine A1 CS rfl rfl ?_
   refine wp_exit ?_
   repeat refine Bo ?_
   refine x9 _ _ ?_
   refine k6 _ _ ?_
   refine ALa fun K24 k24=>?_
   refine ALa fun K25 k25=>?_
   replace BC:=AC g23 BC
   replace ob:=ob.kn g23
   replace HG:=AA HG g23
   rcases hj with rfl|rfl
   · refine ALZ ?_
     refine AH CS 2 [(21,.int .i64 0),(22,.bool true)]
      ⟨ym r5,Cm r6 (fun _=>Bd rfl),ALg⟩ fun a26 w26 g26 Cp=>?_
     refine AE ?_
     refine k25 _ _ ?_
     refine Av Cp rfl rfl ?_
     refine ALa fun K27 k27=>?_
     refine ALZ ?_
     refine AH Cp 1 [(23,.slice bo (32*i) bc)]
      ⟨ym r5,ALg⟩ fun a28 w28 g28 Dp=>?_
     have KF:=AA g26 g28
     replace ob:=ob.kn KF
     refine BB Dp Tryz.func33 (by kernel_rfl) r6 (Jq (AAX (dom:=281) (by decide) rfl (AE1 ds i) (by rw[AE0 (by omega)];omega) (AE4 (by omega) (Sl.of_own ob)))) fun a29 v29 w29 hR29 CU=>?_
     obtain⟨rfl,g29⟩:=hR29
     replace BC:=AC g29 (AC KF BC)
     refine As CU r7 (BV ((OZ (BitVec.ofNat 64 281) (fl ds i))) (KW _ _).1) BC (En (KW _ _)) fun w30 g30 h30=>?_
     replace ob:=(ob.kn g29).offR g30 (AR Da)
     replace HG:=AD (AA (AA HG KF) g29) g30 JJ
     replace BC:=h30
     refine AE ?_
     refine k27 _ _ ?_
     refine ALd ?_
     repeat refine AJ ?_
     refine Ar (fn:=Tryz.f45) CU (Dc (p:=4) Tryz.results45 CU rfl rfl (BV ((OZ (BitVec.ofNat 64 281) (fl ds i))) (KW _ _).1) BC) ?_
     exact⟨AIy (by rw[hall];rfl),HG⟩
   · refine ALZ ?_
     refine AH CS 2 [(21,.int .i64 1),(22,.bool false)]
      ⟨ym r5,Cm r6 (fun _=>Bd rfl),ALg⟩ fun a31 w31 g31 Hv=>?_
     refine AE ?_
     refine k25 _ _ ?_
     refine A1 Hv rfl rfl ?_
     refine ALe ?_
     refine k24 _ _ ?_
     refine ALa fun K32 k32=>?_
     refine ALZ ?_
     refine AH Hv 1 [(25,.slice bo (32*i) bc)]
      ⟨ym r5,ALg⟩ fun a33 w33 g33 Fb=>?_
     have AIz:=AA g31 g33
     replace ob:=ob.kn AIz
     refine BB Fb Tryz.func33 (by kernel_rfl) r6 (Jq (AAX (dom:=282) (by decide) rfl (AE1 ds i) (by rw[AE0 (by omega)];omega) (AE4 (by omega) (Sl.of_own ob)))) fun a34 v34 w34 hR34 Hw=>?_
     obtain⟨rfl,g34⟩:=hR34
     replace BC:=AC g34 (AC AIz BC)
     refine As Hw r7 (BV ((OZ (BitVec.ofNat 64 282) (fl ds i))) (KW _ _).1) BC (En (KW _ _)) fun w35 g35 h35=>?_
     replace ob:=(ob.kn g34).offR g35 (AR Da)
     replace HG:=AD (AA (AA HG AIz) g34) g35 JJ
     replace BC:=h35
     refine AE ?_
     refine k32 _ _ ?_
     refine ALd ?_
     repeat refine AJ ?_
     refine Ar (fn:=Tryz.f45) Hw (Dc (p:=4) Tryz.results45 Hw rfl rfl (BV ((OZ (BitVec.ofNat 64 282) (fl ds i))) (KW _ _).1) BC) ?_
     exact⟨AIy (by rw[hall];rfl),HG⟩
theorem AE7  (w:World) :
  Calls Tryz.prog 52 #[.slice none 0 0] w fun e w'=>e=.returned (.slice none 0 0)∧w.grownBy w' none:=by
 refine BF Tryz.func52 rfl Tryz.ntmps52 rfl fun a0 sv0=>?_
 have HG:=World.grownBy.refl w none
 replace sv0:Sv 8 [] [(0,.slice none 0 0)] a0:=sv0
 refine ALa fun K1 k1=>?_
 refine ALZ ?_
 refine AX (v:=.slice none 0 0) sv0 r6 fun a2 sv2=>?_
 refine AE ?_
 refine k1 _ _ ?_
 refine ALa fun K3 k3=>?_
 refine ALa fun K4 k4=>?_
 refine ALZ ?_
 refine AH sv2 2 [(3,.slice none 0 0),(4,.bool true)]
  ⟨ym r5,Cm r6 (fun _=>Uk Tryz.underlying28 rfl),ALg⟩ fun a5 w5 g5 sv5=>?_
 refine AE ?_
 refine k4 _ _ ?_
 refine Av sv5 rfl rfl ?_
 refine ALa fun K6 k6=>?_
 refine ALZ ?_
 refine AX (v:=.slice none 0 0) sv5 r6 fun a7 sv7=>?_
 refine AE ?_
 refine k6 _ _ ?_
 replace HG:=AA HG g5
 refine ALd ?_
 repeat refine AJ ?_
 refine Ar (fn:=Tryz.f52) sv7 (A7 (p:=2) Tryz.results52 sv7 rfl rfl) ?_
 exact⟨rfl,HG⟩
theorem AC1 (ds:List DD) (hl:ds.length≤1000) (ad:Addr) (cap:Nat) (w:World) (hr:RdD w (.slice ((some ad)) ds.length cap) ds) :
  Calls Tryz.prog 52 #[.slice ((some ad)) ds.length cap] w fun e w'=>∃v,e=.returned v∧w.grownBy w' none∧(Sp.row w.heap.size 23 32 ds.length (ds.flatMap Ic)).on w' v:=by
 refine BF Tryz.func52 rfl Tryz.ntmps52 rfl fun a0 sv0=>?_
 have HG:=World.grownBy.refl w none
 replace sv0:Sv 8 [] [(0,.slice ((some ad)) ds.length cap)] a0:=sv0
 refine ALa fun K1 k1=>?_
 refine ALZ ?_
 refine AX (v:=.slice none 0 0) sv0 r6 fun a2 sv2=>?_
 refine AE ?_
 refine k1 _ _ ?_
 refine ALa fun K3 k3=>?_
 refine ALa fun K4 k4=>?_
 refine ALZ ?_
 refine AH sv2 2 [(3,.slice ((some ad)) ds.length cap),(4,.bool false)]
  ⟨ym r5,Cm r6 (fun _=>Uk Tryz.underlying28 rfl),ALg⟩ fun a5 w5 g5 sv5=>?_
 refine AE ?_
 refine k4 _ _ ?_
 refine A1 sv5 rfl rfl ?_
 refine ALe ?_
 refine k3 _ _ ?_
 refine ALa fun K6 k6=>?_
 refine ALZ ?_
 replace hr:=hr.kn g5
 replace HG:=AA HG g5
 refine Fl (sv5.st w5) 3 [(5,Sp.lit0 w5.heap.size 23),(6,Sp.is (.slice ((some ad)) ds.length cap)),(7,Sp.row w5.heap.size 23 32 ds.length (ds.flatMap Ic))] rfl (by kernel_rfl) (by kernel_rfl) (by kernel_rfl)
  ⟨Uo (t:=0) rfl trivial (Nat.le_refl _) (fun a w=>by kernel_rfl) (fun _ _ h=>h),ym r5,Up (news:=ds.flatMap Ic) dsT rfl rfl trivial rfl (fun _ _ h=>h) (oy rfl rfl) (fun _ g=>(hr.kn g).1) (ABb ds) (by omega) (Nat.le_refl _) (fun _ _ h=>h),ALg⟩ fun a7 w7 g7 st7=>?_
 obtain⟨hn7,hd7,e7_5,e7_6,e7_7,e7_3,e7_4,e7_2,e7_0,-⟩:=st7
 obtain⟨ao8,cap8,e7_7q,ow8,fr8⟩:=e7_7
 have AAC:=Gk HG fr8
 replace HG:=AA HG g7
 have sv7:Sv 8 [] [(3,_),(4,_),(2,_),(0,_),(7,_)] a7:=⟨hn7,hd7,e7_3,e7_4,e7_2,e7_0,e7_7q,ALg⟩
 refine AX (v:=.slice ao8 ds.length cap8) sv7 r6 fun a9 sv9=>?_
 refine AE ?_
 refine k6 _ _ ?_
 refine ALd ?_
 repeat refine AJ ?_
 refine Ar (fn:=Tryz.f52) sv9 (A7 (p:=2) Tryz.results52 sv9 rfl rfl) ?_
 exact⟨_,rfl,HG,_,_,rfl,ow8,AAC⟩
theorem AC2 {ds:List DD} {s:Value} {w:World} (hl:ds.length≤1000) (hr:RdD w s ds):Calls Tryz.prog 52 #[s] w fun e w'=>∃v,e=.returned v∧w.grownBy w' none∧(Sp.row w.heap.size 23 32 ds.length (ds.flatMap Ic)).on w' v:=by
 obtain⟨ao,cap,rfl⟩:=hr.shape
 cases ao with
 | some ad=>exact AC1 ds hl ad cap w hr
 | none =>
  have h0:ds.length=0∧cap=0:=by
   obtain⟨⟨_,ao',cap',e,h1,_,h3,_⟩,_⟩:=hr
   simp only[Value.slice.injEq,true_and] at e
   obtain⟨rfl,rfl⟩:=e
   have:=h3 rfl
   omega
  obtain⟨h1,rfl⟩:=h0
  obtain rfl:ds=[]:=List.eq_nil_of_length_eq_zero h1
  exact(AE7 w).mono fun e w' ⟨h1,h2⟩=>⟨_,h1,h2,none,0,rfl,Own.nil _ _ _,fun k hk=>by simp[Value.ownBlock] at hk⟩
theorem AI0 {ds:List DD} {s:Value} {w:World} (hl:ds.length≤1000) (hr:RdD w s ds):Calls Tryz.prog 52 #[s] w fun e w'=>∃v,e=.returned v∧(∃ao cap,v=.slice ao ds.length cap∧w.grownBy w' none∧Own w' 23 32 (.slice ao ds.length cap) ds.length (ds.flatMap Ic)∧∀k,BM (.slice ao ds.length cap) k→w.heap.size≤k):=
 (AC2 hl hr).mono fun e w' ⟨v,h1,h2,ao,cap,h3,h4,h5⟩=>⟨v,h1,ao,cap,h3,h2,h4,h5⟩
theorem Pi {w:World} {ds:List DD} {ao:Option Addr} {cap:Nat} {joint addr:Int} {b:Bool} (hr:RdD w (.slice ao ds.length cap) ds) (hb:hd (ds.map DD.x) joint addr=b):Calls Tryz.prog 50 #[.slice ao ds.length cap,.int .i64 joint,.int .i64 addr] w fun e w'=>e=.returned (.bool b)∧w.grownBy w' none:=hb▸AAU ds ao cap joint addr w hr
theorem AG7 {w:World} {ds:List DD} {ao:Option Addr} {cap:Nat} {joint addr:Int} {b:Bool} (hr:RdD w (.slice ao ds.length cap) ds) (hb:hd (ds.map DD.x) joint addr=b):Calls Tryz.prog 41 #[.slice ao ds.length cap,.int .i64 joint,.int .i64 addr] w fun e w'=>e=.returned (.bool b)∧w.grownBy w' none:=hb▸AAV ds ao cap joint addr w hr
theorem ABc {own:List (List Nat)} {joint addr:Int} (h:hd own joint addr=true):(0≤addr∧addr<17179869184)∧(joint=0∨joint=1)∧own.length≤16∧ZQ own=true:=by
 unfold hd at h
 simp only[Bool.and_eq_true,Bool.or_eq_true,decide_eq_true_eq] at h
 exact⟨QR h.1.1.1,h.1.1.2,h.1.2,h.2⟩
theorem AG8 {s:Sd} (h:hd s.own s.joint s.addr=false):Gi s=false:=by unfold Gi;rw[h];rfl
theorem AC3 {s:Sd} (h:64<s.body.length):Gi s=false:=by
 have:decide (s.body.length≤64)=false:=decide_eq_false (by omega)
 unfold Gi;rw[this];simp
theorem Pj {s:Sd} (h1:hd s.own s.joint s.addr=true) (h2:s.body.length≤64) {b:Bool} (h3:(if s.joint=1 then decide (s.wr.length=s.own.length) else decide (s.wr.length=0))=b):Gi s=b:=by
 unfold Gi
 rw[h1,decide_eq_true h2,←h3]
 split<;>rfl
theorem AG9 (a joint:Int) (own wr:List DD) (ao wo bo:Option Addr) (ac wc bc:Nat) (body tg:List Nat) (htg:Dg tg) (w:World) (ho:RdD w (.slice ao own.length ac) own) (hw:RdD w (.slice wo wr.length wc) wr) (hb:SlB w 1 (.slice bo body.length bc) body.length (bv body)) :
   Calls Tryz.prog 27 #[Bm a (.slice ao own.length ac) joint (.slice wo wr.length wc) (.slice bo body.length bc) tg] w fun e w'=>e=.returned (.bool (Gi ⟨a,own.map DD.x,joint,wr.map DD.x,body,tg⟩))∧w.grownBy w' none:=by
 refine Eu Tryz.func27 rfl Tryz.ntmps27 rfl fun a0 sv0=>?_
 have HG:=World.grownBy.refl w none
 replace sv0:Sv 31 [] [(0,Bm a (.slice ao own.length ac) joint (.slice wo wr.length wc) (.slice bo body.length bc) tg)] a0:=sv0
 refine ALa fun K1 k1=>?_
 refine ALZ ?_
 refine BZ sv0 r6 (Cy _ _ htg (.slice ao own.length ac) (.slice wo wr.length wc) (.slice bo body.length bc) rfl rfl rfl) fun a2 w2 CP GZ g2 z2 Ad sv2=>?_
 replace ho:=ho.kn g2
 replace HG:=AA HG g2
 refine AX (v:=.bool false) sv2 r6 fun a3 sv3=>?_
 refine AE ?_
 refine k1 _ _ ?_
 refine ALa fun K4 k4=>?_
 refine ALZ ?_
 refine Fe sv3 rfl (dd:={ target:=.fn (.func 69) #[],args:=#[] }) rfl (by simp[execOp,resolve,Deferred.ofValue];try rfl) fun a5 sv5=>?_
 refine AE ?_
 refine k4 _ _ ?_
 refine ALa fun K6 k6=>?_
 refine ALa fun K7 k7=>?_
 rcases(show hd (own.map DD.x) joint a=false∨(hd (own.map DD.x) joint a=true∧64<body.length)∨(hd (own.map DD.x) joint a=true∧body.length≤64) by cases hd (own.map DD.x) joint a<;>simp<;>omega) with hh|⟨hh,hbl⟩|⟨hh,hbl⟩
 · refine ALZ ?_
   refine AH sv5 14 [(3,pk CP 1),(4,.slice ao own.length ac),(5,pk CP 2),(6,.int .i64 joint),(7,pt CP),(8,.int .i64 a),(9,.bool false),(10,.bool true),(11,.bool true),(12,undef),(13,undef),(14,undef),(15,undef),(16,.bool true)]
     ⟨yf r6 (fun _=>by kernel_rfl),yp (i:=1) r6 (Hz (.slice ao own.length ac) rfl) Ad rfl rfl,yf r6 (fun _=>by kernel_rfl),yp (i:=2) r6 (D9 joint) Ad rfl rfl,yf r6 (fun _=>by kernel_rfl),yp (i:=0) r6 (E4 a) Ad rfl rfl,Ae [.slice ao own.length ac,.int .i64 joint,.int .i64 a] Tryz.func50 (by kernel_rfl) rq4 ⟨(oy rfl rfl),(oy rfl rfl),(oy rfl rfl),ALg⟩ (Au fun W g=>Pi (ho.kn g) hh),Cr r6 (fun _=>Ba),ym r5,AS r6,AS r6,AS r6,AS r6,BQ r7,ALg⟩ fun a8 w8 g8 sv8=>?_
   refine AE ?_
   refine k7 _ _ ?_
   refine Av sv8 rfl rfl ?_
   refine ALa fun K9 k9=>?_
   refine ALZ ?_
   refine AX (v:=.bool false) sv8 r6 fun a10 Bj=>?_
   refine AE ?_
   refine k9 _ _ ?_
   replace Ad:=AC g8 Ad
   replace ho:=ho.kn g8
   replace HG:=AA HG g8
   refine ALd ?_
   repeat refine AJ ?_
   refine Bi (fn:=Tryz.f27) Bj (A7 (p:=2) Tryz.results27 Bj rfl rfl) (CH Tryz.func69 (by kernel_rfl) rfl _ _) (EG _) ?_
   exact⟨FE ((AG8 (s:=⟨a,own.map DD.x,joint,wr.map DD.x,body,tg⟩) hh).symm),HG⟩
 · refine ALZ ?_
   refine AH sv5 14 [(3,pk CP 1),(4,.slice ao own.length ac),(5,pk CP 2),(6,.int .i64 joint),(7,pt CP),(8,.int .i64 a),(9,.bool true),(10,.bool false),(11,.bool false),(12,pk CP 4),(13,.slice bo body.length bc),(14,.int .i64 ((body.length:Nat))),(15,.bool true),(16,.bool true)]
     ⟨yf r6 (fun _=>by kernel_rfl),yp (i:=1) r6 (Hz (.slice ao own.length ac) rfl) Ad rfl rfl,yf r6 (fun _=>by kernel_rfl),yp (i:=2) r6 (D9 joint) Ad rfl rfl,yf r6 (fun _=>by kernel_rfl),yp (i:=0) r6 (E4 a) Ad rfl rfl,Ae [.slice ao own.length ac,.int .i64 joint,.int .i64 a] Tryz.func50 (by kernel_rfl) rq4 ⟨(oy rfl rfl),(oy rfl rfl),(oy rfl rfl),ALg⟩ (Au fun W g=>Pi (ho.kn g) hh),Cr r6 (fun _=>Ba),ym r5,BH rq9 (fun _=>by kernel_rfl),A2 rq9 (fun _ g=>Ab (E8 (.slice bo body.length bc) rfl) (BK (L:=[[.int .i64 a],[.slice ao own.length ac],[.int .i64 joint],[.slice wo wr.length wc],[.slice bo body.length bc],bv tg]) (i:=4) (AF g Ad (by simp)) rfl rfl)),BI (Tryz.underlying29) rfl rfl (gy rfl rfl rfl) (oy rfl rfl) (fun _=>rfl),Ap rq9 (fun _=>C4 (by simp;omega)),Ag rq9,ALg⟩ fun a11 w11 g11 B7=>?_
   refine AE ?_
   refine k7 _ _ ?_
   refine Av B7 rfl rfl ?_
   refine ALa fun K12 k12=>?_
   refine ALZ ?_
   refine AX (v:=.bool false) B7 r6 fun a13 Cl=>?_
   refine AE ?_
   refine k12 _ _ ?_
   replace Ad:=AC g11 Ad
   replace ho:=ho.kn g11
   replace HG:=AA HG g11
   refine ALd ?_
   repeat refine AJ ?_
   refine Bi (fn:=Tryz.f27) Cl (A7 (p:=2) Tryz.results27 Cl rfl rfl) (CH Tryz.func69 (by kernel_rfl) rfl _ _) (EG _) ?_
   exact⟨FE ((AC3 (s:=⟨a,own.map DD.x,joint,wr.map DD.x,body,tg⟩) hbl).symm),HG⟩
 · refine ALZ ?_
   refine AH sv5 14 [(3,pk CP 1),(4,.slice ao own.length ac),(5,pk CP 2),(6,.int .i64 joint),(7,pt CP),(8,.int .i64 a),(9,.bool true),(10,.bool false),(11,.bool false),(12,pk CP 4),(13,.slice bo body.length bc),(14,.int .i64 ((body.length:Nat))),(15,.bool false),(16,.bool false)]
     ⟨yf r6 (fun _=>by kernel_rfl),yp (i:=1) r6 (Hz (.slice ao own.length ac) rfl) Ad rfl rfl,yf r6 (fun _=>by kernel_rfl),yp (i:=2) r6 (D9 joint) Ad rfl rfl,yf r6 (fun _=>by kernel_rfl),yp (i:=0) r6 (E4 a) Ad rfl rfl,Ae [.slice ao own.length ac,.int .i64 joint,.int .i64 a] Tryz.func50 (by kernel_rfl) rq4 ⟨(oy rfl rfl),(oy rfl rfl),(oy rfl rfl),ALg⟩ (Au fun W g=>Pi (ho.kn g) hh),Cr r6 (fun _=>Ba),ym r5,BH rq9 (fun _=>by kernel_rfl),A2 rq9 (fun _ g=>Ab (E8 (.slice bo body.length bc) rfl) (BK (L:=[[.int .i64 a],[.slice ao own.length ac],[.int .i64 joint],[.slice wo wr.length wc],[.slice bo body.length bc],bv tg]) (i:=4) (AF g Ad (by simp)) rfl rfl)),BI (Tryz.underlying29) rfl rfl (gy rfl rfl rfl) (oy rfl rfl) (fun _=>rfl),Ap rq9 (fun _=>C4 (by simp;omega)),Ag rq9,ALg⟩ fun a14 w14 g14 DQ=>?_
   refine AE ?_
   refine k7 _ _ ?_
   refine A1 DQ rfl rfl ?_
   refine ALe ?_
   refine k6 _ _ ?_
   refine ALa fun K15 k15=>?_
   refine ALa fun K16 k16=>?_
   replace Ad:=AC g14 Ad
   replace HG:=AA HG g14
   by_cases hj:joint=1
   · refine ALZ ?_
     refine AH DQ 3 [(17,pk CP 2),(18,.int .i64 joint),(19,.bool true)]
       ⟨yf r6 (fun _=>by kernel_rfl),yp (i:=2) r6 (D9 joint) Ad rfl rfl,Cm r6 (fun _=>Bd (by simpa using hj)),ALg⟩ fun a17 w17 g17 Dq=>?_
     refine AE ?_
     refine k16 _ _ ?_
     refine Av Dq rfl rfl ?_
     refine ALa fun K18 k18=>?_
     replace Ad:=AC g17 Ad
     replace HG:=AA HG g17
     by_cases hwl:wr.length=own.length
     · refine ALZ ?_
       refine AH Dq 7 [(20,pk CP 3),(21,.slice wo wr.length wc),(22,.int .i64 ((wr.length:Nat))),(23,pk CP 1),(24,.slice ao own.length ac),(25,.int .i64 ((own.length:Nat))),(26,.bool true)]
        ⟨yf r6 (fun _=>by kernel_rfl),yp (i:=3) r6 (Hz (.slice wo wr.length wc) rfl) Ad rfl rfl,BI (Tryz.underlying28) rfl rfl trivial (oy rfl rfl) (fun _=>rfl),yf r6 (fun _=>by kernel_rfl),yp (i:=1) r6 (Hz (.slice ao own.length ac) rfl) Ad rfl rfl,BI (Tryz.underlying28) rfl rfl trivial (oy rfl rfl) (fun _=>rfl),GC r7 (fun _=>Bd (Ny (by omega))),ALg⟩ fun a19 w19 g19 Cs=>?_
       refine AX (v:=.bool true) Cs r6 fun a20 DR=>?_
       have Di:Sv _ _ [_,_,_,_,_,_,_,_,_,_,_,_,_,_,_,_,_,_,_,_] _:=DR.dl [20,21,22,23,24,25,26]
       refine AE ?_
       refine k18 _ _ ?_
       replace Ad:=AC g19 Ad
       replace HG:=AA HG g19
       refine ALd ?_
       repeat refine AJ ?_
       refine Bi (fn:=Tryz.f27) Di (A7 (p:=2) Tryz.results27 Di rfl rfl) (CH Tryz.func69 (by kernel_rfl) rfl _ _) (EG _) ?_
       exact⟨FE ((Pj (s:=⟨a,own.map DD.x,joint,wr.map DD.x,body,tg⟩) hh hbl (b:=true) (by simp only[List.length_map];rw[if_pos hj];simp[hwl])).symm),HG⟩
     · refine ALZ ?_
       refine AH Dq 7 [(20,pk CP 3),(21,.slice wo wr.length wc),(22,.int .i64 ((wr.length:Nat))),(23,pk CP 1),(24,.slice ao own.length ac),(25,.int .i64 ((own.length:Nat))),(26,.bool false)]
        ⟨yf r6 (fun _=>by kernel_rfl),yp (i:=3) r6 (Hz (.slice wo wr.length wc) rfl) Ad rfl rfl,BI (Tryz.underlying28) rfl rfl trivial (oy rfl rfl) (fun _=>rfl),yf r6 (fun _=>by kernel_rfl),yp (i:=1) r6 (Hz (.slice ao own.length ac) rfl) Ad rfl rfl,BI (Tryz.underlying28) rfl rfl trivial (oy rfl rfl) (fun _=>rfl),GC r7 (fun _=>Bd (MG (by omega))),ALg⟩ fun a22 w22 g22 Bl=>?_
       refine AX (v:=.bool false) Bl r6 fun a23 CS=>?_
       have ER:Sv _ _ [_,_,_,_,_,_,_,_,_,_,_,_,_,_,_,_,_,_,_,_] _:=CS.dl [20,21,22,23,24,25,26]
       refine AE ?_
       refine k18 _ _ ?_
       replace Ad:=AC g22 Ad
       replace HG:=AA HG g22
       refine ALd ?_
       repeat refine AJ ?_
       refine Bi (fn:=Tryz.f27) ER (A7 (p:=2) Tryz.results27 ER rfl rfl) (CH Tryz.func69 (by kernel_rfl) rfl _ _) (EG _) ?_
       exact⟨FE ((Pj (s:=⟨a,own.map DD.x,joint,wr.map DD.x,body,tg⟩) hh hbl (b:=false) (by simp only[List.length_map];rw[if_pos hj];simp[hwl])).symm),HG⟩
   · refine ALZ ?_
     refine AH DQ 3 [(17,pk CP 2),(18,.int .i64 joint),(19,.bool false)]
       ⟨yf r6 (fun _=>by kernel_rfl),yp (i:=2) r6 (D9 joint) Ad rfl rfl,Cm r6 (fun _=>Bd (by simpa using hj)),ALg⟩ fun a25 w25 g25 Co=>?_
     refine AE ?_
     refine k16 _ _ ?_
     refine A1 Co rfl rfl ?_
     refine ALe ?_
     refine k15 _ _ ?_
     refine ALa fun K26 k26=>?_
     replace Ad:=AC g25 Ad
     replace HG:=AA HG g25
     by_cases hwl:wr.length=0
     · refine ALZ ?_
       refine AH Co 4 [(27,pk CP 3),(28,.slice wo wr.length wc),(29,.int .i64 ((wr.length:Nat))),(30,.bool true)]
        ⟨yf r6 (fun _=>by kernel_rfl),yp (i:=3) r6 (Hz (.slice wo wr.length wc) rfl) Ad rfl rfl,BI (Tryz.underlying28) rfl rfl trivial (oy rfl rfl) (fun _=>rfl),Cm r6 (fun _=>Bd (Ny (by omega))),ALg⟩ fun a27 w27 g27 GF=>?_
       refine AX (v:=.bool true) GF r6 fun a28 Dp=>?_
       have CU:Sv _ _ [_,_,_,_,_,_,_,_,_,_,_,_,_,_,_,_,_,_,_,_] _:=Dp.dl [27,28,29,30]
       refine AE ?_
       refine k26 _ _ ?_
       replace Ad:=AC g27 Ad
       replace HG:=AA HG g27
       refine ALd ?_
       repeat refine AJ ?_
       refine Bi (fn:=Tryz.f27) CU (A7 (p:=2) Tryz.results27 CU rfl rfl) (CH Tryz.func69 (by kernel_rfl) rfl _ _) (EG _) ?_
       exact⟨FE ((Pj (s:=⟨a,own.map DD.x,joint,wr.map DD.x,body,tg⟩) hh hbl (b:=true) (by simp only[List.length_map];rw[if_neg hj];simp[hwl])).symm),HG⟩
     · refine ALZ ?_
       refine AH Co 4 [(27,pk CP 3),(28,.slice wo wr.length wc),(29,.int .i64 ((wr.length:Nat))),(30,.bool false)]
        ⟨yf r6 (fun _=>by kernel_rfl),yp (i:=3) r6 (Hz (.slice wo wr.length wc) rfl) Ad rfl rfl,BI (Tryz.underlying28) rfl rfl trivial (oy rfl rfl) (fun _=>rfl),Cm r6 (fun _=>Bd (MG (by omega))),ALg⟩ fun a30 w30 g30 Ds=>?_
       refine AX (v:=.bool false) Ds r6 fun a31 Hv=>?_
       have Ci:Sv _ _ [_,_,_,_,_,_,_,_,_,_,_,_,_,_,_,_,_,_,_,_] _:=Hv.dl [27,28,29,30]
       refine AE ?_
       refine k26 _ _ ?_
       replace HG:=AA HG g30
       refine ALd ?_
       repeat refine AJ ?_
       refine Bi (fn:=Tryz.f27) Ci (A7 (p:=2) Tryz.results27 Ci rfl rfl) (CH Tryz.func69 (by kernel_rfl) rfl _ _) (EG _) ?_
       exact⟨FE ((Pj (s:=⟨a,own.map DD.x,joint,wr.map DD.x,body,tg⟩) hh hbl (b:=false) (by simp only[List.length_map];rw[if_neg hj];simp[hwl])).symm),HG⟩
end Go.Proofs.YtbfjfnbcmojpiaaGreat
