import Derived.Test.YtbfjfnbcmojpiaaGreatShV8
set_option linter.unusedSimpArgs false
set_option linter.unusedVariables false
set_option maxRecDepth 100000
set_option maxHeartbeats 4000000
namespace Go.Proofs.YtbfjfnbcmojpiaaGreat
open Go.RowKit Go.Shelf
theorem AGy {ms:List VK} {P:List VP} {o:List Nat} {T:List Nd} {z el:VK} {i:Nat} (h:ms.map VK.p=P) (hf:IT P o=true) (hi:pos P o=i) (him:i<ms.length) (hz:ms[i]=z) (ho:el.o=z.o) (hl:el.l=T):(ms.set i el).map VK.p=Jo P o T:=by
 rw[YO T hf,List.map_set,h,hi]
 have h1:=(KT hf).2
 rw[hi,←h,PR him,hz] at h1
 unfold VK.p
 rw[ho,hl,h1]
theorem YP {P:Program} {ops:Array Oper} {S:World→Prop} {K:Act→Prop} {o:Oper} {r:List Oper} {a:Act} {v:Value} (hg:o.guard=none) (T:TypeId) (ho:o.op=.build T #[]) (hr:∀w,(Instr.build T #[]).run P w=.ok v w) (h:F9 P ops S K r (a.put o.dst v)):F9 P ops S K (o::r) a:=
 XV hg (fun w _=>by simp only[execOp,ho,List.map_toArray,List.map_nil,Sem.run_bind,Sem.run_pure,Result.andThen_ok,hr w]) h
theorem YQ {v:VV} {o:List Nat} {a:Int} (h:Br a=false∨CH v.1=false):QT v o a=(OO,1):=by
 unfold QT
 rcases h with h|h<;>simp[h]
theorem ACr {v:VV} {o:List Nat} {a:Int} (h1:Br a=true) (h2:CH v.1=true) (h3:IT v.1 o=false):QT v o a=(OO,10):=by
 unfold QT
 simp[h1,h2,h3]
theorem AEu {v:VV} {o:List Nat} {a:Int} (h1:Br a=true) (h2:CH v.1=true) (h3:IT v.1 o=true) {i:Nat} (hi:pos v.1 o=i) {l:List Nd} (hl:tr v.1 i=l) {q:List Nd×Int} (hq:F8 l a=q) (h0:¬q.2=0):QT v o a=(OO,q.2):=by
 unfold QT
 simp[h1,h2,h3,hi,hl,hq,h0]
theorem ABZ {v:VV} {o:List Nat} {a:Int} (h1:Br a=true) (h2:CH v.1=true) (h3:IT v.1 o=true) {i:Nat} (hi:pos v.1 o=i) {l:List Nd} (hl:tr v.1 i=l) {q:List Nd×Int} (hq:F8 l a=q) (h0:q.2=0):QT v o a=((Jo v.1 o q.1,v.2.1,v.2.2),0):=by
 unfold QT
 simp[h1,h2,h3,hi,hl,hq,h0]
theorem AEv (ks:List VK) (ao:Option Addr) (cap:Nat) (sa po:List Nat) (hsa:Dg sa) (hpo:Dg po) (o:List Nat) (ho:Dg o) (a:Int) (w:World) (hr:RdK w (.slice ao ks.length cap) ks) :
   Calls Tryz.prog 31 #[Ao sa po (.slice ao ks.length cap),AP o,.int .i64 a] w fun e w'=>VRes w w' (QT (ks.map VK.p,sa,po) o a) (fun _=>False) e:=by
 refine Dv Tryz.func31 rfl Tryz.ntmps31 rfl fun a0 sv0=>?_
 have HG:=World.grownBy.refl w none
 replace sv0:Sv 54 [] [(0,Ao sa po (.slice ao ks.length cap)),(1,AP o),(2,.int .i64 a)] a0:=sv0
 refine ALo fun K1 k1=>?_
 refine ALn ?_
 refine Bn sv0 r6 (BX hsa hpo (.slice ao ks.length cap) rfl) fun a2 w2 Ia Ib g2 z2 Ab sv2=>?_
 have Va:=Bt HG Ib
 refine Bn sv2 r6 (CD o ho.1) fun a3 w3 D9 OM g3 z3 AZ sv3=>?_
 replace Ab:=AC g3 Ab
 replace hr:=(hr.kn g2).kn g3
 replace HG:=AA (AA HG g2) g3
 refine Av (T:=36) (Z:=([bv AQ,bv AQ,[.slice none 0 0]].flatten)) sv3 rfl rfl rfl (fun a w=>by kernel_rfl) fun a4 w4 QR Ic g4 z4 Bo sv4=>?_
 have Dx:=Ar Ab Ic
 have Ec:=Ar AZ Ic
 have Hf:=Bt HG Ic
 have FH:=A1 (hr.lt) Ic
 replace Ab:=AC g4 Ab
 replace AZ:=AC g4 AZ
 replace hr:=hr.kn g4
 replace HG:=AA HG g4
 refine Av (T:=38) (Z:=[.int .i64 0]) sv4 rfl rfl rfl (fun a w=>by kernel_rfl) fun a5 w5 ON GM g5 z5 BT sv5=>?_
 have Dc:=Ar Ab GM
 have Dy:=Ar AZ GM
 have Bk:=Ar Bo GM
 have GO:=Bt HG GM
 have Ed:=A1 (hr.lt) GM
 replace Ab:=AC g5 Ab
 replace AZ:=AC g5 AZ
 replace Bo:=AC g5 Bo
 replace hr:=hr.kn g5
 replace HG:=AA HG g5
 refine AE ?_
 refine k1 _ _ ?_
 refine ALo fun K6 k6=>?_
 refine ALn ?_
 refine Fu sv5 rfl rfl rfl rfl rfl rfl fun a7 sv7=>?_
 refine Er sv7 rfl (dd:={ target:=.fn (.func 74) #[pt QR,pt ON],args:=#[] }) rfl (by have e1:=sv7.ev (x:=.tmp 11) rfl rfl;simp[execOp,resolve,Deferred.ofValue,e1];try rfl) fun a8 sv8=>?_
 refine AE ?_
 refine k6 _ _ ?_
 refine ALo fun K9 k9=>?_
 refine ALo fun K10 k10=>?_
 rcases(show Br a=false∨(Br a=true∧CH (ks.map VK.p)=false)∨(Br a=true∧CH (ks.map VK.p)=true) by cases Br a<;>cases CH (ks.map VK.p)<;>simp) with ha|⟨ha,hv⟩|⟨ha,hv⟩
 · refine ALn ?_
   refine AI sv8 8 [(12,.int .i64 a),(13,.bool false),(14,.bool true),(15,.bool true),(16,undef),(17,undef),(18,undef),(19,.bool true)]
     ⟨ym r5,Ae [.int .i64 a] Tryz.func75 (by kernel_rfl) rq4 ⟨(oy rfl rfl),ALu⟩ (Au fun W g=>KE ha W),Cl r6 (fun _=>BJ),ym r5,AX r6,AX r6,AX r6,B8 r7,ALu⟩ fun a11 w11 g11 CV=>?_
   refine AE ?_
   refine k10 _ _ ?_
   refine Ay CV rfl rfl ?_
   refine ALo fun K12 k12=>?_
   refine ALn ?_
   replace Ab:=AC g11 Ab
   replace AZ:=AC g11 AZ
   replace Bo:=AC g11 Bo
   replace BT:=AC g11 BT
   refine AI CV 1 [(20,Ao AQ AQ (.slice none 0 0))]
     ⟨Ba (vs:=[]) rfl rfl trivial trivial (fun _=>bV0 _) (fun _=>rfl),ALu⟩ fun a13 w13 g13 EC=>?_
   refine As EC r7 (BX AO AO (.slice none 0 0) rfl) (AC g13 Bo) (by first|rfl|simp[Ag,AJ,AU,AO.1,AO.1]) fun w14 g14 h14=>?_
   replace BT:=Al g13 g14 BT Bk
   refine As EC r7 (EU 1) BT rfl fun w15 g15 h15=>?_
   replace Ab:=AY g15 (Al g13 g14 Ab (Ne.symm Dx)) (Ne.symm Dc)
   replace AZ:=AY g15 (Al g13 g14 AZ (Ne.symm Ec)) (Ne.symm Dy)
   replace Bo:=AY g15 h14 (Ne.symm Bk)
   replace hr:=(((hr.kn g11).kn g13).offR g14 (AV FH)).offR g15 (AV Ed)
   replace HG:=AD (AD (AA (AA HG g11) g13) g14 Hf) g15 GO
   replace BT:=h15
   refine AE ?_
   refine k12 _ _ ?_
   refine ALr ?_
   repeat refine AL ?_
   refine BU (fn:=Tryz.f31) EC (Bj (p:=6) (q:=7) Tryz.results31 EC rfl rfl rfl rfl (BX AO AO (.slice none 0 0) rfl) (EU 1) Bo BT) (Bz Tryz.func74 (by kernel_rfl) rfl _ _) (Fe _ _ _) ?_
   exact VRes.zero (YQ (.inl ha)) HG
 · refine ALn ?_
   refine AI sv8 8 [(12,.int .i64 a),(13,.bool true),(14,.bool false),(15,.bool false),(16,Ao sa po (.slice ao ks.length cap)),(17,.bool false),(18,.bool true),(19,.bool true)]
     ⟨ym r5,Ae [.int .i64 a] Tryz.func75 (by kernel_rfl) rq4 ⟨(oy rfl rfl),ALu⟩ (Au fun W g=>KE ha W),Cl r6 (fun _=>BJ),ym r5,Ap rq9 (fun _ g=>Ac (BX hsa hpo (.slice ao ks.length cap) rfl) (Af (AF g Ab (by simp)))),Bf [Ao sa po (.slice ao ks.length cap)] Tryz.func51 (by kernel_rfl) r7 ⟨(oy rfl rfl),ALu⟩ (Au fun W g=>Iy hsa hpo (hr.kn g) hv),Fc rfl rfl (gy rfl rfl rfl) (oy rfl rfl) (fun _=>BJ) (fun _=>rfl),Ax rq9,ALu⟩ fun a16 w16 g16 Cu=>?_
   refine AE ?_
   refine k10 _ _ ?_
   refine Ay Cu rfl rfl ?_
   refine ALo fun K17 k17=>?_
   refine ALn ?_
   replace Ab:=AC g16 Ab
   replace AZ:=AC g16 AZ
   replace Bo:=AC g16 Bo
   replace BT:=AC g16 BT
   refine AI Cu 1 [(20,Ao AQ AQ (.slice none 0 0))]
     ⟨Ba (vs:=[]) rfl rfl trivial trivial (fun _=>bV0 _) (fun _=>rfl),ALu⟩ fun a18 w18 g18 CU=>?_
   refine As CU r7 (BX AO AO (.slice none 0 0) rfl) (AC g18 Bo) (by first|rfl|simp[Ag,AJ,AU,AO.1,AO.1]) fun w19 g19 h19=>?_
   replace BT:=Al g18 g19 BT Bk
   refine As CU r7 (EU 1) BT rfl fun w20 g20 h20=>?_
   replace Ab:=AY g20 (Al g18 g19 Ab (Ne.symm Dx)) (Ne.symm Dc)
   replace AZ:=AY g20 (Al g18 g19 AZ (Ne.symm Ec)) (Ne.symm Dy)
   replace Bo:=AY g20 h19 (Ne.symm Bk)
   replace hr:=(((hr.kn g16).kn g18).offR g19 (AV FH)).offR g20 (AV Ed)
   replace HG:=AD (AD (AA (AA HG g16) g18) g19 Hf) g20 GO
   replace BT:=h20
   refine AE ?_
   refine k17 _ _ ?_
   refine ALr ?_
   repeat refine AL ?_
   refine BU (fn:=Tryz.f31) CU (Bj (p:=6) (q:=7) Tryz.results31 CU rfl rfl rfl rfl (BX AO AO (.slice none 0 0) rfl) (EU 1) Bo BT) (Bz Tryz.func74 (by kernel_rfl) rfl _ _) (Fe _ _ _) ?_
   exact VRes.zero (YQ (.inr hv)) HG
 · obtain⟨i,hi⟩:∃i,pos (ks.map VK.p) o=i:=⟨_,rfl⟩
   have h64:ks.length≤64:=by have:=(Et.1 hv).1;simpa using this
   refine ALn ?_
   refine AI sv8 8 [(12,.int .i64 a),(13,.bool true),(14,.bool false),(15,.bool false),(16,Ao sa po (.slice ao ks.length cap)),(17,.bool true),(18,.bool false),(19,.bool false)]
     ⟨ym r5,Ae [.int .i64 a] Tryz.func75 (by kernel_rfl) rq4 ⟨(oy rfl rfl),ALu⟩ (Au fun W g=>KE ha W),Cl r6 (fun _=>BJ),ym r5,Ap rq9 (fun _ g=>Ac (BX hsa hpo (.slice ao ks.length cap) rfl) (Af (AF g Ab (by simp)))),Bf [Ao sa po (.slice ao ks.length cap)] Tryz.func51 (by kernel_rfl) r7 ⟨(oy rfl rfl),ALu⟩ (Au fun W g=>Iy hsa hpo (hr.kn g) hv),Fc rfl rfl (gy rfl rfl rfl) (oy rfl rfl) (fun _=>BJ) (fun _=>rfl),Ax rq9,ALu⟩ fun a21 w21 g21 Da=>?_
   refine AE ?_
   refine k10 _ _ ?_
   refine Az Da rfl rfl ?_
   refine ALs ?_
   refine k9 _ _ ?_
   refine ALo fun K22 k22=>?_
   replace Ab:=AC g21 Ab
   replace AZ:=AC g21 AZ
   replace Bo:=AC g21 Bo
   replace BT:=AC g21 BT
   replace hr:=hr.kn g21
   replace HG:=AA HG g21
   cases hf:IT (ks.map VK.p) o
   · refine ALn ?_
     refine AI Da 6 [(22,Ao sa po (.slice ao ks.length cap)),(23,AP o),(24,.tuple #[.int .i64 ((i:Int)),.bool false]),(21,.tuple #[.int .i64 ((i:Int)),.bool false]),(25,.int .i64 ((i:Int))),(26,.bool false)]
       ⟨yl r6 (BX hsa hpo (.slice ao ks.length cap) rfl) Ab,yl r6 (CD o ho.1) AZ,Ae [Ao sa po (.slice ao ks.length cap),AP o] Tryz.func71 (by kernel_rfl) rq4 ⟨(oy rfl rfl),(oy rfl rfl),ALu⟩ (Au fun W g=>Rp hsa hpo ho (hr.kn g) hv hf hi),ym r5,BC rq4 (fun _ _ h=>⟨_,_,h,rfl,rfl⟩),BC rq4 (fun _ _ h=>⟨_,_,h,rfl,rfl⟩),ALu⟩ fun a23 w23 g23 Cz=>?_
     refine Aa (v:=.int .i64 ((i:Int))) Cz r6 fun a24 CI=>?_
     refine Aa (v:=.bool false) CI r6 fun a25 DY=>?_
     have Cj:Sv _ _ [_,_,_,_,_,_,_,_,_,_,_,_,_,_,_,_,_] _:=DY.dl [22,23,24,21,25,26,4]
     refine AE ?_
     refine k22 _ _ ?_
     refine ALo fun K27 k27=>?_
     refine ALo fun K28 k28=>?_
     refine ALn ?_
     refine AI Cj 2 [(27,.bool false),(28,.bool true)]
       ⟨ym r5,Cl r6 (fun _=>BJ),ALu⟩ fun a29 w29 g29 CR=>?_
     have Gu:=AA g23 g29
     refine AE ?_
     refine k28 _ _ ?_
     refine Ay CR rfl rfl ?_
     refine ALo fun K30 k30=>?_
     refine ALn ?_
     replace Ab:=AC Gu Ab
     replace AZ:=AC Gu AZ
     replace Bo:=AC Gu Bo
     replace BT:=AC Gu BT
     refine AI CR 1 [(29,Ao AQ AQ (.slice none 0 0))]
       ⟨Ba (vs:=[]) rfl rfl trivial trivial (fun _=>bV0 _) (fun _=>rfl),ALu⟩ fun a31 w31 g31 Hu=>?_
     refine As Hu r7 (BX AO AO (.slice none 0 0) rfl) (AC g31 Bo) (by first|rfl|simp[Ag,AJ,AU,AO.1,AO.1]) fun w32 g32 h32=>?_
     replace BT:=Al g31 g32 BT Bk
     refine As Hu r7 (EU 10) BT rfl fun w33 g33 h33=>?_
     replace Ab:=AY g33 (Al g31 g32 Ab (Ne.symm Dx)) (Ne.symm Dc)
     replace AZ:=AY g33 (Al g31 g32 AZ (Ne.symm Ec)) (Ne.symm Dy)
     replace Bo:=AY g33 h32 (Ne.symm Bk)
     replace hr:=(((hr.kn Gu).kn g31).offR g32 (AV FH)).offR g33 (AV Ed)
     replace HG:=AD (AD (AA (AA HG Gu) g31) g32 Hf) g33 GO
     replace BT:=h33
     refine AE ?_
     refine k30 _ _ ?_
     refine ALr ?_
     repeat refine AL ?_
     refine BU (fn:=Tryz.f31) Hu (Bj (p:=6) (q:=7) Tryz.results31 Hu rfl rfl rfl rfl (BX AO AO (.slice none 0 0) rfl) (EU 10) Bo BT) (Bz Tryz.func74 (by kernel_rfl) rfl _ _) (Fe _ _ _) ?_
     exact VRes.zero (ACr ha hv hf) HG
   · have hil:i<ks.length:=by have:=(KT hf).1;rw[hi] at this;simpa using this
     obtain⟨x,hx_x⟩:∃x,ks[i]'hil=x:=⟨_,rfl⟩
     have htr:tr (ks.map VK.p) i=x.l:=by rw[VO hil,hx_x]
     obtain⟨q,hq⟩:∃q,F8 x.l a=q:=⟨_,rfl⟩
     refine ALn ?_
     refine AI Da 6 [(22,Ao sa po (.slice ao ks.length cap)),(23,AP o),(24,.tuple #[.int .i64 ((i:Int)),.bool true]),(21,.tuple #[.int .i64 ((i:Int)),.bool true]),(25,.int .i64 ((i:Int))),(26,.bool true)]
       ⟨yl r6 (BX hsa hpo (.slice ao ks.length cap) rfl) Ab,yl r6 (CD o ho.1) AZ,Ae [Ao sa po (.slice ao ks.length cap),AP o] Tryz.func71 (by kernel_rfl) rq4 ⟨(oy rfl rfl),(oy rfl rfl),ALu⟩ (Au fun W g=>Rp hsa hpo ho (hr.kn g) hv hf hi),ym r5,BC rq4 (fun _ _ h=>⟨_,_,h,rfl,rfl⟩),BC rq4 (fun _ _ h=>⟨_,_,h,rfl,rfl⟩),ALu⟩ fun a34 w34 g34 M3=>?_
     refine Aa (v:=.int .i64 ((i:Int))) M3 r6 fun a35 Js=>?_
     refine Aa (v:=.bool true) Js r6 fun a36 F5=>?_
     have Jt:Sv _ _ [_,_,_,_,_,_,_,_,_,_,_,_,_,_,_,_,_] _:=F5.dl [22,23,24,21,25,26,4]
     refine AE ?_
     refine k22 _ _ ?_
     refine ALo fun K38 k38=>?_
     refine ALo fun K39 k39=>?_
     refine ALn ?_
     refine AI Jt 2 [(27,.bool true),(28,.bool false)]
       ⟨ym r5,Cl r6 (fun _=>BJ),ALu⟩ fun a40 w40 g40 Lc=>?_
     have QS:=AA g34 g40
     refine AE ?_
     refine k39 _ _ ?_
     refine Az Lc rfl rfl ?_
     refine ALs ?_
     refine k38 _ _ ?_
     refine ALo fun K41 k41=>?_
     refine ALn ?_
     replace Ab:=AC QS Ab
     replace AZ:=AC QS AZ
     replace Bo:=AC QS Bo
     replace BT:=AC QS BT
     replace hr:=hr.kn QS
     refine E6 (Lc.st w40) 11 [(31,Sp.is (pk Ia 64)),(32,Sp.is (.slice ao ks.length cap)),(33,Sp.is (.int .i64 ((i:Int)))),(34,Sp.is (pk ((bO ao)) (oO ao+i*33))),(35,Sp.is (pk ((bO ao)) (oO ao+i*33+32))),(36,Sp.is (.agg #[VK.s x])),(37,Sp.is (.int .i64 a)),(38,Sp.puncF w40.heap.size q),(30,Sp.puncF w40.heap.size q),(39,Sp.ct w40.heap.size q.1),(40,Sp.is (.int .i64 q.2))] rfl (by kernel_rfl) (by kernel_rfl) (by kernel_rfl)
       ⟨yf r6 (fun _=>by kernel_rfl),yp (i:=2) r6 (Eb (.slice ao ks.length cap) rfl) Ab rfl (by simp[AJ,AU,hsa.1,hpo.1]),ym r5,BV rq8 (fun w=>Ce Tryz.underlying34 (by kernel_rfl) (hr.1.1) (by omega) (rfl) w),yf r6 (fun _=>by kernel_rfl),CE r6 (fun _ g=>Ac (QK (VK.s x) rfl) (RdK.treeX (hr.kn g) rfl hil hx_x)),ym r5,Ae [.agg #[VK.s x],.int .i64 a] Tryz.func76 (by kernel_rfl) rq4 ⟨(oy rfl rfl),(oy rfl rfl),ALu⟩ (ACg hq (hr.kt hil hx_x)),ym r5,BC rq4 (fun w u h=>AAE w u h),BC rq4 (fun w u h=>ACf w u h),ALu⟩ fun a42 w42 g42 st42=>?_
     obtain⟨hn42,hd42,e42_31,e42_32,e42_33,e42_34,e42_35,e42_36,e42_37,e42_38,e42_30,e42_39,e42_40,e42_27,e42_28,e42_9,e42_8,e42_12,e42_13,e42_14,e42_15,e42_16,e42_17,e42_18,e42_19,e42_11,e42_7,e42_6,e42_3,e42_0,e42_1,e42_2,-⟩:=st42
     obtain⟨ao43,cap43,e42_39q,rt,frT⟩:=e42_39
     have Rt:=CK frT Ab
     have AAU:=CK frT AZ
     have Ru:=CK frT Bo
     have Ng:=CK frT BT
     replace Ab:=AC g42 Ab
     replace AZ:=AC g42 AZ
     replace Bo:=AC g42 Bo
     replace BT:=AC g42 BT
     replace hr:=hr.kn g42
     replace HG:=AA (AA HG QS) g42
     have GK:Sv 54 [{ target:=.fn (.func 74) #[pt QR,pt ON],args:=#[] }] [(27,_),(28,_),(9,_),(8,_),(12,_),(13,_),(14,_),(15,_),(16,_),(17,_),(18,_),(19,_),(11,_),(7,_),(6,_),(3,_),(0,_),(1,_),(2,_),(39,_),(40,_)] a42:=⟨hn42,hd42,e42_27,e42_28,e42_9,e42_8,e42_12,e42_13,e42_14,e42_15,e42_16,e42_17,e42_18,e42_19,e42_11,e42_7,e42_6,e42_3,e42_0,e42_1,e42_2,e42_39q,e42_40,ALu⟩
     refine Av (T:=56) (Z:=[.slice none 0 0]) GK rfl rfl rfl (fun a w=>by kernel_rfl) fun a44 w44 AAV Gy g44 z44 Jd PZ=>?_
     have MF:=Ar Ab Gy
     have Rv:=Ar AZ Gy
     have Rx:=Ar Bo Gy
     have MG:=Ar BT Gy
     have ACs:=Bt HG Gy
     have Vb:=A1 (hr.lt) Gy
     have OP:=A1 (rt.lt) Gy
     refine As PZ r7 (QK (.slice ao43 q.1.length cap43) rfl) Jd rfl fun w45 g45 h45=>?_
     replace BT:=AY g45 (AC g44 BT) (Ne.symm MG)
     refine As PZ r7 (EU q.2) BT rfl fun w46 g46 h46=>?_
     replace Ab:=AY g46 (AY g45 (AC g44 Ab) (Ne.symm MF)) (Ne.symm Dc)
     replace AZ:=AY g46 (AY g45 (AC g44 AZ) (Ne.symm Rv)) (Ne.symm Dy)
     replace Bo:=AY g46 (AY g45 (AC g44 Bo) (Ne.symm Rx)) (Ne.symm Bk)
     replace Jd:=AY g46 h45 MG
     replace hr:=((hr.kn g44).offR g45 (AV Vb)).offR g46 (AV Ed)
     replace rt:=((rt.kn g44).offR g45 (AV OP)).offR g46 (AV Ng)
     replace HG:=AD (AD (AA HG g44) g45 ACs) g46 GO
     replace BT:=h46
     refine AE ?_
     refine k41 _ _ ?_
     refine ALo fun K47 k47=>?_
     refine ALo fun K48 k48=>?_
     by_cases hq0:q.2=0
     · refine ALn ?_
       refine AI PZ 2 [(41,.int .i64 q.2),(42,.bool false)]
        ⟨yl r6 (EU q.2) BT,CQ r6 (fun _=>Dt (by rw[hq0];rfl)),ALu⟩ fun a49 w49 g49 GL=>?_
       refine AE ?_
       refine k48 _ _ ?_
       refine Az GL rfl rfl ?_
       refine ALs ?_
       refine k47 _ _ ?_
       refine ALo fun K50 k50=>?_
       refine ALn ?_
       replace Ab:=AC g49 Ab
       replace AZ:=AC g49 AZ
       replace Bo:=AC g49 Bo
       replace BT:=AC g49 BT
       replace Jd:=AC g49 Jd
       replace hr:=hr.kn g49
       replace rt:=rt.kn g49
       replace HG:=AA HG g49
       refine E6 (GL.st w49) 2 [(45,Sp.is (Ao sa po (.slice ao ks.length cap))),(46,Sp.cln w49.heap.size sa po ks.length (ks.map VK.p))] rfl (by kernel_rfl) (by kernel_rfl) (by kernel_rfl)
        ⟨yl r6 (BX hsa hpo (.slice ao ks.length cap) rfl) Ab,Ae [Ao sa po (.slice ao ks.length cap)] Tryz.func72 (by kernel_rfl) rq4 ⟨(oy rfl rfl),ALu⟩ (Ui hsa hpo hr h64),ALu⟩ fun a51 w51 g51 st51=>?_
       obtain⟨hn51,hd51,e51_45,e51_46,e51_41,e51_42,e51_10,e51_27,e51_28,e51_9,e51_8,e51_12,e51_13,e51_14,e51_15,e51_16,e51_17,e51_18,e51_19,e51_11,e51_7,e51_6,e51_3,e51_0,e51_1,e51_2,e51_39,e51_40,-⟩:=st51
       obtain⟨A,ms,e51_46q,hmp,ow,kr,frA,frK⟩:=e51_46
       have fr_ow:∀k,Bq (.slice ((some ⟨A,0,none⟩)) ks.length ks.length) k→w49.heap.size≤k:=fun k hk=>(Option.some.inj hk)▸frA
       have fr_kr:∀k,DU ms k→w49.heap.size≤k:=fun k hk=>(frK k hk).1
       have ap_kr_ow:∀k,DU ms k→¬Bq (.slice ((some ⟨A,0,none⟩)) ks.length ks.length) k:=fun k hk e=>(frK k hk).2 (Option.some.inj e).symm
       have Ry:=CK fr_ow Ab
       have Rz:=CK fr_ow Bo
       have R3:=CK fr_ow BT
       have ap_rt_ow:=AEV (rt.lt) fr_ow
       have lo_ow:=LO HG fr_ow
       have R4:=CK fr_kr Ab
       have AAW:=CK fr_kr AZ
       have AAX:=CK fr_kr Bo
       have AAY:=CK fr_kr BT
       have Vc:=CK fr_kr Jd
       replace Ab:=AC g51 Ab
       have ED:Sv 54 [{ target:=.fn (.func 74) #[pt QR,pt ON],args:=#[] }] [(41,_),(42,_),(10,_),(27,_),(28,_),(9,_),(8,_),(12,_),(13,_),(14,_),(15,_),(16,_),(17,_),(18,_),(19,_),(11,_),(7,_),(6,_),(3,_),(0,_),(1,_),(2,_),(39,_),(40,_),(46,_)] a51:=⟨hn51,hd51,e51_41,e51_42,e51_10,e51_27,e51_28,e51_9,e51_8,e51_12,e51_13,e51_14,e51_15,e51_16,e51_17,e51_18,e51_19,e51_11,e51_7,e51_6,e51_3,e51_0,e51_1,e51_2,e51_39,e51_40,e51_46q,ALu⟩
       refine As ED r7 (BX hsa hpo (.slice ((some ⟨A,0,none⟩)) ks.length ks.length) rfl) Ab (by first|rfl|simp[Ag,AJ,AU,hsa.1,hpo.1,hsa.1,hpo.1]) fun w52 g52 h52=>?_
       replace Jd:=AY g52 (AC g51 Jd) MF
       replace ow:=ow.offR g52 (AV Ry)
       replace Ab:=h52
       refine AE ?_
       refine k50 _ _ ?_
       refine ALo fun K53 k53=>?_
       have hml:ks.length=ms.length:=Own.rdk ow
       have him:i<ms.length:=by omega
       obtain⟨z,hx_z⟩:∃x,ms[i]'him=x:=⟨_,rfl⟩
       refine ALn ?_
       refine AI ED 6 [(47,pk Ia 64),(48,.slice ((some ⟨A,0,none⟩)) ks.length ks.length),(49,.int .i64 ((i:Int))),(50,.agg #[.slice ao43 q.1.length cap43]),(51,pk ((bO ((some ⟨A,0,none⟩)))) (oO ((some ⟨A,0,none⟩))+i*33)),(52,pk ((bO ((some ⟨A,0,none⟩)))) (oO ((some ⟨A,0,none⟩))+i*33+32))]
        ⟨yf r6 (fun _=>by kernel_rfl),yp (i:=2) r6 (Eb (.slice ((some ⟨A,0,none⟩)) ks.length ks.length) rfl) Ab rfl (by simp[AJ,AU,hsa.1,hpo.1]),ym r5,yl r6 (QK (.slice ao43 q.1.length cap43) rfl) Jd,BV rq8 (fun w=>Ce Tryz.underlying34 (by kernel_rfl) (Sl.of_own ow) (by omega) (rfl) w),yf r6 (fun _=>by kernel_rfl),ALu⟩ fun a54 w54 g54 ME=>?_
       replace ow:=ow.kn g54
       refine UZ (c:=Ag) (el:=(⟨z.o,z.ho,ao43,cap43,q.1⟩:VK)) (A:=bv z.o) (B:=[z.s]) (C:=[]) ME rfl rfl rfl rfl rfl rfl rfl (QK (.slice ao43 q.1.length cap43) rfl) ow C7 (by decide) (him) (by rw[hx_z];rfl) rfl rfl (by rw[AJ,z.ho.1]) fun w55 g55 h55=>?_
       replace Ab:=AF g55 (AC g54 Ab) (fun e=>Ry _ (Ct (j:=i) ow (by omega) rfl) (Option.some.inj e).symm)
       replace Bo:=AF g55 (AC g54 (AY g52 (AC g51 Bo) Dx)) (fun e=>Rz _ (Ct (j:=i) ow (by omega) rfl) (Option.some.inj e).symm)
       replace BT:=AF g55 (AC g54 (AY g52 (AC g51 BT) Dc)) (fun e=>R3 _ (Ct (j:=i) ow (by omega) rfl) (Option.some.inj e).symm)
       replace rt:=(((rt.kn g51).offR g52 (AV Rt)).kn g54).offR g55 (fun k hk e=>ap_rt_ow k hk (Ct (j:=i) ow (by omega) e))
       replace kr:=((kr.offR g52 (AV R4)).kn g54).offR g55 (fun k hk e=>ap_kr_ow k hk (Ct (j:=i) ow (by omega) e))
       replace HG:=Bp (AA (AD (AA HG g51) g52 Va) g54) g55 fun k e=>lo_ow k (Ct (j:=i) ow (by omega) e)
       have QU:Sv _ _ [_,_,_,_,_,_,_,_,_,_,_,_,_,_,_,_,_,_,_,_,_,_,_,_,_] _:=ME.dl [47,48,49,50,51,52]
       refine AE ?_
       have kr2:=KsT.set kr (x:=(⟨z.o,z.ho,ao43,cap43,q.1⟩:VK)) rt i
       have AHw:∀k,DU (ms.set i (⟨z.o,z.ho,ao43,cap43,q.1⟩:VK)) k→k≠Ia:=fun k hk=>(Ep hk).elim (R4 k) (Rt k)
       have AHx:∀k,DU (ms.set i (⟨z.o,z.ho,ao43,cap43,q.1⟩:VK)) k→k≠D9:=fun k hk=>(Ep hk).elim (AAW k) (AAU k)
       have YR:∀k,DU (ms.set i (⟨z.o,z.ho,ao43,cap43,q.1⟩:VK)) k→k≠QR:=fun k hk=>(Ep hk).elim (AAX k) (Ru k)
       have YS:∀k,DU (ms.set i (⟨z.o,z.ho,ao43,cap43,q.1⟩:VK)) k→k≠ON:=fun k hk=>(Ep hk).elim (AAY k) (Ng k)
       have AFz:∀k,DU (ms.set i (⟨z.o,z.ho,ao43,cap43,q.1⟩:VK)) k→k≠AAV:=fun k hk=>(Ep hk).elim (Vc k) (OP k)
       have ap_kr2_ow:∀k,DU (ms.set i (⟨z.o,z.ho,ao43,cap43,q.1⟩:VK)) k→¬Bq (.slice ((some ⟨A,0,none⟩)) ks.length ks.length) k:=fun k hk=>(Ep hk).elim (ap_kr_ow k) (ap_rt_ow k)
       refine k53 _ _ ?_
       refine ALo fun K57 k57=>?_
       refine ALn ?_
       refine AI QU 1 [(53,Ao sa po (.slice ((some ⟨A,0,none⟩)) ks.length ks.length))]
        ⟨yl r6 (BX hsa hpo (.slice ((some ⟨A,0,none⟩)) ks.length ks.length) rfl) Ab,ALu⟩ fun a58 w58 g58 Lf=>?_
       refine As Lf r7 (BX hsa hpo (.slice ((some ⟨A,0,none⟩)) ks.length ks.length) rfl) (AC g58 Bo) (by first|rfl|simp[Ag,AJ,AU,hsa.1,hpo.1]) fun w59 g59 h59=>?_
       replace BT:=Al g58 g59 BT Bk
       refine As Lf r7 (EU 0) BT rfl fun w60 g60 h60=>?_
       replace Bo:=AY g60 h59 (Ne.symm Bk)
       replace ow:=((h55.kn g58).offR g59 (AV Rz)).offR g60 (AV R3)
       replace kr2:=((kr2.kn g58).offR g59 (AV YR)).offR g60 (AV YS)
       replace HG:=AD (AD (AA HG g58) g59 Hf) g60 GO
       replace BT:=h60
       refine AE ?_
       refine k57 _ _ ?_
       refine ALr ?_
       repeat refine AL ?_
       refine BU (fn:=Tryz.f31) Lf (Bj (p:=6) (q:=7) Tryz.results31 Lf rfl rfl rfl rfl (BX hsa hpo (.slice ((some ⟨A,0,none⟩)) ks.length ks.length) rfl) (EU 0) Bo BT) (Bz Tryz.func74 (by kernel_rfl) rfl _ _) (Fe _ _ _) ?_
       exact VRes.mk (P:=Jo (ks.map VK.p) o q.1) (ABZ ha hv hf hi htr hq hq0) (AGy (el:=(⟨z.o,z.ho,ao43,cap43,q.1⟩:VK)) hmp hf hi him hx_z rfl rfl) ow kr2 HG
     · refine ALn ?_
       refine AI PZ 2 [(41,.int .i64 q.2),(42,.bool true)]
        ⟨yl r6 (EU q.2) BT,CQ r6 (fun _=>Dt (by simpa using hq0)),ALu⟩ fun a61 w61 g61 Lg=>?_
       refine AE ?_
       refine k48 _ _ ?_
       refine Ay Lg rfl rfl ?_
       refine ALo fun K62 k62=>?_
       have gd63:=Ca w61
       replace Bo:=AC gd63 (AC g61 Bo)
       replace BT:=AC gd63 (AC g61 BT)
       refine wp_region_noPanic ?_
       refine M9 (fun w'=>w'.heap[ON]?=some (.cells [.int .i64 q.2].toArray 38 (0,0))) [0,1] [2,3] (by kernel_rfl) (by kernel_rfl) (fun _ _ d _ _ h=>by cases d<;>exact h) rfl (by kernel_rfl) BT ?_
       simp only[List.filterMap_cons,List.filterMap_nil,List.getElem?_toArray,List.getElem?_cons_succ,List.getElem?_cons_zero]
       refine YP rfl 36 rfl bV0 ?_
       have sv63A:Sv 54 [{ target:=.fn (.func 74) #[pt QR,pt ON],args:=#[] }] [(43,Ao AQ AQ (.slice none 0 0)),(41,.int .i64 q.2),(42,.bool true),(10,pt AAV),(27,.bool true),(28,.bool false),(9,.bool true),(8,.int .i64 ((i:Int))),(12,.int .i64 a),(13,.bool true),(14,.bool false),(15,.bool false),(16,Ao sa po (.slice ao ks.length cap)),(17,.bool true),(18,.bool false),(19,.bool false),(11,.func (.func 74) #[] #[pt QR,pt ON]),(7,pt ON),(6,pt QR),(3,pt Ia),(0,Ao sa po (.slice ao ks.length cap)),(1,AP o),(2,.int .i64 a),(39,.agg #[.slice ao43 q.1.length cap43]),(40,.int .i64 q.2)] (Act.put a61 (some 43) (Ao AQ AQ (.slice none 0 0))):=Lg.put (by decide) _
       refine US rfl 38 (.tmp 7) (p:=.pointer (some ⟨ON,0,none⟩)) rfl (sv63A.ev rfl rfl) (fun _ h=>Ac (EU q.2) (Af h)) ?_
       have sv63B:Sv 54 [{ target:=.fn (.func 74) #[pt QR,pt ON],args:=#[] }] [(44,.int .i64 q.2),(43,Ao AQ AQ (.slice none 0 0)),(41,.int .i64 q.2),(42,.bool true),(10,pt AAV),(27,.bool true),(28,.bool false),(9,.bool true),(8,.int .i64 ((i:Int))),(12,.int .i64 a),(13,.bool true),(14,.bool false),(15,.bool false),(16,Ao sa po (.slice ao ks.length cap)),(17,.bool true),(18,.bool false),(19,.bool false),(11,.func (.func 74) #[] #[pt QR,pt ON]),(7,pt ON),(6,pt QR),(3,pt Ia),(0,Ao sa po (.slice ao ks.length cap)),(1,AP o),(2,.int .i64 a),(39,.agg #[.slice ao43 q.1.length cap43]),(40,.int .i64 q.2)] (Act.put (Act.put a61 (some 43) (Ao AQ AQ (.slice none 0 0))) (some 44) (.int .i64 q.2)):=sv63A.put (by decide) _
       generalize hcl:Act.put (Act.put a61 (some 43) (Ao AQ AQ (.slice none 0 0))) (some 44) (.int .i64 q.2)=a63 at sv63B
       change wpList _ _ _ _ a63 _
       refine As sv63B r7 (BX AO AO (.slice none 0 0) rfl) Bo (by first|rfl|simp[Ag,AJ,AU,AO.1,AO.1]) fun w64 g64 h64=>?_
       replace BT:=AY g64 BT Bk
       refine AE ⟨BT,?_⟩
       change wpList _ _ _ _ _ _
       refine As sv63B r7 (EU q.2) BT rfl fun w65 g65 h65=>?_
       replace Bo:=AY g65 h64 (Ne.symm Bk)
       replace rt:=(((rt.kn g61).kn gd63).offR g64 (AV Ru)).offR g65 (AV Ng)
       replace HG:=AD (AD (AA (AA HG g61) gd63) g64 Hf) g65 GO
       replace BT:=h65
       refine AE ⟨BT,?_⟩
       refine NoPanic.normal ?_
       refine k62 _ _ ?_
       refine ALr ?_
       repeat refine AL ?_
       refine BU (fn:=Tryz.f31) sv63B (Bj (p:=6) (q:=7) Tryz.results31 sv63B rfl rfl rfl rfl (BX AO AO (.slice none 0 0) rfl) (EU q.2) Bo BT) (Bz Tryz.func74 (by kernel_rfl) rfl _ _) (Fe _ _ _) ?_
       exact VRes.zero (AEu ha hv hf hi htr hq hq0) HG
end Go.Proofs.YtbfjfnbcmojpiaaGreat
