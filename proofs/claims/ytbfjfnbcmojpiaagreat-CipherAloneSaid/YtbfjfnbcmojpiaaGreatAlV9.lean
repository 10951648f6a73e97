import Derived.Test.YtbfjfnbcmojpiaaGreatAlV8
set_option linter.unusedSimpArgs false
set_option linter.unusedVariables false
set_option maxRecDepth 100000
set_option maxHeartbeats 4000000
namespace Go.Proofs.YtbfjfnbcmojpiaaGreat
open Go.RowKit Go.Shelf
theorem AGx {ms:List VK} {P:List VP} {o:List Nat} {T:List Nd} {z el:VK} {i:Nat} (h:ms.map VK.p=P) (hf:Hv P o=true) (hi:pos P o=i) (him:i<ms.length) (hz:ms[i]=z) (ho:el.o=z.o) (hl:el.l=T):(ms.set i el).map VK.p=N3 P o T:=by
 rw[YP T hf,List.map_set,h,hi]
 have h1:=(Jl hf).2
 rw[hi,←h,N8 him,hz] at h1
 unfold VK.p
 rw[ho,hl,h1]
theorem YQ {P:Program} {ops:Array Oper} {S:World→Prop} {K:Act→Prop} {o:Oper} {r:List Oper} {a:Act} {v:Value} (hg:o.guard=none) (T:TypeId) (ho:o.op=.build T #[]) (hr:∀w,(Instr.build T #[]).run P w=.ok v w) (h:Fz P ops S K r (a.put o.dst v)):Fz P ops S K (o::r) a:=
 XW hg (fun w _=>by simp only[execOp,ho,List.map_toArray,List.map_nil,Sem.run_bind,Sem.run_pure,Result.andThen_ok,hr w]) h
theorem YR {v:VV} {o:List Nat} {a:Int} (h:Br a=false∨CK v.1=false):Pc v o a=(NI,1):=by
 unfold Pc
 rcases h with h|h<;>simp[h]
theorem ACo {v:VV} {o:List Nat} {a:Int} (h1:Br a=true) (h2:CK v.1=true) (h3:Hv v.1 o=false):Pc v o a=(NI,10):=by
 unfold Pc
 simp[h1,h2,h3]
theorem AEq {v:VV} {o:List Nat} {a:Int} (h1:Br a=true) (h2:CK v.1=true) (h3:Hv v.1 o=true) {i:Nat} (hi:pos v.1 o=i) {l:List Nd} (hl:tr v.1 i=l) {q:List Nd×Int} (hq:Fy l a=q) (h0:¬q.2=0):Pc v o a=(NI,q.2):=by
 unfold Pc
 simp[h1,h2,h3,hi,hl,hq,h0]
theorem ABT {v:VV} {o:List Nat} {a:Int} (h1:Br a=true) (h2:CK v.1=true) (h3:Hv v.1 o=true) {i:Nat} (hi:pos v.1 o=i) {l:List Nd} (hl:tr v.1 i=l) {q:List Nd×Int} (hq:Fy l a=q) (h0:q.2=0):Pc v o a=((N3 v.1 o q.1,v.2.1,v.2.2),0):=by
 unfold Pc
 simp[h1,h2,h3,hi,hl,hq,h0]
theorem AEr (ks:List VK) (ao:Option Addr) (cap:Nat) (sa po:List Nat) (hsa:Dg sa) (hpo:Dg po) (o:List Nat) (ho:Dg o) (a:Int) (w:World) (hr:RdK w (.slice ao ks.length cap) ks) :
   Calls Tryz.prog 31 #[Am sa po (.slice ao ks.length cap),AP o,.int .i64 a] w fun e w'=>VRes w w' (Pc (ks.map VK.p,sa,po) o a) (fun _=>False) e:=by
 refine Dm Tryz.func31 rfl Tryz.ntmps31 rfl fun a0 sv0=>?_
 have HG:=World.grownBy.refl w none
 replace sv0:Sv 54 [] [(0,Am sa po (.slice ao ks.length cap)),(1,AP o),(2,.int .i64 a)] a0:=sv0
 refine ALz fun K1 k1=>?_
 refine ALy ?_
 refine Bj sv0 r6 (Bb hsa hpo (.slice ao ks.length cap) rfl) fun a2 w2 Jy I0 g2 z2 Ad sv2=>?_
 have VU:=Bt HG I0
 refine Bj sv2 r6 (B6 o ho.1) fun a3 w3 ACk VS g3 z3 Bm sv3=>?_
 replace Ad:=AC g3 Ad
 replace hr:=(hr.kn g2).kn g3
 replace HG:=AA (AA HG g2) g3
 refine Ar (T:=36) (Z:=([bv AR,bv AR,[.slice none 0 0]].flatten)) sv3 rfl rfl rfl (fun a w=>by kernel_rfl) fun a4 w4 Pa Hx g4 z4 Bg sv4=>?_
 have Dp:=An Ad Hx
 have EU:=An Bm Hx
 have Gs:=Bt HG Hx
 have E5:=Au (hr.lt) Hx
 replace Ad:=AC g4 Ad
 replace Bm:=AC g4 Bm
 replace hr:=hr.kn g4
 replace HG:=AA HG g4
 refine Ar (T:=38) (Z:=[.int .i64 0]) sv4 rfl rfl rfl (fun a w=>by kernel_rfl) fun a5 w5 NH F9 g5 z5 BH sv5=>?_
 have DX:=An Ad F9
 have Dq:=An Bm F9
 have Bc:=An Bg F9
 have GC:=Bt HG F9
 have EV:=Au (hr.lt) F9
 replace Ad:=AC g5 Ad
 replace Bm:=AC g5 Bm
 replace Bg:=AC g5 Bg
 replace hr:=hr.kn g5
 replace HG:=AA HG g5
 refine AE ?_
 refine k1 _ _ ?_
 refine ALz fun K6 k6=>?_
 refine ALy ?_
 refine Fl sv5 rfl rfl rfl rfl rfl rfl fun a7 sv7=>?_
 refine Ef sv7 rfl (dd:={ target:=.fn (.func 74) #[pt Pa,pt NH],args:=#[] }) rfl (by have e1:=sv7.ev (x:=.tmp 11) rfl rfl;simp[execOp,resolve,Deferred.ofValue,e1];try rfl) fun a8 sv8=>?_
 refine AE ?_
 refine k6 _ _ ?_
 refine ALz fun K9 k9=>?_
 refine ALz fun K10 k10=>?_
 rcases(show Br a=false∨(Br a=true∧CK (ks.map VK.p)=false)∨(Br a=true∧CK (ks.map VK.p)=true) by cases Br a<;>cases CK (ks.map VK.p)<;>simp) with ha|⟨ha,hv⟩|⟨ha,hv⟩
 · refine ALy ?_
   refine AJ sv8 8 [(12,.int .i64 a),(13,.bool false),(14,.bool true),(15,.bool true),(16,undef),(17,undef),(18,undef),(19,.bool true)]
     ⟨ym r5,Ae [.int .i64 a] Tryz.func75 (by kernel_rfl) rq4 ⟨(oy rfl rfl),AL5⟩ (Ap fun W g=>JX ha W),DG r6 (fun _=>Bf),ym r5,AZ r6,AZ r6,AZ r6,CL r7,AL5⟩ fun a11 w11 g11 Cc=>?_
   refine AE ?_
   refine k10 _ _ ?_
   refine Aw Cc rfl rfl ?_
   refine ALz fun K12 k12=>?_
   refine ALy ?_
   replace Ad:=AC g11 Ad
   replace Bm:=AC g11 Bm
   replace Bg:=AC g11 Bg
   replace BH:=AC g11 BH
   refine AJ Cc 1 [(20,Am AR AR (.slice none 0 0))]
     ⟨BU (vs:=[]) rfl rfl trivial trivial (fun _=>bV0 _) (fun _=>rfl),AL5⟩ fun a13 w13 g13 Dy=>?_
   refine Ao Dy r7 (Bb AO AO (.slice none 0 0) rfl) (AC g13 Bg) (by first|rfl|simp[Af,AI,AV,AO.1,AO.1]) fun w14 g14 h14=>?_
   replace BH:=Aj g13 g14 BH Bc
   refine Ao Dy r7 (EH 1) BH rfl fun w15 g15 h15=>?_
   replace Ad:=AX g15 (Aj g13 g14 Ad (Ne.symm Dp)) (Ne.symm DX)
   replace Bm:=AX g15 (Aj g13 g14 Bm (Ne.symm EU)) (Ne.symm Dq)
   replace Bg:=AX g15 h14 (Ne.symm Bc)
   replace hr:=(((hr.kn g11).kn g13).offR g14 (AU E5)).offR g15 (AU EV)
   replace HG:=AD (AD (AA (AA HG g11) g13) g14 Gs) g15 GC
   replace BH:=h15
   refine AE ?_
   refine k12 _ _ ?_
   refine AL2 ?_
   repeat refine AL ?_
   refine BK (fn:=Tryz.f31) Dy (Ba (p:=6) (q:=7) Tryz.results31 Dy rfl rfl rfl rfl (Bb AO AO (.slice none 0 0) rfl) (EH 1) Bg BH) (Bn Tryz.func74 (by kernel_rfl) rfl _ _) (FZ _ _ _) ?_
   exact VRes.zero (YR (.inl ha)) HG
 · refine ALy ?_
   refine AJ sv8 8 [(12,.int .i64 a),(13,.bool true),(14,.bool false),(15,.bool false),(16,Am sa po (.slice ao ks.length cap)),(17,.bool false),(18,.bool true),(19,.bool true)]
     ⟨ym r5,Ae [.int .i64 a] Tryz.func75 (by kernel_rfl) rq4 ⟨(oy rfl rfl),AL5⟩ (Ap fun W g=>JX ha W),DG r6 (fun _=>Bf),ym r5,Aq rq9 (fun _ g=>Ab (Bb hsa hpo (.slice ao ks.length cap) rfl) (Ac (AF g Ad (by simp)))),B7 [Am sa po (.slice ao ks.length cap)] Tryz.func51 (by kernel_rfl) r7 ⟨(oy rfl rfl),AL5⟩ (Ap fun W g=>IS hsa hpo (hr.kn g) hv),Ha rfl rfl (gy rfl rfl rfl) (oy rfl rfl) (fun _=>Bf) (fun _=>rfl),A2 rq9,AL5⟩ fun a16 w16 g16 DJ=>?_
   refine AE ?_
   refine k10 _ _ ?_
   refine Aw DJ rfl rfl ?_
   refine ALz fun K17 k17=>?_
   refine ALy ?_
   replace Ad:=AC g16 Ad
   replace Bm:=AC g16 Bm
   replace Bg:=AC g16 Bg
   replace BH:=AC g16 BH
   refine AJ DJ 1 [(20,Am AR AR (.slice none 0 0))]
     ⟨BU (vs:=[]) rfl rfl trivial trivial (fun _=>bV0 _) (fun _=>rfl),AL5⟩ fun a18 w18 g18 CZ=>?_
   refine Ao CZ r7 (Bb AO AO (.slice none 0 0) rfl) (AC g18 Bg) (by first|rfl|simp[Af,AI,AV,AO.1,AO.1]) fun w19 g19 h19=>?_
   replace BH:=Aj g18 g19 BH Bc
   refine Ao CZ r7 (EH 1) BH rfl fun w20 g20 h20=>?_
   replace Ad:=AX g20 (Aj g18 g19 Ad (Ne.symm Dp)) (Ne.symm DX)
   replace Bm:=AX g20 (Aj g18 g19 Bm (Ne.symm EU)) (Ne.symm Dq)
   replace Bg:=AX g20 h19 (Ne.symm Bc)
   replace hr:=(((hr.kn g16).kn g18).offR g19 (AU E5)).offR g20 (AU EV)
   replace HG:=AD (AD (AA (AA HG g16) g18) g19 Gs) g20 GC
   replace BH:=h20
   refine AE ?_
   refine k17 _ _ ?_
   refine AL2 ?_
   repeat refine AL ?_
   refine BK (fn:=Tryz.f31) CZ (Ba (p:=6) (q:=7) Tryz.results31 CZ rfl rfl rfl rfl (Bb AO AO (.slice none 0 0) rfl) (EH 1) Bg BH) (Bn Tryz.func74 (by kernel_rfl) rfl _ _) (FZ _ _ _) ?_
   exact VRes.zero (YR (.inr hv)) HG
 · obtain⟨i,hi⟩:∃i,pos (ks.map VK.p) o=i:=⟨_,rfl⟩
   have h64:ks.length≤64:=by have:=(Eh.1 hv).1;simpa using this
   refine ALy ?_
   refine AJ sv8 8 [(12,.int .i64 a),(13,.bool true),(14,.bool false),(15,.bool false),(16,Am sa po (.slice ao ks.length cap)),(17,.bool true),(18,.bool false),(19,.bool false)]
     ⟨ym r5,Ae [.int .i64 a] Tryz.func75 (by kernel_rfl) rq4 ⟨(oy rfl rfl),AL5⟩ (Ap fun W g=>JX ha W),DG r6 (fun _=>Bf),ym r5,Aq rq9 (fun _ g=>Ab (Bb hsa hpo (.slice ao ks.length cap) rfl) (Ac (AF g Ad (by simp)))),B7 [Am sa po (.slice ao ks.length cap)] Tryz.func51 (by kernel_rfl) r7 ⟨(oy rfl rfl),AL5⟩ (Ap fun W g=>IS hsa hpo (hr.kn g) hv),Ha rfl rfl (gy rfl rfl rfl) (oy rfl rfl) (fun _=>Bf) (fun _=>rfl),A2 rq9,AL5⟩ fun a21 w21 g21 Di=>?_
   refine AE ?_
   refine k10 _ _ ?_
   refine A1 Di rfl rfl ?_
   refine AL3 ?_
   refine k9 _ _ ?_
   refine ALz fun K22 k22=>?_
   replace Ad:=AC g21 Ad
   replace Bm:=AC g21 Bm
   replace Bg:=AC g21 Bg
   replace BH:=AC g21 BH
   replace hr:=hr.kn g21
   replace HG:=AA HG g21
   cases hf:Hv (ks.map VK.p) o
   · refine ALy ?_
     refine AJ Di 6 [(22,Am sa po (.slice ao ks.length cap)),(23,AP o),(24,.tuple #[.int .i64 ((i:Int)),.bool false]),(21,.tuple #[.int .i64 ((i:Int)),.bool false]),(25,.int .i64 ((i:Int))),(26,.bool false)]
       ⟨yl r6 (Bb hsa hpo (.slice ao ks.length cap) rfl) Ad,yl r6 (B6 o ho.1) Bm,Ae [Am sa po (.slice ao ks.length cap),AP o] Tryz.func71 (by kernel_rfl) rq4 ⟨(oy rfl rfl),(oy rfl rfl),AL5⟩ (Ap fun W g=>Qy hsa hpo ho (hr.kn g) hv hf hi),ym r5,BF rq4 (fun _ _ h=>⟨_,_,h,rfl,rfl⟩),BF rq4 (fun _ _ h=>⟨_,_,h,rfl,rfl⟩),AL5⟩ fun a23 w23 g23 Cw=>?_
     refine AY (v:=.int .i64 ((i:Int))) Cw r6 fun a24 ER=>?_
     refine AY (v:=.bool false) ER r6 fun a25 DV=>?_
     have Cr:Sv _ _ [_,_,_,_,_,_,_,_,_,_,_,_,_,_,_,_,_] _:=DV.dl [22,23,24,21,25,26,4]
     refine AE ?_
     refine k22 _ _ ?_
     refine ALz fun K27 k27=>?_
     refine ALz fun K28 k28=>?_
     refine ALy ?_
     refine AJ Cr 2 [(27,.bool false),(28,.bool true)]
       ⟨ym r5,DG r6 (fun _=>Bf),AL5⟩ fun a29 w29 g29 Cf=>?_
     have Gh:=AA g23 g29
     refine AE ?_
     refine k28 _ _ ?_
     refine Aw Cf rfl rfl ?_
     refine ALz fun K30 k30=>?_
     refine ALy ?_
     replace Ad:=AC Gh Ad
     replace Bm:=AC Gh Bm
     replace Bg:=AC Gh Bg
     replace BH:=AC Gh BH
     refine AJ Cf 1 [(29,Am AR AR (.slice none 0 0))]
       ⟨BU (vs:=[]) rfl rfl trivial trivial (fun _=>bV0 _) (fun _=>rfl),AL5⟩ fun a31 w31 g31 He=>?_
     refine Ao He r7 (Bb AO AO (.slice none 0 0) rfl) (AC g31 Bg) (by first|rfl|simp[Af,AI,AV,AO.1,AO.1]) fun w32 g32 h32=>?_
     replace BH:=Aj g31 g32 BH Bc
     refine Ao He r7 (EH 10) BH rfl fun w33 g33 h33=>?_
     replace Ad:=AX g33 (Aj g31 g32 Ad (Ne.symm Dp)) (Ne.symm DX)
     replace Bm:=AX g33 (Aj g31 g32 Bm (Ne.symm EU)) (Ne.symm Dq)
     replace Bg:=AX g33 h32 (Ne.symm Bc)
     replace hr:=(((hr.kn Gh).kn g31).offR g32 (AU E5)).offR g33 (AU EV)
     replace HG:=AD (AD (AA (AA HG Gh) g31) g32 Gs) g33 GC
     replace BH:=h33
     refine AE ?_
     refine k30 _ _ ?_
     refine AL2 ?_
     repeat refine AL ?_
     refine BK (fn:=Tryz.f31) He (Ba (p:=6) (q:=7) Tryz.results31 He rfl rfl rfl rfl (Bb AO AO (.slice none 0 0) rfl) (EH 10) Bg BH) (Bn Tryz.func74 (by kernel_rfl) rfl _ _) (FZ _ _ _) ?_
     exact VRes.zero (ACo ha hv hf) HG
   · have hil:i<ks.length:=by have:=(Jl hf).1;rw[hi] at this;simpa using this
     obtain⟨x,hx_x⟩:∃x,ks[i]'hil=x:=⟨_,rfl⟩
     have htr:tr (ks.map VK.p) i=x.l:=by rw[VL hil,hx_x]
     obtain⟨q,hq⟩:∃q,Fy x.l a=q:=⟨_,rfl⟩
     refine ALy ?_
     refine AJ Di 6 [(22,Am sa po (.slice ao ks.length cap)),(23,AP o),(24,.tuple #[.int .i64 ((i:Int)),.bool true]),(21,.tuple #[.int .i64 ((i:Int)),.bool true]),(25,.int .i64 ((i:Int))),(26,.bool true)]
       ⟨yl r6 (Bb hsa hpo (.slice ao ks.length cap) rfl) Ad,yl r6 (B6 o ho.1) Bm,Ae [Am sa po (.slice ao ks.length cap),AP o] Tryz.func71 (by kernel_rfl) rq4 ⟨(oy rfl rfl),(oy rfl rfl),AL5⟩ (Ap fun W g=>Qy hsa hpo ho (hr.kn g) hv hf hi),ym r5,BF rq4 (fun _ _ h=>⟨_,_,h,rfl,rfl⟩),BF rq4 (fun _ _ h=>⟨_,_,h,rfl,rfl⟩),AL5⟩ fun a34 w34 g34 MB=>?_
     refine AY (v:=.int .i64 ((i:Int))) MB r6 fun a35 Ki=>?_
     refine AY (v:=.bool true) Ki r6 fun a36 Fw=>?_
     have IR:Sv _ _ [_,_,_,_,_,_,_,_,_,_,_,_,_,_,_,_,_] _:=Fw.dl [22,23,24,21,25,26,4]
     refine AE ?_
     refine k22 _ _ ?_
     refine ALz fun K38 k38=>?_
     refine ALz fun K39 k39=>?_
     refine ALy ?_
     refine AJ IR 2 [(27,.bool true),(28,.bool false)]
       ⟨ym r5,DG r6 (fun _=>Bf),AL5⟩ fun a40 w40 g40 Kj=>?_
     have Pb:=AA g34 g40
     refine AE ?_
     refine k39 _ _ ?_
     refine A1 Kj rfl rfl ?_
     refine AL3 ?_
     refine k38 _ _ ?_
     refine ALz fun K41 k41=>?_
     refine ALy ?_
     replace Ad:=AC Pb Ad
     replace Bm:=AC Pb Bm
     replace Bg:=AC Pb Bg
     replace BH:=AC Pb BH
     replace hr:=hr.kn Pb
     refine FH (Kj.st w40) 11 [(31,Sp.is (pk Jy 64)),(32,Sp.is (.slice ao ks.length cap)),(33,Sp.is (.int .i64 ((i:Int)))),(34,Sp.is (pk ((bO ao)) (oO ao+i*33))),(35,Sp.is (pk ((bO ao)) (oO ao+i*33+32))),(36,Sp.is (.agg #[VK.s x])),(37,Sp.is (.int .i64 a)),(38,Sp.puncF w40.heap.size q),(30,Sp.puncF w40.heap.size q),(39,Sp.ct w40.heap.size q.1),(40,Sp.is (.int .i64 q.2))] rfl (by kernel_rfl) (by kernel_rfl) (by kernel_rfl)
       ⟨yf r6 (fun _=>by kernel_rfl),yp (i:=2) r6 (EP (.slice ao ks.length cap) rfl) Ad rfl (by simp[AI,AV,hsa.1,hpo.1]),ym r5,BA rq8 (fun w=>CU Tryz.underlying34 (by kernel_rfl) (hr.1.1) (by omega) (rfl) w),yf r6 (fun _=>by kernel_rfl),Bu r6 (fun _ g=>Ab (PQ (VK.s x) rfl) (RdK.treeX (hr.kn g) rfl hil hx_x)),ym r5,Ae [.agg #[VK.s x],.int .i64 a] Tryz.func76 (by kernel_rfl) rq4 ⟨(oy rfl rfl),(oy rfl rfl),AL5⟩ (ACc hq (hr.kt hil hx_x)),ym r5,BF rq4 (fun w u h=>Z5 w u h),BF rq4 (fun w u h=>ACb w u h),AL5⟩ fun a42 w42 g42 st42=>?_
     obtain⟨hn42,hd42,e42_31,e42_32,e42_33,e42_34,e42_35,e42_36,e42_37,e42_38,e42_30,e42_39,e42_40,e42_27,e42_28,e42_9,e42_8,e42_12,e42_13,e42_14,e42_15,e42_16,e42_17,e42_18,e42_19,e42_11,e42_7,e42_6,e42_3,e42_0,e42_1,e42_2,-⟩:=st42
     obtain⟨ao43,cap43,e42_39q,rt,frT⟩:=e42_39
     have RB:=CJ frT Ad
     have AAN:=CJ frT Bm
     have RC:=CJ frT Bg
     have Mo:=CJ frT BH
     replace Ad:=AC g42 Ad
     replace Bm:=AC g42 Bm
     replace Bg:=AC g42 Bg
     replace BH:=AC g42 BH
     replace hr:=hr.kn g42
     replace HG:=AA (AA HG Pb) g42
     have Hl:Sv 54 [{ target:=.fn (.func 74) #[pt Pa,pt NH],args:=#[] }] [(27,_),(28,_),(9,_),(8,_),(12,_),(13,_),(14,_),(15,_),(16,_),(17,_),(18,_),(19,_),(11,_),(7,_),(6,_),(3,_),(0,_),(1,_),(2,_),(39,_),(40,_)] a42:=⟨hn42,hd42,e42_27,e42_28,e42_9,e42_8,e42_12,e42_13,e42_14,e42_15,e42_16,e42_17,e42_18,e42_19,e42_11,e42_7,e42_6,e42_3,e42_0,e42_1,e42_2,e42_39q,e42_40,AL5⟩
     refine Ar (T:=56) (Z:=[.slice none 0 0]) Hl rfl rfl rfl (fun a w=>by kernel_rfl) fun a44 w44 AAO Gk g44 z44 I1 VW=>?_
     have LH:=An Ad Gk
     have RD:=An Bm Gk
     have RE:=An Bg Gk
     have LJ:=An BH Gk
     have ACp:=Bt HG Gk
     have VY:=Au (hr.lt) Gk
     have NJ:=Au (rt.lt) Gk
     refine Ao VW r7 (PQ (.slice ao43 q.1.length cap43) rfl) I1 rfl fun w45 g45 h45=>?_
     replace BH:=AX g45 (AC g44 BH) (Ne.symm LJ)
     refine Ao VW r7 (EH q.2) BH rfl fun w46 g46 h46=>?_
     replace Ad:=AX g46 (AX g45 (AC g44 Ad) (Ne.symm LH)) (Ne.symm DX)
     replace Bm:=AX g46 (AX g45 (AC g44 Bm) (Ne.symm RD)) (Ne.symm Dq)
     replace Bg:=AX g46 (AX g45 (AC g44 Bg) (Ne.symm RE)) (Ne.symm Bc)
     replace I1:=AX g46 h45 LJ
     replace hr:=((hr.kn g44).offR g45 (AU VY)).offR g46 (AU EV)
     replace rt:=((rt.kn g44).offR g45 (AU NJ)).offR g46 (AU Mo)
     replace HG:=AD (AD (AA HG g44) g45 ACp) g46 GC
     replace BH:=h46
     refine AE ?_
     refine k41 _ _ ?_
     refine ALz fun K47 k47=>?_
     refine ALz fun K48 k48=>?_
     by_cases hq0:q.2=0
     · refine ALy ?_
       refine AJ VW 2 [(41,.int .i64 q.2),(42,.bool false)]
        ⟨yl r6 (EH q.2) BH,Cz r6 (fun _=>Dj (by rw[hq0];rfl)),AL5⟩ fun a49 w49 g49 JH=>?_
       refine AE ?_
       refine k48 _ _ ?_
       refine A1 JH rfl rfl ?_
       refine AL3 ?_
       refine k47 _ _ ?_
       refine ALz fun K50 k50=>?_
       refine ALy ?_
       replace Ad:=AC g49 Ad
       replace Bm:=AC g49 Bm
       replace Bg:=AC g49 Bg
       replace BH:=AC g49 BH
       replace I1:=AC g49 I1
       replace hr:=hr.kn g49
       replace rt:=rt.kn g49
       replace HG:=AA HG g49
       refine FH (JH.st w49) 2 [(45,Sp.is (Am sa po (.slice ao ks.length cap))),(46,Sp.cln w49.heap.size sa po ks.length (ks.map VK.p))] rfl (by kernel_rfl) (by kernel_rfl) (by kernel_rfl)
        ⟨yl r6 (Bb hsa hpo (.slice ao ks.length cap) rfl) Ad,Ae [Am sa po (.slice ao ks.length cap)] Tryz.func72 (by kernel_rfl) rq4 ⟨(oy rfl rfl),AL5⟩ (Uf hsa hpo hr h64),AL5⟩ fun a51 w51 g51 st51=>?_
       obtain⟨hn51,hd51,e51_45,e51_46,e51_41,e51_42,e51_10,e51_27,e51_28,e51_9,e51_8,e51_12,e51_13,e51_14,e51_15,e51_16,e51_17,e51_18,e51_19,e51_11,e51_7,e51_6,e51_3,e51_0,e51_1,e51_2,e51_39,e51_40,-⟩:=st51
       obtain⟨A,ms,e51_46q,hmp,ow,kr,frA,frK⟩:=e51_46
       have fr_ow:∀k,Bk (.slice ((some ⟨A,0,none⟩)) ks.length ks.length) k→w49.heap.size≤k:=fun k hk=>(Option.some.inj hk)▸frA
       have fr_kr:∀k,DR ms k→w49.heap.size≤k:=fun k hk=>(frK k hk).1
       have ap_kr_ow:∀k,DR ms k→¬Bk (.slice ((some ⟨A,0,none⟩)) ks.length ks.length) k:=fun k hk e=>(frK k hk).2 (Option.some.inj e).symm
       have RF:=CJ fr_ow Ad
       have RG:=CJ fr_ow Bg
       have RH:=CJ fr_ow BH
       have ap_rt_ow:=AES (rt.lt) fr_ow
       have lo_ow:=KP HG fr_ow
       have RI:=CJ fr_kr Ad
       have AAP:=CJ fr_kr Bm
       have AAQ:=CJ fr_kr Bg
       have AAR:=CJ fr_kr BH
       have VZ:=CJ fr_kr I1
       replace Ad:=AC g51 Ad
       have EI:Sv 54 [{ target:=.fn (.func 74) #[pt Pa,pt NH],args:=#[] }] [(41,_),(42,_),(10,_),(27,_),(28,_),(9,_),(8,_),(12,_),(13,_),(14,_),(15,_),(16,_),(17,_),(18,_),(19,_),(11,_),(7,_),(6,_),(3,_),(0,_),(1,_),(2,_),(39,_),(40,_),(46,_)] a51:=⟨hn51,hd51,e51_41,e51_42,e51_10,e51_27,e51_28,e51_9,e51_8,e51_12,e51_13,e51_14,e51_15,e51_16,e51_17,e51_18,e51_19,e51_11,e51_7,e51_6,e51_3,e51_0,e51_1,e51_2,e51_39,e51_40,e51_46q,AL5⟩
       refine Ao EI r7 (Bb hsa hpo (.slice ((some ⟨A,0,none⟩)) ks.length ks.length) rfl) Ad (by first|rfl|simp[Af,AI,AV,hsa.1,hpo.1,hsa.1,hpo.1]) fun w52 g52 h52=>?_
       replace I1:=AX g52 (AC g51 I1) LH
       replace ow:=ow.offR g52 (AU RF)
       replace Ad:=h52
       refine AE ?_
       refine k50 _ _ ?_
       refine ALz fun K53 k53=>?_
       have hml:ks.length=ms.length:=Own.rdk ow
       have him:i<ms.length:=by omega
       obtain⟨z,hx_z⟩:∃x,ms[i]'him=x:=⟨_,rfl⟩
       refine ALy ?_
       refine AJ EI 6 [(47,pk Jy 64),(48,.slice ((some ⟨A,0,none⟩)) ks.length ks.length),(49,.int .i64 ((i:Int))),(50,.agg #[.slice ao43 q.1.length cap43]),(51,pk ((bO ((some ⟨A,0,none⟩)))) (oO ((some ⟨A,0,none⟩))+i*33)),(52,pk ((bO ((some ⟨A,0,none⟩)))) (oO ((some ⟨A,0,none⟩))+i*33+32))]
        ⟨yf r6 (fun _=>by kernel_rfl),yp (i:=2) r6 (EP (.slice ((some ⟨A,0,none⟩)) ks.length ks.length) rfl) Ad rfl (by simp[AI,AV,hsa.1,hpo.1]),ym r5,yl r6 (PQ (.slice ao43 q.1.length cap43) rfl) I1,BA rq8 (fun w=>CU Tryz.underlying34 (by kernel_rfl) (Sl.of_own ow) (by omega) (rfl) w),yf r6 (fun _=>by kernel_rfl),AL5⟩ fun a54 w54 g54 MC=>?_
       replace ow:=ow.kn g54
       refine UW (c:=Af) (el:=(⟨z.o,z.ho,ao43,cap43,q.1⟩:VK)) (A:=bv z.o) (B:=[z.s]) (C:=[]) MC rfl rfl rfl rfl rfl rfl rfl (PQ (.slice ao43 q.1.length cap43) rfl) ow C3 (by decide) (him) (by rw[hx_z];rfl) rfl rfl (by rw[AI,z.ho.1]) fun w55 g55 h55=>?_
       replace Ad:=AF g55 (AC g54 Ad) (fun e=>RF _ (Cp (j:=i) ow (by omega) rfl) (Option.some.inj e).symm)
       replace Bg:=AF g55 (AC g54 (AX g52 (AC g51 Bg) Dp)) (fun e=>RG _ (Cp (j:=i) ow (by omega) rfl) (Option.some.inj e).symm)
       replace BH:=AF g55 (AC g54 (AX g52 (AC g51 BH) DX)) (fun e=>RH _ (Cp (j:=i) ow (by omega) rfl) (Option.some.inj e).symm)
       replace rt:=(((rt.kn g51).offR g52 (AU RB)).kn g54).offR g55 (fun k hk e=>ap_rt_ow k hk (Cp (j:=i) ow (by omega) e))
       replace kr:=((kr.offR g52 (AU RI)).kn g54).offR g55 (fun k hk e=>ap_kr_ow k hk (Cp (j:=i) ow (by omega) e))
       replace HG:=Bi (AA (AD (AA HG g51) g52 VU) g54) g55 fun k e=>lo_ow k (Cp (j:=i) ow (by omega) e)
       have Pd:Sv _ _ [_,_,_,_,_,_,_,_,_,_,_,_,_,_,_,_,_,_,_,_,_,_,_,_,_] _:=MC.dl [47,48,49,50,51,52]
       refine AE ?_
       have kr2:=KsT.set kr (x:=(⟨z.o,z.ho,ao43,cap43,q.1⟩:VK)) rt i
       have AH3:∀k,DR (ms.set i (⟨z.o,z.ho,ao43,cap43,q.1⟩:VK)) k→k≠Jy:=fun k hk=>(Ee hk).elim (RI k) (RB k)
       have AH4:∀k,DR (ms.set i (⟨z.o,z.ho,ao43,cap43,q.1⟩:VK)) k→k≠ACk:=fun k hk=>(Ee hk).elim (AAP k) (AAN k)
       have YS:∀k,DR (ms.set i (⟨z.o,z.ho,ao43,cap43,q.1⟩:VK)) k→k≠Pa:=fun k hk=>(Ee hk).elim (AAQ k) (RC k)
       have YT:∀k,DR (ms.set i (⟨z.o,z.ho,ao43,cap43,q.1⟩:VK)) k→k≠NH:=fun k hk=>(Ee hk).elim (AAR k) (Mo k)
       have AFx:∀k,DR (ms.set i (⟨z.o,z.ho,ao43,cap43,q.1⟩:VK)) k→k≠AAO:=fun k hk=>(Ee hk).elim (VZ k) (NJ k)
       have ap_kr2_ow:∀k,DR (ms.set i (⟨z.o,z.ho,ao43,cap43,q.1⟩:VK)) k→¬Bk (.slice ((some ⟨A,0,none⟩)) ks.length ks.length) k:=fun k hk=>(Ee hk).elim (ap_kr_ow k) (ap_rt_ow k)
       refine k53 _ _ ?_
       refine ALz fun K57 k57=>?_
       refine ALy ?_
       refine AJ Pd 1 [(53,Am sa po (.slice ((some ⟨A,0,none⟩)) ks.length ks.length))]
        ⟨yl r6 (Bb hsa hpo (.slice ((some ⟨A,0,none⟩)) ks.length ks.length) rfl) Ad,AL5⟩ fun a58 w58 g58 Mn=>?_
       refine Ao Mn r7 (Bb hsa hpo (.slice ((some ⟨A,0,none⟩)) ks.length ks.length) rfl) (AC g58 Bg) (by first|rfl|simp[Af,AI,AV,hsa.1,hpo.1]) fun w59 g59 h59=>?_
       replace BH:=Aj g58 g59 BH Bc
       refine Ao Mn r7 (EH 0) BH rfl fun w60 g60 h60=>?_
       replace Bg:=AX g60 h59 (Ne.symm Bc)
       replace ow:=((h55.kn g58).offR g59 (AU RG)).offR g60 (AU RH)
       replace kr2:=((kr2.kn g58).offR g59 (AU YS)).offR g60 (AU YT)
       replace HG:=AD (AD (AA HG g58) g59 Gs) g60 GC
       replace BH:=h60
       refine AE ?_
       refine k57 _ _ ?_
       refine AL2 ?_
       repeat refine AL ?_
       refine BK (fn:=Tryz.f31) Mn (Ba (p:=6) (q:=7) Tryz.results31 Mn rfl rfl rfl rfl (Bb hsa hpo (.slice ((some ⟨A,0,none⟩)) ks.length ks.length) rfl) (EH 0) Bg BH) (Bn Tryz.func74 (by kernel_rfl) rfl _ _) (FZ _ _ _) ?_
       exact VRes.mk (P:=N3 (ks.map VK.p) o q.1) (ABT ha hv hf hi htr hq hq0) (AGx (el:=(⟨z.o,z.ho,ao43,cap43,q.1⟩:VK)) hmp hf hi him hx_z rfl rfl) ow kr2 HG
     · refine ALy ?_
       refine AJ VW 2 [(41,.int .i64 q.2),(42,.bool true)]
        ⟨yl r6 (EH q.2) BH,Cz r6 (fun _=>Dj (by simpa using hq0)),AL5⟩ fun a61 w61 g61 NK=>?_
       refine AE ?_
       refine k48 _ _ ?_
       refine Aw NK rfl rfl ?_
       refine ALz fun K62 k62=>?_
       have gd63:=CR w61
       replace Bg:=AC gd63 (AC g61 Bg)
       replace BH:=AC gd63 (AC g61 BH)
       refine wp_region_noPanic ?_
       refine MI (fun w'=>w'.heap[NH]?=some (.cells [.int .i64 q.2].toArray 38 (0,0))) [0,1] [2,3] (by kernel_rfl) (by kernel_rfl) (fun _ _ d _ _ h=>by cases d<;>exact h) rfl (by kernel_rfl) BH ?_
       simp only[List.filterMap_cons,List.filterMap_nil,List.getElem?_toArray,List.getElem?_cons_succ,List.getElem?_cons_zero]
       refine YQ rfl 36 rfl bV0 ?_
       have sv63A:Sv 54 [{ target:=.fn (.func 74) #[pt Pa,pt NH],args:=#[] }] [(43,Am AR AR (.slice none 0 0)),(41,.int .i64 q.2),(42,.bool true),(10,pt AAO),(27,.bool true),(28,.bool false),(9,.bool true),(8,.int .i64 ((i:Int))),(12,.int .i64 a),(13,.bool true),(14,.bool false),(15,.bool false),(16,Am sa po (.slice ao ks.length cap)),(17,.bool true),(18,.bool false),(19,.bool false),(11,.func (.func 74) #[] #[pt Pa,pt NH]),(7,pt NH),(6,pt Pa),(3,pt Jy),(0,Am sa po (.slice ao ks.length cap)),(1,AP o),(2,.int .i64 a),(39,.agg #[.slice ao43 q.1.length cap43]),(40,.int .i64 q.2)] (Act.put a61 (some 43) (Am AR AR (.slice none 0 0))):=NK.put (by decide) _
       refine UP rfl 38 (.tmp 7) (p:=.pointer (some ⟨NH,0,none⟩)) rfl (sv63A.ev rfl rfl) (fun _ h=>Ab (EH q.2) (Ac h)) ?_
       have sv63B:Sv 54 [{ target:=.fn (.func 74) #[pt Pa,pt NH],args:=#[] }] [(44,.int .i64 q.2),(43,Am AR AR (.slice none 0 0)),(41,.int .i64 q.2),(42,.bool true),(10,pt AAO),(27,.bool true),(28,.bool false),(9,.bool true),(8,.int .i64 ((i:Int))),(12,.int .i64 a),(13,.bool true),(14,.bool false),(15,.bool false),(16,Am sa po (.slice ao ks.length cap)),(17,.bool true),(18,.bool false),(19,.bool false),(11,.func (.func 74) #[] #[pt Pa,pt NH]),(7,pt NH),(6,pt Pa),(3,pt Jy),(0,Am sa po (.slice ao ks.length cap)),(1,AP o),(2,.int .i64 a),(39,.agg #[.slice ao43 q.1.length cap43]),(40,.int .i64 q.2)] (Act.put (Act.put a61 (some 43) (Am AR AR (.slice none 0 0))) (some 44) (.int .i64 q.2)):=sv63A.put (by decide) _
       generalize hcl:Act.put (Act.put a61 (some 43) (Am AR AR (.slice none 0 0))) (some 44) (.int .i64 q.2)=a63 at sv63B
       change wpList _ _ _ _ a63 _
       refine Ao sv63B r7 (Bb AO AO (.slice none 0 0) rfl) Bg (by first|rfl|simp[Af,AI,AV,AO.1,AO.1]) fun w64 g64 h64=>?_
       replace BH:=AX g64 BH Bc
       refine AE ⟨BH,?_⟩
       change wpList _ _ _ _ _ _
       refine Ao sv63B r7 (EH q.2) BH rfl fun w65 g65 h65=>?_
       replace Bg:=AX g65 h64 (Ne.symm Bc)
       replace rt:=(((rt.kn g61).kn gd63).offR g64 (AU RC)).offR g65 (AU Mo)
       replace HG:=AD (AD (AA (AA HG g61) gd63) g64 Gs) g65 GC
       replace BH:=h65
       refine AE ⟨BH,?_⟩
       refine NoPanic.normal ?_
       refine k62 _ _ ?_
       refine AL2 ?_
       repeat refine AL ?_
       refine BK (fn:=Tryz.f31) sv63B (Ba (p:=6) (q:=7) Tryz.results31 sv63B rfl rfl rfl rfl (Bb AO AO (.slice none 0 0) rfl) (EH q.2) Bg BH) (Bn Tryz.func74 (by kernel_rfl) rfl _ _) (FZ _ _ _) ?_
       exact VRes.zero (AEq ha hv hf hi htr hq hq0) HG
end Go.Proofs.YtbfjfnbcmojpiaaGreat
