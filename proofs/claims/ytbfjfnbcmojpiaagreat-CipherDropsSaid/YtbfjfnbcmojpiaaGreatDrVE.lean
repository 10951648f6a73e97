import Derived.Test.YtbfjfnbcmojpiaaGreatDrYA
import Derived.Test.YtbfjfnbcmojpiaaGreatDrY3
set_option linter.unusedSimpArgs false
set_option linter.unusedVariables false
set_option maxRecDepth 100000
set_option maxHeartbeats 4000000
namespace Go.Proofs.YtbfjfnbcmojpiaaGreat
open Go.RowKit Go.Shelf
theorem MV (w:World):(Instr.build 25 #[]).run Tryz.prog w=.ok (Bu V.nul) w:=by kernel_rfl
theorem PY {x:V} {c:Int} {y:V×Int} (h:y=(x,c)):Ending.returned (.tuple #[Bu x,.int .i64 c])=Ending.returned (.tuple #[Bu y.1,.int .i64 y.2]):=by rw[h]
theorem AED {w:World} {b:List Nat} {v:Value} (hv:SlB w 1 v b.length (bv b)) (hb:By b) (hl:b.length≤100000):Calls Tryz.prog 107 #[v] w fun e w'=>∃u,e=.returned u∧(∃(x:V) (ao:Option Addr) (n cap:Nat) (er:Int),u=.tuple #[Bu x,.slice ao n cap,.int .i64 er]∧w.grownBy w' none ∧
   ((er=0∧∃r,r.length=n∧pV b=.ok (x,r))∨(er≠0∧∃k,pV b=.error k))):=by
 refine(P4 v b w hv.1 (by omega) hb hv.2).mono ?_
 intro e w' h
 unfold ReadPost at h
 obtain⟨hg,h⟩:=h
 cases hp:pV b with
 | ok y =>
   obtain⟨x,r⟩:=y
   rw[hp] at h
   obtain⟨u,rv,rfl,hrep,hs,hlo⟩:=h
   obtain rfl:u=Bu x:=hrep
   obtain⟨ao,cap,rfl,_⟩:=Sl.shape hs
   exact⟨_,rfl,x,ao,_,cap,0,rfl,hg,.inl ⟨rfl,r,rfl,rfl⟩⟩
 | error n =>
   rw[hp] at h
   obtain⟨rfl,hn⟩:=h
   exact⟨_,rfl,V.nul,none,0,0,n,rfl,hg,.inr ⟨by omega,n,rfl⟩⟩
theorem AEE {b:List Nat} {x:V} {n:Nat} {er:Int} (h:(er=0∧∃r,r.length=n∧pV b=.ok (x,r))∨(er≠0∧∃k,pV b=.error k)):(er≠0→I9 b=(V.nul,101))∧(er=0→n=0→I9 b=(x,0))∧(er=0→0<n→I9 b=(V.nul,101)):=by
 rcases h with ⟨h0,r,rfl,hp⟩|⟨h0,k,hp⟩
 · exact⟨fun h=>absurd h0 h,fun _ h=>YX (by rw[hp,List.eq_nil_of_length_eq_zero h]),fun _ h=>AAD hp h⟩
 · exact⟨fun _=>AB5 hp,fun h=>absurd h h0,fun h=>absurd h h0⟩
theorem VS (b:List Nat) (hby:By b) (hl:b.length≤100000) (bo:Option Addr) (bc:Nat) (w:World) (hb:SlB w 1 (.slice bo b.length bc) b.length (bv b)) :
   Calls Tryz.prog 61 #[.slice bo b.length bc] w fun e w'=>e=.returned (.tuple #[Bu (I9 b).1,.int .i64 (I9 b).2])∧w.grownBy w' none:=by
 refine BM Tryz.func61 rfl Tryz.ntmps61 rfl fun a0 sv0=>?_
 have HG:=World.grownBy.refl w none
 replace sv0:Sv 22 [] [(0,.slice bo b.length bc)] a0:=sv0
 refine AIi fun K1 k1=>?_
 refine AIh ?_
 refine As (T:=25) (Z:=[.int .i64 0,.int .i64 0,.string ⟨#[]⟩]) sv0 rfl rfl rfl (fun a w=>by kernel_rfl) fun a2 w2 CC Cq g2 z2 AG sv2=>?_
 have ED:=Bq HG Cq
 refine Aa (v:=.int .i64 0) sv2 r6 fun a3 sv3=>?_
 refine AE ?_
 refine k1 _ _ ?_
 refine AIi fun K4 k4=>?_
 refine AIh ?_
 refine AL sv3 1 [(8,.slice bo b.length bc)]
   ⟨ym r5,AIo⟩ fun a5 w5 g5 sv5=>?_
 replace hb:=(hb.kn g2).kn g5
 refine BU sv5 Tryz.func107 (by kernel_rfl) r6 (AED hb hby hl) fun a6 v6 w6 hR6 sv6=>?_
 obtain⟨x,ro,rn,rc,er,rfl,g6,hcs⟩:=hR6
 obtain⟨hf1,hf2,hf3⟩:=AEE hcs
 refine AL sv6 4 [(7,.tuple #[Bu x,.slice ro rn rc,.int .i64 er]),(10,Bu x),(11,.slice ro rn rc),(12,.int .i64 er)]
   ⟨ym r5,BH rq4 (fun _ _ h=>⟨_,_,h,rfl,rfl⟩),BH rq4 (fun _ _ h=>⟨_,_,h,rfl,rfl⟩),BH rq4 (fun _ _ h=>⟨_,_,h,rfl,rfl⟩),AIo⟩ fun a7 w7 g7 sv7=>?_
 replace AG:=AC g7 (AC g6 (AC g5 AG))
 replace HG:=AA (AA (AA (AA HG g2) g5) g6) g7
 refine As (T:=25) (Z:=[.int .i64 0,.int .i64 0,.string ⟨#[]⟩]) sv7 rfl rfl rfl (fun a w=>by kernel_rfl) fun a8 w8 AId YY g8 z8 VT sv8=>?_
 have MW:=Ar AG YY
 have AEF:=Bq HG YY
 refine An sv8 r7 (Dm x) VT rfl fun w9 g9 h9=>?_
 replace AG:=Ab g9 (AC g8 AG) (Ne.symm MW)
 replace HG:=AD (AA HG g8) g9 AEF
 replace VT:=h9
 refine Aa (v:=.slice ro rn rc) sv8 r6 fun a10 CK=>?_
 refine Aa (v:=.int .i64 er) CK r6 fun a11 CH=>?_
 have C6:Sv _ _ [_,_,_,_,_] _:=CH.dl [7,10,11,12,9,8,0]
 refine AE ?_
 refine k4 _ _ ?_
 refine AIi fun K13 k13=>?_
 refine AIi fun K14 k14=>?_
 rcases(show er≠0∨(er=0∧rn=0)∨(er=0∧0<rn) by omega) with h1|⟨h1,h2⟩|⟨h1,h2⟩
 · refine AIh ?_
   refine AL C6 7 [(13,.int .i64 er),(14,.bool true),(15,.bool true),(16,undef),(17,undef),(18,undef),(19,.bool true)]
    ⟨ym r5,Cm r6 (fun _=>Eb (by simpa using h1)),ym r5,AX r6,AX r6,AX r6,B6 r7,AIo⟩ fun a15 w15 g15 LS=>?_
   refine AE ?_
   refine k14 _ _ ?_
   refine Ap LS rfl rfl ?_
   refine AIi fun K16 k16=>?_
   refine AIh ?_
   replace AG:=AC g15 AG
   refine AL LS 1 [(20,Bu V.nul)]
    ⟨BI (vs:=[]) rfl rfl trivial trivial (fun _=>MV _) (fun _=>rfl),AIo⟩ fun a17 w17 g17 FH=>?_
   refine An FH r7 (Dm V.nul) (AC g17 AG) rfl fun w18 g18 h18=>?_
   replace VT:=Ak g17 g18 (AC g15 VT) MW
   replace HG:=AD (AA (AA HG g15) g17) g18 ED
   replace AG:=h18
   refine Aa (v:=.int .i64 101) FH r6 fun a19 Dj=>?_
   refine AE ?_
   refine k16 _ _ ?_
   refine AIl ?_
   repeat refine AM ?_
   refine A8 (fn:=Tryz.f61) Dj (FV (p:=2) (q:=3) Tryz.results61 Dj rfl rfl rfl rfl (Dm V.nul) AG) ?_
   exact⟨PY (hf1 h1),HG⟩
 · refine AIh ?_
   refine AL C6 7 [(13,.int .i64 er),(14,.bool false),(15,.bool false),(16,.slice ro rn rc),(17,.int .i64 ((rn:Nat))),(18,.bool false),(19,.bool false)]
    ⟨ym r5,Cm r6 (fun _=>Eb (by simpa using h1)),ym r5,Av rq8,Bk (Tryz.underlying29) rfl rfl (gy rfl rfl rfl) (oy rfl rfl) (fun _=>rfl),BA rq9 (fun _=>Cp (decide_eq_false (by omega))),A3 rq9,AIo⟩ fun a20 w20 g20 EL=>?_
   refine AE ?_
   refine k14 _ _ ?_
   refine Au EL rfl rfl ?_
   refine AIm ?_
   refine k13 _ _ ?_
   refine AIi fun K21 k21=>?_
   refine AIh ?_
   refine AL EL 1 [(21,Bu x)]
    ⟨yl r6 (Dm x) (AC g20 VT),AIo⟩ fun a22 w22 g22 CX=>?_
   have Nh:=AA g20 g22
   refine An CX r7 (Dm x) (AC Nh AG) rfl fun w23 g23 h23=>?_
   replace HG:=AD (AA HG Nh) g23 ED
   replace AG:=h23
   refine Aa (v:=.int .i64 0) CX r6 fun a24 DZ=>?_
   refine AE ?_
   refine k21 _ _ ?_
   refine AIl ?_
   repeat refine AM ?_
   refine A8 (fn:=Tryz.f61) DZ (FV (p:=2) (q:=3) Tryz.results61 DZ rfl rfl rfl rfl (Dm x) AG) ?_
   exact⟨PY (hf2 h1 h2),HG⟩
 · refine AIh ?_
   refine AL C6 7 [(13,.int .i64 er),(14,.bool false),(15,.bool false),(16,.slice ro rn rc),(17,.int .i64 ((rn:Nat))),(18,.bool true),(19,.bool true)]
    ⟨ym r5,Cm r6 (fun _=>Eb (by simpa using h1)),ym r5,Av rq8,Bk (Tryz.underlying29) rfl rfl (gy rfl rfl rfl) (oy rfl rfl) (fun _=>rfl),BA rq9 (fun _=>Cp (decide_eq_true (by omega))),A3 rq9,AIo⟩ fun a25 w25 g25 Cx=>?_
   refine AE ?_
   refine k14 _ _ ?_
   refine Ap Cx rfl rfl ?_
   refine AIi fun K26 k26=>?_
   refine AIh ?_
   replace AG:=AC g25 AG
   refine AL Cx 1 [(20,Bu V.nul)]
    ⟨BI (vs:=[]) rfl rfl trivial trivial (fun _=>MV _) (fun _=>rfl),AIo⟩ fun a27 w27 g27 IC=>?_
   refine An IC r7 (Dm V.nul) (AC g27 AG) rfl fun w28 g28 h28=>?_
   replace HG:=AD (AA (AA HG g25) g27) g28 ED
   replace AG:=h28
   refine Aa (v:=.int .i64 101) IC r6 fun a29 CI=>?_
   refine AE ?_
   refine k26 _ _ ?_
   refine AIl ?_
   repeat refine AM ?_
   refine A8 (fn:=Tryz.f61) CI (FV (p:=2) (q:=3) Tryz.results61 CI rfl rfl rfl rfl (Dm V.nul) AG) ?_
   exact⟨PY (hf3 h1 h2),HG⟩
theorem AEz {w:World} {b:List Nat} {q:V×Int} {v:Value} (hv:SlB w 1 v b.length (bv b)) (hb:By b) (hl:b.length≤100000) (hq:I9 b=q):Calls Tryz.prog 61 #[v] w fun e w'=>e=.returned (.tuple #[Bu q.1,.int .i64 q.2])∧w.grownBy w' none:=by
 subst hq
 obtain⟨ao,cap,rfl,_⟩:=Sl.shape hv.1
 exact VS b hb hl ao cap w hv
theorem NB {P:List VP} {s:Sd} (h:ES s=false∨CE P=false):E2 P s=(V.nul,1):=by
 unfold E2
 rcases h with h|h<;>simp[h]
theorem NV {P:List VP} {s:Sd} (h1:ES s=true) (h2:CE P=true) (h3:s.own=[]):E2 P s=if Zn s.addr s.body=s.tag then I9 s.body else (V.nul,101):=by
 unfold E2
 simp[h1,h2,h3]
theorem PZ {P:List VP} {s:Sd} (h1:ES s=true) (h2:CE P=true) (h3:s.own≠[]) (h4:IG P s=none):E2 P s=(V.nul,10):=by
 unfold E2
 simp[h1,h2,h3,h4]
theorem NC {P:List VP} {s:Sd} {c:List Nat} (h1:ES s=true) (h2:CE P=true) (h3:s.own≠[]) (h4:IG P s=some c):E2 P s=if Tc c s.addr s.body=s.tag then I9 (IX s.body c) else (V.nul,101):=by
 unfold E2
 simp[h1,h2,h3,h4]
theorem YZ {w:World} {ks:List VK} {vo:Option Addr} {vc:Nat} {sa po:List Nat} {P:List VP} {ad joint:Int} {od wd:List DD} {ao wo bo:Option Addr} {ac wc bc:Nat} {body tg:List Nat} {r:Option (List Nat)} {s:Sd} (hsa:Dg sa) (hpo:Dg po) (htg:Dg tg) (hr:RdK w (.slice vo ks.length vc) ks) (ho:RdD w (.slice ao od.length ac) od) (hw:RdD w (.slice wo wd.length wc) wd) (hb:SlB w 1 (.slice bo body.length bc) body.length (bv body)) (hP:ks.map VK.p=P) (hs:(⟨ad,od.map DD.x,joint,wd.map DD.x,body,tg⟩:Sd)=s) (hvs:ES s=true) (hres:IG P s=r) :
  Calls Tryz.prog 62 #[Ao sa po (.slice vo ks.length vc),CP ad (.slice ao od.length ac) joint (.slice wo wd.length wc) (.slice bo body.length bc) tg] w fun e w'=>∃u,e=.returned u∧(∃c,u=.tuple #[AO c,.bool r.isSome]∧Dg c∧(∀c',r=some c'→c'=c)∧w.grownBy w' none):=by
 subst hs hP hres
 exact(XB ks vo vc sa po hsa hpo ad joint od wd ao wo bo ac wc bc body tg htg w hr ho hw hb hvs).mono fun e w' ⟨c,h1,h2⟩=>⟨_,h1,c,rfl,h2⟩
theorem OF {w:World} {ad joint:Int} {od wd:List DD} {ao wo bo:Option Addr} {ac wc bc:Nat} {body tg:List Nat} {b:Bool} {s:Sd} (htg:Dg tg) (ho:RdD w (.slice ao od.length ac) od) (hw:RdD w (.slice wo wd.length wc) wd) (hb:SlB w 1 (.slice bo body.length bc) body.length (bv body)) (hs:(⟨ad,od.map DD.x,joint,wd.map DD.x,body,tg⟩:Sd)=s) (hvs:ES s=b) :
  Calls Tryz.prog 27 #[CP ad (.slice ao od.length ac) joint (.slice wo wd.length wc) (.slice bo body.length bc) tg] w fun e w'=>e=.returned (.bool b)∧w.grownBy w' none:=by
 subst hs hvs
 exact AD0 ad joint od wd ao wo bo ac wc bc body tg htg w ho hw hb
theorem AAF (ks:List VK) (vo:Option Addr) (vc_:Nat) (sa po:List Nat) (hsa:Dg sa) (hpo:Dg po) (ad joint:Int) (od wd:List DD) (ao wo bo:Option Addr) (ac wc bc:Nat) (body tg:List Nat) (htg:Dg tg) (bby:By body) (w:World) (hr:RdK w (.slice vo ks.length vc_) ks) (ho:RdD w (.slice ao od.length ac) od) (hw:RdD w (.slice wo wd.length wc) wd) (hb:SlB w 1 (.slice bo body.length bc) body.length (bv body)) :
   Calls Tryz.prog 22 #[Ao sa po (.slice vo ks.length vc_),CP ad (.slice ao od.length ac) joint (.slice wo wd.length wc) (.slice bo body.length bc) tg] w fun e w'=>e=.returned (.tuple #[Bu (E2 (ks.map VK.p) ⟨ad,od.map DD.x,joint,wd.map DD.x,body,tg⟩).1,.int .i64 (E2 (ks.map VK.p) ⟨ad,od.map DD.x,joint,wd.map DD.x,body,tg⟩).2])∧w.grownBy w' none:=by
 obtain⟨P,hP⟩:∃P,ks.map VK.p=P:=⟨_,rfl⟩
 obtain⟨S,hS⟩:∃S:Sd,⟨ad,od.map DD.x,joint,wd.map DD.x,body,tg⟩=S:=⟨_,rfl⟩
 have s1:S.addr=ad:=by rw[←hS]
 have s2:S.own=od.map DD.x:=by rw[←hS]
 have s3:S.body=body:=by rw[←hS]
 have s4:S.tag=tg:=by rw[←hS]
 rw[hP,hS]
 refine DX Tryz.func22 rfl Tryz.ntmps22 rfl fun a0 sv0=>?_
 have HG:=World.grownBy.refl w none
 replace sv0:Sv 62 [] [(0,Ao sa po (.slice vo ks.length vc_)),(1,CP ad (.slice ao od.length ac) joint (.slice wo wd.length wc) (.slice bo body.length bc) tg)] a0:=sv0
 refine AIi fun K1 k1=>?_
 refine AIh ?_
 refine BT sv0 r6 (BX hsa hpo (.slice vo ks.length vc_) rfl) fun a2 w2 CC Cq g2 z2 AG sv2=>?_
 refine BT sv2 r6 (EU _ _ htg (.slice ao od.length ac) (.slice wo wd.length wc) (.slice bo body.length bc) rfl rfl rfl) fun a3 w3 Bo EC g3 z3 AJ sv3=>?_
 replace AG:=AC g3 AG
 replace hr:=(hr.kn g2).kn g3
 replace ho:=(ho.kn g2).kn g3
 replace hw:=(hw.kn g2).kn g3
 replace hb:=(hb.kn g2).kn g3
 replace HG:=AA (AA HG g2) g3
 refine As (T:=25) (Z:=[.int .i64 0,.int .i64 0,.string ⟨#[]⟩]) sv3 rfl rfl rfl (fun a w=>by kernel_rfl) fun a4 w4 Eh Bi g4 z4 AN sv4=>?_
 have Aw:=Ar AG Bi
 have A9:=Ar AJ Bi
 have Br:=Bq HG Bi
 have Bb:=Ax (hr.lt) Bi
 have DT:=Ax (ho.lt) Bi
 have DU:=Ax (hw.lt) Bi
 have DA:=Ax (hb.lt) Bi
 replace AG:=AC g4 AG
 replace AJ:=AC g4 AJ
 replace hr:=hr.kn g4
 replace ho:=ho.kn g4
 replace hw:=hw.kn g4
 replace hb:=hb.kn g4
 replace HG:=AA HG g4
 refine As (T:=38) (Z:=[.int .i64 0]) sv4 rfl rfl rfl (fun a w=>by kernel_rfl) fun a5 w5 Nj Cr g5 z5 Ag sv5=>?_
 have BZ:=Ar AG Cr
 have B7:=Ar AJ Cr
 have Am:=Ar AN Cr
 have DJ:=Bq HG Cr
 have C7:=Ax (hr.lt) Cr
 have Fb:=Ax (ho.lt) Cr
 have Fc:=Ax (hw.lt) Cr
 have Ep:=Ax (hb.lt) Cr
 replace AG:=AC g5 AG
 replace AJ:=AC g5 AJ
 replace AN:=AC g5 AN
 replace hr:=hr.kn g5
 replace ho:=ho.kn g5
 replace hw:=hw.kn g5
 replace hb:=hb.kn g5
 replace HG:=AA HG g5
 refine AE ?_
 refine k1 _ _ ?_
 refine AIi fun K6 k6=>?_
 refine AIh ?_
 refine Es sv5 rfl rfl rfl rfl rfl rfl fun a7 sv7=>?_
 refine EJ sv7 rfl (dd:={ target:=.fn (.func 60) #[pt Eh,pt Nj],args:=#[] }) rfl (by have e1:=sv7.ev (x:=.tmp 8) rfl rfl;simp[execOp,resolve,Deferred.ofValue,e1];try rfl) fun a8 sv8=>?_
 refine AE ?_
 refine k6 _ _ ?_
 refine AIi fun K9 k9=>?_
 refine AIi fun K10 k10=>?_
 rcases(show(ES S=false∧CE P=false)∨(ES S=false∧CE P=true)∨(ES S=true∧CE P=false)∨(ES S=true∧CE P=true) by cases ES S<;>cases CE P<;>simp) with ⟨hh,hv⟩|⟨hh,hv⟩|⟨hh,hv⟩|⟨hh,hv⟩
 · refine AIh ?_
   refine AL sv8 8 [(9,CP ad (.slice ao od.length ac) joint (.slice wo wd.length wc) (.slice bo body.length bc) tg),(10,.bool false),(11,.bool true),(12,.bool true),(13,undef),(14,undef),(15,undef),(16,.bool true)]
     ⟨yl r6 (EU _ _ htg (.slice ao od.length ac) (.slice wo wd.length wc) (.slice bo body.length bc) rfl rfl rfl) AJ,Ad [CP ad (.slice ao od.length ac) joint (.slice wo wd.length wc) (.slice bo body.length bc) tg] Tryz.func27 (by kernel_rfl) rq4 ⟨(oy rfl rfl),AIo⟩ (Aq fun W g=>OF htg (ho.kn g) (hw.kn g) (hb.kn g) hS hh),Cn r6 (fun _=>BV),ym r5,AX r6,AX r6,AX r6,B6 r7,AIo⟩ fun a11 w11 g11 CH=>?_
   refine AE ?_
   refine k10 _ _ ?_
   refine Ap CH rfl rfl ?_
   refine AIi fun K12 k12=>?_
   refine AIh ?_
   replace AN:=AC g11 AN
   refine AL CH 1 [(17,Bu V.nul)]
     ⟨BI (vs:=[]) rfl rfl trivial trivial (fun _=>MV _) (fun _=>rfl),AIo⟩ fun a13 w13 g13 DI=>?_
   refine An DI r7 (Dm V.nul) (AC g13 AN) rfl fun w14 g14 h14=>?_
   replace Ag:=Ak g13 g14 (AC g11 Ag) Am
   refine An DI r7 (Ed 1) Ag rfl fun w15 g15 h15=>?_
   replace AG:=Ab g15 (Ak g13 g14 (AC g11 AG) (Ne.symm Aw)) (Ne.symm BZ)
   replace AJ:=Ab g15 (Ak g13 g14 (AC g11 AJ) (Ne.symm A9)) (Ne.symm B7)
   replace AN:=Ab g15 h14 (Ne.symm Am)
   replace hr:=(((hr.kn g11).kn g13).offR g14 (AU Bb)).offR g15 (AU C7)
   replace ho:=(((ho.kn g11).kn g13).offR g14 (AU DT)).offR g15 (AU Fb)
   replace hw:=(((hw.kn g11).kn g13).offR g14 (AU DU)).offR g15 (AU Fc)
   replace hb:=(((hb.kn g11).kn g13).offR g14 (AU DA)).offR g15 (AU Ep)
   replace HG:=AD (AD (AA (AA HG g11) g13) g14 Br) g15 DJ
   replace Ag:=h15
   refine AE ?_
   refine k12 _ _ ?_
   refine AIl ?_
   repeat refine AM ?_
   refine BK (fn:=Tryz.f22) DI (BQ (p:=4) (q:=5) Tryz.results22 DI rfl rfl rfl rfl (Dm V.nul) (Ed 1) AN Ag) (Bl Tryz.func60 (by kernel_rfl) rfl _ _) (DK _ _ _) ?_
   exact⟨PY (NB (.inl hh)),HG⟩
 · refine AIh ?_
   refine AL sv8 8 [(9,CP ad (.slice ao od.length ac) joint (.slice wo wd.length wc) (.slice bo body.length bc) tg),(10,.bool false),(11,.bool true),(12,.bool true),(13,undef),(14,undef),(15,undef),(16,.bool true)]
     ⟨yl r6 (EU _ _ htg (.slice ao od.length ac) (.slice wo wd.length wc) (.slice bo body.length bc) rfl rfl rfl) AJ,Ad [CP ad (.slice ao od.length ac) joint (.slice wo wd.length wc) (.slice bo body.length bc) tg] Tryz.func27 (by kernel_rfl) rq4 ⟨(oy rfl rfl),AIo⟩ (Aq fun W g=>OF htg (ho.kn g) (hw.kn g) (hb.kn g) hS hh),Cn r6 (fun _=>BV),ym r5,AX r6,AX r6,AX r6,B6 r7,AIo⟩ fun a16 w16 g16 Cj=>?_
   refine AE ?_
   refine k10 _ _ ?_
   refine Ap Cj rfl rfl ?_
   refine AIi fun K17 k17=>?_
   refine AIh ?_
   replace AN:=AC g16 AN
   refine AL Cj 1 [(17,Bu V.nul)]
     ⟨BI (vs:=[]) rfl rfl trivial trivial (fun _=>MV _) (fun _=>rfl),AIo⟩ fun a18 w18 g18 CS=>?_
   refine An CS r7 (Dm V.nul) (AC g18 AN) rfl fun w19 g19 h19=>?_
   replace Ag:=Ak g18 g19 (AC g16 Ag) Am
   refine An CS r7 (Ed 1) Ag rfl fun w20 g20 h20=>?_
   replace AG:=Ab g20 (Ak g18 g19 (AC g16 AG) (Ne.symm Aw)) (Ne.symm BZ)
   replace AJ:=Ab g20 (Ak g18 g19 (AC g16 AJ) (Ne.symm A9)) (Ne.symm B7)
   replace AN:=Ab g20 h19 (Ne.symm Am)
   replace hr:=(((hr.kn g16).kn g18).offR g19 (AU Bb)).offR g20 (AU C7)
   replace ho:=(((ho.kn g16).kn g18).offR g19 (AU DT)).offR g20 (AU Fb)
   replace hw:=(((hw.kn g16).kn g18).offR g19 (AU DU)).offR g20 (AU Fc)
   replace hb:=(((hb.kn g16).kn g18).offR g19 (AU DA)).offR g20 (AU Ep)
   replace HG:=AD (AD (AA (AA HG g16) g18) g19 Br) g20 DJ
   replace Ag:=h20
   refine AE ?_
   refine k17 _ _ ?_
   refine AIl ?_
   repeat refine AM ?_
   refine BK (fn:=Tryz.f22) CS (BQ (p:=4) (q:=5) Tryz.results22 CS rfl rfl rfl rfl (Dm V.nul) (Ed 1) AN Ag) (Bl Tryz.func60 (by kernel_rfl) rfl _ _) (DK _ _ _) ?_
   exact⟨PY (NB (.inl hh)),HG⟩
 · refine AIh ?_
   refine AL sv8 8 [(9,CP ad (.slice ao od.length ac) joint (.slice wo wd.length wc) (.slice bo body.length bc) tg),(10,.bool true),(11,.bool false),(12,.bool false),(13,Ao sa po (.slice vo ks.length vc_)),(14,.bool false),(15,.bool true),(16,.bool true)]
     ⟨yl r6 (EU _ _ htg (.slice ao od.length ac) (.slice wo wd.length wc) (.slice bo body.length bc) rfl rfl rfl) AJ,Ad [CP ad (.slice ao od.length ac) joint (.slice wo wd.length wc) (.slice bo body.length bc) tg] Tryz.func27 (by kernel_rfl) rq4 ⟨(oy rfl rfl),AIo⟩ (Aq fun W g=>OF htg (ho.kn g) (hw.kn g) (hb.kn g) hS hh),Cn r6 (fun _=>BV),ym r5,Az rq9 (fun _ g=>Ae (BX hsa hpo (.slice vo ks.length vc_) rfl) (Al (AF g AG (by simp)))),CG [Ao sa po (.slice vo ks.length vc_)] Tryz.func51 (by kernel_rfl) r7 ⟨(oy rfl rfl),AIo⟩ (Aq fun W g=>L9 hsa hpo (hr.kn g) hP hv),IT rfl rfl (gy rfl rfl rfl) (oy rfl rfl) (fun _=>BV) (fun _=>rfl),A3 rq9,AIo⟩ fun a21 w21 g21 DY=>?_
   refine AE ?_
   refine k10 _ _ ?_
   refine Ap DY rfl rfl ?_
   refine AIi fun K22 k22=>?_
   refine AIh ?_
   replace AN:=AC g21 AN
   refine AL DY 1 [(17,Bu V.nul)]
     ⟨BI (vs:=[]) rfl rfl trivial trivial (fun _=>MV _) (fun _=>rfl),AIo⟩ fun a23 w23 g23 Cg=>?_
   refine An Cg r7 (Dm V.nul) (AC g23 AN) rfl fun w24 g24 h24=>?_
   replace Ag:=Ak g23 g24 (AC g21 Ag) Am
   refine An Cg r7 (Ed 1) Ag rfl fun w25 g25 h25=>?_
   replace AG:=Ab g25 (Ak g23 g24 (AC g21 AG) (Ne.symm Aw)) (Ne.symm BZ)
   replace AJ:=Ab g25 (Ak g23 g24 (AC g21 AJ) (Ne.symm A9)) (Ne.symm B7)
   replace AN:=Ab g25 h24 (Ne.symm Am)
   replace hr:=(((hr.kn g21).kn g23).offR g24 (AU Bb)).offR g25 (AU C7)
   replace ho:=(((ho.kn g21).kn g23).offR g24 (AU DT)).offR g25 (AU Fb)
   replace hw:=(((hw.kn g21).kn g23).offR g24 (AU DU)).offR g25 (AU Fc)
   replace hb:=(((hb.kn g21).kn g23).offR g24 (AU DA)).offR g25 (AU Ep)
   replace HG:=AD (AD (AA (AA HG g21) g23) g24 Br) g25 DJ
   replace Ag:=h25
   refine AE ?_
   refine k22 _ _ ?_
   refine AIl ?_
   repeat refine AM ?_
   refine BK (fn:=Tryz.f22) Cg (BQ (p:=4) (q:=5) Tryz.results22 Cg rfl rfl rfl rfl (Dm V.nul) (Ed 1) AN Ag) (Bl Tryz.func60 (by kernel_rfl) rfl _ _) (DK _ _ _) ?_
   exact⟨PY (NB (.inr hv)),HG⟩
 · have hb64:body.length≤64:=s3▸AF3 hh
   have hia:OL ad:=by have:=(YR (AB6 hh)).1;rw[s1] at this;exact⟨by omega,by omega⟩
   refine AIh ?_
   refine AL sv8 8 [(9,CP ad (.slice ao od.length ac) joint (.slice wo wd.length wc) (.slice bo body.length bc) tg),(10,.bool true),(11,.bool false),(12,.bool false),(13,Ao sa po (.slice vo ks.length vc_)),(14,.bool true),(15,.bool false),(16,.bool false)]
     ⟨yl r6 (EU _ _ htg (.slice ao od.length ac) (.slice wo wd.length wc) (.slice bo body.length bc) rfl rfl rfl) AJ,Ad [CP ad (.slice ao od.length ac) joint (.slice wo wd.length wc) (.slice bo body.length bc) tg] Tryz.func27 (by kernel_rfl) rq4 ⟨(oy rfl rfl),AIo⟩ (Aq fun W g=>OF htg (ho.kn g) (hw.kn g) (hb.kn g) hS hh),Cn r6 (fun _=>BV),ym r5,Az rq9 (fun _ g=>Ae (BX hsa hpo (.slice vo ks.length vc_) rfl) (Al (AF g AG (by simp)))),CG [Ao sa po (.slice vo ks.length vc_)] Tryz.func51 (by kernel_rfl) r7 ⟨(oy rfl rfl),AIo⟩ (Aq fun W g=>L9 hsa hpo (hr.kn g) hP hv),IT rfl rfl (gy rfl rfl rfl) (oy rfl rfl) (fun _=>BV) (fun _=>rfl),A3 rq9,AIo⟩ fun a26 w26 g26 CW=>?_
   refine AE ?_
   refine k10 _ _ ?_
   refine Au CW rfl rfl ?_
   refine AIm ?_
   refine k9 _ _ ?_
   refine AIi fun K27 k27=>?_
   refine AIi fun K28 k28=>?_
   replace AG:=AC g26 AG
   replace AJ:=AC g26 AJ
   replace AN:=AC g26 AN
   replace Ag:=AC g26 Ag
   replace hr:=hr.kn g26
   replace ho:=ho.kn g26
   replace hw:=hw.kn g26
   replace hb:=hb.kn g26
   replace HG:=AA HG g26
   rcases Nat.eq_zero_or_pos od.length with hz|hz
   · have hnil:S.own=[]:=by rw[s2,List.eq_nil_of_length_eq_zero hz];rfl
     have hopen:=NV hh hv hnil
     rw[s1,s3,s4] at hopen
     refine AIh ?_
     refine AL CW 4 [(18,pk Bo 1),(19,.slice ao od.length ac),(20,.int .i64 ((od.length:Nat))),(21,.bool true)]
       ⟨yf r6 (fun _=>by kernel_rfl),yp (i:=1) r6 (Kj (.slice ao od.length ac) rfl) AJ rfl rfl,Bk (Tryz.underlying28) rfl rfl trivial (oy rfl rfl) (fun _=>rfl),Cm r6 (fun _=>CB (Nf (by omega))),AIo⟩ fun a29 w29 g29 CI=>?_
     refine AE ?_
     refine k28 _ _ ?_
     refine Ap CI rfl rfl ?_
     refine AIi fun K30 k30=>?_
     refine AIi fun K31 k31=>?_
     replace AG:=AC g29 AG
     replace AJ:=AC g29 AJ
     replace AN:=AC g29 AN
     replace Ag:=AC g29 Ag
     replace hr:=hr.kn g29
     replace ho:=ho.kn g29
     replace hw:=hw.kn g29
     replace hb:=hb.kn g29
     replace HG:=AA HG g29
     by_cases htt:Zn ad body=tg
     · rw[if_pos htt] at hopen
       obtain⟨dq,hdq⟩:∃q,I9 body=q:=⟨_,rfl⟩
       rw[hdq] at hopen
       refine Cv CI [(22,pk Bo 5),(23,AO tg),(24,pt Bo),(25,.int .i64 ad),(26,pk Bo 4),(27,.slice bo body.length bc),(28,AO ((Zn ad body))),(29,.bool false)]
         ⟨yf r6 (fun _=>by kernel_rfl),yp (i:=5) r6 (Bn tg htg.1) AJ rfl rfl,yf r6 (fun _=>by kernel_rfl),yp (i:=0) r6 (Ff ad) AJ rfl rfl,yf r6 (fun _=>by kernel_rfl),yp (i:=4) r6 (F9 (.slice bo body.length bc) rfl) AJ rfl rfl,Ad [.int .i64 ad,.slice bo body.length bc] Tryz.func54 (by kernel_rfl) rq4 ⟨(oy rfl rfl),(oy rfl rfl),AIo⟩ (Aq fun W g=>IE ad hia body bby (by omega) _ _ _ (hb.kn g)),Hl r7 (fun _=>(KE htg (F7 ad body) _ _ _).2.trans (by rw[decide_eq_true (htt.symm)];rfl)),AIo⟩ fun a32 w32 g32 Bc=>?_
       refine k31 _ _ ?_
       refine Au Bc rfl rfl ?_
       refine AIm ?_
       refine k30 _ _ ?_
       refine AIi fun K33 k33=>?_
       refine AIh ?_
       refine AL Bc 2 [(31,pk Bo 4),(32,.slice bo body.length bc)]
         ⟨yf r6 (fun _=>by kernel_rfl),yp (i:=4) r6 (F9 (.slice bo body.length bc) rfl) (AC g32 AJ) rfl rfl,AIo⟩ fun a34 w34 g34 JO=>?_
       have TB:=AA g32 g34
       replace hb:=hb.kn TB
       refine BU JO Tryz.func61 (by kernel_rfl) r6 (O4 (AEz hb bby (by omega) hdq)) fun a35 v35 w35 hR35 Kh=>?_
       obtain⟨rfl,g35⟩:=hR35
       replace AN:=AC g35 (AC TB AN)
       refine AL Kh 2 [(34,Bu dq.1),(35,.int .i64 dq.2)]
         ⟨BH rq4 (fun _ _ h=>⟨_,_,h,rfl,rfl⟩),BH rq4 (fun _ _ h=>⟨_,_,h,rfl,rfl⟩),AIo⟩ fun a36 w36 g36 FQ=>?_
       refine An FQ r7 (Dm dq.1) (AC g36 AN) rfl fun w37 g37 h37=>?_
       replace Ag:=Ak g36 g37 (AC g35 (AC TB Ag)) Am
       refine An FQ r7 (Ed dq.2) Ag rfl fun w38 g38 h38=>?_
       replace AG:=Ab g38 (Ak g36 g37 (AC g35 (AC TB AG)) (Ne.symm Aw)) (Ne.symm BZ)
       replace AJ:=Ab g38 (Ak g36 g37 (AC g35 (AC TB AJ)) (Ne.symm A9)) (Ne.symm B7)
       replace AN:=Ab g38 h37 (Ne.symm Am)
       replace hr:=((((hr.kn TB).kn g35).kn g36).offR g37 (AU Bb)).offR g38 (AU C7)
       replace ho:=((((ho.kn TB).kn g35).kn g36).offR g37 (AU DT)).offR g38 (AU Fb)
       replace hw:=((((hw.kn TB).kn g35).kn g36).offR g37 (AU DU)).offR g38 (AU Fc)
       replace hb:=(((hb.kn g35).kn g36).offR g37 (AU DA)).offR g38 (AU Ep)
       replace HG:=AD (AD (AA (AA (AA HG TB) g35) g36) g37 Br) g38 DJ
       replace Ag:=h38
       have Jh:Sv _ _ [_,_,_,_,_,_,_,_,_,_,_,_,_,_,_,_,_,_,_,_,_,_,_,_,_,_,_] _:=FQ.dl [34,35,33,31,32]
       refine AE ?_
       refine k33 _ _ ?_
       refine AIl ?_
       repeat refine AM ?_
       refine BK (fn:=Tryz.f22) Jh (BQ (p:=4) (q:=5) Tryz.results22 Jh rfl rfl rfl rfl (Dm dq.1) (Ed dq.2) AN Ag) (Bl Tryz.func60 (by kernel_rfl) rfl _ _) (DK _ _ _) ?_
       exact⟨PY (hopen),HG⟩
     · rw[if_neg htt] at hopen
       refine Cv CI [(22,pk Bo 5),(23,AO tg),(24,pt Bo),(25,.int .i64 ad),(26,pk Bo 4),(27,.slice bo body.length bc),(28,AO ((Zn ad body))),(29,.bool true)]
         ⟨yf r6 (fun _=>by kernel_rfl),yp (i:=5) r6 (Bn tg htg.1) AJ rfl rfl,yf r6 (fun _=>by kernel_rfl),yp (i:=0) r6 (Ff ad) AJ rfl rfl,yf r6 (fun _=>by kernel_rfl),yp (i:=4) r6 (F9 (.slice bo body.length bc) rfl) AJ rfl rfl,Ad [.int .i64 ad,.slice bo body.length bc] Tryz.func54 (by kernel_rfl) rq4 ⟨(oy rfl rfl),(oy rfl rfl),AIo⟩ (Aq fun W g=>IE ad hia body bby (by omega) _ _ _ (hb.kn g)),Hl r7 (fun _=>(KE htg (F7 ad body) _ _ _).2.trans (by rw[decide_eq_false ((fun h=>htt h.symm))];rfl)),AIo⟩ fun a40 w40 g40 Ji=>?_
       refine k31 _ _ ?_
       refine Ap Ji rfl rfl ?_
       refine AIi fun K41 k41=>?_
       refine AIh ?_
       replace AN:=AC g40 AN
       refine AL Ji 1 [(30,Bu V.nul)]
         ⟨BI (vs:=[]) rfl rfl trivial trivial (fun _=>MV _) (fun _=>rfl),AIo⟩ fun a42 w42 g42 Gi=>?_
       refine An Gi r7 (Dm V.nul) (AC g42 AN) rfl fun w43 g43 h43=>?_
       replace Ag:=Ak g42 g43 (AC g40 Ag) Am
       refine An Gi r7 (Ed 101) Ag rfl fun w44 g44 h44=>?_
       replace AG:=Ab g44 (Ak g42 g43 (AC g40 AG) (Ne.symm Aw)) (Ne.symm BZ)
       replace AJ:=Ab g44 (Ak g42 g43 (AC g40 AJ) (Ne.symm A9)) (Ne.symm B7)
       replace AN:=Ab g44 h43 (Ne.symm Am)
       replace hr:=(((hr.kn g40).kn g42).offR g43 (AU Bb)).offR g44 (AU C7)
       replace ho:=(((ho.kn g40).kn g42).offR g43 (AU DT)).offR g44 (AU Fb)
       replace hw:=(((hw.kn g40).kn g42).offR g43 (AU DU)).offR g44 (AU Fc)
       replace hb:=(((hb.kn g40).kn g42).offR g43 (AU DA)).offR g44 (AU Ep)
       replace HG:=AD (AD (AA (AA HG g40) g42) g43 Br) g44 DJ
       replace Ag:=h44
       refine AE ?_
       refine k41 _ _ ?_
       refine AIl ?_
       repeat refine AM ?_
       refine BK (fn:=Tryz.f22) Gi (BQ (p:=4) (q:=5) Tryz.results22 Gi rfl rfl rfl rfl (Dm V.nul) (Ed 101) AN Ag) (Bl Tryz.func60 (by kernel_rfl) rfl _ _) (DK _ _ _) ?_
       exact⟨PY (hopen),HG⟩
   · have hne:S.own≠[]:=fun h=>by rw[s2] at h;have h2:od.length=0:=(List.length_map _).symm.trans (congrArg List.length h);omega
     refine AIh ?_
     refine AL CW 4 [(18,pk Bo 1),(19,.slice ao od.length ac),(20,.int .i64 ((od.length:Nat))),(21,.bool false)]
       ⟨yf r6 (fun _=>by kernel_rfl),yp (i:=1) r6 (Kj (.slice ao od.length ac) rfl) AJ rfl rfl,Bk (Tryz.underlying28) rfl rfl trivial (oy rfl rfl) (fun _=>rfl),Cm r6 (fun _=>CB (LH (by omega))),AIo⟩ fun a45 w45 g45 Ec=>?_
     refine AE ?_
     refine k28 _ _ ?_
     refine Au Ec rfl rfl ?_
     refine AIm ?_
     refine k27 _ _ ?_
     refine AIi fun K46 k46=>?_
     replace AG:=AC g45 AG
     replace AJ:=AC g45 AJ
     replace AN:=AC g45 AN
     replace Ag:=AC g45 Ag
     replace hr:=hr.kn g45
     replace ho:=ho.kn g45
     replace hw:=hw.kn g45
     replace hb:=hb.kn g45
     replace HG:=AA HG g45
     rcases(show IG P S=none∨∃c,IG P S=some c by cases IG P S<;>simp) with hrec|⟨c,hrec⟩
     · refine AIh ?_
       refine AL Ec 2 [(37,Ao sa po (.slice vo ks.length vc_)),(38,CP ad (.slice ao od.length ac) joint (.slice wo wd.length wc) (.slice bo body.length bc) tg)]
         ⟨yl r6 (BX hsa hpo (.slice vo ks.length vc_) rfl) AG,yl r6 (EU _ _ htg (.slice ao od.length ac) (.slice wo wd.length wc) (.slice bo body.length bc) rfl rfl rfl) AJ,AIo⟩ fun a47 w47 g47 Jl=>?_
       replace hr:=hr.kn g47
       replace ho:=ho.kn g47
       replace hw:=hw.kn g47
       replace hb:=hb.kn g47
       refine BU Jl Tryz.func62 (by kernel_rfl) r6 (YZ hsa hpo htg hr ho hw hb hP hS hh hrec) fun a48 v48 w48 hR48 XE=>?_
       obtain⟨cz,rfl,hcd,_,g48⟩:=hR48
       refine AL XE 3 [(36,.tuple #[AO cz,.bool false]),(40,AO cz),(41,.bool false)]
         ⟨ym r5,BH rq4 (fun _ _ h=>⟨_,_,h,rfl,rfl⟩),BH rq4 (fun _ _ h=>⟨_,_,h,rfl,rfl⟩),AIo⟩ fun a49 w49 g49 Ki=>?_
       replace AG:=AC g49 (AC g48 (AC g47 AG))
       replace AJ:=AC g49 (AC g48 (AC g47 AJ))
       replace AN:=AC g49 (AC g48 (AC g47 AN))
       replace Ag:=AC g49 (AC g48 (AC g47 Ag))
       replace hr:=(hr.kn g48).kn g49
       replace ho:=(ho.kn g48).kn g49
       replace hw:=(hw.kn g48).kn g49
       replace hb:=(hb.kn g48).kn g49
       replace HG:=AA (AA (AA HG g47) g48) g49
       refine As (T:=23) (Z:=(bv AS)) Ki rfl rfl rfl (fun a w=>by kernel_rfl) fun a50 w50 AIS FP g50 z50 AF9 Ox=>?_
       have Qi:=Ar AG FP
       have Qj:=Ar AJ FP
       have Qk:=Ar AN FP
       have Ql:=Ar Ag FP
       have ACF:=Bq HG FP
       have VU:=Ax (hr.lt) FP
       have VW:=Ax (ho.lt) FP
       have VY:=Ax (hw.lt) FP
       have VZ:=Ax (hb.lt) FP
       refine An Ox r7 (Bn cz hcd.1) AF9 (F5 hcd) fun w51 g51 h51=>?_
       refine Aa (v:=.bool false) Ox r6 fun a52 Nk=>?_
       have Zf:Sv _ _ [_,_,_,_,_,_,_,_,_,_,_,_,_,_,_,_,_,_,_,_,_] _:=Nk.dl [36,40,41,39,37,38]
       refine AE ?_
       refine k46 _ _ ?_
       refine AIi fun K54 k54=>?_
       refine AIi fun K55 k55=>?_
       refine AIh ?_
       refine AL Zf 2 [(42,.bool false),(43,.bool true)]
         ⟨ym r5,Cn r6 (fun _=>BV),AIo⟩ fun a56 w56 g56 QG=>?_
       refine AE ?_
       refine k55 _ _ ?_
       refine Ap QG rfl rfl ?_
       refine AIi fun K57 k57=>?_
       refine AIh ?_
       replace AN:=AC g56 (Ab g51 (AC g50 AN) (Ne.symm Qk))
       refine AL QG 1 [(44,Bu V.nul)]
         ⟨BI (vs:=[]) rfl rfl trivial trivial (fun _=>MV _) (fun _=>rfl),AIo⟩ fun a58 w58 g58 SD=>?_
       refine An SD r7 (Dm V.nul) (AC g58 AN) rfl fun w59 g59 h59=>?_
       replace Ag:=Ak g58 g59 (AC g56 (Ab g51 (AC g50 Ag) (Ne.symm Ql))) Am
       refine An SD r7 (Ed 10) Ag rfl fun w60 g60 h60=>?_
       replace AG:=Ab g60 (Ak g58 g59 (AC g56 (Ab g51 (AC g50 AG) (Ne.symm Qi))) (Ne.symm Aw)) (Ne.symm BZ)
       replace AJ:=Ab g60 (Ak g58 g59 (AC g56 (Ab g51 (AC g50 AJ) (Ne.symm Qj))) (Ne.symm A9)) (Ne.symm B7)
       replace AN:=Ab g60 h59 (Ne.symm Am)
       replace hr:=(((((hr.kn g50).offR g51 (AU VU)).kn g56).kn g58).offR g59 (AU Bb)).offR g60 (AU C7)
       replace ho:=(((((ho.kn g50).offR g51 (AU VW)).kn g56).kn g58).offR g59 (AU DT)).offR g60 (AU Fb)
       replace hw:=(((((hw.kn g50).offR g51 (AU VY)).kn g56).kn g58).offR g59 (AU DU)).offR g60 (AU Fc)
       replace hb:=(((((hb.kn g50).offR g51 (AU VZ)).kn g56).kn g58).offR g59 (AU DA)).offR g60 (AU Ep)
       replace HG:=AD (AD (AA (AA (AD (AA HG g50) g51 ACF) g56) g58) g59 Br) g60 DJ
       replace Ag:=h60
       refine AE ?_
       refine k57 _ _ ?_
       refine AIl ?_
       repeat refine AM ?_
       refine BK (fn:=Tryz.f22) SD (BQ (p:=4) (q:=5) Tryz.results22 SD rfl rfl rfl rfl (Dm V.nul) (Ed 10) AN Ag) (Bl Tryz.func60 (by kernel_rfl) rfl _ _) (DK _ _ _) ?_
       exact⟨PY (PZ hh hv hne hrec),HG⟩
     · have hopen:=NC hh hv hne hrec
       rw[s1,s3,s4] at hopen
       refine AIh ?_
       refine AL Ec 2 [(37,Ao sa po (.slice vo ks.length vc_)),(38,CP ad (.slice ao od.length ac) joint (.slice wo wd.length wc) (.slice bo body.length bc) tg)]
         ⟨yl r6 (BX hsa hpo (.slice vo ks.length vc_) rfl) AG,yl r6 (EU _ _ htg (.slice ao od.length ac) (.slice wo wd.length wc) (.slice bo body.length bc) rfl rfl rfl) AJ,AIo⟩ fun a61 w61 g61 Mz=>?_
       replace hr:=hr.kn g61
       replace ho:=ho.kn g61
       replace hw:=hw.kn g61
       replace hb:=hb.kn g61
       refine BU Mz Tryz.func62 (by kernel_rfl) r6 (YZ hsa hpo htg hr ho hw hb hP hS hh hrec) fun a62 v62 w62 hR62 AEG=>?_
       obtain⟨cz,rfl,hcd,hcc,g62⟩:=hR62
       obtain rfl:=hcc c rfl
       refine AL AEG 3 [(36,.tuple #[AO c,.bool true]),(40,AO c),(41,.bool true)]
         ⟨ym r5,BH rq4 (fun _ _ h=>⟨_,_,h,rfl,rfl⟩),BH rq4 (fun _ _ h=>⟨_,_,h,rfl,rfl⟩),AIo⟩ fun a63 w63 g63 Z6=>?_
       replace AJ:=AC g63 (AC g62 (AC g61 AJ))
       replace AN:=AC g63 (AC g62 (AC g61 AN))
       replace Ag:=AC g63 (AC g62 (AC g61 Ag))
       replace hb:=(hb.kn g62).kn g63
       replace HG:=AA (AA (AA HG g61) g62) g63
       refine As (T:=23) (Z:=(bv AS)) Z6 rfl rfl rfl (fun a w=>by kernel_rfl) fun a64 w64 AIT Jw g64 z64 LV ACA=>?_
       have Qm:=Ar AJ Jw
       have Kp:=Ar AN Jw
       have Kq:=Ar Ag Jw
       have ACG:=Bq HG Jw
       have Va:=Ax (hb.lt) Jw
       refine An ACA r7 (Bn c hcd.1) LV (F5 hcd) fun w65 g65 h65=>?_
       refine Aa (v:=.bool true) ACA r6 fun a66 AF5=>?_
       have AEC:Sv _ _ [_,_,_,_,_,_,_,_,_,_,_,_,_,_,_,_,_,_,_,_,_] _:=AF5.dl [36,40,41,39,37,38]
       refine AE ?_
       refine k46 _ _ ?_
       refine AIi fun K68 k68=>?_
       refine AIi fun K69 k69=>?_
       refine AIh ?_
       refine AL AEC 2 [(42,.bool true),(43,.bool false)]
         ⟨ym r5,Cn r6 (fun _=>BV),AIo⟩ fun a70 w70 g70 XF=>?_
       refine AE ?_
       refine k69 _ _ ?_
       refine Au XF rfl rfl ?_
       refine AIm ?_
       refine k68 _ _ ?_
       refine AIi fun K71 k71=>?_
       refine AIi fun K72 k72=>?_
       replace AJ:=AC g70 (Ab g65 (AC g64 AJ) (Ne.symm Qm))
       replace AN:=AC g70 (Ab g65 (AC g64 AN) (Ne.symm Kp))
       replace Ag:=AC g70 (Ab g65 (AC g64 Ag) (Ne.symm Kq))
       replace LV:=AC g70 h65
       replace hb:=((hb.kn g64).offR g65 (AU Va)).kn g70
       replace HG:=AA (AD (AA HG g64) g65 ACG) g70
       by_cases htt:Tc c ad body=tg
       · rw[if_pos htt] at hopen
         obtain⟨dq,hdq⟩:∃q,I9 (IX body c)=q:=⟨_,rfl⟩
         rw[hdq] at hopen
         refine Cv XF [(45,pk Bo 5),(46,AO tg),(47,AO c),(48,pt Bo),(49,.int .i64 ad),(50,pk Bo 4),(51,.slice bo body.length bc),(52,AO ((Tc c ad body))),(53,.bool false)]
          ⟨yf r6 (fun _=>by kernel_rfl),yp (i:=5) r6 (Bn tg htg.1) AJ rfl rfl,yl r6 (Bn c hcd.1) LV,yf r6 (fun _=>by kernel_rfl),yp (i:=0) r6 (Ff ad) AJ rfl rfl,yf r6 (fun _=>by kernel_rfl),yp (i:=4) r6 (F9 (.slice bo body.length bc) rfl) AJ rfl rfl,Ad [AO c,.int .i64 ad,.slice bo body.length bc] Tryz.func58 (by kernel_rfl) rq4 ⟨(oy rfl rfl),(oy rfl rfl),(oy rfl rfl),AIo⟩ (Aq fun W g=>Fg c hcd ad hia body bby (by omega) _ _ _ (hb.kn g)),Hl r7 (fun _=>(KE htg (Dq c ad body) _ _ _).2.trans (by rw[decide_eq_true (htt.symm)];rfl)),AIo⟩ fun a73 w73 g73 ABx=>?_
         refine k72 _ _ ?_
         refine Au ABx rfl rfl ?_
         refine AIm ?_
         refine k71 _ _ ?_
         refine AIi fun K74 k74=>?_
         refine AIh ?_
         refine AL ABx 3 [(55,pk Bo 4),(56,.slice bo body.length bc),(57,AO c)]
          ⟨yf r6 (fun _=>by kernel_rfl),yp (i:=4) r6 (F9 (.slice bo body.length bc) rfl) (AC g73 AJ) rfl rfl,yl r6 (Bn c hcd.1) (AC g73 LV),AIo⟩ fun a75 w75 g75 AFz=>?_
         have AAG:=AA g73 g75
         replace AN:=AC AAG AN
         replace Ag:=AC AAG Ag
         replace hb:=hb.kn AAG
         refine BU AFz Tryz.func57 (by kernel_rfl) r6 (RO (I4 body bby (by omega) _ _ c hcd _ hb)) fun a76 v76 w76 hR76 AD4=>?_
         obtain⟨ao76,cap76,rfl,_⟩:=(Sl.of_own hR76.1).shape
         obtain⟨ow76,fr76⟩:=hR76
         replace fr76:=Dx fr76
         have oy_:=ow76
         clear ow76
         have g76:=fr76.1
         replace fr76:=fr76.2
         have Vb:=CF fr76 AN
         have Vc:=CF fr76 Ag
         refine BU AD4 Tryz.func61 (by kernel_rfl) r6 (O4 (AEz (Own.sb oy_) (O7 _ bby) (by rw[I3];omega) hdq)) fun a77 v77 w77 hR77 AF6=>?_
         obtain⟨rfl,g77⟩:=hR77
         replace AN:=AC g77 (AC g76 AN)
         have AF7:Sv _ _ [_,_,_,_,_,_,_,_,_,_,_,_,_,_,_,_,_,_,_,_,_,_,_,_,_,_,_,_,_,_,_,_,_] _:=AF6.dl [58,55,56,57]
         refine AL AF7 2 [(60,Bu dq.1),(61,.int .i64 dq.2)]
          ⟨BH rq4 (fun _ _ h=>⟨_,_,h,rfl,rfl⟩),BH rq4 (fun _ _ h=>⟨_,_,h,rfl,rfl⟩),AIo⟩ fun a79 w79 g79 QL=>?_
         refine An QL r7 (Dm dq.1) (AC g79 AN) rfl fun w80 g80 h80=>?_
         replace Ag:=Ak g79 g80 (AC g77 (AC g76 Ag)) Am
         refine An QL r7 (Ed dq.2) Ag rfl fun w81 g81 h81=>?_
         replace AJ:=Ab g81 (Ak g79 g80 (AC g77 (AC g76 (AC AAG AJ))) (Ne.symm A9)) (Ne.symm B7)
         replace AN:=Ab g81 h80 (Ne.symm Am)
         replace LV:=Ab g81 (Ak g79 g80 (AC g77 (AC g76 (AC AAG LV))) Kp) Kq
         replace hb:=((((hb.kn g76).kn g77).kn g79).offR g80 (AU DA)).offR g81 (AU Ep)
         replace oy_:=(((oy_.kn g77).kn g79).offR g80 (AU Vb)).offR g81 (AU Vc)
         replace HG:=AD (AD (AA (AA (AA (AA HG AAG) g76) g77) g79) g80 Br) g81 DJ
         replace Ag:=h81
         refine AE ?_
         refine k74 _ _ ?_
         refine AIl ?_
         repeat refine AM ?_
         refine BK (fn:=Tryz.f22) QL (BQ (p:=4) (q:=5) Tryz.results22 QL rfl rfl rfl rfl (Dm dq.1) (Ed dq.2) AN Ag) (Bl Tryz.func60 (by kernel_rfl) rfl _ _) (DK _ _ _) ?_
         exact⟨PY (hopen),HG⟩
       · rw[if_neg htt] at hopen
         refine Cv XF [(45,pk Bo 5),(46,AO tg),(47,AO c),(48,pt Bo),(49,.int .i64 ad),(50,pk Bo 4),(51,.slice bo body.length bc),(52,AO ((Tc c ad body))),(53,.bool true)]
          ⟨yf r6 (fun _=>by kernel_rfl),yp (i:=5) r6 (Bn tg htg.1) AJ rfl rfl,yl r6 (Bn c hcd.1) LV,yf r6 (fun _=>by kernel_rfl),yp (i:=0) r6 (Ff ad) AJ rfl rfl,yf r6 (fun _=>by kernel_rfl),yp (i:=4) r6 (F9 (.slice bo body.length bc) rfl) AJ rfl rfl,Ad [AO c,.int .i64 ad,.slice bo body.length bc] Tryz.func58 (by kernel_rfl) rq4 ⟨(oy rfl rfl),(oy rfl rfl),(oy rfl rfl),AIo⟩ (Aq fun W g=>Fg c hcd ad hia body bby (by omega) _ _ _ (hb.kn g)),Hl r7 (fun _=>(KE htg (Dq c ad body) _ _ _).2.trans (by rw[decide_eq_false ((fun h=>htt h.symm))];rfl)),AIo⟩ fun a82 w82 g82 Z9=>?_
         refine k72 _ _ ?_
         refine Ap Z9 rfl rfl ?_
         refine AIi fun K83 k83=>?_
         refine AIh ?_
         replace AN:=AC g82 AN
         refine AL Z9 1 [(54,Bu V.nul)]
          ⟨BI (vs:=[]) rfl rfl trivial trivial (fun _=>MV _) (fun _=>rfl),AIo⟩ fun a84 w84 g84 AAA=>?_
         refine An AAA r7 (Dm V.nul) (AC g84 AN) rfl fun w85 g85 h85=>?_
         replace Ag:=Ak g84 g85 (AC g82 Ag) Am
         refine An AAA r7 (Ed 101) Ag rfl fun w86 g86 h86=>?_
         replace AN:=Ab g86 h85 (Ne.symm Am)
         replace HG:=AD (AD (AA (AA HG g82) g84) g85 Br) g86 DJ
         replace Ag:=h86
         refine AE ?_
         refine k83 _ _ ?_
         refine AIl ?_
         repeat refine AM ?_
         refine BK (fn:=Tryz.f22) AAA (BQ (p:=4) (q:=5) Tryz.results22 AAA rfl rfl rfl rfl (Dm V.nul) (Ed 101) AN Ag) (Bl Tryz.func60 (by kernel_rfl) rfl _ _) (DK _ _ _) ?_
         exact⟨PY (hopen),HG⟩
theorem AGA {w:World} {ks:List VK} {vo:Option Addr} {vc_:Nat} {sa po:List Nat} {ad joint:Int} {od wd:List DD} {ao wo bo:Option Addr} {ac wc bc:Nat} {body tg:List Nat} {q:V×Int} (hsa:Dg sa) (hpo:Dg po) (htg:Dg tg) (bby:By body) (hr:RdK w (.slice vo ks.length vc_) ks) (ho:RdD w (.slice ao od.length ac) od) (hw:RdD w (.slice wo wd.length wc) wd) (hb:SlB w 1 (.slice bo body.length bc) body.length (bv body)) (hq:E2 (ks.map VK.p) ⟨ad,od.map DD.x,joint,wd.map DD.x,body,tg⟩=q) :
  Calls Tryz.prog 22 #[Ao sa po (.slice vo ks.length vc_),CP ad (.slice ao od.length ac) joint (.slice wo wd.length wc) (.slice bo body.length bc) tg] w fun e w'=>e=.returned (.tuple #[Bu q.1,.int .i64 q.2])∧w.grownBy w' none:=by
 subst hq
 exact AAF ks vo vc_ sa po hsa hpo ad joint od wd ao wo bo ac wc bc body tg htg bby w hr ho hw hb
end Go.Proofs.YtbfjfnbcmojpiaaGreat
namespace Go.Proofs.YtbfjfnbcmojpiaaGreat
open Go.RowKit
theorem AFM {P:List VP} {i:Nat} (h:i<P.length):od P i∈P.map (·.1):=by rw[Oa h];exact List.mem_map.2 ⟨_,List.getElem_mem h,rfl⟩
theorem AC7 {P:List VP} (hs:Srt P) {o:List Nat}:Hd P o=true↔o∈P.map (·.1):=by
 constructor
 · intro h
   obtain⟨h1,h2⟩:=Mo h
   rw[←h2]
   exact AFM h1
 · intro h
   obtain⟨x,hx,rfl⟩:=List.mem_map.1 h
   obtain⟨i,hi,rfl⟩:=List.getElem_of_mem hx
   exact(Ln hs hi (Oa hi)).2
theorem Xl {P:List VP} (hs:Srt P) {o:List Nat} (h:o ∉ P.map (·.1)):Hd P o=false:=by
 cases e:Hd P o with
 | false=>rfl
 | true=>exact absurd ((AC7 hs).1 e) h
theorem Xm {P:List VP} {o:List Nat} {t:List Nd} {x:VP}:x∈LG P o t↔x=(o,t)∨x∈P:=by
 unfold LG
 rw[List.mem_append,List.mem_cons]
 constructor
 · rintro (h|h|h)
   · exact .inr (List.mem_of_mem_take h)
   · exact .inl h
   · exact .inr (List.mem_of_mem_drop h)
 · rintro (h|h)
   · exact .inr (.inl h)
   · rw[←List.take_append_drop (pos P o) P] at h
     exact(List.mem_append.1 h).imp id .inr
theorem AC8 (P:List VP) (o:List Nat) (t:List Nd):(LG P o t).length=P.length+1:=by rw[Lp];exact Mp (Ob P o) _
theorem AC9 {P:List VP} {o:List Nat} {x:VP} (h:x∈Gf P o):x∈P:=by rw[JX] at h;exact List.mem_of_mem_eraseIdx h
theorem Xn {P:List VP} (hs:Srt P) {i j:Nat} (hi:i<P.length) (hj:j<P.length) (h:od P i=od P j):i=j:=by
 rcases Nat.lt_trichotomy i j with h1|h1|h1
 · have:=hs.lt h1 hj;rw[h,En] at this;cases this
 · exact h1
 · have:=hs.lt h1 hi;rw[h,En] at this;cases this
theorem UG {P:List VP} (hs:Srt P) {o:List Nat} (hf:Hd P o=true) {x:VP}:x∈Gf P o↔x∈P∧x.1≠o:=by
 obtain⟨hp,ho⟩:=Mo hf
 constructor
 · intro h
   refine⟨AC9 h,?_⟩
   rw[JX] at h
   obtain⟨i,hi,he⟩:=List.getElem_of_mem h
   have h2:(P.eraseIdx (pos P o))[i]?=some x:=by rw[List.getElem?_eq_getElem hi,he]
   rw[List.getElem?_eraseIdx] at h2
   intro e
   split at h2
   · rename_i hlt
     have hil:i<P.length:=by omega
     have h3:od P i=o:=by rw[(KG h2).1,e]
     have:=Xn hs hil hp (h3.trans ho.symm)
     omega
   · rename_i hlt
     have hil:=(List.getElem?_eq_some_iff.1 h2).1
     have h3:od P (i+1)=o:=by rw[(KG h2).1,e]
     have:=Xn hs hil hp (h3.trans ho.symm)
     omega
 · rintro ⟨h,hne⟩
   obtain⟨i,hi,rfl⟩:=List.getElem_of_mem h
   unfold Gf
   rcases Nat.lt_trichotomy i (pos P o) with h1|h1|h1
   · refine List.mem_append.2 (.inl (List.mem_iff_getElem.2 ⟨i,?_,?_⟩))
     · rw[List.length_take];omega
     · rw[List.getElem_take]
   · exfalso
     apply hne
     rw[←Oa hi,h1,ho]
   · refine List.mem_append.2 (.inr (List.mem_iff_getElem.2 ⟨i-(pos P o+1),?_,?_⟩))
     · rw[List.length_drop];omega
     · rw[List.getElem_drop]
       congr 1
       omega
theorem Rp {P:List VP} (hs:Srt P) {o:List Nat} {t:List Nd} (h:(o,t)∈P):Hd P o=true∧tr P (pos P o)=t:=by
 obtain⟨i,hi,he⟩:=List.getElem_of_mem h
 have h1:od P i=o:=by rw[Oa hi,he]
 obtain⟨h2,h3⟩:=Ln hs hi h1
 refine⟨h3,?_⟩
 rw[h2,AEb hi,he]
theorem Xo {x:Int} (h1:0≤x) (h2:x<256):IntKind.u8.wrap x=x:=by simp[IntKind.wrap,IntKind.bits,IntKind.signed];omega
theorem Ij (k:List Nat):GB (tree k [])=true:=UE k [] (by simp)
theorem UH {P:List VP} {sa po o nx:List Nat} {T:List Nd} (hv:CE P=true) (hf:Hd P o=false) (hl:P.length<64):KZ (P,sa,po) o T nx=((LG P o T,sa,nx),0):=by
 unfold KZ
 rw[if_pos hv,if_neg (by rw[hf];simp),if_neg (by simpa using hl)]
theorem AAz {P:List VP} {sa po o:List Nat} (hv:CE P=true) (hf:Hd P o=true):WO (P,sa,po) o=((Gf P o,sa,po),0):=by
 unfold WO
 rw[if_pos hv,if_pos hf]
theorem Oc {P:Program} {a b c:Int} {t:TypeId} {x y:Operand} {w:World} (h:bits .and .i64 a b=c):(do eqGuard .and t x y (.int .i64 a) (.int .i64 b);binOp .and t (.int .i64 a) (.int .i64 b):Sem Value).run P w=.ok (.int .i64 c) w:=by
 subst h
 simp[eqGuard,binOp_and]
 rfl
end Go.Proofs.YtbfjfnbcmojpiaaGreat
namespace Go.Proofs.YtbfjfnbcmojpiaaGreat
open Go.RowKit Go.Shelf
theorem AHt (a b:Nat) (w:World):(Instr.build 23 #[(0,.int .u8 (a:Int)),(31,.int .u8 (b:Int))]).run Tryz.prog w=.ok (AO (a::(zs 30++[b]))) w:=by kernel_rfl
section
variable {T:Nat→List Nd} {P:List VP} {i:Nat}
end
theorem Xv {P:List VP} {o:List Nat} {a:Int} {l:List Nd} {q:List Nat×Int} (ha:CV a=true) (hv:CE P=true) (h:Hd P o=true∧tr P (pos P o)=l) (hq:Cs l a=q):Ck P o a=q:=(RL ha hv h.1 rfl h.2).trans hq
end Go.Proofs.YtbfjfnbcmojpiaaGreat
