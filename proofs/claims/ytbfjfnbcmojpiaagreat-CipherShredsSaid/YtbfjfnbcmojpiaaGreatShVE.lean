import Derived.Test.YtbfjfnbcmojpiaaGreatShYA
import Derived.Test.YtbfjfnbcmojpiaaGreatShY1
set_option linter.unusedSimpArgs false
set_option linter.unusedVariables false
set_option maxRecDepth 100000
set_option maxHeartbeats 4000000
namespace Go.Proofs.YtbfjfnbcmojpiaaGreat
open Go.RowKit Go.Shelf
theorem NG (w:World):(Instr.build 25 #[]).run Tryz.prog w=.ok (BR V.nul) w:=by kernel_rfl
theorem Ot (w:World):CallsD Tryz.prog 68 #[] .returning w fun e u' w'=>e=.returned (.tuple #[])∧u'=.returning∧w'=w:=by
 refine callsD_of_wpS Tryz.func68 rfl fun c₀ cs hu=>?_
 apply wpS_region
 simp[wpOpsS,go_sem,recoverD,hu,Tryz.ntmps68]
 cases c₀
 simp_all [bodyPostS,results,Tryz.results68]
theorem So {x:V} {c:Int} {y:V×Int} (h:y=(x,c)):Ending.returned (.tuple #[BR x,.int .i64 c])=Ending.returned (.tuple #[BR y.1,.int .i64 y.2]):=by rw[h]
theorem AHR {w:World} {b:List Nat} {v:Value} (hv:SlB w 1 v b.length (bv b)) (hb:By b) (hl:b.length≤100000):Calls Tryz.prog 107 #[v] w fun e w'=>∃u,e=.returned u∧(∃(x:V) (ao:Option Addr) (n cap:Nat) (er:Int),u=.tuple #[BR x,.slice ao n cap,.int .i64 er]∧w.grownBy w' none ∧
   ((er=0∧∃r,r.length=n∧pV b=.ok (x,r))∨(er≠0∧∃k,pV b=.error k))):=by
 refine(TS v b w hv.1 (by omega) hb hv.2).mono ?_
 intro e w' h
 unfold ReadPost at h
 obtain⟨hg,h⟩:=h
 cases hp:pV b with
 | ok y =>
   obtain⟨x,r⟩:=y
   rw[hp] at h
   obtain⟨u,rv,rfl,hrep,hs,hlo⟩:=h
   obtain rfl:u=BR x:=hrep
   obtain⟨ao,cap,rfl,_⟩:=Sl.shape hs
   exact⟨_,rfl,x,ao,_,cap,0,rfl,hg,.inl ⟨rfl,r,rfl,rfl⟩⟩
 | error n =>
   rw[hp] at h
   obtain⟨rfl,hn⟩:=h
   exact⟨_,rfl,V.nul,none,0,0,n,rfl,hg,.inr ⟨by omega,n,rfl⟩⟩
theorem AHS {b:List Nat} {x:V} {n:Nat} {er:Int} (h:(er=0∧∃r,r.length=n∧pV b=.ok (x,r))∨(er≠0∧∃k,pV b=.error k)):(er≠0→Kw b=(V.nul,101))∧(er=0→n=0→Kw b=(x,0))∧(er=0→0<n→Kw b=(V.nul,101)):=by
 rcases h with ⟨h0,r,rfl,hp⟩|⟨h0,k,hp⟩
 · exact⟨fun h=>absurd h0 h,fun _ h=>ABt (by rw[hp,List.eq_nil_of_length_eq_zero h]),fun _ h=>ADI hp h⟩
 · exact⟨fun _=>AFP hp,fun h=>absurd h h0,fun h=>absurd h h0⟩
theorem ZF (b:List Nat) (hby:By b) (hl:b.length≤100000) (bo:Option Addr) (bc:Nat) (w:World) (hb:SlB w 1 (.slice bo b.length bc) b.length (bv b)) :
   Calls Tryz.prog 61 #[.slice bo b.length bc] w fun e w'=>e=.returned (.tuple #[BR (Kw b).1,.int .i64 (Kw b).2])∧w.grownBy w' none:=by
 refine Bg Tryz.func61 rfl Tryz.ntmps61 rfl fun a0 sv0=>?_
 have HG:=World.grownBy.refl w none
 replace sv0:Sv 22 [] [(0,.slice bo b.length bc)] a0:=sv0
 refine ALo fun K1 k1=>?_
 refine ALn ?_
 refine Av (T:=25) (Z:=[.int .i64 0,.int .i64 0,.string ⟨#[]⟩]) sv0 rfl rfl rfl (fun a w=>by kernel_rfl) fun a2 w2 Cp Ds g2 z2 AK sv2=>?_
 have GR:=Bt HG Ds
 refine Aa (v:=.int .i64 0) sv2 r6 fun a3 sv3=>?_
 refine AE ?_
 refine k1 _ _ ?_
 refine ALo fun K4 k4=>?_
 refine ALn ?_
 refine AI sv3 1 [(8,.slice bo b.length bc)]
   ⟨ym r5,ALu⟩ fun a5 w5 g5 sv5=>?_
 replace hb:=(hb.kn g2).kn g5
 refine Bu sv5 Tryz.func107 (by kernel_rfl) r6 (AHR hb hby hl) fun a6 v6 w6 hR6 sv6=>?_
 obtain⟨x,ro,rn,rc,er,rfl,g6,hcs⟩:=hR6
 obtain⟨hf1,hf2,hf3⟩:=AHS hcs
 refine AI sv6 4 [(7,.tuple #[BR x,.slice ro rn rc,.int .i64 er]),(10,BR x),(11,.slice ro rn rc),(12,.int .i64 er)]
   ⟨ym r5,BC rq4 (fun _ _ h=>⟨_,_,h,rfl,rfl⟩),BC rq4 (fun _ _ h=>⟨_,_,h,rfl,rfl⟩),BC rq4 (fun _ _ h=>⟨_,_,h,rfl,rfl⟩),ALu⟩ fun a7 w7 g7 sv7=>?_
 replace AK:=AC g7 (AC g6 (AC g5 AK))
 replace HG:=AA (AA (AA (AA HG g2) g5) g6) g7
 refine Av (T:=25) (Z:=[.int .i64 0,.int .i64 0,.string ⟨#[]⟩]) sv7 rfl rfl rfl (fun a w=>by kernel_rfl) fun a8 w8 ALk ABu g8 z8 ZG sv8=>?_
 have Ou:=Ar AK ABu
 have AHT:=Bt HG ABu
 refine As sv8 r7 (C6 x) ZG rfl fun w9 g9 h9=>?_
 replace AK:=AY g9 (AC g8 AK) (Ne.symm Ou)
 replace HG:=AD (AA HG g8) g9 AHT
 replace ZG:=h9
 refine Aa (v:=.slice ro rn rc) sv8 r6 fun a10 Ci=>?_
 refine Aa (v:=.int .i64 er) Ci r6 fun a11 CV=>?_
 have DX:Sv _ _ [_,_,_,_,_] _:=CV.dl [7,10,11,12,9,8,0]
 refine AE ?_
 refine k4 _ _ ?_
 refine ALo fun K13 k13=>?_
 refine ALo fun K14 k14=>?_
 rcases(show er≠0∨(er=0∧rn=0)∨(er=0∧0<rn) by omega) with h1|⟨h1,h2⟩|⟨h1,h2⟩
 · refine ALn ?_
   refine AI DX 7 [(13,.int .i64 er),(14,.bool true),(15,.bool true),(16,undef),(17,undef),(18,undef),(19,.bool true)]
    ⟨ym r5,CQ r6 (fun _=>Dt (by simpa using h1)),ym r5,AX r6,AX r6,AX r6,B8 r7,ALu⟩ fun a15 w15 g15 Nj=>?_
   refine AE ?_
   refine k14 _ _ ?_
   refine Ay Nj rfl rfl ?_
   refine ALo fun K16 k16=>?_
   refine ALn ?_
   replace AK:=AC g15 AK
   refine AI Nj 1 [(20,BR V.nul)]
    ⟨Ba (vs:=[]) rfl rfl trivial trivial (fun _=>NG _) (fun _=>rfl),ALu⟩ fun a17 w17 g17 GH=>?_
   refine As GH r7 (C6 V.nul) (AC g17 AK) rfl fun w18 g18 h18=>?_
   replace ZG:=Al g17 g18 (AC g15 ZG) Ou
   replace HG:=AD (AA (AA HG g15) g17) g18 GR
   replace AK:=h18
   refine Aa (v:=.int .i64 101) GH r6 fun a19 E3=>?_
   refine AE ?_
   refine k16 _ _ ?_
   refine ALr ?_
   repeat refine AL ?_
   refine BH (fn:=Tryz.f61) E3 (Gp (p:=2) (q:=3) Tryz.results61 E3 rfl rfl rfl rfl (C6 V.nul) AK) ?_
   exact⟨So (hf1 h1),HG⟩
 · refine ALn ?_
   refine AI DX 7 [(13,.int .i64 er),(14,.bool false),(15,.bool false),(16,.slice ro rn rc),(17,.int .i64 ((rn:Nat))),(18,.bool false),(19,.bool false)]
    ⟨ym r5,CQ r6 (fun _=>Dt (by simpa using h1)),ym r5,Aw rq8,CB (Tryz.underlying29) rfl rfl (gy rfl rfl rfl) (oy rfl rfl) (fun _=>rfl),Bc rq9 (fun _=>DQ (decide_eq_false (by omega))),Ax rq9,ALu⟩ fun a20 w20 g20 FA=>?_
   refine AE ?_
   refine k14 _ _ ?_
   refine Az FA rfl rfl ?_
   refine ALs ?_
   refine k13 _ _ ?_
   refine ALo fun K21 k21=>?_
   refine ALn ?_
   refine AI FA 1 [(21,BR x)]
    ⟨yl r6 (C6 x) (AC g20 ZG),ALu⟩ fun a22 w22 g22 Cw=>?_
   have QP:=AA g20 g22
   refine As Cw r7 (C6 x) (AC QP AK) rfl fun w23 g23 h23=>?_
   replace HG:=AD (AA HG QP) g23 GR
   replace AK:=h23
   refine Aa (v:=.int .i64 0) Cw r6 fun a24 CI=>?_
   refine AE ?_
   refine k21 _ _ ?_
   refine ALr ?_
   repeat refine AL ?_
   refine BH (fn:=Tryz.f61) CI (Gp (p:=2) (q:=3) Tryz.results61 CI rfl rfl rfl rfl (C6 x) AK) ?_
   exact⟨So (hf2 h1 h2),HG⟩
 · refine ALn ?_
   refine AI DX 7 [(13,.int .i64 er),(14,.bool false),(15,.bool false),(16,.slice ro rn rc),(17,.int .i64 ((rn:Nat))),(18,.bool true),(19,.bool true)]
    ⟨ym r5,CQ r6 (fun _=>Dt (by simpa using h1)),ym r5,Aw rq8,CB (Tryz.underlying29) rfl rfl (gy rfl rfl rfl) (oy rfl rfl) (fun _=>rfl),Bc rq9 (fun _=>DQ (decide_eq_true (by omega))),Ax rq9,ALu⟩ fun a25 w25 g25 DY=>?_
   refine AE ?_
   refine k14 _ _ ?_
   refine Ay DY rfl rfl ?_
   refine ALo fun K26 k26=>?_
   refine ALn ?_
   replace AK:=AC g25 AK
   refine AI DY 1 [(20,BR V.nul)]
    ⟨Ba (vs:=[]) rfl rfl trivial trivial (fun _=>NG _) (fun _=>rfl),ALu⟩ fun a27 w27 g27 Jr=>?_
   refine As Jr r7 (C6 V.nul) (AC g27 AK) rfl fun w28 g28 h28=>?_
   replace HG:=AD (AA (AA HG g25) g27) g28 GR
   replace AK:=h28
   refine Aa (v:=.int .i64 101) Jr r6 fun a29 CR=>?_
   refine AE ?_
   refine k26 _ _ ?_
   refine ALr ?_
   repeat refine AL ?_
   refine BH (fn:=Tryz.f61) CR (Gp (p:=2) (q:=3) Tryz.results61 CR rfl rfl rfl rfl (C6 V.nul) AK) ?_
   exact⟨So (hf3 h1 h2),HG⟩
theorem AIE {w:World} {b:List Nat} {q:V×Int} {v:Value} (hv:SlB w 1 v b.length (bv b)) (hb:By b) (hl:b.length≤100000) (hq:Kw b=q):Calls Tryz.prog 61 #[v] w fun e w'=>e=.returned (.tuple #[BR q.1,.int .i64 q.2])∧w.grownBy w' none:=by
 subst hq
 obtain⟨ao,cap,rfl,_⟩:=Sl.shape hv.1
 exact ZF b hb hl ao cap w hv
theorem Pk {P:List VP} {s:Sd} (h:FQ s=false∨CH P=false):DE P s=(V.nul,1):=by
 unfold DE
 rcases h with h|h<;>simp[h]
theorem QF {P:List VP} {s:Sd} (h1:FQ s=true) (h2:CH P=true) (h3:s.own=[]):DE P s=if tgC s.addr s.body=s.tag then Kw s.body else (V.nul,101):=by
 unfold DE
 simp[h1,h2,h3]
theorem Nm {P:List VP} {s:Sd} (h1:FQ s=true) (h2:CH P=true) (h3:s.own≠[]) (h4:Ig P s=none):DE P s=(V.nul,10):=by
 unfold DE
 simp[h1,h2,h3,h4]
theorem Mt {P:List VP} {s:Sd} {c:List Nat} (h1:FQ s=true) (h2:CH P=true) (h3:s.own≠[]) (h4:Ig P s=some c):DE P s=if Vg c s.addr s.body=s.tag then Kw (Jv s.body c) else (V.nul,101):=by
 unfold DE
 simp[h1,h2,h3,h4]
theorem ABv {w:World} {ks:List VK} {vo:Option Addr} {vc:Nat} {sa po:List Nat} {P:List VP} {ad joint:Int} {od wd:List DD} {ao wo bo:Option Addr} {ac wc bc:Nat} {body tg:List Nat} {r:Option (List Nat)} {s:Sd} (hsa:Dg sa) (hpo:Dg po) (htg:Dg tg) (hr:RdK w (.slice vo ks.length vc) ks) (ho:RdD w (.slice ao od.length ac) od) (hw:RdD w (.slice wo wd.length wc) wd) (hb:SlB w 1 (.slice bo body.length bc) body.length (bv body)) (hP:ks.map VK.p=P) (hs:(⟨ad,od.map DD.x,joint,wd.map DD.x,body,tg⟩:Sd)=s) (hvs:FQ s=true) (hres:Ig P s=r) :
  Calls Tryz.prog 62 #[Ao sa po (.slice vo ks.length vc),Bw ad (.slice ao od.length ac) joint (.slice wo wd.length wc) (.slice bo body.length bc) tg] w fun e w'=>∃u,e=.returned u∧(∃c,u=.tuple #[AP c,.bool r.isSome]∧Dg c∧(∀c',r=some c'→c'=c)∧w.grownBy w' none):=by
 subst hs hP hres
 exact(AAo ks vo vc sa po hsa hpo ad joint od wd ao wo bo ac wc bc body tg htg w hr ho hw hb hvs).mono fun e w' ⟨c,h1,h2⟩=>⟨_,h1,c,rfl,h2⟩
theorem Qv {w:World} {ad joint:Int} {od wd:List DD} {ao wo bo:Option Addr} {ac wc bc:Nat} {body tg:List Nat} {b:Bool} {s:Sd} (htg:Dg tg) (ho:RdD w (.slice ao od.length ac) od) (hw:RdD w (.slice wo wd.length wc) wd) (hb:SlB w 1 (.slice bo body.length bc) body.length (bv body)) (hs:(⟨ad,od.map DD.x,joint,wd.map DD.x,body,tg⟩:Sd)=s) (hvs:FQ s=b) :
  Calls Tryz.prog 27 #[Bw ad (.slice ao od.length ac) joint (.slice wo wd.length wc) (.slice bo body.length bc) tg] w fun e w'=>e=.returned (.bool b)∧w.grownBy w' none:=by
 subst hs hvs
 exact AHJ ad joint od wd ao wo bo ac wc bc body tg htg w ho hw hb
theorem ADL (ks:List VK) (vo:Option Addr) (vc_:Nat) (sa po:List Nat) (hsa:Dg sa) (hpo:Dg po) (ad joint:Int) (od wd:List DD) (ao wo bo:Option Addr) (ac wc bc:Nat) (body tg:List Nat) (htg:Dg tg) (bby:By body) (w:World) (hr:RdK w (.slice vo ks.length vc_) ks) (ho:RdD w (.slice ao od.length ac) od) (hw:RdD w (.slice wo wd.length wc) wd) (hb:SlB w 1 (.slice bo body.length bc) body.length (bv body)) :
   Calls Tryz.prog 22 #[Ao sa po (.slice vo ks.length vc_),Bw ad (.slice ao od.length ac) joint (.slice wo wd.length wc) (.slice bo body.length bc) tg] w fun e w'=>e=.returned (.tuple #[BR (DE (ks.map VK.p) ⟨ad,od.map DD.x,joint,wd.map DD.x,body,tg⟩).1,.int .i64 (DE (ks.map VK.p) ⟨ad,od.map DD.x,joint,wd.map DD.x,body,tg⟩).2])∧w.grownBy w' none:=by
 obtain⟨P,hP⟩:∃P,ks.map VK.p=P:=⟨_,rfl⟩
 obtain⟨S,hS⟩:∃S:Sd,⟨ad,od.map DD.x,joint,wd.map DD.x,body,tg⟩=S:=⟨_,rfl⟩
 have s1:S.addr=ad:=by rw[←hS]
 have s2:S.own=od.map DD.x:=by rw[←hS]
 have s3:S.body=body:=by rw[←hS]
 have s4:S.tag=tg:=by rw[←hS]
 rw[hP,hS]
 refine Dv Tryz.func22 rfl Tryz.ntmps22 rfl fun a0 sv0=>?_
 have HG:=World.grownBy.refl w none
 replace sv0:Sv 62 [] [(0,Ao sa po (.slice vo ks.length vc_)),(1,Bw ad (.slice ao od.length ac) joint (.slice wo wd.length wc) (.slice bo body.length bc) tg)] a0:=sv0
 refine ALo fun K1 k1=>?_
 refine ALn ?_
 refine Bn sv0 r6 (BX hsa hpo (.slice vo ks.length vc_) rfl) fun a2 w2 Cp Ds g2 z2 AK sv2=>?_
 refine Bn sv2 r6 (Dz _ _ htg (.slice ao od.length ac) (.slice wo wd.length wc) (.slice bo body.length bc) rfl rfl rfl) fun a3 w3 Cc Fl g3 z3 AN sv3=>?_
 replace AK:=AC g3 AK
 replace hr:=(hr.kn g2).kn g3
 replace ho:=(ho.kn g2).kn g3
 replace hw:=(hw.kn g2).kn g3
 replace hb:=(hb.kn g2).kn g3
 replace HG:=AA (AA HG g2) g3
 refine Av (T:=25) (Z:=[.int .i64 0,.int .i64 0,.string ⟨#[]⟩]) sv3 rfl rfl rfl (fun a w=>by kernel_rfl) fun a4 w4 Gg CS g4 z4 AR sv4=>?_
 have BZ:=Ar AK CS
 have Bl:=Ar AN CS
 have CY:=Bt HG CS
 have CJ:=A1 (hr.lt) CS
 have EA:=A1 (ho.lt) CS
 have EB:=A1 (hw.lt) CS
 have Dr:=A1 (hb.lt) CS
 replace AK:=AC g4 AK
 replace AN:=AC g4 AN
 replace hr:=hr.kn g4
 replace ho:=ho.kn g4
 replace hw:=hw.kn g4
 replace hb:=hb.kn g4
 replace HG:=AA HG g4
 refine Av (T:=38) (Z:=[.int .i64 0]) sv4 rfl rfl rfl (fun a w=>by kernel_rfl) fun a5 w5 X7 E8 g5 z5 A9 sv5=>?_
 have Cg:=Ar AK E8
 have Cv:=Ar AN E8
 have BI:=Ar AR E8
 have FP:=Bt HG E8
 have FI:=A1 (hr.lt) E8
 have G0:=A1 (ho.lt) E8
 have HH:=A1 (hw.lt) E8
 have Fs:=A1 (hb.lt) E8
 replace AK:=AC g5 AK
 replace AN:=AC g5 AN
 replace AR:=AC g5 AR
 replace hr:=hr.kn g5
 replace ho:=ho.kn g5
 replace hw:=hw.kn g5
 replace hb:=hb.kn g5
 replace HG:=AA HG g5
 refine AE ?_
 refine k1 _ _ ?_
 refine ALo fun K6 k6=>?_
 refine ALn ?_
 refine Fu sv5 rfl rfl rfl rfl rfl rfl fun a7 sv7=>?_
 refine Er sv7 rfl (dd:={ target:=.fn (.func 60) #[pt Gg,pt X7],args:=#[] }) rfl (by have e1:=sv7.ev (x:=.tmp 8) rfl rfl;simp[execOp,resolve,Deferred.ofValue,e1];try rfl) fun a8 sv8=>?_
 refine AE ?_
 refine k6 _ _ ?_
 refine ALo fun K9 k9=>?_
 refine ALo fun K10 k10=>?_
 rcases(show(FQ S=false∧CH P=false)∨(FQ S=false∧CH P=true)∨(FQ S=true∧CH P=false)∨(FQ S=true∧CH P=true) by cases FQ S<;>cases CH P<;>simp) with ⟨hh,hv⟩|⟨hh,hv⟩|⟨hh,hv⟩|⟨hh,hv⟩
 · refine ALn ?_
   refine AI sv8 8 [(9,Bw ad (.slice ao od.length ac) joint (.slice wo wd.length wc) (.slice bo body.length bc) tg),(10,.bool false),(11,.bool true),(12,.bool true),(13,undef),(14,undef),(15,undef),(16,.bool true)]
     ⟨yl r6 (Dz _ _ htg (.slice ao od.length ac) (.slice wo wd.length wc) (.slice bo body.length bc) rfl rfl rfl) AN,Ae [Bw ad (.slice ao od.length ac) joint (.slice wo wd.length wc) (.slice bo body.length bc) tg] Tryz.func27 (by kernel_rfl) rq4 ⟨(oy rfl rfl),ALu⟩ (Au fun W g=>Qv htg (ho.kn g) (hw.kn g) (hb.kn g) hS hh),Cl r6 (fun _=>BJ),ym r5,AX r6,AX r6,AX r6,B8 r7,ALu⟩ fun a11 w11 g11 CV=>?_
   refine AE ?_
   refine k10 _ _ ?_
   refine Ay CV rfl rfl ?_
   refine ALo fun K12 k12=>?_
   refine ALn ?_
   replace AR:=AC g11 AR
   refine AI CV 1 [(17,BR V.nul)]
     ⟨Ba (vs:=[]) rfl rfl trivial trivial (fun _=>NG _) (fun _=>rfl),ALu⟩ fun a13 w13 g13 EC=>?_
   refine As EC r7 (C6 V.nul) (AC g13 AR) rfl fun w14 g14 h14=>?_
   replace A9:=Al g13 g14 (AC g11 A9) BI
   refine As EC r7 (EU 1) A9 rfl fun w15 g15 h15=>?_
   replace AK:=AY g15 (Al g13 g14 (AC g11 AK) (Ne.symm BZ)) (Ne.symm Cg)
   replace AN:=AY g15 (Al g13 g14 (AC g11 AN) (Ne.symm Bl)) (Ne.symm Cv)
   replace AR:=AY g15 h14 (Ne.symm BI)
   replace hr:=(((hr.kn g11).kn g13).offR g14 (AV CJ)).offR g15 (AV FI)
   replace ho:=(((ho.kn g11).kn g13).offR g14 (AV EA)).offR g15 (AV G0)
   replace hw:=(((hw.kn g11).kn g13).offR g14 (AV EB)).offR g15 (AV HH)
   replace hb:=(((hb.kn g11).kn g13).offR g14 (AV Dr)).offR g15 (AV Fs)
   replace HG:=AD (AD (AA (AA HG g11) g13) g14 CY) g15 FP
   replace A9:=h15
   refine AE ?_
   refine k12 _ _ ?_
   refine ALr ?_
   repeat refine AL ?_
   refine BU (fn:=Tryz.f22) EC (Bj (p:=4) (q:=5) Tryz.results22 EC rfl rfl rfl rfl (C6 V.nul) (EU 1) AR A9) (Bz Tryz.func60 (by kernel_rfl) rfl _ _) (D0 _ _ _) ?_
   exact⟨So (Pk (.inl hh)),HG⟩
 · refine ALn ?_
   refine AI sv8 8 [(9,Bw ad (.slice ao od.length ac) joint (.slice wo wd.length wc) (.slice bo body.length bc) tg),(10,.bool false),(11,.bool true),(12,.bool true),(13,undef),(14,undef),(15,undef),(16,.bool true)]
     ⟨yl r6 (Dz _ _ htg (.slice ao od.length ac) (.slice wo wd.length wc) (.slice bo body.length bc) rfl rfl rfl) AN,Ae [Bw ad (.slice ao od.length ac) joint (.slice wo wd.length wc) (.slice bo body.length bc) tg] Tryz.func27 (by kernel_rfl) rq4 ⟨(oy rfl rfl),ALu⟩ (Au fun W g=>Qv htg (ho.kn g) (hw.kn g) (hb.kn g) hS hh),Cl r6 (fun _=>BJ),ym r5,AX r6,AX r6,AX r6,B8 r7,ALu⟩ fun a16 w16 g16 Cu=>?_
   refine AE ?_
   refine k10 _ _ ?_
   refine Ay Cu rfl rfl ?_
   refine ALo fun K17 k17=>?_
   refine ALn ?_
   replace AR:=AC g16 AR
   refine AI Cu 1 [(17,BR V.nul)]
     ⟨Ba (vs:=[]) rfl rfl trivial trivial (fun _=>NG _) (fun _=>rfl),ALu⟩ fun a18 w18 g18 CU=>?_
   refine As CU r7 (C6 V.nul) (AC g18 AR) rfl fun w19 g19 h19=>?_
   replace A9:=Al g18 g19 (AC g16 A9) BI
   refine As CU r7 (EU 1) A9 rfl fun w20 g20 h20=>?_
   replace AK:=AY g20 (Al g18 g19 (AC g16 AK) (Ne.symm BZ)) (Ne.symm Cg)
   replace AN:=AY g20 (Al g18 g19 (AC g16 AN) (Ne.symm Bl)) (Ne.symm Cv)
   replace AR:=AY g20 h19 (Ne.symm BI)
   replace hr:=(((hr.kn g16).kn g18).offR g19 (AV CJ)).offR g20 (AV FI)
   replace ho:=(((ho.kn g16).kn g18).offR g19 (AV EA)).offR g20 (AV G0)
   replace hw:=(((hw.kn g16).kn g18).offR g19 (AV EB)).offR g20 (AV HH)
   replace hb:=(((hb.kn g16).kn g18).offR g19 (AV Dr)).offR g20 (AV Fs)
   replace HG:=AD (AD (AA (AA HG g16) g18) g19 CY) g20 FP
   replace A9:=h20
   refine AE ?_
   refine k17 _ _ ?_
   refine ALr ?_
   repeat refine AL ?_
   refine BU (fn:=Tryz.f22) CU (Bj (p:=4) (q:=5) Tryz.results22 CU rfl rfl rfl rfl (C6 V.nul) (EU 1) AR A9) (Bz Tryz.func60 (by kernel_rfl) rfl _ _) (D0 _ _ _) ?_
   exact⟨So (Pk (.inl hh)),HG⟩
 · refine ALn ?_
   refine AI sv8 8 [(9,Bw ad (.slice ao od.length ac) joint (.slice wo wd.length wc) (.slice bo body.length bc) tg),(10,.bool true),(11,.bool false),(12,.bool false),(13,Ao sa po (.slice vo ks.length vc_)),(14,.bool false),(15,.bool true),(16,.bool true)]
     ⟨yl r6 (Dz _ _ htg (.slice ao od.length ac) (.slice wo wd.length wc) (.slice bo body.length bc) rfl rfl rfl) AN,Ae [Bw ad (.slice ao od.length ac) joint (.slice wo wd.length wc) (.slice bo body.length bc) tg] Tryz.func27 (by kernel_rfl) rq4 ⟨(oy rfl rfl),ALu⟩ (Au fun W g=>Qv htg (ho.kn g) (hw.kn g) (hb.kn g) hS hh),Cl r6 (fun _=>BJ),ym r5,Ap rq9 (fun _ g=>Ac (BX hsa hpo (.slice vo ks.length vc_) rfl) (Af (AF g AK (by simp)))),Bf [Ao sa po (.slice vo ks.length vc_)] Tryz.func51 (by kernel_rfl) r7 ⟨(oy rfl rfl),ALu⟩ (Au fun W g=>OT hsa hpo (hr.kn g) hP hv),Fc rfl rfl (gy rfl rfl rfl) (oy rfl rfl) (fun _=>BJ) (fun _=>rfl),Ax rq9,ALu⟩ fun a21 w21 g21 Da=>?_
   refine AE ?_
   refine k10 _ _ ?_
   refine Ay Da rfl rfl ?_
   refine ALo fun K22 k22=>?_
   refine ALn ?_
   replace AR:=AC g21 AR
   refine AI Da 1 [(17,BR V.nul)]
     ⟨Ba (vs:=[]) rfl rfl trivial trivial (fun _=>NG _) (fun _=>rfl),ALu⟩ fun a23 w23 g23 Cz=>?_
   refine As Cz r7 (C6 V.nul) (AC g23 AR) rfl fun w24 g24 h24=>?_
   replace A9:=Al g23 g24 (AC g21 A9) BI
   refine As Cz r7 (EU 1) A9 rfl fun w25 g25 h25=>?_
   replace AK:=AY g25 (Al g23 g24 (AC g21 AK) (Ne.symm BZ)) (Ne.symm Cg)
   replace AN:=AY g25 (Al g23 g24 (AC g21 AN) (Ne.symm Bl)) (Ne.symm Cv)
   replace AR:=AY g25 h24 (Ne.symm BI)
   replace hr:=(((hr.kn g21).kn g23).offR g24 (AV CJ)).offR g25 (AV FI)
   replace ho:=(((ho.kn g21).kn g23).offR g24 (AV EA)).offR g25 (AV G0)
   replace hw:=(((hw.kn g21).kn g23).offR g24 (AV EB)).offR g25 (AV HH)
   replace hb:=(((hb.kn g21).kn g23).offR g24 (AV Dr)).offR g25 (AV Fs)
   replace HG:=AD (AD (AA (AA HG g21) g23) g24 CY) g25 FP
   replace A9:=h25
   refine AE ?_
   refine k22 _ _ ?_
   refine ALr ?_
   repeat refine AL ?_
   refine BU (fn:=Tryz.f22) Cz (Bj (p:=4) (q:=5) Tryz.results22 Cz rfl rfl rfl rfl (C6 V.nul) (EU 1) AR A9) (Bz Tryz.func60 (by kernel_rfl) rfl _ _) (D0 _ _ _) ?_
   exact⟨So (Pk (.inr hv)),HG⟩
 · have hb64:body.length≤64:=s3▸AJE hh
   have hia:RB ad:=by have:=(ABp (AFQ hh)).1;rw[s1] at this;exact⟨by omega,by omega⟩
   refine ALn ?_
   refine AI sv8 8 [(9,Bw ad (.slice ao od.length ac) joint (.slice wo wd.length wc) (.slice bo body.length bc) tg),(10,.bool true),(11,.bool false),(12,.bool false),(13,Ao sa po (.slice vo ks.length vc_)),(14,.bool true),(15,.bool false),(16,.bool false)]
     ⟨yl r6 (Dz _ _ htg (.slice ao od.length ac) (.slice wo wd.length wc) (.slice bo body.length bc) rfl rfl rfl) AN,Ae [Bw ad (.slice ao od.length ac) joint (.slice wo wd.length wc) (.slice bo body.length bc) tg] Tryz.func27 (by kernel_rfl) rq4 ⟨(oy rfl rfl),ALu⟩ (Au fun W g=>Qv htg (ho.kn g) (hw.kn g) (hb.kn g) hS hh),Cl r6 (fun _=>BJ),ym r5,Ap rq9 (fun _ g=>Ac (BX hsa hpo (.slice vo ks.length vc_) rfl) (Af (AF g AK (by simp)))),Bf [Ao sa po (.slice vo ks.length vc_)] Tryz.func51 (by kernel_rfl) r7 ⟨(oy rfl rfl),ALu⟩ (Au fun W g=>OT hsa hpo (hr.kn g) hP hv),Fc rfl rfl (gy rfl rfl rfl) (oy rfl rfl) (fun _=>BJ) (fun _=>rfl),Ax rq9,ALu⟩ fun a26 w26 g26 Cj=>?_
   refine AE ?_
   refine k10 _ _ ?_
   refine Az Cj rfl rfl ?_
   refine ALs ?_
   refine k9 _ _ ?_
   refine ALo fun K27 k27=>?_
   refine ALo fun K28 k28=>?_
   replace AK:=AC g26 AK
   replace AN:=AC g26 AN
   replace AR:=AC g26 AR
   replace A9:=AC g26 A9
   replace hr:=hr.kn g26
   replace ho:=ho.kn g26
   replace hw:=hw.kn g26
   replace hb:=hb.kn g26
   replace HG:=AA HG g26
   rcases Nat.eq_zero_or_pos od.length with hz|hz
   · have hnil:S.own=[]:=by rw[s2,List.eq_nil_of_length_eq_zero hz];rfl
     have hopen:=QF hh hv hnil
     rw[s1,s3,s4] at hopen
     refine ALn ?_
     refine AI Cj 4 [(18,pk Cc 1),(19,.slice ao od.length ac),(20,.int .i64 ((od.length:Nat))),(21,.bool true)]
       ⟨yf r6 (fun _=>by kernel_rfl),yp (i:=1) r6 (M4 (.slice ao od.length ac) rfl) AN rfl rfl,CB (Tryz.underlying28) rfl rfl trivial (oy rfl rfl) (fun _=>rfl),CQ r6 (fun _=>Bi (QN (by omega))),ALu⟩ fun a29 w29 g29 CR=>?_
     refine AE ?_
     refine k28 _ _ ?_
     refine Ay CR rfl rfl ?_
     refine ALo fun K30 k30=>?_
     refine ALo fun K31 k31=>?_
     replace AK:=AC g29 AK
     replace AN:=AC g29 AN
     replace AR:=AC g29 AR
     replace A9:=AC g29 A9
     replace hr:=hr.kn g29
     replace ho:=ho.kn g29
     replace hw:=hw.kn g29
     replace hb:=hb.kn g29
     replace HG:=AA HG g29
     by_cases htt:tgC ad body=tg
     · rw[if_pos htt] at hopen
       obtain⟨dq,hdq⟩:∃q,Kw body=q:=⟨_,rfl⟩
       rw[hdq] at hopen
       refine Ck CR [(22,pk Cc 5),(23,AP tg),(24,pt Cc),(25,.int .i64 ad),(26,pk Cc 4),(27,.slice bo body.length bc),(28,AP ((tgC ad body))),(29,.bool false)]
         ⟨yf r6 (fun _=>by kernel_rfl),yp (i:=5) r6 (CD tg htg.1) AN rfl rfl,yf r6 (fun _=>by kernel_rfl),yp (i:=0) r6 (Hi ad) AN rfl rfl,yf r6 (fun _=>by kernel_rfl),yp (i:=4) r6 (IR (.slice bo body.length bc) rfl) AN rfl rfl,Ae [.int .i64 ad,.slice bo body.length bc] Tryz.func54 (by kernel_rfl) rq4 ⟨(oy rfl rfl),(oy rfl rfl),ALu⟩ (Au fun W g=>Jw ad hia body bby (by omega) _ _ _ (hb.kn g)),Hc r7 (fun _=>(Mi htg (IE ad body) _ _ _).2.trans (by rw[decide_eq_true (htt.symm)];rfl)),ALu⟩ fun a32 w32 g32 Cr=>?_
       refine k31 _ _ ?_
       refine Az Cr rfl rfl ?_
       refine ALs ?_
       refine k30 _ _ ?_
       refine ALo fun K33 k33=>?_
       refine ALn ?_
       refine AI Cr 2 [(31,pk Cc 4),(32,.slice bo body.length bc)]
         ⟨yf r6 (fun _=>by kernel_rfl),yp (i:=4) r6 (IR (.slice bo body.length bc) rfl) (AC g32 AN) rfl rfl,ALu⟩ fun a34 w34 g34 M3=>?_
       have Wc:=AA g32 g34
       replace hb:=hb.kn Wc
       refine Bu M3 Tryz.func61 (by kernel_rfl) r6 (QV (AIE hb bby (by omega) hdq)) fun a35 v35 w35 hR35 Js=>?_
       obtain⟨rfl,g35⟩:=hR35
       replace AR:=AC g35 (AC Wc AR)
       refine AI Js 2 [(34,BR dq.1),(35,.int .i64 dq.2)]
         ⟨BC rq4 (fun _ _ h=>⟨_,_,h,rfl,rfl⟩),BC rq4 (fun _ _ h=>⟨_,_,h,rfl,rfl⟩),ALu⟩ fun a36 w36 g36 F5=>?_
       refine As F5 r7 (C6 dq.1) (AC g36 AR) rfl fun w37 g37 h37=>?_
       replace A9:=Al g36 g37 (AC g35 (AC Wc A9)) BI
       refine As F5 r7 (EU dq.2) A9 rfl fun w38 g38 h38=>?_
       replace AK:=AY g38 (Al g36 g37 (AC g35 (AC Wc AK)) (Ne.symm BZ)) (Ne.symm Cg)
       replace AN:=AY g38 (Al g36 g37 (AC g35 (AC Wc AN)) (Ne.symm Bl)) (Ne.symm Cv)
       replace AR:=AY g38 h37 (Ne.symm BI)
       replace hr:=((((hr.kn Wc).kn g35).kn g36).offR g37 (AV CJ)).offR g38 (AV FI)
       replace ho:=((((ho.kn Wc).kn g35).kn g36).offR g37 (AV EA)).offR g38 (AV G0)
       replace hw:=((((hw.kn Wc).kn g35).kn g36).offR g37 (AV EB)).offR g38 (AV HH)
       replace hb:=(((hb.kn g35).kn g36).offR g37 (AV Dr)).offR g38 (AV Fs)
       replace HG:=AD (AD (AA (AA (AA HG Wc) g35) g36) g37 CY) g38 FP
       replace A9:=h38
       have L9:Sv _ _ [_,_,_,_,_,_,_,_,_,_,_,_,_,_,_,_,_,_,_,_,_,_,_,_,_,_,_] _:=F5.dl [34,35,33,31,32]
       refine AE ?_
       refine k33 _ _ ?_
       refine ALr ?_
       repeat refine AL ?_
       refine BU (fn:=Tryz.f22) L9 (Bj (p:=4) (q:=5) Tryz.results22 L9 rfl rfl rfl rfl (C6 dq.1) (EU dq.2) AR A9) (Bz Tryz.func60 (by kernel_rfl) rfl _ _) (D0 _ _ _) ?_
       exact⟨So (hopen),HG⟩
     · rw[if_neg htt] at hopen
       refine Ck CR [(22,pk Cc 5),(23,AP tg),(24,pt Cc),(25,.int .i64 ad),(26,pk Cc 4),(27,.slice bo body.length bc),(28,AP ((tgC ad body))),(29,.bool true)]
         ⟨yf r6 (fun _=>by kernel_rfl),yp (i:=5) r6 (CD tg htg.1) AN rfl rfl,yf r6 (fun _=>by kernel_rfl),yp (i:=0) r6 (Hi ad) AN rfl rfl,yf r6 (fun _=>by kernel_rfl),yp (i:=4) r6 (IR (.slice bo body.length bc) rfl) AN rfl rfl,Ae [.int .i64 ad,.slice bo body.length bc] Tryz.func54 (by kernel_rfl) rq4 ⟨(oy rfl rfl),(oy rfl rfl),ALu⟩ (Au fun W g=>Jw ad hia body bby (by omega) _ _ _ (hb.kn g)),Hc r7 (fun _=>(Mi htg (IE ad body) _ _ _).2.trans (by rw[decide_eq_false ((fun h=>htt h.symm))];rfl)),ALu⟩ fun a40 w40 g40 Lc=>?_
       refine k31 _ _ ?_
       refine Ay Lc rfl rfl ?_
       refine ALo fun K41 k41=>?_
       refine ALn ?_
       replace AR:=AC g40 AR
       refine AI Lc 1 [(30,BR V.nul)]
         ⟨Ba (vs:=[]) rfl rfl trivial trivial (fun _=>NG _) (fun _=>rfl),ALu⟩ fun a42 w42 g42 GK=>?_
       refine As GK r7 (C6 V.nul) (AC g42 AR) rfl fun w43 g43 h43=>?_
       replace A9:=Al g42 g43 (AC g40 A9) BI
       refine As GK r7 (EU 101) A9 rfl fun w44 g44 h44=>?_
       replace AK:=AY g44 (Al g42 g43 (AC g40 AK) (Ne.symm BZ)) (Ne.symm Cg)
       replace AN:=AY g44 (Al g42 g43 (AC g40 AN) (Ne.symm Bl)) (Ne.symm Cv)
       replace AR:=AY g44 h43 (Ne.symm BI)
       replace hr:=(((hr.kn g40).kn g42).offR g43 (AV CJ)).offR g44 (AV FI)
       replace ho:=(((ho.kn g40).kn g42).offR g43 (AV EA)).offR g44 (AV G0)
       replace hw:=(((hw.kn g40).kn g42).offR g43 (AV EB)).offR g44 (AV HH)
       replace hb:=(((hb.kn g40).kn g42).offR g43 (AV Dr)).offR g44 (AV Fs)
       replace HG:=AD (AD (AA (AA HG g40) g42) g43 CY) g44 FP
       replace A9:=h44
       refine AE ?_
       refine k41 _ _ ?_
       refine ALr ?_
       repeat refine AL ?_
       refine BU (fn:=Tryz.f22) GK (Bj (p:=4) (q:=5) Tryz.results22 GK rfl rfl rfl rfl (C6 V.nul) (EU 101) AR A9) (Bz Tryz.func60 (by kernel_rfl) rfl _ _) (D0 _ _ _) ?_
       exact⟨So (hopen),HG⟩
   · have hne:S.own≠[]:=fun h=>by rw[s2] at h;have h2:od.length=0:=(List.length_map _).symm.trans (congrArg List.length h);omega
     refine ALn ?_
     refine AI Cj 4 [(18,pk Cc 1),(19,.slice ao od.length ac),(20,.int .i64 ((od.length:Nat))),(21,.bool false)]
       ⟨yf r6 (fun _=>by kernel_rfl),yp (i:=1) r6 (M4 (.slice ao od.length ac) rfl) AN rfl rfl,CB (Tryz.underlying28) rfl rfl trivial (oy rfl rfl) (fun _=>rfl),CQ r6 (fun _=>Bi (NU (by omega))),ALu⟩ fun a45 w45 g45 CL=>?_
     refine AE ?_
     refine k28 _ _ ?_
     refine Az CL rfl rfl ?_
     refine ALs ?_
     refine k27 _ _ ?_
     refine ALo fun K46 k46=>?_
     replace AK:=AC g45 AK
     replace AN:=AC g45 AN
     replace AR:=AC g45 AR
     replace A9:=AC g45 A9
     replace hr:=hr.kn g45
     replace ho:=ho.kn g45
     replace hw:=hw.kn g45
     replace hb:=hb.kn g45
     replace HG:=AA HG g45
     rcases(show Ig P S=none∨∃c,Ig P S=some c by cases Ig P S<;>simp) with hrec|⟨c,hrec⟩
     · refine ALn ?_
       refine AI CL 2 [(37,Ao sa po (.slice vo ks.length vc_)),(38,Bw ad (.slice ao od.length ac) joint (.slice wo wd.length wc) (.slice bo body.length bc) tg)]
         ⟨yl r6 (BX hsa hpo (.slice vo ks.length vc_) rfl) AK,yl r6 (Dz _ _ htg (.slice ao od.length ac) (.slice wo wd.length wc) (.slice bo body.length bc) rfl rfl rfl) AN,ALu⟩ fun a47 w47 g47 Ld=>?_
       replace hr:=hr.kn g47
       replace ho:=ho.kn g47
       replace hw:=hw.kn g47
       replace hb:=hb.kn g47
       refine Bu Ld Tryz.func62 (by kernel_rfl) r6 (ABv hsa hpo htg hr ho hw hb hP hS hh hrec) fun a48 v48 w48 hR48 Dh=>?_
       obtain⟨cz,rfl,hcd,_,g48⟩:=hR48
       refine AI Dh 3 [(36,.tuple #[AP cz,.bool false]),(40,AP cz),(41,.bool false)]
         ⟨ym r5,BC rq4 (fun _ _ h=>⟨_,_,h,rfl,rfl⟩),BC rq4 (fun _ _ h=>⟨_,_,h,rfl,rfl⟩),ALu⟩ fun a49 w49 g49 GL=>?_
       replace AK:=AC g49 (AC g48 (AC g47 AK))
       replace AN:=AC g49 (AC g48 (AC g47 AN))
       replace AR:=AC g49 (AC g48 (AC g47 AR))
       replace A9:=AC g49 (AC g48 (AC g47 A9))
       replace hr:=(hr.kn g48).kn g49
       replace ho:=(ho.kn g48).kn g49
       replace hw:=(hw.kn g48).kn g49
       replace hb:=(hb.kn g48).kn g49
       replace HG:=AA (AA (AA HG g47) g48) g49
       refine Av (T:=23) (Z:=(bv AQ)) GL rfl rfl rfl (fun a w=>by kernel_rfl) fun a50 w50 ALY Gc g50 z50 AJI Vd=>?_
       have UD:=Ar AK Gc
       have UE:=Ar AN Gc
       have UF:=Ar AR Gc
       have UG:=Ar A9 Gc
       have AFZ:=Bt HG Gc
       have ZH:=A1 (hr.lt) Gc
       have ZI:=A1 (ho.lt) Gc
       have ZJ:=A1 (hw.lt) Gc
       have ZK:=A1 (hb.lt) Gc
       refine As Vd r7 (CD cz hcd.1) AJI (IB hcd) fun w51 g51 h51=>?_
       refine Aa (v:=.bool false) Vd r6 fun a52 VZ=>?_
       have Td:Sv _ _ [_,_,_,_,_,_,_,_,_,_,_,_,_,_,_,_,_,_,_,_,_] _:=VZ.dl [36,40,41,39,37,38]
       refine AE ?_
       refine k46 _ _ ?_
       refine ALo fun K54 k54=>?_
       refine ALo fun K55 k55=>?_
       refine ALn ?_
       refine AI Td 2 [(42,.bool false),(43,.bool true)]
         ⟨ym r5,Cl r6 (fun _=>BJ),ALu⟩ fun a56 w56 g56 QU=>?_
       refine AE ?_
       refine k55 _ _ ?_
       refine Ay QU rfl rfl ?_
       refine ALo fun K57 k57=>?_
       refine ALn ?_
       replace AR:=AC g56 (AY g51 (AC g50 AR) (Ne.symm UF))
       refine AI QU 1 [(44,BR V.nul)]
         ⟨Ba (vs:=[]) rfl rfl trivial trivial (fun _=>NG _) (fun _=>rfl),ALu⟩ fun a58 w58 g58 Lf=>?_
       refine As Lf r7 (C6 V.nul) (AC g58 AR) rfl fun w59 g59 h59=>?_
       replace A9:=Al g58 g59 (AC g56 (AY g51 (AC g50 A9) (Ne.symm UG))) BI
       refine As Lf r7 (EU 10) A9 rfl fun w60 g60 h60=>?_
       replace AK:=AY g60 (Al g58 g59 (AC g56 (AY g51 (AC g50 AK) (Ne.symm UD))) (Ne.symm BZ)) (Ne.symm Cg)
       replace AN:=AY g60 (Al g58 g59 (AC g56 (AY g51 (AC g50 AN) (Ne.symm UE))) (Ne.symm Bl)) (Ne.symm Cv)
       replace AR:=AY g60 h59 (Ne.symm BI)
       replace hr:=(((((hr.kn g50).offR g51 (AV ZH)).kn g56).kn g58).offR g59 (AV CJ)).offR g60 (AV FI)
       replace ho:=(((((ho.kn g50).offR g51 (AV ZI)).kn g56).kn g58).offR g59 (AV EA)).offR g60 (AV G0)
       replace hw:=(((((hw.kn g50).offR g51 (AV ZJ)).kn g56).kn g58).offR g59 (AV EB)).offR g60 (AV HH)
       replace hb:=(((((hb.kn g50).offR g51 (AV ZK)).kn g56).kn g58).offR g59 (AV Dr)).offR g60 (AV Fs)
       replace HG:=AD (AD (AA (AA (AD (AA HG g50) g51 AFZ) g56) g58) g59 CY) g60 FP
       replace A9:=h60
       refine AE ?_
       refine k57 _ _ ?_
       refine ALr ?_
       repeat refine AL ?_
       refine BU (fn:=Tryz.f22) Lf (Bj (p:=4) (q:=5) Tryz.results22 Lf rfl rfl rfl rfl (C6 V.nul) (EU 10) AR A9) (Bz Tryz.func60 (by kernel_rfl) rfl _ _) (D0 _ _ _) ?_
       exact⟨So (Nm hh hv hne hrec),HG⟩
     · have hopen:=Mt hh hv hne hrec
       rw[s1,s3,s4] at hopen
       refine ALn ?_
       refine AI CL 2 [(37,Ao sa po (.slice vo ks.length vc_)),(38,Bw ad (.slice ao od.length ac) joint (.slice wo wd.length wc) (.slice bo body.length bc) tg)]
         ⟨yl r6 (BX hsa hpo (.slice vo ks.length vc_) rfl) AK,yl r6 (Dz _ _ htg (.slice ao od.length ac) (.slice wo wd.length wc) (.slice bo body.length bc) rfl rfl rfl) AN,ALu⟩ fun a61 w61 g61 Lg=>?_
       replace hr:=hr.kn g61
       replace ho:=ho.kn g61
       replace hw:=hw.kn g61
       replace hb:=hb.kn g61
       refine Bu Lg Tryz.func62 (by kernel_rfl) r6 (ABv hsa hpo htg hr ho hw hb hP hS hh hrec) fun a62 v62 w62 hR62 ALH=>?_
       obtain⟨cz,rfl,hcd,hcc,g62⟩:=hR62
       obtain rfl:=hcc c rfl
       refine AI ALH 3 [(36,.tuple #[AP c,.bool true]),(40,AP c),(41,.bool true)]
         ⟨ym r5,BC rq4 (fun _ _ h=>⟨_,_,h,rfl,rfl⟩),BC rq4 (fun _ _ h=>⟨_,_,h,rfl,rfl⟩),ALu⟩ fun a63 w63 g63 ADA=>?_
       replace AN:=AC g63 (AC g62 (AC g61 AN))
       replace AR:=AC g63 (AC g62 (AC g61 AR))
       replace A9:=AC g63 (AC g62 (AC g61 A9))
       replace hb:=(hb.kn g62).kn g63
       replace HG:=AA (AA (AA HG g61) g62) g63
       refine Av (T:=23) (Z:=(bv AQ)) ADA rfl rfl rfl (fun a w=>by kernel_rfl) fun a64 w64 ALZ MT g64 z64 Nn Si=>?_
       have UH:=Ar AN MT
       have NH:=Ar AR MT
       have NI:=Ar A9 MT
       have AFa:=Bt HG MT
       have ZL:=A1 (hb.lt) MT
       refine As Si r7 (CD c hcd.1) Nn (IB hcd) fun w65 g65 h65=>?_
       refine Aa (v:=.bool true) Si r6 fun a66 WV=>?_
       have Yx:Sv _ _ [_,_,_,_,_,_,_,_,_,_,_,_,_,_,_,_,_,_,_,_,_] _:=WV.dl [36,40,41,39,37,38]
       refine AE ?_
       refine k46 _ _ ?_
       refine ALo fun K68 k68=>?_
       refine ALo fun K69 k69=>?_
       refine ALn ?_
       refine AI Yx 2 [(42,.bool true),(43,.bool false)]
         ⟨ym r5,Cl r6 (fun _=>BJ),ALu⟩ fun a70 w70 g70 Sj=>?_
       refine AE ?_
       refine k69 _ _ ?_
       refine Az Sj rfl rfl ?_
       refine ALs ?_
       refine k68 _ _ ?_
       refine ALo fun K71 k71=>?_
       refine ALo fun K72 k72=>?_
       replace AN:=AC g70 (AY g65 (AC g64 AN) (Ne.symm UH))
       replace AR:=AC g70 (AY g65 (AC g64 AR) (Ne.symm NH))
       replace A9:=AC g70 (AY g65 (AC g64 A9) (Ne.symm NI))
       replace Nn:=AC g70 h65
       replace hb:=((hb.kn g64).offR g65 (AV ZL)).kn g70
       replace HG:=AA (AD (AA HG g64) g65 AFa) g70
       by_cases htt:Vg c ad body=tg
       · rw[if_pos htt] at hopen
         obtain⟨dq,hdq⟩:∃q,Kw (Jv body c)=q:=⟨_,rfl⟩
         rw[hdq] at hopen
         refine Ck Sj [(45,pk Cc 5),(46,AP tg),(47,AP c),(48,pt Cc),(49,.int .i64 ad),(50,pk Cc 4),(51,.slice bo body.length bc),(52,AP ((Vg c ad body))),(53,.bool false)]
          ⟨yf r6 (fun _=>by kernel_rfl),yp (i:=5) r6 (CD tg htg.1) AN rfl rfl,yl r6 (CD c hcd.1) Nn,yf r6 (fun _=>by kernel_rfl),yp (i:=0) r6 (Hi ad) AN rfl rfl,yf r6 (fun _=>by kernel_rfl),yp (i:=4) r6 (IR (.slice bo body.length bc) rfl) AN rfl rfl,Ae [AP c,.int .i64 ad,.slice bo body.length bc] Tryz.func58 (by kernel_rfl) rq4 ⟨(oy rfl rfl),(oy rfl rfl),(oy rfl rfl),ALu⟩ (Au fun W g=>Hj c hcd ad hia body bby (by omega) _ _ _ (hb.kn g)),Hc r7 (fun _=>(Mi htg (Ef c ad body) _ _ _).2.trans (by rw[decide_eq_true (htt.symm)];rfl)),ALu⟩ fun a73 w73 g73 WA=>?_
         refine k72 _ _ ?_
         refine Az WA rfl rfl ?_
         refine ALs ?_
         refine k71 _ _ ?_
         refine ALo fun K74 k74=>?_
         refine ALn ?_
         refine AI WA 3 [(55,pk Cc 4),(56,.slice bo body.length bc),(57,AP c)]
          ⟨yf r6 (fun _=>by kernel_rfl),yp (i:=4) r6 (IR (.slice bo body.length bc) rfl) (AC g73 AN) rfl rfl,yl r6 (CD c hcd.1) (AC g73 Nn),ALu⟩ fun a75 w75 g75 AJB=>?_
         have ADM:=AA g73 g75
         replace AR:=AC ADM AR
         replace A9:=AC ADM A9
         replace hb:=hb.kn ADM
         refine Bu AJB Tryz.func57 (by kernel_rfl) r6 (Uk (Kq body bby (by omega) _ _ c hcd _ hb)) fun a76 v76 w76 hR76 Yf=>?_
         obtain⟨ao76,cap76,rfl,_⟩:=(Sl.of_own hR76.1).shape
         obtain⟨ow76,fr76⟩:=hR76
         replace fr76:=En fr76
         have oy_:=ow76
         clear ow76
         have g76:=fr76.1
         replace fr76:=fr76.2
         have ZM:=CK fr76 AR
         have ZN:=CK fr76 A9
         refine Bu Yf Tryz.func61 (by kernel_rfl) r6 (QV (AIE (Own.sb oy_) (SE _ bby) (by rw[Kp];omega) hdq)) fun a77 v77 w77 hR77 AAr=>?_
         obtain⟨rfl,g77⟩:=hR77
         replace AR:=AC g77 (AC g76 AR)
         have AJG:Sv _ _ [_,_,_,_,_,_,_,_,_,_,_,_,_,_,_,_,_,_,_,_,_,_,_,_,_,_,_,_,_,_,_,_,_] _:=AAr.dl [58,55,56,57]
         refine AI AJG 2 [(60,BR dq.1),(61,.int .i64 dq.2)]
          ⟨BC rq4 (fun _ _ h=>⟨_,_,h,rfl,rfl⟩),BC rq4 (fun _ _ h=>⟨_,_,h,rfl,rfl⟩),ALu⟩ fun a79 w79 g79 Tj=>?_
         refine As Tj r7 (C6 dq.1) (AC g79 AR) rfl fun w80 g80 h80=>?_
         replace A9:=Al g79 g80 (AC g77 (AC g76 A9)) BI
         refine As Tj r7 (EU dq.2) A9 rfl fun w81 g81 h81=>?_
         replace AN:=AY g81 (Al g79 g80 (AC g77 (AC g76 (AC ADM AN))) (Ne.symm Bl)) (Ne.symm Cv)
         replace AR:=AY g81 h80 (Ne.symm BI)
         replace Nn:=AY g81 (Al g79 g80 (AC g77 (AC g76 (AC ADM Nn))) NH) NI
         replace hb:=((((hb.kn g76).kn g77).kn g79).offR g80 (AV Dr)).offR g81 (AV Fs)
         replace oy_:=(((oy_.kn g77).kn g79).offR g80 (AV ZM)).offR g81 (AV ZN)
         replace HG:=AD (AD (AA (AA (AA (AA HG ADM) g76) g77) g79) g80 CY) g81 FP
         replace A9:=h81
         refine AE ?_
         refine k74 _ _ ?_
         refine ALr ?_
         repeat refine AL ?_
         refine BU (fn:=Tryz.f22) Tj (Bj (p:=4) (q:=5) Tryz.results22 Tj rfl rfl rfl rfl (C6 dq.1) (EU dq.2) AR A9) (Bz Tryz.func60 (by kernel_rfl) rfl _ _) (D0 _ _ _) ?_
         exact⟨So (hopen),HG⟩
       · rw[if_neg htt] at hopen
         refine Ck Sj [(45,pk Cc 5),(46,AP tg),(47,AP c),(48,pt Cc),(49,.int .i64 ad),(50,pk Cc 4),(51,.slice bo body.length bc),(52,AP ((Vg c ad body))),(53,.bool true)]
          ⟨yf r6 (fun _=>by kernel_rfl),yp (i:=5) r6 (CD tg htg.1) AN rfl rfl,yl r6 (CD c hcd.1) Nn,yf r6 (fun _=>by kernel_rfl),yp (i:=0) r6 (Hi ad) AN rfl rfl,yf r6 (fun _=>by kernel_rfl),yp (i:=4) r6 (IR (.slice bo body.length bc) rfl) AN rfl rfl,Ae [AP c,.int .i64 ad,.slice bo body.length bc] Tryz.func58 (by kernel_rfl) rq4 ⟨(oy rfl rfl),(oy rfl rfl),(oy rfl rfl),ALu⟩ (Au fun W g=>Hj c hcd ad hia body bby (by omega) _ _ _ (hb.kn g)),Hc r7 (fun _=>(Mi htg (Ef c ad body) _ _ _).2.trans (by rw[decide_eq_false ((fun h=>htt h.symm))];rfl)),ALu⟩ fun a82 w82 g82 Qa=>?_
         refine k72 _ _ ?_
         refine Ay Qa rfl rfl ?_
         refine ALo fun K83 k83=>?_
         refine ALn ?_
         replace AR:=AC g82 AR
         refine AI Qa 1 [(54,BR V.nul)]
          ⟨Ba (vs:=[]) rfl rfl trivial trivial (fun _=>NG _) (fun _=>rfl),ALu⟩ fun a84 w84 g84 ADE=>?_
         refine As ADE r7 (C6 V.nul) (AC g84 AR) rfl fun w85 g85 h85=>?_
         replace A9:=Al g84 g85 (AC g82 A9) BI
         refine As ADE r7 (EU 101) A9 rfl fun w86 g86 h86=>?_
         replace AR:=AY g86 h85 (Ne.symm BI)
         replace HG:=AD (AD (AA (AA HG g82) g84) g85 CY) g86 FP
         replace A9:=h86
         refine AE ?_
         refine k83 _ _ ?_
         refine ALr ?_
         repeat refine AL ?_
         refine BU (fn:=Tryz.f22) ADE (Bj (p:=4) (q:=5) Tryz.results22 ADE rfl rfl rfl rfl (C6 V.nul) (EU 101) AR A9) (Bz Tryz.func60 (by kernel_rfl) rfl _ _) (D0 _ _ _) ?_
         exact⟨So (hopen),HG⟩
theorem AFb {w:World} {ks:List VK} {vo:Option Addr} {vc_:Nat} {sa po:List Nat} {ad joint:Int} {od wd:List DD} {ao wo bo:Option Addr} {ac wc bc:Nat} {body tg:List Nat} {q:V×Int} (hsa:Dg sa) (hpo:Dg po) (htg:Dg tg) (bby:By body) (hr:RdK w (.slice vo ks.length vc_) ks) (ho:RdD w (.slice ao od.length ac) od) (hw:RdD w (.slice wo wd.length wc) wd) (hb:SlB w 1 (.slice bo body.length bc) body.length (bv body)) (hq:DE (ks.map VK.p) ⟨ad,od.map DD.x,joint,wd.map DD.x,body,tg⟩=q) :
  Calls Tryz.prog 22 #[Ao sa po (.slice vo ks.length vc_),Bw ad (.slice ao od.length ac) joint (.slice wo wd.length wc) (.slice bo body.length bc) tg] w fun e w'=>e=.returned (.tuple #[BR q.1,.int .i64 q.2])∧w.grownBy w' none:=by
 subst hq
 exact ADL ks vo vc_ sa po hsa hpo ad joint od wd ao wo bo ac wc bc body tg htg bby w hr ho hw hb
theorem UI (ks:List VK) (vo:Option Addr) (vc_:Nat) (sa po:List Nat) (hsa:Dg sa) (hpo:Dg po) (ad joint:Int) (od wd:List DD) (ao wo bo:Option Addr) (ac wc bc:Nat) (body tg:List Nat) (htg:Dg tg) (bby:By body) (w:World) (hr:RdK w (.slice vo ks.length vc_) ks) (ho:RdD w (.slice ao od.length ac) od) (hw:RdD w (.slice wo wd.length wc) wd) (hb:SlB w 1 (.slice bo body.length bc) body.length (bv body)) :
   Calls Tryz.prog 26 #[Ao sa po (.slice vo ks.length vc_),Bw ad (.slice ao od.length ac) joint (.slice wo wd.length wc) (.slice bo body.length bc) tg] w fun e w'=>e=.returned (.bool (decide ((DE (ks.map VK.p) ⟨ad,od.map DD.x,joint,wd.map DD.x,body,tg⟩).2=0)))∧w.grownBy w' none:=by
 obtain⟨q,hq⟩:∃q,DE (ks.map VK.p) ⟨ad,od.map DD.x,joint,wd.map DD.x,body,tg⟩=q:=⟨_,rfl⟩
 rw[hq]
 refine Dv Tryz.func26 rfl Tryz.ntmps26 rfl fun a0 sv0=>?_
 have HG:=World.grownBy.refl w none
 replace sv0:Sv 15 [] [(0,Ao sa po (.slice vo ks.length vc_)),(1,Bw ad (.slice ao od.length ac) joint (.slice wo wd.length wc) (.slice bo body.length bc) tg)] a0:=sv0
 refine ALo fun K1 k1=>?_
 refine ALn ?_
 refine Bn sv0 r6 (BX hsa hpo (.slice vo ks.length vc_) rfl) fun a2 w2 Cp Ds g2 z2 AK sv2=>?_
 refine Bn sv2 r6 (Dz _ _ htg (.slice ao od.length ac) (.slice wo wd.length wc) (.slice bo body.length bc) rfl rfl rfl) fun a3 w3 Cc Fl g3 z3 AN sv3=>?_
 replace AK:=AC g3 AK
 refine Aa (v:=.bool false) sv3 r6 fun a4 sv4=>?_
 refine AE ?_
 refine k1 _ _ ?_
 refine ALo fun K5 k5=>?_
 refine ALn ?_
 refine Er sv4 rfl (dd:={ target:=.fn (.func 68) #[],args:=#[] }) rfl (by simp[execOp,resolve,Deferred.ofValue];try rfl) fun a6 sv6=>?_
 refine AE ?_
 refine k5 _ _ ?_
 refine ALo fun K7 k7=>?_
 refine ALn ?_
 refine AI sv6 2 [(8,Ao sa po (.slice vo ks.length vc_)),(9,Bw ad (.slice ao od.length ac) joint (.slice wo wd.length wc) (.slice bo body.length bc) tg)]
   ⟨yl r6 (BX hsa hpo (.slice vo ks.length vc_) rfl) AK,yl r6 (Dz _ _ htg (.slice ao od.length ac) (.slice wo wd.length wc) (.slice bo body.length bc) rfl rfl rfl) AN,ALu⟩ fun a8 w8 g8 sv8=>?_
 replace hr:=((hr.kn g2).kn g3).kn g8
 replace ho:=((ho.kn g2).kn g3).kn g8
 replace hw:=((hw.kn g2).kn g3).kn g8
 replace hb:=((hb.kn g2).kn g3).kn g8
 refine Bu sv8 Tryz.func22 (by kernel_rfl) r6 (QV (AFb hsa hpo htg bby hr ho hw hb hq)) fun a9 v9 w9 hR9 sv9=>?_
 obtain⟨rfl,g9⟩:=hR9
 have Ci:Sv _ _ [_,_,_,_] _:=sv9.dl [8,9,3,2]
 refine AI Ci 3 [(7,.tuple #[BR q.1,.int .i64 q.2]),(11,BR q.1),(12,.int .i64 q.2)]
   ⟨ym r5,BC rq4 (fun _ _ h=>⟨_,_,h,rfl,rfl⟩),BC rq4 (fun _ _ h=>⟨_,_,h,rfl,rfl⟩),ALu⟩ fun a11 w11 g11 CV=>?_
 replace HG:=AA (AA (AA (AA (AA HG g2) g3) g8) g9) g11
 refine Av (T:=25) (Z:=[.int .i64 0,.int .i64 0,.string ⟨#[]⟩]) CV rfl rfl rfl (fun a w=>by kernel_rfl) fun a12 w12 ALa AFc g12 z12 AJJ DX=>?_
 have AFd:=Bt HG AFc
 refine As DX r7 (C6 q.1) AJJ rfl fun w13 g13 h13=>?_
 replace HG:=AD (AA HG g12) g13 AFd
 refine Aa (v:=.int .i64 q.2) DX r6 fun a14 Db=>?_
 have Nj:Sv _ _ [_,_,_,_] _:=Db.dl [5,7,11,12,10]
 refine AE ?_
 refine k7 _ _ ?_
 refine ALo fun K16 k16=>?_
 by_cases h0:q.2=0
 · refine ALn ?_
   refine AI Nj 2 [(13,.int .i64 q.2),(14,.bool true)]
    ⟨ym r5,CQ r6 (fun _=>Bi (by simpa using h0)),ALu⟩ fun a17 w17 g17 GH=>?_
   refine Aa (v:=.bool true) GH r6 fun a18 CU=>?_
   refine AE ?_
   refine k16 _ _ ?_
   replace HG:=AA HG g17
   refine ALr ?_
   repeat refine AL ?_
   refine BU (fn:=Tryz.f26) CU (BD (p:=4) Tryz.results26 CU rfl rfl) (Bz Tryz.func68 (by kernel_rfl) rfl _ _) (Ot _) ?_
   exact⟨Ht ((decide_eq_true h0).symm),HG⟩
 · refine ALn ?_
   refine AI Nj 2 [(13,.int .i64 q.2),(14,.bool false)]
    ⟨ym r5,CQ r6 (fun _=>Bi (by simpa using h0)),ALu⟩ fun a19 w19 g19 E3=>?_
   refine Aa (v:=.bool false) E3 r6 fun a20 FA=>?_
   refine AE ?_
   refine k16 _ _ ?_
   replace HG:=AA HG g19
   refine ALr ?_
   repeat refine AL ?_
   refine BU (fn:=Tryz.f26) FA (BD (p:=4) Tryz.results26 FA rfl rfl) (Bz Tryz.func68 (by kernel_rfl) rfl _ _) (Ot _) ?_
   exact⟨Ht ((decide_eq_false h0).symm),HG⟩
end Go.Proofs.YtbfjfnbcmojpiaaGreat
namespace Go.Proofs.YtbfjfnbcmojpiaaGreat
open Go.RowKit
theorem AIa {P:List VP} {i:Nat} (h:i<P.length):od P i∈P.map (·.1):=by rw[Ra h];exact List.mem_map.2 ⟨_,List.getElem_mem h,rfl⟩
theorem AGR {P:List VP} (hs:Srt P) {o:List Nat}:IT P o=true↔o∈P.map (·.1):=by
 constructor
 · intro h
   obtain⟨h1,h2⟩:=KT h
   rw[←h2]
   exact AIa h1
 · intro h
   obtain⟨x,hx,rfl⟩:=List.mem_map.1 h
   obtain⟨i,hi,rfl⟩:=List.getElem_of_mem hx
   exact(OA hs hi (Ra hi)).2
theorem AGS {P:List VP} (hs:Srt P) {o:List Nat} (h:o ∉ P.map (·.1)):IT P o=false:=by
 cases e:IT P o with
 | false=>rfl
 | true=>exact absurd ((AGR hs).1 e) h
theorem ABQ {P:List VP} {o:List Nat} {t:List Nd} {x:VP}:x∈NT P o t↔x=(o,t)∨x∈P:=by
 unfold NT
 rw[List.mem_append,List.mem_cons]
 constructor
 · rintro (h|h|h)
   · exact .inr (List.mem_of_mem_take h)
   · exact .inl h
   · exact .inr (List.mem_of_mem_drop h)
 · rintro (h|h)
   · exact .inr (.inl h)
   · rw[←List.take_append_drop (pos P o) P] at h
     exact(List.mem_append.1 h).imp id .inr
theorem AGT (P:List VP) (o:List Nat) (t:List Nd):(NT P o t).length=P.length+1:=by rw[OB];exact PN (Rb P o) _
theorem AGU {P:List VP} {o:List Nat} {x:VP} (h:x∈UX P o):x∈P:=by rw[Pz] at h;exact List.mem_of_mem_eraseIdx h
theorem ABR {P:List VP} (hs:Srt P) {i j:Nat} (hi:i<P.length) (hj:j<P.length) (h:od P i=od P j):i=j:=by
 rcases Nat.lt_trichotomy i j with h1|h1|h1
 · have:=hs.lt h1 hj;rw[h,Fo] at this;cases this
 · exact h1
 · have:=hs.lt h1 hi;rw[h,Fo] at this;cases this
theorem Xc {P:List VP} (hs:Srt P) {o:List Nat} (hf:IT P o=true) {x:VP}:x∈UX P o↔x∈P∧x.1≠o:=by
 obtain⟨hp,ho⟩:=KT hf
 constructor
 · intro h
   refine⟨AGU h,?_⟩
   rw[Pz] at h
   obtain⟨i,hi,he⟩:=List.getElem_of_mem h
   have h2:(P.eraseIdx (pos P o))[i]?=some x:=by rw[List.getElem?_eq_getElem hi,he]
   rw[List.getElem?_eraseIdx] at h2
   intro e
   split at h2
   · rename_i hlt
     have hil:i<P.length:=by omega
     have h3:od P i=o:=by rw[(JY h2).1,e]
     have:=ABR hs hil hp (h3.trans ho.symm)
     omega
   · rename_i hlt
     have hil:=(List.getElem?_eq_some_iff.1 h2).1
     have h3:od P (i+1)=o:=by rw[(JY h2).1,e]
     have:=ABR hs hil hp (h3.trans ho.symm)
     omega
 · rintro ⟨h,hne⟩
   obtain⟨i,hi,rfl⟩:=List.getElem_of_mem h
   unfold UX
   rcases Nat.lt_trichotomy i (pos P o) with h1|h1|h1
   · refine List.mem_append.2 (.inl (List.mem_iff_getElem.2 ⟨i,?_,?_⟩))
     · rw[List.length_take];omega
     · rw[List.getElem_take]
   · exfalso
     apply hne
     rw[←Ra hi,h1,ho]
   · refine List.mem_append.2 (.inr (List.mem_iff_getElem.2 ⟨i-(pos P o+1),?_,?_⟩))
     · rw[List.length_drop];omega
     · rw[List.getElem_drop]
       congr 1
       omega
theorem U9 {P:List VP} (hs:Srt P) {o:List Nat} {t:List Nd} (h:(o,t)∈P):IT P o=true∧tr P (pos P o)=t:=by
 obtain⟨i,hi,he⟩:=List.getElem_of_mem h
 have h1:od P i=o:=by rw[Ra hi,he]
 obtain⟨h2,h3⟩:=OA hs hi h1
 refine⟨h3,?_⟩
 rw[h2,AHo hi,he]
theorem AGV {P:List VP} (hs:Srt P) {o:List Nat} {t:List Nd} (hf:IT P o=true) {x:VP}:x∈Jo P o t↔x=(o,t)∨(x∈P∧x.1≠o):=by
 have h1:=Xc hs hf (x:=x)
 unfold Jo
 unfold UX at h1
 rw[List.mem_append,List.mem_cons]
 rw[List.mem_append] at h1
 constructor
 · rintro (h|h|h)
   · exact .inr (h1.1 (.inl h))
   · exact .inl h
   · exact .inr (h1.1 (.inr h))
 · rintro (h|h)
   · exact .inr (.inl h)
   · exact(h1.2 h).imp id .inr
theorem ABS {x:Int} (h1:0≤x) (h2:x<256):IntKind.u8.wrap x=x:=by simp[IntKind.wrap,IntKind.bits,IntKind.signed];omega
theorem KU (k:List Nat):Gh (tree k [])=true:=JX k [] (by simp)
theorem Xd {P:List VP} {sa po o nx:List Nat} {T:List Nd} (hv:CH P=true) (hf:IT P o=false) (hl:P.length<64):M1 (P,sa,po) o T nx=((NT P o T,sa,nx),0):=by
 unfold M1
 rw[if_pos hv,if_neg (by rw[hf];simp),if_neg (by simpa using hl)]
theorem DS {P:Program} {a b c:Int} {t:TypeId} {x y:Operand} {w:World} (h:bits .and .i64 a b=c):(do eqGuard .and t x y (.int .i64 a) (.int .i64 b);binOp .and t (.int .i64 a) (.int .i64 b):Sem Value).run P w=.ok (.int .i64 c) w:=by
 subst h
 simp[eqGuard,binOp_and]
 rfl
end Go.Proofs.YtbfjfnbcmojpiaaGreat
namespace Go.Proofs.YtbfjfnbcmojpiaaGreat
open Go.RowKit Go.Shelf
theorem AK5 (a b:Nat) (w:World):(Instr.build 23 #[(0,.int .u8 (a:Int)),(31,.int .u8 (b:Int))]).run Tryz.prog w=.ok (AP (a::(zs 30++[b]))) w:=by kernel_rfl
theorem ABa {P:List VP} {o:List Nat} {a:Int} {l:List Nd} {q:List Nat×Int} (ha:Br a=true) (hv:CH P=true) (h:IT P o=true∧tr P (pos P o)=l) (hq:DM l a=q):CP P o a=q:=(Uh ha hv h.1 rfl h.2).trans hq
end Go.Proofs.YtbfjfnbcmojpiaaGreat
