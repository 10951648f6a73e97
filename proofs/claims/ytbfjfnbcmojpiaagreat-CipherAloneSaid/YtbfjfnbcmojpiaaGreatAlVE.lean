import Derived.Test.YtbfjfnbcmojpiaaGreatAlYA
import Derived.Test.YtbfjfnbcmojpiaaGreatAlY1
set_option linter.unusedSimpArgs false
set_option linter.unusedVariables false
set_option maxRecDepth 100000
set_option maxHeartbeats 4000000
namespace Go.Proofs.YtbfjfnbcmojpiaaGreat
open Go.RowKit Go.Shelf
theorem PF (w:World):(Instr.build 25 #[]).run Tryz.prog w=.ok (CH V.nul) w:=by kernel_rfl
theorem Ni (w:World):CallsD Tryz.prog 68 #[] .returning w fun e u' w'=>e=.returned (.tuple #[])∧u'=.returning∧w'=w:=by
 refine callsD_of_wpS Tryz.func68 rfl fun c₀ cs hu=>?_
 apply wpS_region
 simp[wpOpsS,go_sem,recoverD,hu,Tryz.ntmps68]
 cases c₀
 simp_all [bodyPostS,results,Tryz.results68]
theorem Rt {x:V} {c:Int} {y:V×Int} (h:y=(x,c)):Ending.returned (.tuple #[CH x,.int .i64 c])=Ending.returned (.tuple #[CH y.1,.int .i64 y.2]):=by rw[h]
theorem AHU {w:World} {b:List Nat} {v:Value} (hv:SlB w 1 v b.length (bv b)) (hb:By b) (hl:b.length≤100000):Calls Tryz.prog 107 #[v] w fun e w'=>∃u,e=.returned u∧(∃(x:V) (ao:Option Addr) (n cap:Nat) (er:Int),u=.tuple #[CH x,.slice ao n cap,.int .i64 er]∧w.grownBy w' none ∧
   ((er=0∧∃r,r.length=n∧pV b=.ok (x,r))∨(er≠0∧∃k,pV b=.error k))):=by
 refine(S9 v b w hv.1 (by omega) hb hv.2).mono ?_
 intro e w' h
 unfold ReadPost at h
 obtain⟨hg,h⟩:=h
 cases hp:pV b with
 | ok y =>
   obtain⟨x,r⟩:=y
   rw[hp] at h
   obtain⟨u,rv,rfl,hrep,hs,hlo⟩:=h
   obtain rfl:u=CH x:=hrep
   obtain⟨ao,cap,rfl,_⟩:=Sl.shape hs
   exact⟨_,rfl,x,ao,_,cap,0,rfl,hg,.inl ⟨rfl,r,rfl,rfl⟩⟩
 | error n =>
   rw[hp] at h
   obtain⟨rfl,hn⟩:=h
   exact⟨_,rfl,V.nul,none,0,0,n,rfl,hg,.inr ⟨by omega,n,rfl⟩⟩
theorem AHV {b:List Nat} {x:V} {n:Nat} {er:Int} (h:(er=0∧∃r,r.length=n∧pV b=.ok (x,r))∨(er≠0∧∃k,pV b=.error k)):(er≠0→KF b=(V.nul,101))∧(er=0→n=0→KF b=(x,0))∧(er=0→0<n→KF b=(V.nul,101)):=by
 rcases h with ⟨h0,r,rfl,hp⟩|⟨h0,k,hp⟩
 · exact⟨fun h=>absurd h0 h,fun _ h=>ABo (by rw[hp,List.eq_nil_of_length_eq_zero h]),fun _ h=>ADF hp h⟩
 · exact⟨fun _=>AFM hp,fun h=>absurd h h0,fun h=>absurd h h0⟩
theorem ZC (b:List Nat) (hby:By b) (hl:b.length≤100000) (bo:Option Addr) (bc:Nat) (w:World) (hb:SlB w 1 (.slice bo b.length bc) b.length (bv b)) :
   Calls Tryz.prog 61 #[.slice bo b.length bc] w fun e w'=>e=.returned (.tuple #[CH (KF b).1,.int .i64 (KF b).2])∧w.grownBy w' none:=by
 refine BZ Tryz.func61 rfl Tryz.ntmps61 rfl fun a0 sv0=>?_
 have HG:=World.grownBy.refl w none
 replace sv0:Sv 22 [] [(0,.slice bo b.length bc)] a0:=sv0
 refine ALz fun K1 k1=>?_
 refine ALy ?_
 refine Ar (T:=25) (Z:=[.int .i64 0,.int .i64 0,.string ⟨#[]⟩]) sv0 rfl rfl rfl (fun a w=>by kernel_rfl) fun a2 w2 Ci Dh g2 z2 AK sv2=>?_
 have GD:=Bt HG Dh
 refine AY (v:=.int .i64 0) sv2 r6 fun a3 sv3=>?_
 refine AE ?_
 refine k1 _ _ ?_
 refine ALz fun K4 k4=>?_
 refine ALy ?_
 refine AJ sv3 1 [(8,.slice bo b.length bc)]
   ⟨ym r5,AL5⟩ fun a5 w5 g5 sv5=>?_
 replace hb:=(hb.kn g2).kn g5
 refine Bh sv5 Tryz.func107 (by kernel_rfl) r6 (AHU hb hby hl) fun a6 v6 w6 hR6 sv6=>?_
 obtain⟨x,ro,rn,rc,er,rfl,g6,hcs⟩:=hR6
 obtain⟨hf1,hf2,hf3⟩:=AHV hcs
 refine AJ sv6 4 [(7,.tuple #[CH x,.slice ro rn rc,.int .i64 er]),(10,CH x),(11,.slice ro rn rc),(12,.int .i64 er)]
   ⟨ym r5,BF rq4 (fun _ _ h=>⟨_,_,h,rfl,rfl⟩),BF rq4 (fun _ _ h=>⟨_,_,h,rfl,rfl⟩),BF rq4 (fun _ _ h=>⟨_,_,h,rfl,rfl⟩),AL5⟩ fun a7 w7 g7 sv7=>?_
 replace AK:=AC g7 (AC g6 (AC g5 AK))
 replace HG:=AA (AA (AA (AA HG g2) g5) g6) g7
 refine Ar (T:=25) (Z:=[.int .i64 0,.int .i64 0,.string ⟨#[]⟩]) sv7 rfl rfl rfl (fun a w=>by kernel_rfl) fun a8 w8 ALv ABp g8 z8 ZD sv8=>?_
 have Nj:=An AK ABp
 have AHW:=Bt HG ABp
 refine Ao sv8 r7 (En x) ZD rfl fun w9 g9 h9=>?_
 replace AK:=AX g9 (AC g8 AK) (Ne.symm Nj)
 replace HG:=AD (AA HG g8) g9 AHW
 replace ZD:=h9
 refine AY (v:=.slice ro rn rc) sv8 r6 fun a10 Cb=>?_
 refine AY (v:=.int .i64 er) Cb r6 fun a11 Cc=>?_
 have DL:Sv _ _ [_,_,_,_,_] _:=Cc.dl [7,10,11,12,9,8,0]
 refine AE ?_
 refine k4 _ _ ?_
 refine ALz fun K13 k13=>?_
 refine ALz fun K14 k14=>?_
 rcases(show er≠0∨(er=0∧rn=0)∨(er=0∧0<rn) by omega) with h1|⟨h1,h2⟩|⟨h1,h2⟩
 · refine ALy ?_
   refine AJ DL 7 [(13,.int .i64 er),(14,.bool true),(15,.bool true),(16,undef),(17,undef),(18,undef),(19,.bool true)]
    ⟨ym r5,Cz r6 (fun _=>Dj (by simpa using h1)),ym r5,AZ r6,AZ r6,AZ r6,CL r7,AL5⟩ fun a15 w15 g15 Ms=>?_
   refine AE ?_
   refine k14 _ _ ?_
   refine Aw Ms rfl rfl ?_
   refine ALz fun K16 k16=>?_
   refine ALy ?_
   replace AK:=AC g15 AK
   refine AJ Ms 1 [(20,CH V.nul)]
    ⟨BU (vs:=[]) rfl rfl trivial trivial (fun _=>PF _) (fun _=>rfl),AL5⟩ fun a17 w17 g17 FY=>?_
   refine Ao FY r7 (En V.nul) (AC g17 AK) rfl fun w18 g18 h18=>?_
   replace ZD:=Aj g17 g18 (AC g15 ZD) Nj
   replace HG:=AD (AA (AA HG g15) g17) g18 GD
   replace AK:=h18
   refine AY (v:=.int .i64 101) FY r6 fun a19 EQ=>?_
   refine AE ?_
   refine k16 _ _ ?_
   refine AL2 ?_
   repeat refine AL ?_
   refine BI (fn:=Tryz.f61) EQ (Gd (p:=2) (q:=3) Tryz.results61 EQ rfl rfl rfl rfl (En V.nul) AK) ?_
   exact⟨Rt (hf1 h1),HG⟩
 · refine ALy ?_
   refine AJ DL 7 [(13,.int .i64 er),(14,.bool false),(15,.bool false),(16,.slice ro rn rc),(17,.int .i64 ((rn:Nat))),(18,.bool false),(19,.bool false)]
    ⟨ym r5,Cz r6 (fun _=>Dj (by simpa using h1)),ym r5,Az rq8,Bv (Tryz.underlying29) rfl rfl (gy rfl rfl rfl) (oy rfl rfl) (fun _=>rfl),BJ rq9 (fun _=>DI (decide_eq_false (by omega))),A2 rq9,AL5⟩ fun a20 w20 g20 Eu=>?_
   refine AE ?_
   refine k14 _ _ ?_
   refine A1 Eu rfl rfl ?_
   refine AL3 ?_
   refine k13 _ _ ?_
   refine ALz fun K21 k21=>?_
   refine ALy ?_
   refine AJ Eu 1 [(21,CH x)]
    ⟨yl r6 (En x) (AC g20 ZD),AL5⟩ fun a22 w22 g22 Ct=>?_
   have PY:=AA g20 g22
   refine Ao Ct r7 (En x) (AC PY AK) rfl fun w23 g23 h23=>?_
   replace HG:=AD (AA HG PY) g23 GD
   replace AK:=h23
   refine AY (v:=.int .i64 0) Ct r6 fun a24 ER=>?_
   refine AE ?_
   refine k21 _ _ ?_
   refine AL2 ?_
   repeat refine AL ?_
   refine BI (fn:=Tryz.f61) ER (Gd (p:=2) (q:=3) Tryz.results61 ER rfl rfl rfl rfl (En x) AK) ?_
   exact⟨Rt (hf2 h1 h2),HG⟩
 · refine ALy ?_
   refine AJ DL 7 [(13,.int .i64 er),(14,.bool false),(15,.bool false),(16,.slice ro rn rc),(17,.int .i64 ((rn:Nat))),(18,.bool true),(19,.bool true)]
    ⟨ym r5,Cz r6 (fun _=>Dj (by simpa using h1)),ym r5,Az rq8,Bv (Tryz.underlying29) rfl rfl (gy rfl rfl rfl) (oy rfl rfl) (fun _=>rfl),BJ rq9 (fun _=>DI (decide_eq_true (by omega))),A2 rq9,AL5⟩ fun a25 w25 g25 DV=>?_
   refine AE ?_
   refine k14 _ _ ?_
   refine Aw DV rfl rfl ?_
   refine ALz fun K26 k26=>?_
   refine ALy ?_
   replace AK:=AC g25 AK
   refine AJ DV 1 [(20,CH V.nul)]
    ⟨BU (vs:=[]) rfl rfl trivial trivial (fun _=>PF _) (fun _=>rfl),AL5⟩ fun a27 w27 g27 JG=>?_
   refine Ao JG r7 (En V.nul) (AC g27 AK) rfl fun w28 g28 h28=>?_
   replace HG:=AD (AA (AA HG g25) g27) g28 GD
   replace AK:=h28
   refine AY (v:=.int .i64 101) JG r6 fun a29 Cf=>?_
   refine AE ?_
   refine k26 _ _ ?_
   refine AL2 ?_
   repeat refine AL ?_
   refine BI (fn:=Tryz.f61) Cf (Gd (p:=2) (q:=3) Tryz.results61 Cf rfl rfl rfl rfl (En V.nul) AK) ?_
   exact⟨Rt (hf3 h1 h2),HG⟩
theorem AIM {w:World} {b:List Nat} {q:V×Int} {v:Value} (hv:SlB w 1 v b.length (bv b)) (hb:By b) (hl:b.length≤100000) (hq:KF b=q):Calls Tryz.prog 61 #[v] w fun e w'=>e=.returned (.tuple #[CH q.1,.int .i64 q.2])∧w.grownBy w' none:=by
 subst hq
 obtain⟨ao,cap,rfl,_⟩:=Sl.shape hv.1
 exact ZC b hb hl ao cap w hv
theorem Od {P:List VP} {s:Sd} (h:FK s=false∨CK P=false):E9 P s=(V.nul,1):=by
 unfold E9
 rcases h with h|h<;>simp[h]
theorem PG {P:List VP} {s:Sd} (h1:FK s=true) (h2:CK P=true) (h3:s.own=[]):E9 P s=if tgC s.addr s.body=s.tag then KF s.body else (V.nul,101):=by
 unfold E9
 simp[h1,h2,h3]
theorem Ru {P:List VP} {s:Sd} (h1:FK s=true) (h2:CK P=true) (h3:s.own≠[]) (h4:JK P s=none):E9 P s=(V.nul,10):=by
 unfold E9
 simp[h1,h2,h3,h4]
theorem Oe {P:List VP} {s:Sd} {c:List Nat} (h1:FK s=true) (h2:CK P=true) (h3:s.own≠[]) (h4:JK P s=some c):E9 P s=if Wq c s.addr s.body=s.tag then KF (Ja s.body c) else (V.nul,101):=by
 unfold E9
 simp[h1,h2,h3,h4]
theorem ABq {w:World} {ks:List VK} {vo:Option Addr} {vc:Nat} {sa po:List Nat} {P:List VP} {ad joint:Int} {od wd:List DD} {ao wo bo:Option Addr} {ac wc bc:Nat} {body tg:List Nat} {r:Option (List Nat)} {s:Sd} (hsa:Dg sa) (hpo:Dg po) (htg:Dg tg) (hr:RdK w (.slice vo ks.length vc) ks) (ho:RdD w (.slice ao od.length ac) od) (hw:RdD w (.slice wo wd.length wc) wd) (hb:SlB w 1 (.slice bo body.length bc) body.length (bv body)) (hP:ks.map VK.p=P) (hs:(⟨ad,od.map DD.x,joint,wd.map DD.x,body,tg⟩:Sd)=s) (hvs:FK s=true) (hres:JK P s=r) :
  Calls Tryz.prog 62 #[Am sa po (.slice vo ks.length vc),B9 ad (.slice ao od.length ac) joint (.slice wo wd.length wc) (.slice bo body.length bc) tg] w fun e w'=>∃u,e=.returned u∧(∃c,u=.tuple #[AP c,.bool r.isSome]∧Dg c∧(∀c',r=some c'→c'=c)∧w.grownBy w' none):=by
 subst hs hP hres
 exact(AAg ks vo vc sa po hsa hpo ad joint od wd ao wo bo ac wc bc body tg htg w hr ho hw hb hvs).mono fun e w' ⟨c,h1,h2⟩=>⟨_,h1,c,rfl,h2⟩
theorem QK {w:World} {ad joint:Int} {od wd:List DD} {ao wo bo:Option Addr} {ac wc bc:Nat} {body tg:List Nat} {b:Bool} {s:Sd} (htg:Dg tg) (ho:RdD w (.slice ao od.length ac) od) (hw:RdD w (.slice wo wd.length wc) wd) (hb:SlB w 1 (.slice bo body.length bc) body.length (bv body)) (hs:(⟨ad,od.map DD.x,joint,wd.map DD.x,body,tg⟩:Sd)=s) (hvs:FK s=b) :
  Calls Tryz.prog 27 #[B9 ad (.slice ao od.length ac) joint (.slice wo wd.length wc) (.slice bo body.length bc) tg] w fun e w'=>e=.returned (.bool b)∧w.grownBy w' none:=by
 subst hs hvs
 exact AHJ ad joint od wd ao wo bo ac wc bc body tg htg w ho hw hb
theorem ADI (ks:List VK) (vo:Option Addr) (vc_:Nat) (sa po:List Nat) (hsa:Dg sa) (hpo:Dg po) (ad joint:Int) (od wd:List DD) (ao wo bo:Option Addr) (ac wc bc:Nat) (body tg:List Nat) (htg:Dg tg) (bby:By body) (w:World) (hr:RdK w (.slice vo ks.length vc_) ks) (ho:RdD w (.slice ao od.length ac) od) (hw:RdD w (.slice wo wd.length wc) wd) (hb:SlB w 1 (.slice bo body.length bc) body.length (bv body)) :
   Calls Tryz.prog 22 #[Am sa po (.slice vo ks.length vc_),B9 ad (.slice ao od.length ac) joint (.slice wo wd.length wc) (.slice bo body.length bc) tg] w fun e w'=>e=.returned (.tuple #[CH (E9 (ks.map VK.p) ⟨ad,od.map DD.x,joint,wd.map DD.x,body,tg⟩).1,.int .i64 (E9 (ks.map VK.p) ⟨ad,od.map DD.x,joint,wd.map DD.x,body,tg⟩).2])∧w.grownBy w' none:=by
 obtain⟨P,hP⟩:∃P,ks.map VK.p=P:=⟨_,rfl⟩
 obtain⟨S,hS⟩:∃S:Sd,⟨ad,od.map DD.x,joint,wd.map DD.x,body,tg⟩=S:=⟨_,rfl⟩
 have s1:S.addr=ad:=by rw[←hS]
 have s2:S.own=od.map DD.x:=by rw[←hS]
 have s3:S.body=body:=by rw[←hS]
 have s4:S.tag=tg:=by rw[←hS]
 rw[hP,hS]
 refine Dm Tryz.func22 rfl Tryz.ntmps22 rfl fun a0 sv0=>?_
 have HG:=World.grownBy.refl w none
 replace sv0:Sv 62 [] [(0,Am sa po (.slice vo ks.length vc_)),(1,B9 ad (.slice ao od.length ac) joint (.slice wo wd.length wc) (.slice bo body.length bc) tg)] a0:=sv0
 refine ALz fun K1 k1=>?_
 refine ALy ?_
 refine Bj sv0 r6 (Bb hsa hpo (.slice vo ks.length vc_) rfl) fun a2 w2 Ci Dh g2 z2 AK sv2=>?_
 refine Bj sv2 r6 (EJ _ _ htg (.slice ao od.length ac) (.slice wo wd.length wc) (.slice bo body.length bc) rfl rfl rfl) fun a3 w3 CX Fd g3 z3 AN sv3=>?_
 replace AK:=AC g3 AK
 replace hr:=(hr.kn g2).kn g3
 replace ho:=(ho.kn g2).kn g3
 replace hw:=(hw.kn g2).kn g3
 replace hb:=(hb.kn g2).kn g3
 replace HG:=AA (AA HG g2) g3
 refine Ar (T:=25) (Z:=[.int .i64 0,.int .i64 0,.string ⟨#[]⟩]) sv3 rfl rfl rfl (fun a w=>by kernel_rfl) fun a4 w4 GV CM g4 z4 AQ sv4=>?_
 have BO:=An AK CM
 have Bd:=An AN CM
 have CP:=Bt HG CM
 have CB:=Au (hr.lt) CM
 have Dw:=Au (ho.lt) CM
 have Dx:=Au (hw.lt) CM
 have Df:=Au (hb.lt) CM
 replace AK:=AC g4 AK
 replace AN:=AC g4 AN
 replace hr:=hr.kn g4
 replace ho:=ho.kn g4
 replace hw:=hw.kn g4
 replace hb:=hb.kn g4
 replace HG:=AA HG g4
 refine Ar (T:=38) (Z:=[.int .i64 0]) sv4 rfl rfl rfl (fun a w=>by kernel_rfl) fun a5 w5 X9 Er g5 z5 Av sv5=>?_
 have Ca:=An AK Er
 have Cs:=An AN Er
 have A3:=An AQ Er
 have FJ:=Bt HG Er
 have E6:=Au (hr.lt) Er
 have Gm:=Au (ho.lt) Er
 have Gn:=Au (hw.lt) Er
 have Fi:=Au (hb.lt) Er
 replace AK:=AC g5 AK
 replace AN:=AC g5 AN
 replace AQ:=AC g5 AQ
 replace hr:=hr.kn g5
 replace ho:=ho.kn g5
 replace hw:=hw.kn g5
 replace hb:=hb.kn g5
 replace HG:=AA HG g5
 refine AE ?_
 refine k1 _ _ ?_
 refine ALz fun K6 k6=>?_
 refine ALy ?_
 refine Fl sv5 rfl rfl rfl rfl rfl rfl fun a7 sv7=>?_
 refine Ef sv7 rfl (dd:={ target:=.fn (.func 60) #[pt GV,pt X9],args:=#[] }) rfl (by have e1:=sv7.ev (x:=.tmp 8) rfl rfl;simp[execOp,resolve,Deferred.ofValue,e1];try rfl) fun a8 sv8=>?_
 refine AE ?_
 refine k6 _ _ ?_
 refine ALz fun K9 k9=>?_
 refine ALz fun K10 k10=>?_
 rcases(show(FK S=false∧CK P=false)∨(FK S=false∧CK P=true)∨(FK S=true∧CK P=false)∨(FK S=true∧CK P=true) by cases FK S<;>cases CK P<;>simp) with ⟨hh,hv⟩|⟨hh,hv⟩|⟨hh,hv⟩|⟨hh,hv⟩
 · refine ALy ?_
   refine AJ sv8 8 [(9,B9 ad (.slice ao od.length ac) joint (.slice wo wd.length wc) (.slice bo body.length bc) tg),(10,.bool false),(11,.bool true),(12,.bool true),(13,undef),(14,undef),(15,undef),(16,.bool true)]
     ⟨yl r6 (EJ _ _ htg (.slice ao od.length ac) (.slice wo wd.length wc) (.slice bo body.length bc) rfl rfl rfl) AN,Ae [B9 ad (.slice ao od.length ac) joint (.slice wo wd.length wc) (.slice bo body.length bc) tg] Tryz.func27 (by kernel_rfl) rq4 ⟨(oy rfl rfl),AL5⟩ (Ap fun W g=>QK htg (ho.kn g) (hw.kn g) (hb.kn g) hS hh),DG r6 (fun _=>Bf),ym r5,AZ r6,AZ r6,AZ r6,CL r7,AL5⟩ fun a11 w11 g11 Cc=>?_
   refine AE ?_
   refine k10 _ _ ?_
   refine Aw Cc rfl rfl ?_
   refine ALz fun K12 k12=>?_
   refine ALy ?_
   replace AQ:=AC g11 AQ
   refine AJ Cc 1 [(17,CH V.nul)]
     ⟨BU (vs:=[]) rfl rfl trivial trivial (fun _=>PF _) (fun _=>rfl),AL5⟩ fun a13 w13 g13 Dy=>?_
   refine Ao Dy r7 (En V.nul) (AC g13 AQ) rfl fun w14 g14 h14=>?_
   replace Av:=Aj g13 g14 (AC g11 Av) A3
   refine Ao Dy r7 (EH 1) Av rfl fun w15 g15 h15=>?_
   replace AK:=AX g15 (Aj g13 g14 (AC g11 AK) (Ne.symm BO)) (Ne.symm Ca)
   replace AN:=AX g15 (Aj g13 g14 (AC g11 AN) (Ne.symm Bd)) (Ne.symm Cs)
   replace AQ:=AX g15 h14 (Ne.symm A3)
   replace hr:=(((hr.kn g11).kn g13).offR g14 (AU CB)).offR g15 (AU E6)
   replace ho:=(((ho.kn g11).kn g13).offR g14 (AU Dw)).offR g15 (AU Gm)
   replace hw:=(((hw.kn g11).kn g13).offR g14 (AU Dx)).offR g15 (AU Gn)
   replace hb:=(((hb.kn g11).kn g13).offR g14 (AU Df)).offR g15 (AU Fi)
   replace HG:=AD (AD (AA (AA HG g11) g13) g14 CP) g15 FJ
   replace Av:=h15
   refine AE ?_
   refine k12 _ _ ?_
   refine AL2 ?_
   repeat refine AL ?_
   refine BK (fn:=Tryz.f22) Dy (Ba (p:=4) (q:=5) Tryz.results22 Dy rfl rfl rfl rfl (En V.nul) (EH 1) AQ Av) (Bn Tryz.func60 (by kernel_rfl) rfl _ _) (Dr _ _ _) ?_
   exact⟨Rt (Od (.inl hh)),HG⟩
 · refine ALy ?_
   refine AJ sv8 8 [(9,B9 ad (.slice ao od.length ac) joint (.slice wo wd.length wc) (.slice bo body.length bc) tg),(10,.bool false),(11,.bool true),(12,.bool true),(13,undef),(14,undef),(15,undef),(16,.bool true)]
     ⟨yl r6 (EJ _ _ htg (.slice ao od.length ac) (.slice wo wd.length wc) (.slice bo body.length bc) rfl rfl rfl) AN,Ae [B9 ad (.slice ao od.length ac) joint (.slice wo wd.length wc) (.slice bo body.length bc) tg] Tryz.func27 (by kernel_rfl) rq4 ⟨(oy rfl rfl),AL5⟩ (Ap fun W g=>QK htg (ho.kn g) (hw.kn g) (hb.kn g) hS hh),DG r6 (fun _=>Bf),ym r5,AZ r6,AZ r6,AZ r6,CL r7,AL5⟩ fun a16 w16 g16 DJ=>?_
   refine AE ?_
   refine k10 _ _ ?_
   refine Aw DJ rfl rfl ?_
   refine ALz fun K17 k17=>?_
   refine ALy ?_
   replace AQ:=AC g16 AQ
   refine AJ DJ 1 [(17,CH V.nul)]
     ⟨BU (vs:=[]) rfl rfl trivial trivial (fun _=>PF _) (fun _=>rfl),AL5⟩ fun a18 w18 g18 CZ=>?_
   refine Ao CZ r7 (En V.nul) (AC g18 AQ) rfl fun w19 g19 h19=>?_
   replace Av:=Aj g18 g19 (AC g16 Av) A3
   refine Ao CZ r7 (EH 1) Av rfl fun w20 g20 h20=>?_
   replace AK:=AX g20 (Aj g18 g19 (AC g16 AK) (Ne.symm BO)) (Ne.symm Ca)
   replace AN:=AX g20 (Aj g18 g19 (AC g16 AN) (Ne.symm Bd)) (Ne.symm Cs)
   replace AQ:=AX g20 h19 (Ne.symm A3)
   replace hr:=(((hr.kn g16).kn g18).offR g19 (AU CB)).offR g20 (AU E6)
   replace ho:=(((ho.kn g16).kn g18).offR g19 (AU Dw)).offR g20 (AU Gm)
   replace hw:=(((hw.kn g16).kn g18).offR g19 (AU Dx)).offR g20 (AU Gn)
   replace hb:=(((hb.kn g16).kn g18).offR g19 (AU Df)).offR g20 (AU Fi)
   replace HG:=AD (AD (AA (AA HG g16) g18) g19 CP) g20 FJ
   replace Av:=h20
   refine AE ?_
   refine k17 _ _ ?_
   refine AL2 ?_
   repeat refine AL ?_
   refine BK (fn:=Tryz.f22) CZ (Ba (p:=4) (q:=5) Tryz.results22 CZ rfl rfl rfl rfl (En V.nul) (EH 1) AQ Av) (Bn Tryz.func60 (by kernel_rfl) rfl _ _) (Dr _ _ _) ?_
   exact⟨Rt (Od (.inl hh)),HG⟩
 · refine ALy ?_
   refine AJ sv8 8 [(9,B9 ad (.slice ao od.length ac) joint (.slice wo wd.length wc) (.slice bo body.length bc) tg),(10,.bool true),(11,.bool false),(12,.bool false),(13,Am sa po (.slice vo ks.length vc_)),(14,.bool false),(15,.bool true),(16,.bool true)]
     ⟨yl r6 (EJ _ _ htg (.slice ao od.length ac) (.slice wo wd.length wc) (.slice bo body.length bc) rfl rfl rfl) AN,Ae [B9 ad (.slice ao od.length ac) joint (.slice wo wd.length wc) (.slice bo body.length bc) tg] Tryz.func27 (by kernel_rfl) rq4 ⟨(oy rfl rfl),AL5⟩ (Ap fun W g=>QK htg (ho.kn g) (hw.kn g) (hb.kn g) hS hh),DG r6 (fun _=>Bf),ym r5,Aq rq9 (fun _ g=>Ab (Bb hsa hpo (.slice vo ks.length vc_) rfl) (Ac (AF g AK (by simp)))),B7 [Am sa po (.slice vo ks.length vc_)] Tryz.func51 (by kernel_rfl) r7 ⟨(oy rfl rfl),AL5⟩ (Ap fun W g=>NN hsa hpo (hr.kn g) hP hv),Ha rfl rfl (gy rfl rfl rfl) (oy rfl rfl) (fun _=>Bf) (fun _=>rfl),A2 rq9,AL5⟩ fun a21 w21 g21 Di=>?_
   refine AE ?_
   refine k10 _ _ ?_
   refine Aw Di rfl rfl ?_
   refine ALz fun K22 k22=>?_
   refine ALy ?_
   replace AQ:=AC g21 AQ
   refine AJ Di 1 [(17,CH V.nul)]
     ⟨BU (vs:=[]) rfl rfl trivial trivial (fun _=>PF _) (fun _=>rfl),AL5⟩ fun a23 w23 g23 Cw=>?_
   refine Ao Cw r7 (En V.nul) (AC g23 AQ) rfl fun w24 g24 h24=>?_
   replace Av:=Aj g23 g24 (AC g21 Av) A3
   refine Ao Cw r7 (EH 1) Av rfl fun w25 g25 h25=>?_
   replace AK:=AX g25 (Aj g23 g24 (AC g21 AK) (Ne.symm BO)) (Ne.symm Ca)
   replace AN:=AX g25 (Aj g23 g24 (AC g21 AN) (Ne.symm Bd)) (Ne.symm Cs)
   replace AQ:=AX g25 h24 (Ne.symm A3)
   replace hr:=(((hr.kn g21).kn g23).offR g24 (AU CB)).offR g25 (AU E6)
   replace ho:=(((ho.kn g21).kn g23).offR g24 (AU Dw)).offR g25 (AU Gm)
   replace hw:=(((hw.kn g21).kn g23).offR g24 (AU Dx)).offR g25 (AU Gn)
   replace hb:=(((hb.kn g21).kn g23).offR g24 (AU Df)).offR g25 (AU Fi)
   replace HG:=AD (AD (AA (AA HG g21) g23) g24 CP) g25 FJ
   replace Av:=h25
   refine AE ?_
   refine k22 _ _ ?_
   refine AL2 ?_
   repeat refine AL ?_
   refine BK (fn:=Tryz.f22) Cw (Ba (p:=4) (q:=5) Tryz.results22 Cw rfl rfl rfl rfl (En V.nul) (EH 1) AQ Av) (Bn Tryz.func60 (by kernel_rfl) rfl _ _) (Dr _ _ _) ?_
   exact⟨Rt (Od (.inr hv)),HG⟩
 · have hb64:body.length≤64:=s3▸AJP hh
   have hia:QQ ad:=by have:=(ABi (AFN hh)).1;rw[s1] at this;exact⟨by omega,by omega⟩
   refine ALy ?_
   refine AJ sv8 8 [(9,B9 ad (.slice ao od.length ac) joint (.slice wo wd.length wc) (.slice bo body.length bc) tg),(10,.bool true),(11,.bool false),(12,.bool false),(13,Am sa po (.slice vo ks.length vc_)),(14,.bool true),(15,.bool false),(16,.bool false)]
     ⟨yl r6 (EJ _ _ htg (.slice ao od.length ac) (.slice wo wd.length wc) (.slice bo body.length bc) rfl rfl rfl) AN,Ae [B9 ad (.slice ao od.length ac) joint (.slice wo wd.length wc) (.slice bo body.length bc) tg] Tryz.func27 (by kernel_rfl) rq4 ⟨(oy rfl rfl),AL5⟩ (Ap fun W g=>QK htg (ho.kn g) (hw.kn g) (hb.kn g) hS hh),DG r6 (fun _=>Bf),ym r5,Aq rq9 (fun _ g=>Ab (Bb hsa hpo (.slice vo ks.length vc_) rfl) (Ac (AF g AK (by simp)))),B7 [Am sa po (.slice vo ks.length vc_)] Tryz.func51 (by kernel_rfl) r7 ⟨(oy rfl rfl),AL5⟩ (Ap fun W g=>NN hsa hpo (hr.kn g) hP hv),Ha rfl rfl (gy rfl rfl rfl) (oy rfl rfl) (fun _=>Bf) (fun _=>rfl),A2 rq9,AL5⟩ fun a26 w26 g26 Cr=>?_
   refine AE ?_
   refine k10 _ _ ?_
   refine A1 Cr rfl rfl ?_
   refine AL3 ?_
   refine k9 _ _ ?_
   refine ALz fun K27 k27=>?_
   refine ALz fun K28 k28=>?_
   replace AK:=AC g26 AK
   replace AN:=AC g26 AN
   replace AQ:=AC g26 AQ
   replace Av:=AC g26 Av
   replace hr:=hr.kn g26
   replace ho:=ho.kn g26
   replace hw:=hw.kn g26
   replace hb:=hb.kn g26
   replace HG:=AA HG g26
   rcases Nat.eq_zero_or_pos od.length with hz|hz
   · have hnil:S.own=[]:=by rw[s2,List.eq_nil_of_length_eq_zero hz];rfl
     have hopen:=PG hh hv hnil
     rw[s1,s3,s4] at hopen
     refine ALy ?_
     refine AJ Cr 4 [(18,pk CX 1),(19,.slice ao od.length ac),(20,.int .i64 ((od.length:Nat))),(21,.bool true)]
       ⟨yf r6 (fun _=>by kernel_rfl),yp (i:=1) r6 (J3 (.slice ao od.length ac) rfl) AN rfl rfl,Bv (Tryz.underlying28) rfl rfl trivial (oy rfl rfl) (fun _=>rfl),Cz r6 (fun _=>CV (PT (by omega))),AL5⟩ fun a29 w29 g29 Cf=>?_
     refine AE ?_
     refine k28 _ _ ?_
     refine Aw Cf rfl rfl ?_
     refine ALz fun K30 k30=>?_
     refine ALz fun K31 k31=>?_
     replace AK:=AC g29 AK
     replace AN:=AC g29 AN
     replace AQ:=AC g29 AQ
     replace Av:=AC g29 Av
     replace hr:=hr.kn g29
     replace ho:=ho.kn g29
     replace hw:=hw.kn g29
     replace hb:=hb.kn g29
     replace HG:=AA HG g29
     by_cases htt:tgC ad body=tg
     · rw[if_pos htt] at hopen
       obtain⟨dq,hdq⟩:∃q,KF body=q:=⟨_,rfl⟩
       rw[hdq] at hopen
       refine DM Cf [(22,pk CX 5),(23,AP tg),(24,pt CX),(25,.int .i64 ad),(26,pk CX 4),(27,.slice bo body.length bc),(28,AP ((tgC ad body))),(29,.bool false)]
         ⟨yf r6 (fun _=>by kernel_rfl),yp (i:=5) r6 (B6 tg htg.1) AN rfl rfl,yf r6 (fun _=>by kernel_rfl),yp (i:=0) r6 (Gu ad) AN rfl rfl,yf r6 (fun _=>by kernel_rfl),yp (i:=4) r6 (Ho (.slice bo body.length bc) rfl) AN rfl rfl,Ae [.int .i64 ad,.slice bo body.length bc] Tryz.func54 (by kernel_rfl) rq4 ⟨(oy rfl rfl),(oy rfl rfl),AL5⟩ (Ap fun W g=>JJ ad hia body bby (by omega) _ _ _ (hb.kn g)),Il r7 (fun _=>(Li htg (Hm ad body) _ _ _).2.trans (by rw[decide_eq_true (htt.symm)];rfl)),AL5⟩ fun a32 w32 g32 Cl=>?_
       refine k31 _ _ ?_
       refine A1 Cl rfl rfl ?_
       refine AL3 ?_
       refine k30 _ _ ?_
       refine ALz fun K33 k33=>?_
       refine ALy ?_
       refine AJ Cl 2 [(31,pk CX 4),(32,.slice bo body.length bc)]
         ⟨yf r6 (fun _=>by kernel_rfl),yp (i:=4) r6 (Ho (.slice bo body.length bc) rfl) (AC g32 AN) rfl rfl,AL5⟩ fun a34 w34 g34 MB=>?_
       have WX:=AA g32 g34
       replace hb:=hb.kn WX
       refine Bh MB Tryz.func61 (by kernel_rfl) r6 (OM (AIM hb bby (by omega) hdq)) fun a35 v35 w35 hR35 Ki=>?_
       obtain⟨rfl,g35⟩:=hR35
       replace AQ:=AC g35 (AC WX AQ)
       refine AJ Ki 2 [(34,CH dq.1),(35,.int .i64 dq.2)]
         ⟨BF rq4 (fun _ _ h=>⟨_,_,h,rfl,rfl⟩),BF rq4 (fun _ _ h=>⟨_,_,h,rfl,rfl⟩),AL5⟩ fun a36 w36 g36 Fw=>?_
       refine Ao Fw r7 (En dq.1) (AC g36 AQ) rfl fun w37 g37 h37=>?_
       replace Av:=Aj g36 g37 (AC g35 (AC WX Av)) A3
       refine Ao Fw r7 (EH dq.2) Av rfl fun w38 g38 h38=>?_
       replace AK:=AX g38 (Aj g36 g37 (AC g35 (AC WX AK)) (Ne.symm BO)) (Ne.symm Ca)
       replace AN:=AX g38 (Aj g36 g37 (AC g35 (AC WX AN)) (Ne.symm Bd)) (Ne.symm Cs)
       replace AQ:=AX g38 h37 (Ne.symm A3)
       replace hr:=((((hr.kn WX).kn g35).kn g36).offR g37 (AU CB)).offR g38 (AU E6)
       replace ho:=((((ho.kn WX).kn g35).kn g36).offR g37 (AU Dw)).offR g38 (AU Gm)
       replace hw:=((((hw.kn WX).kn g35).kn g36).offR g37 (AU Dx)).offR g38 (AU Gn)
       replace hb:=(((hb.kn g35).kn g36).offR g37 (AU Df)).offR g38 (AU Fi)
       replace HG:=AD (AD (AA (AA (AA HG WX) g35) g36) g37 CP) g38 FJ
       replace Av:=h38
       have JV:Sv _ _ [_,_,_,_,_,_,_,_,_,_,_,_,_,_,_,_,_,_,_,_,_,_,_,_,_,_,_] _:=Fw.dl [34,35,33,31,32]
       refine AE ?_
       refine k33 _ _ ?_
       refine AL2 ?_
       repeat refine AL ?_
       refine BK (fn:=Tryz.f22) JV (Ba (p:=4) (q:=5) Tryz.results22 JV rfl rfl rfl rfl (En dq.1) (EH dq.2) AQ Av) (Bn Tryz.func60 (by kernel_rfl) rfl _ _) (Dr _ _ _) ?_
       exact⟨Rt (hopen),HG⟩
     · rw[if_neg htt] at hopen
       refine DM Cf [(22,pk CX 5),(23,AP tg),(24,pt CX),(25,.int .i64 ad),(26,pk CX 4),(27,.slice bo body.length bc),(28,AP ((tgC ad body))),(29,.bool true)]
         ⟨yf r6 (fun _=>by kernel_rfl),yp (i:=5) r6 (B6 tg htg.1) AN rfl rfl,yf r6 (fun _=>by kernel_rfl),yp (i:=0) r6 (Gu ad) AN rfl rfl,yf r6 (fun _=>by kernel_rfl),yp (i:=4) r6 (Ho (.slice bo body.length bc) rfl) AN rfl rfl,Ae [.int .i64 ad,.slice bo body.length bc] Tryz.func54 (by kernel_rfl) rq4 ⟨(oy rfl rfl),(oy rfl rfl),AL5⟩ (Ap fun W g=>JJ ad hia body bby (by omega) _ _ _ (hb.kn g)),Il r7 (fun _=>(Li htg (Hm ad body) _ _ _).2.trans (by rw[decide_eq_false ((fun h=>htt h.symm))];rfl)),AL5⟩ fun a40 w40 g40 Kj=>?_
       refine k31 _ _ ?_
       refine Aw Kj rfl rfl ?_
       refine ALz fun K41 k41=>?_
       refine ALy ?_
       replace AQ:=AC g40 AQ
       refine AJ Kj 1 [(30,CH V.nul)]
         ⟨BU (vs:=[]) rfl rfl trivial trivial (fun _=>PF _) (fun _=>rfl),AL5⟩ fun a42 w42 g42 Hl=>?_
       refine Ao Hl r7 (En V.nul) (AC g42 AQ) rfl fun w43 g43 h43=>?_
       replace Av:=Aj g42 g43 (AC g40 Av) A3
       refine Ao Hl r7 (EH 101) Av rfl fun w44 g44 h44=>?_
       replace AK:=AX g44 (Aj g42 g43 (AC g40 AK) (Ne.symm BO)) (Ne.symm Ca)
       replace AN:=AX g44 (Aj g42 g43 (AC g40 AN) (Ne.symm Bd)) (Ne.symm Cs)
       replace AQ:=AX g44 h43 (Ne.symm A3)
       replace hr:=(((hr.kn g40).kn g42).offR g43 (AU CB)).offR g44 (AU E6)
       replace ho:=(((ho.kn g40).kn g42).offR g43 (AU Dw)).offR g44 (AU Gm)
       replace hw:=(((hw.kn g40).kn g42).offR g43 (AU Dx)).offR g44 (AU Gn)
       replace hb:=(((hb.kn g40).kn g42).offR g43 (AU Df)).offR g44 (AU Fi)
       replace HG:=AD (AD (AA (AA HG g40) g42) g43 CP) g44 FJ
       replace Av:=h44
       refine AE ?_
       refine k41 _ _ ?_
       refine AL2 ?_
       repeat refine AL ?_
       refine BK (fn:=Tryz.f22) Hl (Ba (p:=4) (q:=5) Tryz.results22 Hl rfl rfl rfl rfl (En V.nul) (EH 101) AQ Av) (Bn Tryz.func60 (by kernel_rfl) rfl _ _) (Dr _ _ _) ?_
       exact⟨Rt (hopen),HG⟩
   · have hne:S.own≠[]:=fun h=>by rw[s2] at h;have h2:od.length=0:=(List.length_map _).symm.trans (congrArg List.length h);omega
     refine ALy ?_
     refine AJ Cr 4 [(18,pk CX 1),(19,.slice ao od.length ac),(20,.int .i64 ((od.length:Nat))),(21,.bool false)]
       ⟨yf r6 (fun _=>by kernel_rfl),yp (i:=1) r6 (J3 (.slice ao od.length ac) rfl) AN rfl rfl,Bv (Tryz.underlying28) rfl rfl trivial (oy rfl rfl) (fun _=>rfl),Cz r6 (fun _=>CV (Mc (by omega))),AL5⟩ fun a45 w45 g45 Ev=>?_
     refine AE ?_
     refine k28 _ _ ?_
     refine A1 Ev rfl rfl ?_
     refine AL3 ?_
     refine k27 _ _ ?_
     refine ALz fun K46 k46=>?_
     replace AK:=AC g45 AK
     replace AN:=AC g45 AN
     replace AQ:=AC g45 AQ
     replace Av:=AC g45 Av
     replace hr:=hr.kn g45
     replace ho:=ho.kn g45
     replace hw:=hw.kn g45
     replace hb:=hb.kn g45
     replace HG:=AA HG g45
     rcases(show JK P S=none∨∃c,JK P S=some c by cases JK P S<;>simp) with hrec|⟨c,hrec⟩
     · refine ALy ?_
       refine AJ Ev 2 [(37,Am sa po (.slice vo ks.length vc_)),(38,B9 ad (.slice ao od.length ac) joint (.slice wo wd.length wc) (.slice bo body.length bc) tg)]
         ⟨yl r6 (Bb hsa hpo (.slice vo ks.length vc_) rfl) AK,yl r6 (EJ _ _ htg (.slice ao od.length ac) (.slice wo wd.length wc) (.slice bo body.length bc) rfl rfl rfl) AN,AL5⟩ fun a47 w47 g47 LG=>?_
       replace hr:=hr.kn g47
       replace ho:=ho.kn g47
       replace hw:=hw.kn g47
       replace hb:=hb.kn g47
       refine Bh LG Tryz.func62 (by kernel_rfl) r6 (ABq hsa hpo htg hr ho hw hb hP hS hh hrec) fun a48 v48 w48 hR48 AHT=>?_
       obtain⟨cz,rfl,hcd,_,g48⟩:=hR48
       refine AJ AHT 3 [(36,.tuple #[AP cz,.bool false]),(40,AP cz),(41,.bool false)]
         ⟨ym r5,BF rq4 (fun _ _ h=>⟨_,_,h,rfl,rfl⟩),BF rq4 (fun _ _ h=>⟨_,_,h,rfl,rfl⟩),AL5⟩ fun a49 w49 g49 JH=>?_
       replace AK:=AC g49 (AC g48 (AC g47 AK))
       replace AN:=AC g49 (AC g48 (AC g47 AN))
       replace AQ:=AC g49 (AC g48 (AC g47 AQ))
       replace Av:=AC g49 (AC g48 (AC g47 Av))
       replace hr:=(hr.kn g48).kn g49
       replace ho:=(ho.kn g48).kn g49
       replace hw:=(hw.kn g48).kn g49
       replace hb:=(hb.kn g48).kn g49
       replace HG:=AA (AA (AA HG g47) g48) g49
       refine Ar (T:=23) (Z:=(bv AR)) JH rfl rfl rfl (fun a w=>by kernel_rfl) fun a50 w50 ALk GL g50 z50 AJT Va=>?_
       have To:=An AK GL
       have Tp:=An AN GL
       have Tq:=An AQ GL
       have Tr:=An Av GL
       have AFW:=Bt HG GL
       have ZE:=Au (hr.lt) GL
       have ZF:=Au (ho.lt) GL
       have ZG:=Au (hw.lt) GL
       have ZH:=Au (hb.lt) GL
       refine Ao Va r7 (B6 cz hcd.1) AJT (GR hcd) fun w51 g51 h51=>?_
       refine AY (v:=.bool false) Va r6 fun a52 RA=>?_
       have YO:Sv _ _ [_,_,_,_,_,_,_,_,_,_,_,_,_,_,_,_,_,_,_,_,_] _:=RA.dl [36,40,41,39,37,38]
       refine AE ?_
       refine k46 _ _ ?_
       refine ALz fun K54 k54=>?_
       refine ALz fun K55 k55=>?_
       refine ALy ?_
       refine AJ YO 2 [(42,.bool false),(43,.bool true)]
         ⟨ym r5,DG r6 (fun _=>Bf),AL5⟩ fun a56 w56 g56 Pd=>?_
       refine AE ?_
       refine k55 _ _ ?_
       refine Aw Pd rfl rfl ?_
       refine ALz fun K57 k57=>?_
       refine ALy ?_
       replace AQ:=AC g56 (AX g51 (AC g50 AQ) (Ne.symm Tq))
       refine AJ Pd 1 [(44,CH V.nul)]
         ⟨BU (vs:=[]) rfl rfl trivial trivial (fun _=>PF _) (fun _=>rfl),AL5⟩ fun a58 w58 g58 Mn=>?_
       refine Ao Mn r7 (En V.nul) (AC g58 AQ) rfl fun w59 g59 h59=>?_
       replace Av:=Aj g58 g59 (AC g56 (AX g51 (AC g50 Av) (Ne.symm Tr))) A3
       refine Ao Mn r7 (EH 10) Av rfl fun w60 g60 h60=>?_
       replace AK:=AX g60 (Aj g58 g59 (AC g56 (AX g51 (AC g50 AK) (Ne.symm To))) (Ne.symm BO)) (Ne.symm Ca)
       replace AN:=AX g60 (Aj g58 g59 (AC g56 (AX g51 (AC g50 AN) (Ne.symm Tp))) (Ne.symm Bd)) (Ne.symm Cs)
       replace AQ:=AX g60 h59 (Ne.symm A3)
       replace hr:=(((((hr.kn g50).offR g51 (AU ZE)).kn g56).kn g58).offR g59 (AU CB)).offR g60 (AU E6)
       replace ho:=(((((ho.kn g50).offR g51 (AU ZF)).kn g56).kn g58).offR g59 (AU Dw)).offR g60 (AU Gm)
       replace hw:=(((((hw.kn g50).offR g51 (AU ZG)).kn g56).kn g58).offR g59 (AU Dx)).offR g60 (AU Gn)
       replace hb:=(((((hb.kn g50).offR g51 (AU ZH)).kn g56).kn g58).offR g59 (AU Df)).offR g60 (AU Fi)
       replace HG:=AD (AD (AA (AA (AD (AA HG g50) g51 AFW) g56) g58) g59 CP) g60 FJ
       replace Av:=h60
       refine AE ?_
       refine k57 _ _ ?_
       refine AL2 ?_
       repeat refine AL ?_
       refine BK (fn:=Tryz.f22) Mn (Ba (p:=4) (q:=5) Tryz.results22 Mn rfl rfl rfl rfl (En V.nul) (EH 10) AQ Av) (Bn Tryz.func60 (by kernel_rfl) rfl _ _) (Dr _ _ _) ?_
       exact⟨Rt (Ru hh hv hne hrec),HG⟩
     · have hopen:=Oe hh hv hne hrec
       rw[s1,s3,s4] at hopen
       refine ALy ?_
       refine AJ Ev 2 [(37,Am sa po (.slice vo ks.length vc_)),(38,B9 ad (.slice ao od.length ac) joint (.slice wo wd.length wc) (.slice bo body.length bc) tg)]
         ⟨yl r6 (Bb hsa hpo (.slice vo ks.length vc_) rfl) AK,yl r6 (EJ _ _ htg (.slice ao od.length ac) (.slice wo wd.length wc) (.slice bo body.length bc) rfl rfl rfl) AN,AL5⟩ fun a61 w61 g61 NK=>?_
       replace hr:=hr.kn g61
       replace ho:=ho.kn g61
       replace hw:=hw.kn g61
       replace hb:=hb.kn g61
       refine Bh NK Tryz.func62 (by kernel_rfl) r6 (ABq hsa hpo htg hr ho hw hb hP hS hh hrec) fun a62 v62 w62 hR62 Cg=>?_
       obtain⟨cz,rfl,hcd,hcc,g62⟩:=hR62
       obtain rfl:=hcc c rfl
       refine AJ Cg 3 [(36,.tuple #[AP c,.bool true]),(40,AP c),(41,.bool true)]
         ⟨ym r5,BF rq4 (fun _ _ h=>⟨_,_,h,rfl,rfl⟩),BF rq4 (fun _ _ h=>⟨_,_,h,rfl,rfl⟩),AL5⟩ fun a63 w63 g63 AC7=>?_
       replace AN:=AC g63 (AC g62 (AC g61 AN))
       replace AQ:=AC g63 (AC g62 (AC g61 AQ))
       replace Av:=AC g63 (AC g62 (AC g61 Av))
       replace hb:=(hb.kn g62).kn g63
       replace HG:=AA (AA (AA HG g61) g62) g63
       refine Ar (T:=23) (Z:=(bv AR)) AC7 rfl rfl rfl (fun a w=>by kernel_rfl) fun a64 w64 ALl LV g64 z64 Mu WO=>?_
       have Ts:=An AN LV
       have MN:=An AQ LV
       have MO:=An Av LV
       have AFX:=Bt HG LV
       have ZI:=Au (hb.lt) LV
       refine Ao WO r7 (B6 c hcd.1) Mu (GR hcd) fun w65 g65 h65=>?_
       refine AY (v:=.bool true) WO r6 fun a66 AJR=>?_
       have AAj:Sv _ _ [_,_,_,_,_,_,_,_,_,_,_,_,_,_,_,_,_,_,_,_,_] _:=AJR.dl [36,40,41,39,37,38]
       refine AE ?_
       refine k46 _ _ ?_
       refine ALz fun K68 k68=>?_
       refine ALz fun K69 k69=>?_
       refine ALy ?_
       refine AJ AAj 2 [(42,.bool true),(43,.bool false)]
         ⟨ym r5,DG r6 (fun _=>Bf),AL5⟩ fun a70 w70 g70 AAk=>?_
       refine AE ?_
       refine k69 _ _ ?_
       refine A1 AAk rfl rfl ?_
       refine AL3 ?_
       refine k68 _ _ ?_
       refine ALz fun K71 k71=>?_
       refine ALz fun K72 k72=>?_
       replace AN:=AC g70 (AX g65 (AC g64 AN) (Ne.symm Ts))
       replace AQ:=AC g70 (AX g65 (AC g64 AQ) (Ne.symm MN))
       replace Av:=AC g70 (AX g65 (AC g64 Av) (Ne.symm MO))
       replace Mu:=AC g70 h65
       replace hb:=((hb.kn g64).offR g65 (AU ZI)).kn g70
       replace HG:=AA (AD (AA HG g64) g65 AFX) g70
       by_cases htt:Wq c ad body=tg
       · rw[if_pos htt] at hopen
         obtain⟨dq,hdq⟩:∃q,KF (Ja body c)=q:=⟨_,rfl⟩
         rw[hdq] at hopen
         refine DM AAk [(45,pk CX 5),(46,AP tg),(47,AP c),(48,pt CX),(49,.int .i64 ad),(50,pk CX 4),(51,.slice bo body.length bc),(52,AP ((Wq c ad body))),(53,.bool false)]
          ⟨yf r6 (fun _=>by kernel_rfl),yp (i:=5) r6 (B6 tg htg.1) AN rfl rfl,yl r6 (B6 c hcd.1) Mu,yf r6 (fun _=>by kernel_rfl),yp (i:=0) r6 (Gu ad) AN rfl rfl,yf r6 (fun _=>by kernel_rfl),yp (i:=4) r6 (Ho (.slice bo body.length bc) rfl) AN rfl rfl,Ae [AP c,.int .i64 ad,.slice bo body.length bc] Tryz.func58 (by kernel_rfl) rq4 ⟨(oy rfl rfl),(oy rfl rfl),(oy rfl rfl),AL5⟩ (Ap fun W g=>Gv c hcd ad hia body bby (by omega) _ _ _ (hb.kn g)),Il r7 (fun _=>(Li htg (EX c ad body) _ _ _).2.trans (by rw[decide_eq_true (htt.symm)];rfl)),AL5⟩ fun a73 w73 g73 CW=>?_
         refine k72 _ _ ?_
         refine A1 CW rfl rfl ?_
         refine AL3 ?_
         refine k71 _ _ ?_
         refine ALz fun K74 k74=>?_
         refine ALy ?_
         refine AJ CW 3 [(55,pk CX 4),(56,.slice bo body.length bc),(57,AP c)]
          ⟨yf r6 (fun _=>by kernel_rfl),yp (i:=4) r6 (Ho (.slice bo body.length bc) rfl) (AC g73 AN) rfl rfl,yl r6 (B6 c hcd.1) (AC g73 Mu),AL5⟩ fun a75 w75 g75 AJK=>?_
         have ADJ:=AA g73 g75
         replace AQ:=AC ADJ AQ
         replace Av:=AC ADJ Av
         replace hb:=hb.kn ADJ
         refine Bh AJK Tryz.func57 (by kernel_rfl) r6 (Uh (J5 body bby (by omega) _ _ c hcd _ hb)) fun a76 v76 w76 hR76 ADB=>?_
         obtain⟨ao76,cap76,rfl,_⟩:=(Sl.of_own hR76.1).shape
         obtain⟨ow76,fr76⟩:=hR76
         replace fr76:=D1 fr76
         have oy_:=ow76
         clear ow76
         have g76:=fr76.1
         replace fr76:=fr76.2
         have ZJ:=CJ fr76 AQ
         have ZK:=CJ fr76 Av
         refine Bh ADB Tryz.func61 (by kernel_rfl) r6 (OM (AIM (Own.sb oy_) (RU _ bby) (by rw[J4];omega) hdq)) fun a77 v77 w77 hR77 AFR=>?_
         obtain⟨rfl,g77⟩:=hR77
         replace AQ:=AC g77 (AC g76 AQ)
         have ADG:Sv _ _ [_,_,_,_,_,_,_,_,_,_,_,_,_,_,_,_,_,_,_,_,_,_,_,_,_,_,_,_,_,_,_,_,_] _:=AFR.dl [58,55,56,57]
         refine AJ ADG 2 [(60,CH dq.1),(61,.int .i64 dq.2)]
          ⟨BF rq4 (fun _ _ h=>⟨_,_,h,rfl,rfl⟩),BF rq4 (fun _ _ h=>⟨_,_,h,rfl,rfl⟩),AL5⟩ fun a79 w79 g79 OU=>?_
         refine Ao OU r7 (En dq.1) (AC g79 AQ) rfl fun w80 g80 h80=>?_
         replace Av:=Aj g79 g80 (AC g77 (AC g76 Av)) A3
         refine Ao OU r7 (EH dq.2) Av rfl fun w81 g81 h81=>?_
         replace AN:=AX g81 (Aj g79 g80 (AC g77 (AC g76 (AC ADJ AN))) (Ne.symm Bd)) (Ne.symm Cs)
         replace AQ:=AX g81 h80 (Ne.symm A3)
         replace Mu:=AX g81 (Aj g79 g80 (AC g77 (AC g76 (AC ADJ Mu))) MN) MO
         replace hb:=((((hb.kn g76).kn g77).kn g79).offR g80 (AU Df)).offR g81 (AU Fi)
         replace oy_:=(((oy_.kn g77).kn g79).offR g80 (AU ZJ)).offR g81 (AU ZK)
         replace HG:=AD (AD (AA (AA (AA (AA HG ADJ) g76) g77) g79) g80 CP) g81 FJ
         replace Av:=h81
         refine AE ?_
         refine k74 _ _ ?_
         refine AL2 ?_
         repeat refine AL ?_
         refine BK (fn:=Tryz.f22) OU (Ba (p:=4) (q:=5) Tryz.results22 OU rfl rfl rfl rfl (En dq.1) (EH dq.2) AQ Av) (Bn Tryz.func60 (by kernel_rfl) rfl _ _) (Dr _ _ _) ?_
         exact⟨Rt (hopen),HG⟩
       · rw[if_neg htt] at hopen
         refine DM AAk [(45,pk CX 5),(46,AP tg),(47,AP c),(48,pt CX),(49,.int .i64 ad),(50,pk CX 4),(51,.slice bo body.length bc),(52,AP ((Wq c ad body))),(53,.bool true)]
          ⟨yf r6 (fun _=>by kernel_rfl),yp (i:=5) r6 (B6 tg htg.1) AN rfl rfl,yl r6 (B6 c hcd.1) Mu,yf r6 (fun _=>by kernel_rfl),yp (i:=0) r6 (Gu ad) AN rfl rfl,yf r6 (fun _=>by kernel_rfl),yp (i:=4) r6 (Ho (.slice bo body.length bc) rfl) AN rfl rfl,Ae [AP c,.int .i64 ad,.slice bo body.length bc] Tryz.func58 (by kernel_rfl) rq4 ⟨(oy rfl rfl),(oy rfl rfl),(oy rfl rfl),AL5⟩ (Ap fun W g=>Gv c hcd ad hia body bby (by omega) _ _ _ (hb.kn g)),Il r7 (fun _=>(Li htg (EX c ad body) _ _ _).2.trans (by rw[decide_eq_false ((fun h=>htt h.symm))];rfl)),AL5⟩ fun a82 w82 g82 WA=>?_
         refine k72 _ _ ?_
         refine Aw WA rfl rfl ?_
         refine ALz fun K83 k83=>?_
         refine ALy ?_
         replace AQ:=AC g82 AQ
         refine AJ WA 1 [(54,CH V.nul)]
          ⟨BU (vs:=[]) rfl rfl trivial trivial (fun _=>PF _) (fun _=>rfl),AL5⟩ fun a84 w84 g84 ADC=>?_
         refine Ao ADC r7 (En V.nul) (AC g84 AQ) rfl fun w85 g85 h85=>?_
         replace Av:=Aj g84 g85 (AC g82 Av) A3
         refine Ao ADC r7 (EH 101) Av rfl fun w86 g86 h86=>?_
         replace AQ:=AX g86 h85 (Ne.symm A3)
         replace HG:=AD (AD (AA (AA HG g82) g84) g85 CP) g86 FJ
         replace Av:=h86
         refine AE ?_
         refine k83 _ _ ?_
         refine AL2 ?_
         repeat refine AL ?_
         refine BK (fn:=Tryz.f22) ADC (Ba (p:=4) (q:=5) Tryz.results22 ADC rfl rfl rfl rfl (En V.nul) (EH 101) AQ Av) (Bn Tryz.func60 (by kernel_rfl) rfl _ _) (Dr _ _ _) ?_
         exact⟨Rt (hopen),HG⟩
theorem AFY {w:World} {ks:List VK} {vo:Option Addr} {vc_:Nat} {sa po:List Nat} {ad joint:Int} {od wd:List DD} {ao wo bo:Option Addr} {ac wc bc:Nat} {body tg:List Nat} {q:V×Int} (hsa:Dg sa) (hpo:Dg po) (htg:Dg tg) (bby:By body) (hr:RdK w (.slice vo ks.length vc_) ks) (ho:RdD w (.slice ao od.length ac) od) (hw:RdD w (.slice wo wd.length wc) wd) (hb:SlB w 1 (.slice bo body.length bc) body.length (bv body)) (hq:E9 (ks.map VK.p) ⟨ad,od.map DD.x,joint,wd.map DD.x,body,tg⟩=q) :
  Calls Tryz.prog 22 #[Am sa po (.slice vo ks.length vc_),B9 ad (.slice ao od.length ac) joint (.slice wo wd.length wc) (.slice bo body.length bc) tg] w fun e w'=>e=.returned (.tuple #[CH q.1,.int .i64 q.2])∧w.grownBy w' none:=by
 subst hq
 exact ADI ks vo vc_ sa po hsa hpo ad joint od wd ao wo bo ac wc bc body tg htg bby w hr ho hw hb
theorem Tt (ks:List VK) (vo:Option Addr) (vc_:Nat) (sa po:List Nat) (hsa:Dg sa) (hpo:Dg po) (ad joint:Int) (od wd:List DD) (ao wo bo:Option Addr) (ac wc bc:Nat) (body tg:List Nat) (htg:Dg tg) (bby:By body) (w:World) (hr:RdK w (.slice vo ks.length vc_) ks) (ho:RdD w (.slice ao od.length ac) od) (hw:RdD w (.slice wo wd.length wc) wd) (hb:SlB w 1 (.slice bo body.length bc) body.length (bv body)) :
   Calls Tryz.prog 26 #[Am sa po (.slice vo ks.length vc_),B9 ad (.slice ao od.length ac) joint (.slice wo wd.length wc) (.slice bo body.length bc) tg] w fun e w'=>e=.returned (.bool (decide ((E9 (ks.map VK.p) ⟨ad,od.map DD.x,joint,wd.map DD.x,body,tg⟩).2=0)))∧w.grownBy w' none:=by
 obtain⟨q,hq⟩:∃q,E9 (ks.map VK.p) ⟨ad,od.map DD.x,joint,wd.map DD.x,body,tg⟩=q:=⟨_,rfl⟩
 rw[hq]
 refine Dm Tryz.func26 rfl Tryz.ntmps26 rfl fun a0 sv0=>?_
 have HG:=World.grownBy.refl w none
 replace sv0:Sv 15 [] [(0,Am sa po (.slice vo ks.length vc_)),(1,B9 ad (.slice ao od.length ac) joint (.slice wo wd.length wc) (.slice bo body.length bc) tg)] a0:=sv0
 refine ALz fun K1 k1=>?_
 refine ALy ?_
 refine Bj sv0 r6 (Bb hsa hpo (.slice vo ks.length vc_) rfl) fun a2 w2 Ci Dh g2 z2 AK sv2=>?_
 refine Bj sv2 r6 (EJ _ _ htg (.slice ao od.length ac) (.slice wo wd.length wc) (.slice bo body.length bc) rfl rfl rfl) fun a3 w3 CX Fd g3 z3 AN sv3=>?_
 replace AK:=AC g3 AK
 refine AY (v:=.bool false) sv3 r6 fun a4 sv4=>?_
 refine AE ?_
 refine k1 _ _ ?_
 refine ALz fun K5 k5=>?_
 refine ALy ?_
 refine Ef sv4 rfl (dd:={ target:=.fn (.func 68) #[],args:=#[] }) rfl (by simp[execOp,resolve,Deferred.ofValue];try rfl) fun a6 sv6=>?_
 refine AE ?_
 refine k5 _ _ ?_
 refine ALz fun K7 k7=>?_
 refine ALy ?_
 refine AJ sv6 2 [(8,Am sa po (.slice vo ks.length vc_)),(9,B9 ad (.slice ao od.length ac) joint (.slice wo wd.length wc) (.slice bo body.length bc) tg)]
   ⟨yl r6 (Bb hsa hpo (.slice vo ks.length vc_) rfl) AK,yl r6 (EJ _ _ htg (.slice ao od.length ac) (.slice wo wd.length wc) (.slice bo body.length bc) rfl rfl rfl) AN,AL5⟩ fun a8 w8 g8 sv8=>?_
 replace hr:=((hr.kn g2).kn g3).kn g8
 replace ho:=((ho.kn g2).kn g3).kn g8
 replace hw:=((hw.kn g2).kn g3).kn g8
 replace hb:=((hb.kn g2).kn g3).kn g8
 refine Bh sv8 Tryz.func22 (by kernel_rfl) r6 (OM (AFY hsa hpo htg bby hr ho hw hb hq)) fun a9 v9 w9 hR9 sv9=>?_
 obtain⟨rfl,g9⟩:=hR9
 have Cb:Sv _ _ [_,_,_,_] _:=sv9.dl [8,9,3,2]
 refine AJ Cb 3 [(7,.tuple #[CH q.1,.int .i64 q.2]),(11,CH q.1),(12,.int .i64 q.2)]
   ⟨ym r5,BF rq4 (fun _ _ h=>⟨_,_,h,rfl,rfl⟩),BF rq4 (fun _ _ h=>⟨_,_,h,rfl,rfl⟩),AL5⟩ fun a11 w11 g11 Cc=>?_
 replace HG:=AA (AA (AA (AA (AA HG g2) g3) g8) g9) g11
 refine Ar (T:=25) (Z:=[.int .i64 0,.int .i64 0,.string ⟨#[]⟩]) Cc rfl rfl rfl (fun a w=>by kernel_rfl) fun a12 w12 ALm AFZ g12 z12 AJU DL=>?_
 have AFa:=Bt HG AFZ
 refine Ao DL r7 (En q.1) AJU rfl fun w13 g13 h13=>?_
 replace HG:=AD (AA HG g12) g13 AFa
 refine AY (v:=.int .i64 q.2) DL r6 fun a14 Da=>?_
 have Ms:Sv _ _ [_,_,_,_] _:=Da.dl [5,7,11,12,10]
 refine AE ?_
 refine k7 _ _ ?_
 refine ALz fun K16 k16=>?_
 by_cases h0:q.2=0
 · refine ALy ?_
   refine AJ Ms 2 [(13,.int .i64 q.2),(14,.bool true)]
    ⟨ym r5,Cz r6 (fun _=>CV (by simpa using h0)),AL5⟩ fun a17 w17 g17 FY=>?_
   refine AY (v:=.bool true) FY r6 fun a18 CZ=>?_
   refine AE ?_
   refine k16 _ _ ?_
   replace HG:=AA HG g17
   refine AL2 ?_
   repeat refine AL ?_
   refine BK (fn:=Tryz.f26) CZ (BC (p:=4) Tryz.results26 CZ rfl rfl) (Bn Tryz.func68 (by kernel_rfl) rfl _ _) (Ni _) ?_
   exact⟨Hd ((decide_eq_true h0).symm),HG⟩
 · refine ALy ?_
   refine AJ Ms 2 [(13,.int .i64 q.2),(14,.bool false)]
    ⟨ym r5,Cz r6 (fun _=>CV (by simpa using h0)),AL5⟩ fun a19 w19 g19 EQ=>?_
   refine AY (v:=.bool false) EQ r6 fun a20 Eu=>?_
   refine AE ?_
   refine k16 _ _ ?_
   replace HG:=AA HG g19
   refine AL2 ?_
   repeat refine AL ?_
   refine BK (fn:=Tryz.f26) Eu (BC (p:=4) Tryz.results26 Eu rfl rfl) (Bn Tryz.func68 (by kernel_rfl) rfl _ _) (Ni _) ?_
   exact⟨Hd ((decide_eq_false h0).symm),HG⟩
end Go.Proofs.YtbfjfnbcmojpiaaGreat
namespace Go.Proofs.YtbfjfnbcmojpiaaGreat
open Go.RowKit
theorem AIh {P:List VP} {i:Nat} (h:i<P.length):od P i∈P.map (·.1):=by rw[Qk h];exact List.mem_map.2 ⟨_,List.getElem_mem h,rfl⟩
theorem AGP {P:List VP} (hs:Srt P) {o:List Nat}:Hv P o=true↔o∈P.map (·.1):=by
 constructor
 · intro h
   obtain⟨h1,h2⟩:=Jl h
   rw[←h2]
   exact AIh h1
 · intro h
   obtain⟨x,hx,rfl⟩:=List.mem_map.1 h
   obtain⟨i,hi,rfl⟩:=List.getElem_of_mem hx
   exact(NA hs hi (Qk hi)).2
theorem AGQ {P:List VP} (hs:Srt P) {o:List Nat} (h:o ∉ P.map (·.1)):Hv P o=false:=by
 cases e:Hv P o with
 | false=>rfl
 | true=>exact absurd ((AGP hs).1 e) h
theorem ABK {P:List VP} {o:List Nat} {t:List Nd} {x:VP}:x∈Mb P o t↔x=(o,t)∨x∈P:=by
 unfold Mb
 rw[List.mem_append,List.mem_cons]
 constructor
 · rintro (h|h|h)
   · exact .inr (List.mem_of_mem_take h)
   · exact .inl h
   · exact .inr (List.mem_of_mem_drop h)
 · rintro (h|h)
   · exact .inr (.inl h)
   · rw[←List.take_append_drop (pos P o) P] at h
     exact(List.mem_append.1 h).imp id .inr
theorem AGR (P:List VP) (o:List Nat) (t:List Nd):(Mb P o t).length=P.length+1:=by rw[NB];exact N2 (Ql P o) _
theorem AGS {P:List VP} {o:List Nat} {x:VP} (h:x∈UT P o):x∈P:=by rw[Oz] at h;exact List.mem_of_mem_eraseIdx h
theorem ABL {P:List VP} (hs:Srt P) {i j:Nat} (hi:i<P.length) (hj:j<P.length) (h:od P i=od P j):i=j:=by
 rcases Nat.lt_trichotomy i j with h1|h1|h1
 · have:=hs.lt h1 hj;rw[h,Ff] at this;cases this
 · exact h1
 · have:=hs.lt h1 hi;rw[h,Ff] at this;cases this
theorem Xd {P:List VP} (hs:Srt P) {o:List Nat} (hf:Hv P o=true) {x:VP}:x∈UT P o↔x∈P∧x.1≠o:=by
 obtain⟨hp,ho⟩:=Jl hf
 constructor
 · intro h
   refine⟨AGS h,?_⟩
   rw[Oz] at h
   obtain⟨i,hi,he⟩:=List.getElem_of_mem h
   have h2:(P.eraseIdx (pos P o))[i]?=some x:=by rw[List.getElem?_eq_getElem hi,he]
   rw[List.getElem?_eraseIdx] at h2
   intro e
   split at h2
   · rename_i hlt
     have hil:i<P.length:=by omega
     have h3:od P i=o:=by rw[(It h2).1,e]
     have:=ABL hs hil hp (h3.trans ho.symm)
     omega
   · rename_i hlt
     have hil:=(List.getElem?_eq_some_iff.1 h2).1
     have h3:od P (i+1)=o:=by rw[(It h2).1,e]
     have:=ABL hs hil hp (h3.trans ho.symm)
     omega
 · rintro ⟨h,hne⟩
   obtain⟨i,hi,rfl⟩:=List.getElem_of_mem h
   unfold UT
   rcases Nat.lt_trichotomy i (pos P o) with h1|h1|h1
   · refine List.mem_append.2 (.inl (List.mem_iff_getElem.2 ⟨i,?_,?_⟩))
     · rw[List.length_take];omega
     · rw[List.getElem_take]
   · exfalso
     apply hne
     rw[←Qk hi,h1,ho]
   · refine List.mem_append.2 (.inr (List.mem_iff_getElem.2 ⟨i-(pos P o+1),?_,?_⟩))
     · rw[List.length_drop];omega
     · rw[List.getElem_drop]
       congr 1
       omega
theorem U4 {P:List VP} (hs:Srt P) {o:List Nat} {t:List Nd} (h:(o,t)∈P):Hv P o=true∧tr P (pos P o)=t:=by
 obtain⟨i,hi,he⟩:=List.getElem_of_mem h
 have h1:od P i=o:=by rw[Qk hi,he]
 obtain⟨h2,h3⟩:=NA hs hi h1
 refine⟨h3,?_⟩
 rw[h2,AHv hi,he]
theorem AGT {P:List VP} (hs:Srt P) {o:List Nat} {t:List Nd} (hf:Hv P o=true) {x:VP}:x∈N3 P o t↔x=(o,t)∨(x∈P∧x.1≠o):=by
 have h1:=Xd hs hf (x:=x)
 unfold N3
 unfold UT at h1
 rw[List.mem_append,List.mem_cons]
 rw[List.mem_append] at h1
 constructor
 · rintro (h|h|h)
   · exact .inr (h1.1 (.inl h))
   · exact .inl h
   · exact .inr (h1.1 (.inr h))
 · rintro (h|h)
   · exact .inr (.inl h)
   · exact(h1.2 h).imp id .inr
theorem ABM {x:Int} (h1:0≤x) (h2:x<256):IntKind.u8.wrap x=x:=by simp[IntKind.wrap,IntKind.bits,IntKind.signed];omega
theorem Jm (k:List Nat):GO (tree k [])=true:=Is k [] (by simp)
theorem Xe {P:List VP} {sa po o nx:List Nat} {T:List Nd} (hv:CK P=true) (hf:Hv P o=false) (hl:P.length<64):L8 (P,sa,po) o T nx=((Mb P o T,sa,nx),0):=by
 unfold L8
 rw[if_pos hv,if_neg (by rw[hf];simp),if_neg (by simpa using hl)]
theorem U5 {P:Program} {a b c:Int} {t:TypeId} {x y:Operand} {w:World} (h:bits .and .i64 a b=c):(do eqGuard .and t x y (.int .i64 a) (.int .i64 b);binOp .and t (.int .i64 a) (.int .i64 b):Sem Value).run P w=.ok (.int .i64 c) w:=by
 subst h
 simp[eqGuard,binOp_and]
 rfl
end Go.Proofs.YtbfjfnbcmojpiaaGreat
namespace Go.Proofs.YtbfjfnbcmojpiaaGreat
open Go.RowKit Go.Shelf
theorem ALG (a b:Nat) (w:World):(Instr.build 23 #[(0,.int .u8 (a:Int)),(31,.int .u8 (b:Int))]).run Tryz.prog w=.ok (AP (a::(zs 30++[b]))) w:=by kernel_rfl
theorem ABU {P:List VP} {o:List Nat} {a:Int} {l:List Nd} {q:List Nat×Int} (ha:Br a=true) (hv:CK P=true) (h:Hv P o=true∧tr P (pos P o)=l) (hq:Cy l a=q):Co P o a=q:=(Ue ha hv h.1 rfl h.2).trans hq
end Go.Proofs.YtbfjfnbcmojpiaaGreat
