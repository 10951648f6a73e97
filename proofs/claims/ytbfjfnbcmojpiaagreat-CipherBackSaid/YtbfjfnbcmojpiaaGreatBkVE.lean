import Derived.Test.YtbfjfnbcmojpiaaGreatBkYA
import Derived.Test.YtbfjfnbcmojpiaaGreatBkY1
set_option linter.unusedSimpArgs false
set_option linter.unusedVariables false
set_option maxRecDepth 100000
set_option maxHeartbeats 4000000
namespace Go.Proofs.YtbfjfnbcmojpiaaGreat
open Go.RowKit Go.Shelf
theorem M1 (w:World):(Instr.build 25 #[]).run Tryz.prog w=.ok (Bi V.nul) w:=by kernel_rfl
theorem Ls (w:World):CallsD Tryz.prog 68 #[] .returning w fun e u' w'=>e=.returned (.tuple #[])∧u'=.returning∧w'=w:=by
 refine callsD_of_wpS Tryz.func68 rfl fun c₀ cs hu=>?_
 apply wpS_region
 simp[wpOpsS,go_sem,recoverD,hu,Tryz.ntmps68]
 cases c₀
 simp_all [bodyPostS,results,Tryz.results68]
theorem O0 {x:V} {c:Int} {y:V×Int} (h:y=(x,c)):Ending.returned (.tuple #[Bi x,.int .i64 c])=Ending.returned (.tuple #[Bi y.1,.int .i64 y.2]):=by rw[h]
theorem ADX {w:World} {b:List Nat} {v:Value} (hv:SlB w 1 v b.length (bv b)) (hb:By b) (hl:b.length≤100000):Calls Tryz.prog 107 #[v] w fun e w'=>∃u,e=.returned u∧(∃(x:V) (ao:Option Addr) (n cap:Nat) (er:Int),u=.tuple #[Bi x,.slice ao n cap,.int .i64 er]∧w.grownBy w' none ∧
   ((er=0∧∃r,r.length=n∧pV b=.ok (x,r))∨(er≠0∧∃k,pV b=.error k))):=by
 refine(Pb v b w hv.1 (by omega) hb hv.2).mono ?_
 intro e w' h
 unfold ReadPost at h
 obtain⟨hg,h⟩:=h
 cases hp:pV b with
 | ok y =>
   obtain⟨x,r⟩:=y
   rw[hp] at h
   obtain⟨u,rv,rfl,hrep,hs,hlo⟩:=h
   obtain rfl:u=Bi x:=hrep
   obtain⟨ao,cap,rfl,_⟩:=Sl.shape hs
   exact⟨_,rfl,x,ao,_,cap,0,rfl,hg,.inl ⟨rfl,r,rfl,rfl⟩⟩
 | error n =>
   rw[hp] at h
   obtain⟨rfl,hn⟩:=h
   exact⟨_,rfl,V.nul,none,0,0,n,rfl,hg,.inr ⟨by omega,n,rfl⟩⟩
theorem ADY {b:List Nat} {x:V} {n:Nat} {er:Int} (h:(er=0∧∃r,r.length=n∧pV b=.ok (x,r))∨(er≠0∧∃k,pV b=.error k)):(er≠0→Iv b=(V.nul,101))∧(er=0→n=0→Iv b=(x,0))∧(er=0→0<n→Iv b=(V.nul,101)):=by
 rcases h with ⟨h0,r,rfl,hp⟩|⟨h0,k,hp⟩
 · exact⟨fun h=>absurd h0 h,fun _ h=>Xe (by rw[hp,List.eq_nil_of_length_eq_zero h]),fun _ h=>ZP hp h⟩
 · exact⟨fun _=>ABK hp,fun h=>absurd h h0,fun h=>absurd h h0⟩
theorem Uh (b:List Nat) (hby:By b) (hl:b.length≤100000) (bo:Option Addr) (bc:Nat) (w:World) (hb:SlB w 1 (.slice bo b.length bc) b.length (bv b)) :
   Calls Tryz.prog 61 #[.slice bo b.length bc] w fun e w'=>e=.returned (.tuple #[Bi (Iv b).1,.int .i64 (Iv b).2])∧w.grownBy w' none:=by
 refine BH Tryz.func61 rfl Tryz.ntmps61 rfl fun a0 sv0=>?_
 have HG:=World.grownBy.refl w none
 replace sv0:Sv 22 [] [(0,.slice bo b.length bc)] a0:=sv0
 refine AH4 fun K1 k1=>?_
 refine AH3 ?_
 refine Ap (T:=25) (Z:=[.int .i64 0,.int .i64 0,.string ⟨#[]⟩]) sv0 rfl rfl rfl (fun a w=>by kernel_rfl) fun a2 w2 CJ Cs g2 z2 AH sv2=>?_
 have E5:=Bp HG Cs
 refine AZ (v:=.int .i64 0) sv2 r6 fun a3 sv3=>?_
 refine AE ?_
 refine k1 _ _ ?_
 refine AH4 fun K4 k4=>?_
 refine AH3 ?_
 refine AK sv3 1 [(8,.slice bo b.length bc)]
   ⟨ym r5,AIA⟩ fun a5 w5 g5 sv5=>?_
 replace hb:=(hb.kn g2).kn g5
 refine BR sv5 Tryz.func107 (by kernel_rfl) r6 (ADX hb hby hl) fun a6 v6 w6 hR6 sv6=>?_
 obtain⟨x,ro,rn,rc,er,rfl,g6,hcs⟩:=hR6
 obtain⟨hf1,hf2,hf3⟩:=ADY hcs
 refine AK sv6 4 [(7,.tuple #[Bi x,.slice ro rn rc,.int .i64 er]),(10,Bi x),(11,.slice ro rn rc),(12,.int .i64 er)]
   ⟨ym r5,BL rq4 (fun _ _ h=>⟨_,_,h,rfl,rfl⟩),BL rq4 (fun _ _ h=>⟨_,_,h,rfl,rfl⟩),BL rq4 (fun _ _ h=>⟨_,_,h,rfl,rfl⟩),AIA⟩ fun a7 w7 g7 sv7=>?_
 replace AH:=AC g7 (AC g6 (AC g5 AH))
 replace HG:=AA (AA (AA (AA HG g2) g5) g6) g7
 refine Ap (T:=25) (Z:=[.int .i64 0,.int .i64 0,.string ⟨#[]⟩]) sv7 rfl rfl rfl (fun a w=>by kernel_rfl) fun a8 w8 AHz Xf g8 z8 Ui sv8=>?_
 have Lu:=As AH Xf
 have ADZ:=Bp HG Xf
 refine Am sv8 r7 (DY x) Ui rfl fun w9 g9 h9=>?_
 replace AH:=Aa g9 (AC g8 AH) (Ne.symm Lu)
 replace HG:=AD (AA HG g8) g9 ADZ
 replace Ui:=h9
 refine AZ (v:=.slice ro rn rc) sv8 r6 fun a10 CG=>?_
 refine AZ (v:=.int .i64 er) CG r6 fun a11 CC=>?_
 have Cr:Sv _ _ [_,_,_,_,_] _:=CC.dl [7,10,11,12,9,8,0]
 refine AE ?_
 refine k4 _ _ ?_
 refine AH4 fun K13 k13=>?_
 refine AH4 fun K14 k14=>?_
 rcases(show er≠0∨(er=0∧rn=0)∨(er=0∧0<rn) by omega) with h1|⟨h1,h2⟩|⟨h1,h2⟩
 · refine AH3 ?_
   refine AK Cr 7 [(13,.int .i64 er),(14,.bool true),(15,.bool true),(16,undef),(17,undef),(18,undef),(19,.bool true)]
    ⟨ym r5,Cm r6 (fun _=>Ez (by simpa using h1)),ym r5,AY r6,AY r6,AY r6,CA r7,AIA⟩ fun a15 w15 g15 Ko=>?_
   refine AE ?_
   refine k14 _ _ ?_
   refine Aq Ko rfl rfl ?_
   refine AH4 fun K16 k16=>?_
   refine AH3 ?_
   replace AH:=AC g15 AH
   refine AK Ko 1 [(20,Bi V.nul)]
    ⟨BM (vs:=[]) rfl rfl trivial trivial (fun _=>M1 _) (fun _=>rfl),AIA⟩ fun a17 w17 g17 E2=>?_
   refine Am E2 r7 (DY V.nul) (AC g17 AH) rfl fun w18 g18 h18=>?_
   replace Ui:=Ak g17 g18 (AC g15 Ui) Lu
   replace HG:=AD (AA (AA HG g15) g17) g18 E5
   replace AH:=h18
   refine AZ (v:=.int .i64 101) E2 r6 fun a19 Dv=>?_
   refine AE ?_
   refine k16 _ _ ?_
   refine AH7 ?_
   repeat refine AM ?_
   refine A3 (fn:=Tryz.f61) Dv (FL (p:=2) (q:=3) Tryz.results61 Dv rfl rfl rfl rfl (DY V.nul) AH) ?_
   exact⟨O0 (hf1 h1),HG⟩
 · refine AH3 ?_
   refine AK Cr 7 [(13,.int .i64 er),(14,.bool false),(15,.bool false),(16,.slice ro rn rc),(17,.int .i64 ((rn:Nat))),(18,.bool false),(19,.bool false)]
    ⟨ym r5,Cm r6 (fun _=>Ez (by simpa using h1)),ym r5,Ar rq8,Be (Tryz.underlying29) rfl rfl (gy rfl rfl rfl) (oy rfl rfl) (fun _=>rfl),BD rq9 (fun _=>Cj (decide_eq_false (by omega))),A1 rq9,AIA⟩ fun a20 w20 g20 Dl=>?_
   refine AE ?_
   refine k14 _ _ ?_
   refine Ax Dl rfl rfl ?_
   refine AH8 ?_
   refine k13 _ _ ?_
   refine AH4 fun K21 k21=>?_
   refine AH3 ?_
   refine AK Dl 1 [(21,Bi x)]
    ⟨yl r6 (DY x) (AC g20 Ui),AIA⟩ fun a22 w22 g22 CU=>?_
   have NE:=AA g20 g22
   refine Am CU r7 (DY x) (AC NE AH) rfl fun w23 g23 h23=>?_
   replace HG:=AD (AA HG NE) g23 E5
   replace AH:=h23
   refine AZ (v:=.int .i64 0) CU r6 fun a24 Dw=>?_
   refine AE ?_
   refine k21 _ _ ?_
   refine AH7 ?_
   repeat refine AM ?_
   refine A3 (fn:=Tryz.f61) Dw (FL (p:=2) (q:=3) Tryz.results61 Dw rfl rfl rfl rfl (DY x) AH) ?_
   exact⟨O0 (hf2 h1 h2),HG⟩
 · refine AH3 ?_
   refine AK Cr 7 [(13,.int .i64 er),(14,.bool false),(15,.bool false),(16,.slice ro rn rc),(17,.int .i64 ((rn:Nat))),(18,.bool true),(19,.bool true)]
    ⟨ym r5,Cm r6 (fun _=>Ez (by simpa using h1)),ym r5,Ar rq8,Be (Tryz.underlying29) rfl rfl (gy rfl rfl rfl) (oy rfl rfl) (fun _=>rfl),BD rq9 (fun _=>Cj (decide_eq_true (by omega))),A1 rq9,AIA⟩ fun a25 w25 g25 Cu=>?_
   refine AE ?_
   refine k14 _ _ ?_
   refine Aq Cu rfl rfl ?_
   refine AH4 fun K26 k26=>?_
   refine AH3 ?_
   replace AH:=AC g25 AH
   refine AK Cu 1 [(20,Bi V.nul)]
    ⟨BM (vs:=[]) rfl rfl trivial trivial (fun _=>M1 _) (fun _=>rfl),AIA⟩ fun a27 w27 g27 F8=>?_
   refine Am F8 r7 (DY V.nul) (AC g27 AH) rfl fun w28 g28 h28=>?_
   replace HG:=AD (AA (AA HG g25) g27) g28 E5
   replace AH:=h28
   refine AZ (v:=.int .i64 101) F8 r6 fun a29 CK=>?_
   refine AE ?_
   refine k26 _ _ ?_
   refine AH7 ?_
   repeat refine AM ?_
   refine A3 (fn:=Tryz.f61) CK (FL (p:=2) (q:=3) Tryz.results61 CK rfl rfl rfl rfl (DY V.nul) AH) ?_
   exact⟨O0 (hf3 h1 h2),HG⟩
theorem AEK {w:World} {b:List Nat} {q:V×Int} {v:Value} (hv:SlB w 1 v b.length (bv b)) (hb:By b) (hl:b.length≤100000) (hq:Iv b=q):Calls Tryz.prog 61 #[v] w fun e w'=>e=.returned (.tuple #[Bi q.1,.int .i64 q.2])∧w.grownBy w' none:=by
 subst hq
 obtain⟨ao,cap,rfl,_⟩:=Sl.shape hv.1
 exact Uh b hb hl ao cap w hv
theorem Mi {P:List VP} {s:Sd} (h:EE s=false∨CR P=false):EX P s=(V.nul,1):=by
 unfold EX
 rcases h with h|h<;>simp[h]
theorem M2 {P:List VP} {s:Sd} (h1:EE s=true) (h2:CR P=true) (h3:s.own=[]):EX P s=if Yw s.addr s.body=s.tag then Iv s.body else (V.nul,101):=by
 unfold EX
 simp[h1,h2,h3]
theorem WV {P:List VP} {s:Sd} (h1:EE s=true) (h2:CR P=true) (h3:s.own≠[]) (h4:IH P s=none):EX P s=(V.nul,10):=by
 unfold EX
 simp[h1,h2,h3,h4]
theorem Mj {P:List VP} {s:Sd} {c:List Nat} (h1:EE s=true) (h2:CR P=true) (h3:s.own≠[]) (h4:IH P s=some c):EX P s=if So c s.addr s.body=s.tag then Iv (IB s.body c) else (V.nul,101):=by
 unfold EX
 simp[h1,h2,h3,h4]
theorem Xg {w:World} {ks:List VK} {vo:Option Addr} {vc:Nat} {sa po:List Nat} {P:List VP} {ad joint:Int} {od wd:List DD} {ao wo bo:Option Addr} {ac wc bc:Nat} {body tg:List Nat} {r:Option (List Nat)} {s:Sd} (hsa:Dg sa) (hpo:Dg po) (htg:Dg tg) (hr:RdK w (.slice vo ks.length vc) ks) (ho:RdD w (.slice ao od.length ac) od) (hw:RdD w (.slice wo wd.length wc) wd) (hb:SlB w 1 (.slice bo body.length bc) body.length (bv body)) (hP:ks.map VK.p=P) (hs:(⟨ad,od.map DD.x,joint,wd.map DD.x,body,tg⟩:Sd)=s) (hvs:EE s=true) (hres:IH P s=r) :
  Calls Tryz.prog 62 #[An sa po (.slice vo ks.length vc),Br ad (.slice ao od.length ac) joint (.slice wo wd.length wc) (.slice bo body.length bc) tg] w fun e w'=>∃u,e=.returned u∧(∃c,u=.tuple #[AP c,.bool r.isSome]∧Dg c∧(∀c',r=some c'→c'=c)∧w.grownBy w' none):=by
 subst hs hP hres
 exact(WQ ks vo vc sa po hsa hpo ad joint od wd ao wo bo ac wc bc body tg htg w hr ho hw hb hvs).mono fun e w' ⟨c,h1,h2⟩=>⟨_,h1,c,rfl,h2⟩
theorem Lv {w:World} {ad joint:Int} {od wd:List DD} {ao wo bo:Option Addr} {ac wc bc:Nat} {body tg:List Nat} {b:Bool} {s:Sd} (htg:Dg tg) (ho:RdD w (.slice ao od.length ac) od) (hw:RdD w (.slice wo wd.length wc) wd) (hb:SlB w 1 (.slice bo body.length bc) body.length (bv body)) (hs:(⟨ad,od.map DD.x,joint,wd.map DD.x,body,tg⟩:Sd)=s) (hvs:EE s=b) :
  Calls Tryz.prog 27 #[Br ad (.slice ao od.length ac) joint (.slice wo wd.length wc) (.slice bo body.length bc) tg] w fun e w'=>e=.returned (.bool b)∧w.grownBy w' none:=by
 subst hs hvs
 exact ADJ ad joint od wd ao wo bo ac wc bc body tg htg w ho hw hb
theorem ZR (ks:List VK) (vo:Option Addr) (vc_:Nat) (sa po:List Nat) (hsa:Dg sa) (hpo:Dg po) (ad joint:Int) (od wd:List DD) (ao wo bo:Option Addr) (ac wc bc:Nat) (body tg:List Nat) (htg:Dg tg) (bby:By body) (w:World) (hr:RdK w (.slice vo ks.length vc_) ks) (ho:RdD w (.slice ao od.length ac) od) (hw:RdD w (.slice wo wd.length wc) wd) (hb:SlB w 1 (.slice bo body.length bc) body.length (bv body)) :
   Calls Tryz.prog 22 #[An sa po (.slice vo ks.length vc_),Br ad (.slice ao od.length ac) joint (.slice wo wd.length wc) (.slice bo body.length bc) tg] w fun e w'=>e=.returned (.tuple #[Bi (EX (ks.map VK.p) ⟨ad,od.map DD.x,joint,wd.map DD.x,body,tg⟩).1,.int .i64 (EX (ks.map VK.p) ⟨ad,od.map DD.x,joint,wd.map DD.x,body,tg⟩).2])∧w.grownBy w' none:=by
 obtain⟨P,hP⟩:∃P,ks.map VK.p=P:=⟨_,rfl⟩
 obtain⟨S,hS⟩:∃S:Sd,⟨ad,od.map DD.x,joint,wd.map DD.x,body,tg⟩=S:=⟨_,rfl⟩
 have s1:S.addr=ad:=by rw[←hS]
 have s2:S.own=od.map DD.x:=by rw[←hS]
 have s3:S.body=body:=by rw[←hS]
 have s4:S.tag=tg:=by rw[←hS]
 rw[hP,hS]
 refine DP Tryz.func22 rfl Tryz.ntmps22 rfl fun a0 sv0=>?_
 have HG:=World.grownBy.refl w none
 replace sv0:Sv 62 [] [(0,An sa po (.slice vo ks.length vc_)),(1,Br ad (.slice ao od.length ac) joint (.slice wo wd.length wc) (.slice bo body.length bc) tg)] a0:=sv0
 refine AH4 fun K1 k1=>?_
 refine AH3 ?_
 refine BQ sv0 r6 (Bm hsa hpo (.slice vo ks.length vc_) rfl) fun a2 w2 CJ Cs g2 z2 AH sv2=>?_
 refine BQ sv2 r6 (Dn _ _ htg (.slice ao od.length ac) (.slice wo wd.length wc) (.slice bo body.length bc) rfl rfl rfl) fun a3 w3 Bw EH g3 z3 AL sv3=>?_
 replace AH:=AC g3 AH
 replace hr:=(hr.kn g2).kn g3
 replace ho:=(ho.kn g2).kn g3
 replace hw:=(hw.kn g2).kn g3
 replace hb:=(hb.kn g2).kn g3
 replace HG:=AA (AA HG g2) g3
 refine Ap (T:=25) (Z:=[.int .i64 0,.int .i64 0,.string ⟨#[]⟩]) sv3 rfl rfl rfl (fun a w=>by kernel_rfl) fun a4 w4 FG Bz g4 z4 AN sv4=>?_
 have A8:=As AH Bz
 have BJ:=As AL Bz
 have B7:=Bp HG Bz
 have Bo:=Av (hr.lt) Bz
 have DI:=Av (ho.lt) Bz
 have DJ:=Av (hw.lt) Bz
 have Cz:=Av (hb.lt) Bz
 replace AH:=AC g4 AH
 replace AL:=AC g4 AL
 replace hr:=hr.kn g4
 replace ho:=ho.kn g4
 replace hw:=hw.kn g4
 replace hb:=hb.kn g4
 replace HG:=AA HG g4
 refine Ap (T:=38) (Z:=[.int .i64 0]) sv4 rfl rfl rfl (fun a w=>by kernel_rfl) fun a5 w5 Ty Dz g5 z5 Al sv5=>?_
 have CB:=As AH Dz
 have CT:=As AL Dz
 have Ay:=As AN Dz
 have EJ:=Bp HG Dz
 have EC:=Av (hr.lt) Dz
 have FR:=Av (ho.lt) Dz
 have FS:=Av (hw.lt) Dz
 have Ee:=Av (hb.lt) Dz
 replace AH:=AC g5 AH
 replace AL:=AC g5 AL
 replace AN:=AC g5 AN
 replace hr:=hr.kn g5
 replace ho:=ho.kn g5
 replace hw:=hw.kn g5
 replace hb:=hb.kn g5
 replace HG:=AA HG g5
 refine AE ?_
 refine k1 _ _ ?_
 refine AH4 fun K6 k6=>?_
 refine AH3 ?_
 refine Fg sv5 rfl rfl rfl rfl rfl rfl fun a7 sv7=>?_
 refine D9 sv7 rfl (dd:={ target:=.fn (.func 60) #[pt FG,pt Ty],args:=#[] }) rfl (by have e1:=sv7.ev (x:=.tmp 8) rfl rfl;simp[execOp,resolve,Deferred.ofValue,e1];try rfl) fun a8 sv8=>?_
 refine AE ?_
 refine k6 _ _ ?_
 refine AH4 fun K9 k9=>?_
 refine AH4 fun K10 k10=>?_
 rcases(show(EE S=false∧CR P=false)∨(EE S=false∧CR P=true)∨(EE S=true∧CR P=false)∨(EE S=true∧CR P=true) by cases EE S<;>cases CR P<;>simp) with ⟨hh,hv⟩|⟨hh,hv⟩|⟨hh,hv⟩|⟨hh,hv⟩
 · refine AH3 ?_
   refine AK sv8 8 [(9,Br ad (.slice ao od.length ac) joint (.slice wo wd.length wc) (.slice bo body.length bc) tg),(10,.bool false),(11,.bool true),(12,.bool true),(13,undef),(14,undef),(15,undef),(16,.bool true)]
     ⟨yl r6 (Dn _ _ htg (.slice ao od.length ac) (.slice wo wd.length wc) (.slice bo body.length bc) rfl rfl rfl) AL,Ah [Br ad (.slice ao od.length ac) joint (.slice wo wd.length wc) (.slice bo body.length bc) tg] Tryz.func27 (by kernel_rfl) rq4 ⟨(oy rfl rfl),AIA⟩ (Ao fun W g=>Lv htg (ho.kn g) (hw.kn g) (hb.kn g) hS hh),C3 r6 (fun _=>Bf),ym r5,AY r6,AY r6,AY r6,CA r7,AIA⟩ fun a11 w11 g11 CC=>?_
   refine AE ?_
   refine k10 _ _ ?_
   refine Aq CC rfl rfl ?_
   refine AH4 fun K12 k12=>?_
   refine AH3 ?_
   replace AN:=AC g11 AN
   refine AK CC 1 [(17,Bi V.nul)]
     ⟨BM (vs:=[]) rfl rfl trivial trivial (fun _=>M1 _) (fun _=>rfl),AIA⟩ fun a13 w13 g13 Dx=>?_
   refine Am Dx r7 (DY V.nul) (AC g13 AN) rfl fun w14 g14 h14=>?_
   replace Al:=Ak g13 g14 (AC g11 Al) Ay
   refine Am Dx r7 (Ep 1) Al rfl fun w15 g15 h15=>?_
   replace AH:=Aa g15 (Ak g13 g14 (AC g11 AH) (Ne.symm A8)) (Ne.symm CB)
   replace AL:=Aa g15 (Ak g13 g14 (AC g11 AL) (Ne.symm BJ)) (Ne.symm CT)
   replace AN:=Aa g15 h14 (Ne.symm Ay)
   replace hr:=(((hr.kn g11).kn g13).offR g14 (AQ Bo)).offR g15 (AQ EC)
   replace ho:=(((ho.kn g11).kn g13).offR g14 (AQ DI)).offR g15 (AQ FR)
   replace hw:=(((hw.kn g11).kn g13).offR g14 (AQ DJ)).offR g15 (AQ FS)
   replace hb:=(((hb.kn g11).kn g13).offR g14 (AQ Cz)).offR g15 (AQ Ee)
   replace HG:=AD (AD (AA (AA HG g11) g13) g14 B7) g15 EJ
   replace Al:=h15
   refine AE ?_
   refine k12 _ _ ?_
   refine AH7 ?_
   repeat refine AM ?_
   refine BI (fn:=Tryz.f22) Dx (Bc (p:=4) (q:=5) Tryz.results22 Dx rfl rfl rfl rfl (DY V.nul) (Ep 1) AN Al) (Bh Tryz.func60 (by kernel_rfl) rfl _ _) (C9 _ _ _) ?_
   exact⟨O0 (Mi (.inl hh)),HG⟩
 · refine AH3 ?_
   refine AK sv8 8 [(9,Br ad (.slice ao od.length ac) joint (.slice wo wd.length wc) (.slice bo body.length bc) tg),(10,.bool false),(11,.bool true),(12,.bool true),(13,undef),(14,undef),(15,undef),(16,.bool true)]
     ⟨yl r6 (Dn _ _ htg (.slice ao od.length ac) (.slice wo wd.length wc) (.slice bo body.length bc) rfl rfl rfl) AL,Ah [Br ad (.slice ao od.length ac) joint (.slice wo wd.length wc) (.slice bo body.length bc) tg] Tryz.func27 (by kernel_rfl) rq4 ⟨(oy rfl rfl),AIA⟩ (Ao fun W g=>Lv htg (ho.kn g) (hw.kn g) (hb.kn g) hS hh),C3 r6 (fun _=>Bf),ym r5,AY r6,AY r6,AY r6,CA r7,AIA⟩ fun a16 w16 g16 Ck=>?_
   refine AE ?_
   refine k10 _ _ ?_
   refine Aq Ck rfl rfl ?_
   refine AH4 fun K17 k17=>?_
   refine AH3 ?_
   replace AN:=AC g16 AN
   refine AK Ck 1 [(17,Bi V.nul)]
     ⟨BM (vs:=[]) rfl rfl trivial trivial (fun _=>M1 _) (fun _=>rfl),AIA⟩ fun a18 w18 g18 CF=>?_
   refine Am CF r7 (DY V.nul) (AC g18 AN) rfl fun w19 g19 h19=>?_
   replace Al:=Ak g18 g19 (AC g16 Al) Ay
   refine Am CF r7 (Ep 1) Al rfl fun w20 g20 h20=>?_
   replace AH:=Aa g20 (Ak g18 g19 (AC g16 AH) (Ne.symm A8)) (Ne.symm CB)
   replace AL:=Aa g20 (Ak g18 g19 (AC g16 AL) (Ne.symm BJ)) (Ne.symm CT)
   replace AN:=Aa g20 h19 (Ne.symm Ay)
   replace hr:=(((hr.kn g16).kn g18).offR g19 (AQ Bo)).offR g20 (AQ EC)
   replace ho:=(((ho.kn g16).kn g18).offR g19 (AQ DI)).offR g20 (AQ FR)
   replace hw:=(((hw.kn g16).kn g18).offR g19 (AQ DJ)).offR g20 (AQ FS)
   replace hb:=(((hb.kn g16).kn g18).offR g19 (AQ Cz)).offR g20 (AQ Ee)
   replace HG:=AD (AD (AA (AA HG g16) g18) g19 B7) g20 EJ
   replace Al:=h20
   refine AE ?_
   refine k17 _ _ ?_
   refine AH7 ?_
   repeat refine AM ?_
   refine BI (fn:=Tryz.f22) CF (Bc (p:=4) (q:=5) Tryz.results22 CF rfl rfl rfl rfl (DY V.nul) (Ep 1) AN Al) (Bh Tryz.func60 (by kernel_rfl) rfl _ _) (C9 _ _ _) ?_
   exact⟨O0 (Mi (.inl hh)),HG⟩
 · refine AH3 ?_
   refine AK sv8 8 [(9,Br ad (.slice ao od.length ac) joint (.slice wo wd.length wc) (.slice bo body.length bc) tg),(10,.bool true),(11,.bool false),(12,.bool false),(13,An sa po (.slice vo ks.length vc_)),(14,.bool false),(15,.bool true),(16,.bool true)]
     ⟨yl r6 (Dn _ _ htg (.slice ao od.length ac) (.slice wo wd.length wc) (.slice bo body.length bc) rfl rfl rfl) AL,Ah [Br ad (.slice ao od.length ac) joint (.slice wo wd.length wc) (.slice bo body.length bc) tg] Tryz.func27 (by kernel_rfl) rq4 ⟨(oy rfl rfl),AIA⟩ (Ao fun W g=>Lv htg (ho.kn g) (hw.kn g) (hb.kn g) hS hh),C3 r6 (fun _=>Bf),ym r5,Au rq9 (fun _ g=>Ad (Bm hsa hpo (.slice vo ks.length vc_) rfl) (Aj (AF g AH (by simp)))),Bq [An sa po (.slice vo ks.length vc_)] Tryz.func51 (by kernel_rfl) r7 ⟨(oy rfl rfl),AIA⟩ (Ao fun W g=>LV hsa hpo (hr.kn g) hP hv),Hx rfl rfl (gy rfl rfl rfl) (oy rfl rfl) (fun _=>Bf) (fun _=>rfl),A1 rq9,AIA⟩ fun a21 w21 g21 DL=>?_
   refine AE ?_
   refine k10 _ _ ?_
   refine Aq DL rfl rfl ?_
   refine AH4 fun K22 k22=>?_
   refine AH3 ?_
   replace AN:=AC g21 AN
   refine AK DL 1 [(17,Bi V.nul)]
     ⟨BM (vs:=[]) rfl rfl trivial trivial (fun _=>M1 _) (fun _=>rfl),AIA⟩ fun a23 w23 g23 CX=>?_
   refine Am CX r7 (DY V.nul) (AC g23 AN) rfl fun w24 g24 h24=>?_
   replace Al:=Ak g23 g24 (AC g21 Al) Ay
   refine Am CX r7 (Ep 1) Al rfl fun w25 g25 h25=>?_
   replace AH:=Aa g25 (Ak g23 g24 (AC g21 AH) (Ne.symm A8)) (Ne.symm CB)
   replace AL:=Aa g25 (Ak g23 g24 (AC g21 AL) (Ne.symm BJ)) (Ne.symm CT)
   replace AN:=Aa g25 h24 (Ne.symm Ay)
   replace hr:=(((hr.kn g21).kn g23).offR g24 (AQ Bo)).offR g25 (AQ EC)
   replace ho:=(((ho.kn g21).kn g23).offR g24 (AQ DI)).offR g25 (AQ FR)
   replace hw:=(((hw.kn g21).kn g23).offR g24 (AQ DJ)).offR g25 (AQ FS)
   replace hb:=(((hb.kn g21).kn g23).offR g24 (AQ Cz)).offR g25 (AQ Ee)
   replace HG:=AD (AD (AA (AA HG g21) g23) g24 B7) g25 EJ
   replace Al:=h25
   refine AE ?_
   refine k22 _ _ ?_
   refine AH7 ?_
   repeat refine AM ?_
   refine BI (fn:=Tryz.f22) CX (Bc (p:=4) (q:=5) Tryz.results22 CX rfl rfl rfl rfl (DY V.nul) (Ep 1) AN Al) (Bh Tryz.func60 (by kernel_rfl) rfl _ _) (C9 _ _ _) ?_
   exact⟨O0 (Mi (.inr hv)),HG⟩
 · have hb64:body.length≤64:=s3▸AFK hh
   have hia:No ad:=by have:=(XY (ABL hh)).1;rw[s1] at this;exact⟨by omega,by omega⟩
   refine AH3 ?_
   refine AK sv8 8 [(9,Br ad (.slice ao od.length ac) joint (.slice wo wd.length wc) (.slice bo body.length bc) tg),(10,.bool true),(11,.bool false),(12,.bool false),(13,An sa po (.slice vo ks.length vc_)),(14,.bool true),(15,.bool false),(16,.bool false)]
     ⟨yl r6 (Dn _ _ htg (.slice ao od.length ac) (.slice wo wd.length wc) (.slice bo body.length bc) rfl rfl rfl) AL,Ah [Br ad (.slice ao od.length ac) joint (.slice wo wd.length wc) (.slice bo body.length bc) tg] Tryz.func27 (by kernel_rfl) rq4 ⟨(oy rfl rfl),AIA⟩ (Ao fun W g=>Lv htg (ho.kn g) (hw.kn g) (hb.kn g) hS hh),C3 r6 (fun _=>Bf),ym r5,Au rq9 (fun _ g=>Ad (Bm hsa hpo (.slice vo ks.length vc_) rfl) (Aj (AF g AH (by simp)))),Bq [An sa po (.slice vo ks.length vc_)] Tryz.func51 (by kernel_rfl) r7 ⟨(oy rfl rfl),AIA⟩ (Ao fun W g=>LV hsa hpo (hr.kn g) hP hv),Hx rfl rfl (gy rfl rfl rfl) (oy rfl rfl) (fun _=>Bf) (fun _=>rfl),A1 rq9,AIA⟩ fun a26 w26 g26 CW=>?_
   refine AE ?_
   refine k10 _ _ ?_
   refine Ax CW rfl rfl ?_
   refine AH8 ?_
   refine k9 _ _ ?_
   refine AH4 fun K27 k27=>?_
   refine AH4 fun K28 k28=>?_
   replace AH:=AC g26 AH
   replace AL:=AC g26 AL
   replace AN:=AC g26 AN
   replace Al:=AC g26 Al
   replace hr:=hr.kn g26
   replace ho:=ho.kn g26
   replace hw:=hw.kn g26
   replace hb:=hb.kn g26
   replace HG:=AA HG g26
   rcases Nat.eq_zero_or_pos od.length with hz|hz
   · have hnil:S.own=[]:=by rw[s2,List.eq_nil_of_length_eq_zero hz];rfl
     have hopen:=M2 hh hv hnil
     rw[s1,s3,s4] at hopen
     refine AH3 ?_
     refine AK CW 4 [(18,pk Bw 1),(19,.slice ao od.length ac),(20,.int .i64 ((od.length:Nat))),(21,.bool true)]
       ⟨yf r6 (fun _=>by kernel_rfl),yp (i:=1) r6 (J9 (.slice ao od.length ac) rfl) AL rfl rfl,Be (Tryz.underlying28) rfl rfl trivial (oy rfl rfl) (fun _=>rfl),Cm r6 (fun _=>B3 (NC (by omega))),AIA⟩ fun a29 w29 g29 CK=>?_
     refine AE ?_
     refine k28 _ _ ?_
     refine Aq CK rfl rfl ?_
     refine AH4 fun K30 k30=>?_
     refine AH4 fun K31 k31=>?_
     replace AH:=AC g29 AH
     replace AL:=AC g29 AL
     replace AN:=AC g29 AN
     replace Al:=AC g29 Al
     replace hr:=hr.kn g29
     replace ho:=ho.kn g29
     replace hw:=hw.kn g29
     replace hb:=hb.kn g29
     replace HG:=AA HG g29
     by_cases htt:Yw ad body=tg
     · rw[if_pos htt] at hopen
       obtain⟨dq,hdq⟩:∃q,Iv body=q:=⟨_,rfl⟩
       rw[hdq] at hopen
       refine Cn CK [(22,pk Bw 5),(23,AP tg),(24,pt Bw),(25,.int .i64 ad),(26,pk Bw 4),(27,.slice bo body.length bc),(28,AP ((Yw ad body))),(29,.bool false)]
         ⟨yf r6 (fun _=>by kernel_rfl),yp (i:=5) r6 (Bj tg htg.1) AL rfl rfl,yf r6 (fun _=>by kernel_rfl),yp (i:=0) r6 (FY ad) AL rfl rfl,yf r6 (fun _=>by kernel_rfl),yp (i:=4) r6 (Fx (.slice bo body.length bc) rfl) AL rfl rfl,Ah [.int .i64 ad,.slice bo body.length bc] Tryz.func54 (by kernel_rfl) rq4 ⟨(oy rfl rfl),(oy rfl rfl),AIA⟩ (Ao fun W g=>Hl ad hia body bby (by omega) _ _ _ (hb.kn g)),Gs r7 (fun _=>(Jo htg (Fv ad body) _ _ _).2.trans (by rw[decide_eq_true (htt.symm)];rfl)),AIA⟩ fun a32 w32 g32 CO=>?_
       refine k31 _ _ ?_
       refine Ax CO rfl rfl ?_
       refine AH8 ?_
       refine k30 _ _ ?_
       refine AH4 fun K33 k33=>?_
       refine AH3 ?_
       refine AK CO 2 [(31,pk Bw 4),(32,.slice bo body.length bc)]
         ⟨yf r6 (fun _=>by kernel_rfl),yp (i:=4) r6 (Fx (.slice bo body.length bc) rfl) (AC g32 AL) rfl rfl,AIA⟩ fun a34 w34 g34 LO=>?_
       have SU:=AA g32 g34
       replace hb:=hb.kn SU
       refine BR LO Tryz.func61 (by kernel_rfl) r6 (NH (AEK hb bby (by omega) hdq)) fun a35 v35 w35 hR35 MR=>?_
       obtain⟨rfl,g35⟩:=hR35
       replace AN:=AC g35 (AC SU AN)
       refine AK MR 2 [(34,Bi dq.1),(35,.int .i64 dq.2)]
         ⟨BL rq4 (fun _ _ h=>⟨_,_,h,rfl,rfl⟩),BL rq4 (fun _ _ h=>⟨_,_,h,rfl,rfl⟩),AIA⟩ fun a36 w36 g36 FE=>?_
       refine Am FE r7 (DY dq.1) (AC g36 AN) rfl fun w37 g37 h37=>?_
       replace Al:=Ak g36 g37 (AC g35 (AC SU Al)) Ay
       refine Am FE r7 (Ep dq.2) Al rfl fun w38 g38 h38=>?_
       replace AH:=Aa g38 (Ak g36 g37 (AC g35 (AC SU AH)) (Ne.symm A8)) (Ne.symm CB)
       replace AL:=Aa g38 (Ak g36 g37 (AC g35 (AC SU AL)) (Ne.symm BJ)) (Ne.symm CT)
       replace AN:=Aa g38 h37 (Ne.symm Ay)
       replace hr:=((((hr.kn SU).kn g35).kn g36).offR g37 (AQ Bo)).offR g38 (AQ EC)
       replace ho:=((((ho.kn SU).kn g35).kn g36).offR g37 (AQ DI)).offR g38 (AQ FR)
       replace hw:=((((hw.kn SU).kn g35).kn g36).offR g37 (AQ DJ)).offR g38 (AQ FS)
       replace hb:=(((hb.kn g35).kn g36).offR g37 (AQ Cz)).offR g38 (AQ Ee)
       replace HG:=AD (AD (AA (AA (AA HG SU) g35) g36) g37 B7) g38 EJ
       replace Al:=h38
       have JP:Sv _ _ [_,_,_,_,_,_,_,_,_,_,_,_,_,_,_,_,_,_,_,_,_,_,_,_,_,_,_] _:=FE.dl [34,35,33,31,32]
       refine AE ?_
       refine k33 _ _ ?_
       refine AH7 ?_
       repeat refine AM ?_
       refine BI (fn:=Tryz.f22) JP (Bc (p:=4) (q:=5) Tryz.results22 JP rfl rfl rfl rfl (DY dq.1) (Ep dq.2) AN Al) (Bh Tryz.func60 (by kernel_rfl) rfl _ _) (C9 _ _ _) ?_
       exact⟨O0 (hopen),HG⟩
     · rw[if_neg htt] at hopen
       refine Cn CK [(22,pk Bw 5),(23,AP tg),(24,pt Bw),(25,.int .i64 ad),(26,pk Bw 4),(27,.slice bo body.length bc),(28,AP ((Yw ad body))),(29,.bool true)]
         ⟨yf r6 (fun _=>by kernel_rfl),yp (i:=5) r6 (Bj tg htg.1) AL rfl rfl,yf r6 (fun _=>by kernel_rfl),yp (i:=0) r6 (FY ad) AL rfl rfl,yf r6 (fun _=>by kernel_rfl),yp (i:=4) r6 (Fx (.slice bo body.length bc) rfl) AL rfl rfl,Ah [.int .i64 ad,.slice bo body.length bc] Tryz.func54 (by kernel_rfl) rq4 ⟨(oy rfl rfl),(oy rfl rfl),AIA⟩ (Ao fun W g=>Hl ad hia body bby (by omega) _ _ _ (hb.kn g)),Gs r7 (fun _=>(Jo htg (Fv ad body) _ _ _).2.trans (by rw[decide_eq_false ((fun h=>htt h.symm))];rfl)),AIA⟩ fun a40 w40 g40 Kk=>?_
       refine k31 _ _ ?_
       refine Aq Kk rfl rfl ?_
       refine AH4 fun K41 k41=>?_
       refine AH3 ?_
       replace AN:=AC g40 AN
       refine AK Kk 1 [(30,Bi V.nul)]
         ⟨BM (vs:=[]) rfl rfl trivial trivial (fun _=>M1 _) (fun _=>rfl),AIA⟩ fun a42 w42 g42 Hk=>?_
       refine Am Hk r7 (DY V.nul) (AC g42 AN) rfl fun w43 g43 h43=>?_
       replace Al:=Ak g42 g43 (AC g40 Al) Ay
       refine Am Hk r7 (Ep 101) Al rfl fun w44 g44 h44=>?_
       replace AH:=Aa g44 (Ak g42 g43 (AC g40 AH) (Ne.symm A8)) (Ne.symm CB)
       replace AL:=Aa g44 (Ak g42 g43 (AC g40 AL) (Ne.symm BJ)) (Ne.symm CT)
       replace AN:=Aa g44 h43 (Ne.symm Ay)
       replace hr:=(((hr.kn g40).kn g42).offR g43 (AQ Bo)).offR g44 (AQ EC)
       replace ho:=(((ho.kn g40).kn g42).offR g43 (AQ DI)).offR g44 (AQ FR)
       replace hw:=(((hw.kn g40).kn g42).offR g43 (AQ DJ)).offR g44 (AQ FS)
       replace hb:=(((hb.kn g40).kn g42).offR g43 (AQ Cz)).offR g44 (AQ Ee)
       replace HG:=AD (AD (AA (AA HG g40) g42) g43 B7) g44 EJ
       replace Al:=h44
       refine AE ?_
       refine k41 _ _ ?_
       refine AH7 ?_
       repeat refine AM ?_
       refine BI (fn:=Tryz.f22) Hk (Bc (p:=4) (q:=5) Tryz.results22 Hk rfl rfl rfl rfl (DY V.nul) (Ep 101) AN Al) (Bh Tryz.func60 (by kernel_rfl) rfl _ _) (C9 _ _ _) ?_
       exact⟨O0 (hopen),HG⟩
   · have hne:S.own≠[]:=fun h=>by rw[s2] at h;have h2:od.length=0:=(List.length_map _).symm.trans (congrArg List.length h);omega
     refine AH3 ?_
     refine AK CW 4 [(18,pk Bw 1),(19,.slice ao od.length ac),(20,.int .i64 ((od.length:Nat))),(21,.bool false)]
       ⟨yf r6 (fun _=>by kernel_rfl),yp (i:=1) r6 (J9 (.slice ao od.length ac) rfl) AL rfl rfl,Be (Tryz.underlying28) rfl rfl trivial (oy rfl rfl) (fun _=>rfl),Cm r6 (fun _=>B3 (KV (by omega))),AIA⟩ fun a45 w45 g45 EQ=>?_
     refine AE ?_
     refine k28 _ _ ?_
     refine Ax EQ rfl rfl ?_
     refine AH8 ?_
     refine k27 _ _ ?_
     refine AH4 fun K46 k46=>?_
     replace AH:=AC g45 AH
     replace AL:=AC g45 AL
     replace AN:=AC g45 AN
     replace Al:=AC g45 Al
     replace hr:=hr.kn g45
     replace ho:=ho.kn g45
     replace hw:=hw.kn g45
     replace hb:=hb.kn g45
     replace HG:=AA HG g45
     rcases(show IH P S=none∨∃c,IH P S=some c by cases IH P S<;>simp) with hrec|⟨c,hrec⟩
     · refine AH3 ?_
       refine AK EQ 2 [(37,An sa po (.slice vo ks.length vc_)),(38,Br ad (.slice ao od.length ac) joint (.slice wo wd.length wc) (.slice bo body.length bc) tg)]
         ⟨yl r6 (Bm hsa hpo (.slice vo ks.length vc_) rfl) AH,yl r6 (Dn _ _ htg (.slice ao od.length ac) (.slice wo wd.length wc) (.slice bo body.length bc) rfl rfl rfl) AL,AIA⟩ fun a47 w47 g47 LS=>?_
       replace hr:=hr.kn g47
       replace ho:=ho.kn g47
       replace hw:=hw.kn g47
       replace hb:=hb.kn g47
       refine BR LS Tryz.func62 (by kernel_rfl) r6 (Xg hsa hpo htg hr ho hw hb hP hS hh hrec) fun a48 v48 w48 hR48 ADV=>?_
       obtain⟨cz,rfl,hcd,_,g48⟩:=hR48
       refine AK ADV 3 [(36,.tuple #[AP cz,.bool false]),(40,AP cz),(41,.bool false)]
         ⟨ym r5,BL rq4 (fun _ _ h=>⟨_,_,h,rfl,rfl⟩),BL rq4 (fun _ _ h=>⟨_,_,h,rfl,rfl⟩),AIA⟩ fun a49 w49 g49 J8=>?_
       replace AH:=AC g49 (AC g48 (AC g47 AH))
       replace AL:=AC g49 (AC g48 (AC g47 AL))
       replace AN:=AC g49 (AC g48 (AC g47 AN))
       replace Al:=AC g49 (AC g48 (AC g47 Al))
       replace hr:=(hr.kn g48).kn g49
       replace ho:=(ho.kn g48).kn g49
       replace hw:=(hw.kn g48).kn g49
       replace hb:=(hb.kn g48).kn g49
       replace HG:=AA (AA (AA HG g47) g48) g49
       refine Ap (T:=23) (Z:=(bv AS)) J8 rfl rfl rfl (fun a w=>by kernel_rfl) fun a50 w50 AHl FD g50 z50 AFQ Rd=>?_
       have QG:=As AH FD
       have QH:=As AL FD
       have QI:=As AN FD
       have QJ:=As Al FD
       have ABU:=Bp HG FD
       have Uj:=Av (hr.lt) FD
       have Uk:=Av (ho.lt) FD
       have Ul:=Av (hw.lt) FD
       have Um:=Av (hb.lt) FD
       refine Am Rd r7 (Bj cz hcd.1) AFQ (Fu hcd) fun w51 g51 h51=>?_
       refine AZ (v:=.bool false) Rd r6 fun a52 Rc=>?_
       have Yr:Sv _ _ [_,_,_,_,_,_,_,_,_,_,_,_,_,_,_,_,_,_,_,_,_] _:=Rc.dl [36,40,41,39,37,38]
       refine AE ?_
       refine k46 _ _ ?_
       refine AH4 fun K54 k54=>?_
       refine AH4 fun K55 k55=>?_
       refine AH3 ?_
       refine AK Yr 2 [(42,.bool false),(43,.bool true)]
         ⟨ym r5,C3 r6 (fun _=>Bf),AIA⟩ fun a56 w56 g56 Pl=>?_
       refine AE ?_
       refine k55 _ _ ?_
       refine Aq Pl rfl rfl ?_
       refine AH4 fun K57 k57=>?_
       refine AH3 ?_
       replace AN:=AC g56 (Aa g51 (AC g50 AN) (Ne.symm QI))
       refine AK Pl 1 [(44,Bi V.nul)]
         ⟨BM (vs:=[]) rfl rfl trivial trivial (fun _=>M1 _) (fun _=>rfl),AIA⟩ fun a58 w58 g58 WA=>?_
       refine Am WA r7 (DY V.nul) (AC g58 AN) rfl fun w59 g59 h59=>?_
       replace Al:=Ak g58 g59 (AC g56 (Aa g51 (AC g50 Al) (Ne.symm QJ))) Ay
       refine Am WA r7 (Ep 10) Al rfl fun w60 g60 h60=>?_
       replace AH:=Aa g60 (Ak g58 g59 (AC g56 (Aa g51 (AC g50 AH) (Ne.symm QG))) (Ne.symm A8)) (Ne.symm CB)
       replace AL:=Aa g60 (Ak g58 g59 (AC g56 (Aa g51 (AC g50 AL) (Ne.symm QH))) (Ne.symm BJ)) (Ne.symm CT)
       replace AN:=Aa g60 h59 (Ne.symm Ay)
       replace hr:=(((((hr.kn g50).offR g51 (AQ Uj)).kn g56).kn g58).offR g59 (AQ Bo)).offR g60 (AQ EC)
       replace ho:=(((((ho.kn g50).offR g51 (AQ Uk)).kn g56).kn g58).offR g59 (AQ DI)).offR g60 (AQ FR)
       replace hw:=(((((hw.kn g50).offR g51 (AQ Ul)).kn g56).kn g58).offR g59 (AQ DJ)).offR g60 (AQ FS)
       replace hb:=(((((hb.kn g50).offR g51 (AQ Um)).kn g56).kn g58).offR g59 (AQ Cz)).offR g60 (AQ Ee)
       replace HG:=AD (AD (AA (AA (AD (AA HG g50) g51 ABU) g56) g58) g59 B7) g60 EJ
       replace Al:=h60
       refine AE ?_
       refine k57 _ _ ?_
       refine AH7 ?_
       repeat refine AM ?_
       refine BI (fn:=Tryz.f22) WA (Bc (p:=4) (q:=5) Tryz.results22 WA rfl rfl rfl rfl (DY V.nul) (Ep 10) AN Al) (Bh Tryz.func60 (by kernel_rfl) rfl _ _) (C9 _ _ _) ?_
       exact⟨O0 (WV hh hv hne hrec),HG⟩
     · have hopen:=Mj hh hv hne hrec
       rw[s1,s3,s4] at hopen
       refine AH3 ?_
       refine AK EQ 2 [(37,An sa po (.slice vo ks.length vc_)),(38,Br ad (.slice ao od.length ac) joint (.slice wo wd.length wc) (.slice bo body.length bc) tg)]
         ⟨yl r6 (Bm hsa hpo (.slice vo ks.length vc_) rfl) AH,yl r6 (Dn _ _ htg (.slice ao od.length ac) (.slice wo wd.length wc) (.slice bo body.length bc) rfl rfl rfl) AL,AIA⟩ fun a61 w61 g61 OO=>?_
       replace hr:=hr.kn g61
       replace ho:=ho.kn g61
       replace hw:=hw.kn g61
       replace hb:=hb.kn g61
       refine BR OO Tryz.func62 (by kernel_rfl) r6 (Xg hsa hpo htg hr ho hw hb hP hS hh hrec) fun a62 v62 w62 hR62 AHQ=>?_
       obtain⟨cz,rfl,hcd,hcc,g62⟩:=hR62
       obtain rfl:=hcc c rfl
       refine AK AHQ 3 [(36,.tuple #[AP c,.bool true]),(40,AP c),(41,.bool true)]
         ⟨ym r5,BL rq4 (fun _ _ h=>⟨_,_,h,rfl,rfl⟩),BL rq4 (fun _ _ h=>⟨_,_,h,rfl,rfl⟩),AIA⟩ fun a63 w63 g63 ZI=>?_
       replace AL:=AC g63 (AC g62 (AC g61 AL))
       replace AN:=AC g63 (AC g62 (AC g61 AN))
       replace Al:=AC g63 (AC g62 (AC g61 Al))
       replace hb:=(hb.kn g62).kn g63
       replace HG:=AA (AA (AA HG g61) g62) g63
       refine Ap (T:=23) (Z:=(bv AS)) ZI rfl rfl rfl (fun a w=>by kernel_rfl) fun a64 w64 AHm Jd g64 z64 Kq ABP=>?_
       have QK:=As AL Jd
       have KM:=As AN Jd
       have KN:=As Al Jd
       have ABV:=Bp HG Jd
       have Un:=Av (hb.lt) Jd
       refine Am ABP r7 (Bj c hcd.1) Kq (Fu hcd) fun w65 g65 h65=>?_
       refine AZ (v:=.bool true) ABP r6 fun a66 AFM=>?_
       have ADW:Sv _ _ [_,_,_,_,_,_,_,_,_,_,_,_,_,_,_,_,_,_,_,_,_] _:=AFM.dl [36,40,41,39,37,38]
       refine AE ?_
       refine k46 _ _ ?_
       refine AH4 fun K68 k68=>?_
       refine AH4 fun K69 k69=>?_
       refine AH3 ?_
       refine AK ADW 2 [(42,.bool true),(43,.bool false)]
         ⟨ym r5,C3 r6 (fun _=>Bf),AIA⟩ fun a70 w70 g70 WT=>?_
       refine AE ?_
       refine k69 _ _ ?_
       refine Ax WT rfl rfl ?_
       refine AH8 ?_
       refine k68 _ _ ?_
       refine AH4 fun K71 k71=>?_
       refine AH4 fun K72 k72=>?_
       replace AL:=AC g70 (Aa g65 (AC g64 AL) (Ne.symm QK))
       replace AN:=AC g70 (Aa g65 (AC g64 AN) (Ne.symm KM))
       replace Al:=AC g70 (Aa g65 (AC g64 Al) (Ne.symm KN))
       replace Kq:=AC g70 h65
       replace hb:=((hb.kn g64).offR g65 (AQ Un)).kn g70
       replace HG:=AA (AD (AA HG g64) g65 ABV) g70
       by_cases htt:So c ad body=tg
       · rw[if_pos htt] at hopen
         obtain⟨dq,hdq⟩:∃q,Iv (IB body c)=q:=⟨_,rfl⟩
         rw[hdq] at hopen
         refine Cn WT [(45,pk Bw 5),(46,AP tg),(47,AP c),(48,pt Bw),(49,.int .i64 ad),(50,pk Bw 4),(51,.slice bo body.length bc),(52,AP ((So c ad body))),(53,.bool false)]
          ⟨yf r6 (fun _=>by kernel_rfl),yp (i:=5) r6 (Bj tg htg.1) AL rfl rfl,yl r6 (Bj c hcd.1) Kq,yf r6 (fun _=>by kernel_rfl),yp (i:=0) r6 (FY ad) AL rfl rfl,yf r6 (fun _=>by kernel_rfl),yp (i:=4) r6 (Fx (.slice bo body.length bc) rfl) AL rfl rfl,Ah [AP c,.int .i64 ad,.slice bo body.length bc] Tryz.func58 (by kernel_rfl) rq4 ⟨(oy rfl rfl),(oy rfl rfl),(oy rfl rfl),AIA⟩ (Ao fun W g=>FZ c hcd ad hia body bby (by omega) _ _ _ (hb.kn g)),Gs r7 (fun _=>(Jo htg (Db c ad body) _ _ _).2.trans (by rw[decide_eq_true (htt.symm)];rfl)),AIA⟩ fun a73 w73 g73 ABC=>?_
         refine k72 _ _ ?_
         refine Ax ABC rfl rfl ?_
         refine AH8 ?_
         refine k71 _ _ ?_
         refine AH4 fun K74 k74=>?_
         refine AH3 ?_
         refine AK ABC 3 [(55,pk Bw 4),(56,.slice bo body.length bc),(57,AP c)]
          ⟨yf r6 (fun _=>by kernel_rfl),yp (i:=4) r6 (Fx (.slice bo body.length bc) rfl) (AC g73 AL) rfl rfl,yl r6 (Bj c hcd.1) (AC g73 Kq),AIA⟩ fun a75 w75 g75 AFG=>?_
         have ZS:=AA g73 g75
         replace AN:=AC ZS AN
         replace Al:=AC ZS Al
         replace hb:=hb.kn ZS
         refine BR AFG Tryz.func57 (by kernel_rfl) r6 (Qo (Iq body bby (by omega) _ _ c hcd _ hb)) fun a76 v76 w76 hR76 ADN=>?_
         obtain⟨ao76,cap76,rfl,_⟩:=(Sl.of_own hR76.1).shape
         obtain⟨ow76,fr76⟩:=hR76
         replace fr76:=Dj fr76
         have oy_:=ow76
         clear ow76
         have g76:=fr76.1
         replace fr76:=fr76.2
         have Uo:=CY fr76 AN
         have Up:=CY fr76 Al
         refine BR ADN Tryz.func61 (by kernel_rfl) r6 (NH (AEK (Own.sb oy_) (OZ _ bby) (by rw[Ip];omega) hdq)) fun a77 v77 w77 hR77 AFN=>?_
         obtain⟨rfl,g77⟩:=hR77
         replace AN:=AC g77 (AC g76 AN)
         have AFO:Sv _ _ [_,_,_,_,_,_,_,_,_,_,_,_,_,_,_,_,_,_,_,_,_,_,_,_,_,_,_,_,_,_,_,_,_] _:=AFN.dl [58,55,56,57]
         refine AK AFO 2 [(60,Bi dq.1),(61,.int .i64 dq.2)]
          ⟨BL rq4 (fun _ _ h=>⟨_,_,h,rfl,rfl⟩),BL rq4 (fun _ _ h=>⟨_,_,h,rfl,rfl⟩),AIA⟩ fun a79 w79 g79 Pq=>?_
         refine Am Pq r7 (DY dq.1) (AC g79 AN) rfl fun w80 g80 h80=>?_
         replace Al:=Ak g79 g80 (AC g77 (AC g76 Al)) Ay
         refine Am Pq r7 (Ep dq.2) Al rfl fun w81 g81 h81=>?_
         replace AL:=Aa g81 (Ak g79 g80 (AC g77 (AC g76 (AC ZS AL))) (Ne.symm BJ)) (Ne.symm CT)
         replace AN:=Aa g81 h80 (Ne.symm Ay)
         replace Kq:=Aa g81 (Ak g79 g80 (AC g77 (AC g76 (AC ZS Kq))) KM) KN
         replace hb:=((((hb.kn g76).kn g77).kn g79).offR g80 (AQ Cz)).offR g81 (AQ Ee)
         replace oy_:=(((oy_.kn g77).kn g79).offR g80 (AQ Uo)).offR g81 (AQ Up)
         replace HG:=AD (AD (AA (AA (AA (AA HG ZS) g76) g77) g79) g80 B7) g81 EJ
         replace Al:=h81
         refine AE ?_
         refine k74 _ _ ?_
         refine AH7 ?_
         repeat refine AM ?_
         refine BI (fn:=Tryz.f22) Pq (Bc (p:=4) (q:=5) Tryz.results22 Pq rfl rfl rfl rfl (DY dq.1) (Ep dq.2) AN Al) (Bh Tryz.func60 (by kernel_rfl) rfl _ _) (C9 _ _ _) ?_
         exact⟨O0 (hopen),HG⟩
       · rw[if_neg htt] at hopen
         refine Cn WT [(45,pk Bw 5),(46,AP tg),(47,AP c),(48,pt Bw),(49,.int .i64 ad),(50,pk Bw 4),(51,.slice bo body.length bc),(52,AP ((So c ad body))),(53,.bool true)]
          ⟨yf r6 (fun _=>by kernel_rfl),yp (i:=5) r6 (Bj tg htg.1) AL rfl rfl,yl r6 (Bj c hcd.1) Kq,yf r6 (fun _=>by kernel_rfl),yp (i:=0) r6 (FY ad) AL rfl rfl,yf r6 (fun _=>by kernel_rfl),yp (i:=4) r6 (Fx (.slice bo body.length bc) rfl) AL rfl rfl,Ah [AP c,.int .i64 ad,.slice bo body.length bc] Tryz.func58 (by kernel_rfl) rq4 ⟨(oy rfl rfl),(oy rfl rfl),(oy rfl rfl),AIA⟩ (Ao fun W g=>FZ c hcd ad hia body bby (by omega) _ _ _ (hb.kn g)),Gs r7 (fun _=>(Jo htg (Db c ad body) _ _ _).2.trans (by rw[decide_eq_false ((fun h=>htt h.symm))];rfl)),AIA⟩ fun a82 w82 g82 ZL=>?_
         refine k72 _ _ ?_
         refine Aq ZL rfl rfl ?_
         refine AH4 fun K83 k83=>?_
         refine AH3 ?_
         replace AN:=AC g82 AN
         refine AK ZL 1 [(54,Bi V.nul)]
          ⟨BM (vs:=[]) rfl rfl trivial trivial (fun _=>M1 _) (fun _=>rfl),AIA⟩ fun a84 w84 g84 ZM=>?_
         refine Am ZM r7 (DY V.nul) (AC g84 AN) rfl fun w85 g85 h85=>?_
         replace Al:=Ak g84 g85 (AC g82 Al) Ay
         refine Am ZM r7 (Ep 101) Al rfl fun w86 g86 h86=>?_
         replace AN:=Aa g86 h85 (Ne.symm Ay)
         replace HG:=AD (AD (AA (AA HG g82) g84) g85 B7) g86 EJ
         replace Al:=h86
         refine AE ?_
         refine k83 _ _ ?_
         refine AH7 ?_
         repeat refine AM ?_
         refine BI (fn:=Tryz.f22) ZM (Bc (p:=4) (q:=5) Tryz.results22 ZM rfl rfl rfl rfl (DY V.nul) (Ep 101) AN Al) (Bh Tryz.func60 (by kernel_rfl) rfl _ _) (C9 _ _ _) ?_
         exact⟨O0 (hopen),HG⟩
theorem ABW {w:World} {ks:List VK} {vo:Option Addr} {vc_:Nat} {sa po:List Nat} {ad joint:Int} {od wd:List DD} {ao wo bo:Option Addr} {ac wc bc:Nat} {body tg:List Nat} {q:V×Int} (hsa:Dg sa) (hpo:Dg po) (htg:Dg tg) (bby:By body) (hr:RdK w (.slice vo ks.length vc_) ks) (ho:RdD w (.slice ao od.length ac) od) (hw:RdD w (.slice wo wd.length wc) wd) (hb:SlB w 1 (.slice bo body.length bc) body.length (bv body)) (hq:EX (ks.map VK.p) ⟨ad,od.map DD.x,joint,wd.map DD.x,body,tg⟩=q) :
  Calls Tryz.prog 22 #[An sa po (.slice vo ks.length vc_),Br ad (.slice ao od.length ac) joint (.slice wo wd.length wc) (.slice bo body.length bc) tg] w fun e w'=>e=.returned (.tuple #[Bi q.1,.int .i64 q.2])∧w.grownBy w' none:=by
 subst hq
 exact ZR ks vo vc_ sa po hsa hpo ad joint od wd ao wo bo ac wc bc body tg htg bby w hr ho hw hb
theorem QL (ks:List VK) (vo:Option Addr) (vc_:Nat) (sa po:List Nat) (hsa:Dg sa) (hpo:Dg po) (ad joint:Int) (od wd:List DD) (ao wo bo:Option Addr) (ac wc bc:Nat) (body tg:List Nat) (htg:Dg tg) (bby:By body) (w:World) (hr:RdK w (.slice vo ks.length vc_) ks) (ho:RdD w (.slice ao od.length ac) od) (hw:RdD w (.slice wo wd.length wc) wd) (hb:SlB w 1 (.slice bo body.length bc) body.length (bv body)) :
   Calls Tryz.prog 26 #[An sa po (.slice vo ks.length vc_),Br ad (.slice ao od.length ac) joint (.slice wo wd.length wc) (.slice bo body.length bc) tg] w fun e w'=>e=.returned (.bool (decide ((EX (ks.map VK.p) ⟨ad,od.map DD.x,joint,wd.map DD.x,body,tg⟩).2=0)))∧w.grownBy w' none:=by
 obtain⟨q,hq⟩:∃q,EX (ks.map VK.p) ⟨ad,od.map DD.x,joint,wd.map DD.x,body,tg⟩=q:=⟨_,rfl⟩
 rw[hq]
 refine DP Tryz.func26 rfl Tryz.ntmps26 rfl fun a0 sv0=>?_
 have HG:=World.grownBy.refl w none
 replace sv0:Sv 15 [] [(0,An sa po (.slice vo ks.length vc_)),(1,Br ad (.slice ao od.length ac) joint (.slice wo wd.length wc) (.slice bo body.length bc) tg)] a0:=sv0
 refine AH4 fun K1 k1=>?_
 refine AH3 ?_
 refine BQ sv0 r6 (Bm hsa hpo (.slice vo ks.length vc_) rfl) fun a2 w2 CJ Cs g2 z2 AH sv2=>?_
 refine BQ sv2 r6 (Dn _ _ htg (.slice ao od.length ac) (.slice wo wd.length wc) (.slice bo body.length bc) rfl rfl rfl) fun a3 w3 Bw EH g3 z3 AL sv3=>?_
 replace AH:=AC g3 AH
 refine AZ (v:=.bool false) sv3 r6 fun a4 sv4=>?_
 refine AE ?_
 refine k1 _ _ ?_
 refine AH4 fun K5 k5=>?_
 refine AH3 ?_
 refine D9 sv4 rfl (dd:={ target:=.fn (.func 68) #[],args:=#[] }) rfl (by simp[execOp,resolve,Deferred.ofValue];try rfl) fun a6 sv6=>?_
 refine AE ?_
 refine k5 _ _ ?_
 refine AH4 fun K7 k7=>?_
 refine AH3 ?_
 refine AK sv6 2 [(8,An sa po (.slice vo ks.length vc_)),(9,Br ad (.slice ao od.length ac) joint (.slice wo wd.length wc) (.slice bo body.length bc) tg)]
   ⟨yl r6 (Bm hsa hpo (.slice vo ks.length vc_) rfl) AH,yl r6 (Dn _ _ htg (.slice ao od.length ac) (.slice wo wd.length wc) (.slice bo body.length bc) rfl rfl rfl) AL,AIA⟩ fun a8 w8 g8 sv8=>?_
 replace hr:=((hr.kn g2).kn g3).kn g8
 replace ho:=((ho.kn g2).kn g3).kn g8
 replace hw:=((hw.kn g2).kn g3).kn g8
 replace hb:=((hb.kn g2).kn g3).kn g8
 refine BR sv8 Tryz.func22 (by kernel_rfl) r6 (NH (ABW hsa hpo htg bby hr ho hw hb hq)) fun a9 v9 w9 hR9 sv9=>?_
 obtain⟨rfl,g9⟩:=hR9
 have CG:Sv _ _ [_,_,_,_] _:=sv9.dl [8,9,3,2]
 refine AK CG 3 [(7,.tuple #[Bi q.1,.int .i64 q.2]),(11,Bi q.1),(12,.int .i64 q.2)]
   ⟨ym r5,BL rq4 (fun _ _ h=>⟨_,_,h,rfl,rfl⟩),BL rq4 (fun _ _ h=>⟨_,_,h,rfl,rfl⟩),AIA⟩ fun a11 w11 g11 CC=>?_
 replace HG:=AA (AA (AA (AA (AA HG g2) g3) g8) g9) g11
 refine Ap (T:=25) (Z:=[.int .i64 0,.int .i64 0,.string ⟨#[]⟩]) CC rfl rfl rfl (fun a w=>by kernel_rfl) fun a12 w12 AHn ABX g12 z12 AFR Cr=>?_
 have ABY:=Bp HG ABX
 refine Am Cr r7 (DY q.1) AFR rfl fun w13 g13 h13=>?_
 replace HG:=AD (AA HG g12) g13 ABY
 refine AZ (v:=.int .i64 q.2) Cr r6 fun a14 Cy=>?_
 have Ko:Sv _ _ [_,_,_,_] _:=Cy.dl [5,7,11,12,10]
 refine AE ?_
 refine k7 _ _ ?_
 refine AH4 fun K16 k16=>?_
 by_cases h0:q.2=0
 · refine AH3 ?_
   refine AK Ko 2 [(13,.int .i64 q.2),(14,.bool true)]
    ⟨ym r5,Cm r6 (fun _=>B3 (by simpa using h0)),AIA⟩ fun a17 w17 g17 E2=>?_
   refine AZ (v:=.bool true) E2 r6 fun a18 CF=>?_
   refine AE ?_
   refine k16 _ _ ?_
   replace HG:=AA HG g17
   refine AH7 ?_
   repeat refine AM ?_
   refine BI (fn:=Tryz.f26) CF (A2 (p:=4) Tryz.results26 CF rfl rfl) (Bh Tryz.func68 (by kernel_rfl) rfl _ _) (Ls _) ?_
   exact⟨Fj ((decide_eq_true h0).symm),HG⟩
 · refine AH3 ?_
   refine AK Ko 2 [(13,.int .i64 q.2),(14,.bool false)]
    ⟨ym r5,Cm r6 (fun _=>B3 (by simpa using h0)),AIA⟩ fun a19 w19 g19 Dv=>?_
   refine AZ (v:=.bool false) Dv r6 fun a20 Dl=>?_
   refine AE ?_
   refine k16 _ _ ?_
   replace HG:=AA HG g19
   refine AH7 ?_
   repeat refine AM ?_
   refine BI (fn:=Tryz.f26) Dl (A2 (p:=4) Tryz.results26 Dl rfl rfl) (Bh Tryz.func68 (by kernel_rfl) rfl _ _) (Ls _) ?_
   exact⟨Fj ((decide_eq_false h0).symm),HG⟩
end Go.Proofs.YtbfjfnbcmojpiaaGreat
namespace Go.Proofs.YtbfjfnbcmojpiaaGreat
open Go.RowKit
theorem AEf {P:List VP} {i:Nat} (h:i<P.length):od P i∈P.map (·.1):=by rw[Qe h];exact List.mem_map.2 ⟨_,List.getElem_mem h,rfl⟩
theorem ACP {P:List VP} (hs:Srt P) {o:List Nat}:Ix P o=true↔o∈P.map (·.1):=by
 constructor
 · intro h
   obtain⟨h1,h2⟩:=VZ h
   rw[←h2]
   exact AEf h1
 · intro h
   obtain⟨x,hx,rfl⟩:=List.mem_map.1 h
   obtain⟨i,hi,rfl⟩:=List.getElem_of_mem hx
   exact(LH hs hi (Qe hi)).2
theorem ACQ {P:List VP} (hs:Srt P) {o:List Nat} (h:o ∉ P.map (·.1)):Ix P o=false:=by
 cases e:Ix P o with
 | false=>rfl
 | true=>exact absurd ((ACP hs).1 e) h
theorem W9 {P:List VP} {o:List Nat} {t:List Nd} {x:VP}:x∈KU P o t↔x=(o,t)∨x∈P:=by
 unfold KU
 rw[List.mem_append,List.mem_cons]
 constructor
 · rintro (h|h|h)
   · exact .inr (List.mem_of_mem_take h)
   · exact .inl h
   · exact .inr (List.mem_of_mem_drop h)
 · rintro (h|h)
   · exact .inr (.inl h)
   · rw[←List.take_append_drop (pos P o) P] at h
     exact(List.mem_append.1 h).imp id .inr
theorem ACR (P:List VP) (o:List Nat) (t:List Nd):(KU P o t).length=P.length+1:=by rw[LJ];exact MI (N0 P o) _
theorem XA {P:List VP} (hs:Srt P) {o:List Nat} {t:List Nd} (h:(o,t)∈P):Ix P o=true∧tr P (pos P o)=t:=by
 obtain⟨i,hi,he⟩:=List.getElem_of_mem h
 have h1:od P i=o:=by rw[Qe hi,he]
 obtain⟨h2,h3⟩:=LH hs hi h1
 refine⟨h3,?_⟩
 rw[h2,ADw hi,he]
theorem XB {x:Int} (h1:0≤x) (h2:x<256):IntKind.u8.wrap x=x:=by simp[IntKind.wrap,IntKind.bits,IntKind.signed];omega
theorem IR (k:List Nat):Fy (tree k [])=true:=TW k [] (by simp)
theorem TZ {P:List VP} {sa po o nx:List Nat} {T:List Nd} (hv:CR P=true) (hf:Ix P o=false) (hl:P.length<64):J4 (P,sa,po) o T nx=((KU P o T,sa,nx),0):=by
 unfold J4
 rw[if_pos hv,if_neg (by rw[hf];simp),if_neg (by simpa using hl)]
theorem Va {P:Program} {a b c:Int} {t:TypeId} {x y:Operand} {w:World} (h:bits .and .i64 a b=c):(do eqGuard .and t x y (.int .i64 a) (.int .i64 b);binOp .and t (.int .i64 a) (.int .i64 b):Sem Value).run P w=.ok (.int .i64 c) w:=by
 subst h
 simp[eqGuard,binOp_and]
 rfl
end Go.Proofs.YtbfjfnbcmojpiaaGreat
namespace Go.Proofs.YtbfjfnbcmojpiaaGreat
open Go.RowKit Go.Shelf
theorem AHB (a b:Nat) (w:World):(Instr.build 23 #[(0,.int .u8 (a:Int)),(31,.int .u8 (b:Int))]).run Tryz.prog w=.ok (AP (a::(zs 30++[b]))) w:=by kernel_rfl
section
variable {T:Nat→List Nd} {P:List VP} {i:Nat}
end
theorem XK {P:List VP} {o:List Nat} {a:Int} {l:List Nd} {q:List Nat×Int} (ha:CQ a=true) (hv:CR P=true) (h:Ix P o=true∧tr P (pos P o)=l) (hq:Co l a=q):Cl P o a=q:=(Qm ha hv h.1 rfl h.2).trans hq
end Go.Proofs.YtbfjfnbcmojpiaaGreat
