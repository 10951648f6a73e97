import Derived.Test.YtbfjfnbcmojpiaaGreatSeYA
import Derived.Test.YtbfjfnbcmojpiaaGreatSeY1
set_option linter.unusedSimpArgs false
set_option linter.unusedVariables false
set_option maxRecDepth 100000
set_option maxHeartbeats 4000000
namespace Go.Proofs.YtbfjfnbcmojpiaaGreat
open Go.RowKit Go.Shelf
theorem Ot (w:World):(Instr.build 25 #[]).run Tryz.prog w=.ok (Bp V.nul) w:=by kernel_rfl
theorem RM {x:V} {c:Int} {y:V×Int} (h:y=(x,c)):Ending.returned (.tuple #[Bp x,.int .i64 c])=Ending.returned (.tuple #[Bp y.1,.int .i64 y.2]):=by rw[h]
theorem AHN {w:World} {b:List Nat} {v:Value} (hv:SlB w 1 v b.length (bv b)) (hb:By b) (hl:b.length≤100000):Calls Tryz.prog 107 #[v] w fun e w'=>∃u,e=.returned u∧(∃(x:V) (ao:Option Addr) (n cap:Nat) (er:Int),u=.tuple #[Bp x,.slice ao n cap,.int .i64 er]∧w.grownBy w' none ∧
   ((er=0∧∃r,r.length=n∧pV b=.ok (x,r))∨(er≠0∧∃k,pV b=.error k))):=by
 refine(Rv v b w hv.1 (by omega) hb hv.2).mono ?_
 intro e w' h
 unfold ReadPost at h
 obtain⟨hg,h⟩:=h
 cases hp:pV b with
 | ok y =>
   obtain⟨x,r⟩:=y
   rw[hp] at h
   obtain⟨u,rv,rfl,hrep,hs,hlo⟩:=h
   obtain rfl:u=Bp x:=hrep
   obtain⟨ao,cap,rfl,_⟩:=Sl.shape hs
   exact⟨_,rfl,x,ao,_,cap,0,rfl,hg,.inl ⟨rfl,r,rfl,rfl⟩⟩
 | error n =>
   rw[hp] at h
   obtain⟨rfl,hn⟩:=h
   exact⟨_,rfl,V.nul,none,0,0,n,rfl,hg,.inr ⟨by omega,n,rfl⟩⟩
theorem AHO {b:List Nat} {x:V} {n:Nat} {er:Int} (h:(er=0∧∃r,r.length=n∧pV b=.ok (x,r))∨(er≠0∧∃k,pV b=.error k)):(er≠0→KZ b=(V.nul,101))∧(er=0→n=0→KZ b=(x,0))∧(er=0→0<n→KZ b=(V.nul,101)):=by
 rcases h with ⟨h0,r,rfl,hp⟩|⟨h0,k,hp⟩
 · exact⟨fun h=>absurd h0 h,fun _ h=>ABp (by rw[hp,List.eq_nil_of_length_eq_zero h]),fun _ h=>ADM hp h⟩
 · exact⟨fun _=>AFN hp,fun h=>absurd h h0,fun h=>absurd h h0⟩
theorem ZB (b:List Nat) (hby:By b) (hl:b.length≤100000) (bo:Option Addr) (bc:Nat) (w:World) (hb:SlB w 1 (.slice bo b.length bc) b.length (bv b)) :
   Calls Tryz.prog 61 #[.slice bo b.length bc] w fun e w'=>e=.returned (.tuple #[Bp (KZ b).1,.int .i64 (KZ b).2])∧w.grownBy w' none:=by
 refine BF Tryz.func61 rfl Tryz.ntmps61 rfl fun a0 sv0=>?_
 have HG:=World.grownBy.refl w none
 replace sv0:Sv 22 [] [(0,.slice bo b.length bc)] a0:=sv0
 refine ALa fun K1 k1=>?_
 refine ALZ ?_
 refine Az (T:=25) (Z:=[.int .i64 0,.int .i64 0,.string ⟨#[]⟩]) sv0 rfl rfl rfl (fun a w=>by kernel_rfl) fun a2 w2 CO DP g2 z2 AK sv2=>?_
 have FP:=Bk HG DP
 refine AX (v:=.int .i64 0) sv2 r6 fun a3 sv3=>?_
 refine AE ?_
 refine k1 _ _ ?_
 refine ALa fun K4 k4=>?_
 refine ALZ ?_
 refine AH sv3 1 [(8,.slice bo b.length bc)]
   ⟨ym r5,ALg⟩ fun a5 w5 g5 sv5=>?_
 replace hb:=(hb.kn g2).kn g5
 refine BB sv5 Tryz.func107 (by kernel_rfl) r6 (AHN hb hby hl) fun a6 v6 w6 hR6 sv6=>?_
 obtain⟨x,ro,rn,rc,er,rfl,g6,hcs⟩:=hR6
 obtain⟨hf1,hf2,hf3⟩:=AHO hcs
 refine AH sv6 4 [(7,.tuple #[Bp x,.slice ro rn rc,.int .i64 er]),(10,Bp x),(11,.slice ro rn rc),(12,.int .i64 er)]
   ⟨ym r5,BX rq4 (fun _ _ h=>⟨_,_,h,rfl,rfl⟩),BX rq4 (fun _ _ h=>⟨_,_,h,rfl,rfl⟩),BX rq4 (fun _ _ h=>⟨_,_,h,rfl,rfl⟩),ALg⟩ fun a7 w7 g7 sv7=>?_
 replace AK:=AC g7 (AC g6 (AC g5 AK))
 replace HG:=AA (AA (AA (AA HG g2) g5) g6) g7
 refine Az (T:=25) (Z:=[.int .i64 0,.int .i64 0,.string ⟨#[]⟩]) sv7 rfl rfl rfl (fun a w=>by kernel_rfl) fun a8 w8 ALV ABq g8 z8 ZC sv8=>?_
 have Ni:=Ax AK ABq
 have AHP:=Bk HG ABq
 refine As sv8 r7 (ED x) ZC rfl fun w9 g9 h9=>?_
 replace AK:=Ac g9 (AC g8 AK) (Ne.symm Ni)
 replace HG:=AD (AA HG g8) g9 AHP
 replace ZC:=h9
 refine AX (v:=.slice ro rn rc) sv8 r6 fun a10 Bj=>?_
 refine AX (v:=.int .i64 er) Bj r6 fun a11 B7=>?_
 have Cx:Sv _ _ [_,_,_,_,_] _:=B7.dl [7,10,11,12,9,8,0]
 refine AE ?_
 refine k4 _ _ ?_
 refine ALa fun K13 k13=>?_
 refine ALa fun K14 k14=>?_
 rcases(show er≠0∨(er=0∧rn=0)∨(er=0∧0<rn) by omega) with h1|⟨h1,h2⟩|⟨h1,h2⟩
 · refine ALZ ?_
   refine AH Cx 7 [(13,.int .i64 er),(14,.bool true),(15,.bool true),(16,undef),(17,undef),(18,undef),(19,.bool true)]
    ⟨ym r5,Cm r6 (fun _=>FB (by simpa using h1)),ym r5,AS r6,AS r6,AS r6,BQ r7,ALg⟩ fun a15 w15 g15 Gh=>?_
   refine AE ?_
   refine k14 _ _ ?_
   refine Av Gh rfl rfl ?_
   refine ALa fun K16 k16=>?_
   refine ALZ ?_
   replace AK:=AC g15 AK
   refine AH Gh 1 [(20,Bp V.nul)]
    ⟨BR (vs:=[]) rfl rfl trivial trivial (fun _=>Ot _) (fun _=>rfl),ALg⟩ fun a17 w17 g17 Dq=>?_
   refine As Dq r7 (ED V.nul) (AC g17 AK) rfl fun w18 g18 h18=>?_
   replace ZC:=Af g17 g18 (AC g15 ZC) Ni
   replace HG:=AD (AA (AA HG g15) g17) g18 FP
   replace AK:=h18
   refine AX (v:=.int .i64 101) Dq r6 fun a19 Cs=>?_
   refine AE ?_
   refine k16 _ _ ?_
   refine ALd ?_
   repeat refine AJ ?_
   refine Ar (fn:=Tryz.f61) Cs (DY (p:=2) (q:=3) Tryz.results61 Cs rfl rfl rfl rfl (ED V.nul) AK) ?_
   exact⟨RM (hf1 h1),HG⟩
 · refine ALZ ?_
   refine AH Cx 7 [(13,.int .i64 er),(14,.bool false),(15,.bool false),(16,.slice ro rn rc),(17,.int .i64 ((rn:Nat))),(18,.bool false),(19,.bool false)]
    ⟨ym r5,Cm r6 (fun _=>FB (by simpa using h1)),ym r5,Aa rq8,BI (Tryz.underlying29) rfl rfl (gy rfl rfl rfl) (oy rfl rfl) (fun _=>rfl),Ap rq9 (fun _=>C4 (decide_eq_false (by omega))),Ag rq9,ALg⟩ fun a20 w20 g20 DR=>?_
   refine AE ?_
   refine k14 _ _ ?_
   refine A1 DR rfl rfl ?_
   refine ALe ?_
   refine k13 _ _ ?_
   refine ALa fun K21 k21=>?_
   refine ALZ ?_
   refine AH DR 1 [(21,Bp x)]
    ⟨yl r6 (ED x) (AC g20 ZC),ALg⟩ fun a22 w22 g22 Bl=>?_
   have O7:=AA g20 g22
   refine As Bl r7 (ED x) (AC O7 AK) rfl fun w23 g23 h23=>?_
   replace HG:=AD (AA HG O7) g23 FP
   replace AK:=h23
   refine AX (v:=.int .i64 0) Bl r6 fun a24 ER=>?_
   refine AE ?_
   refine k21 _ _ ?_
   refine ALd ?_
   repeat refine AJ ?_
   refine Ar (fn:=Tryz.f61) ER (DY (p:=2) (q:=3) Tryz.results61 ER rfl rfl rfl rfl (ED x) AK) ?_
   exact⟨RM (hf2 h1 h2),HG⟩
 · refine ALZ ?_
   refine AH Cx 7 [(13,.int .i64 er),(14,.bool false),(15,.bool false),(16,.slice ro rn rc),(17,.int .i64 ((rn:Nat))),(18,.bool true),(19,.bool true)]
    ⟨ym r5,Cm r6 (fun _=>FB (by simpa using h1)),ym r5,Aa rq8,BI (Tryz.underlying29) rfl rfl (gy rfl rfl rfl) (oy rfl rfl) (fun _=>rfl),Ap rq9 (fun _=>C4 (decide_eq_true (by omega))),Ag rq9,ALg⟩ fun a25 w25 g25 Co=>?_
   refine AE ?_
   refine k14 _ _ ?_
   refine Av Co rfl rfl ?_
   refine ALa fun K26 k26=>?_
   refine ALZ ?_
   replace AK:=AC g25 AK
   refine AH Co 1 [(20,Bp V.nul)]
    ⟨BR (vs:=[]) rfl rfl trivial trivial (fun _=>Ot _) (fun _=>rfl),ALg⟩ fun a27 w27 g27 GF=>?_
   refine As GF r7 (ED V.nul) (AC g27 AK) rfl fun w28 g28 h28=>?_
   replace HG:=AD (AA (AA HG g25) g27) g28 FP
   replace AK:=h28
   refine AX (v:=.int .i64 101) GF r6 fun a29 CU=>?_
   refine AE ?_
   refine k26 _ _ ?_
   refine ALd ?_
   repeat refine AJ ?_
   refine Ar (fn:=Tryz.f61) CU (DY (p:=2) (q:=3) Tryz.results61 CU rfl rfl rfl rfl (ED V.nul) AK) ?_
   exact⟨RM (hf3 h1 h2),HG⟩
theorem AH4 {w:World} {b:List Nat} {q:V×Int} {v:Value} (hv:SlB w 1 v b.length (bv b)) (hb:By b) (hl:b.length≤100000) (hq:KZ b=q):Calls Tryz.prog 61 #[v] w fun e w'=>e=.returned (.tuple #[Bp q.1,.int .i64 q.2])∧w.grownBy w' none:=by
 subst hq
 obtain⟨ao,cap,rfl,_⟩:=Sl.shape hv.1
 exact ZB b hb hl ao cap w hv
theorem OO {P:List VP} {s:Sd} (h:Gi s=false∨CZ P=false):I0 P s=(V.nul,1):=by
 unfold I0
 rcases h with h|h<;>simp[h]
theorem Ou {P:List VP} {s:Sd} (h1:Gi s=true) (h2:CZ P=true) (h3:s.own=[]):I0 P s=if Wf s.addr s.body=s.tag then KZ s.body else (V.nul,101):=by
 unfold I0
 simp[h1,h2,h3]
theorem AAq {P:List VP} {s:Sd} (h1:Gi s=true) (h2:CZ P=true) (h3:s.own≠[]) (h4:Kr P s=none):I0 P s=(V.nul,10):=by
 unfold I0
 simp[h1,h2,h3,h4]
theorem UD {P:List VP} {s:Sd} {c:List Nat} (h1:Gi s=true) (h2:CZ P=true) (h3:s.own≠[]) (h4:Kr P s=some c):I0 P s=if QZ c s.addr s.body=s.tag then KZ (Fv s.body c) else (V.nul,101):=by
 unfold I0
 simp[h1,h2,h3,h4]
theorem ABr {w:World} {ks:List VK} {vo:Option Addr} {vc:Nat} {sa po:List Nat} {P:List VP} {ad joint:Int} {od wd:List DD} {ao wo bo:Option Addr} {ac wc bc:Nat} {body tg:List Nat} {r:Option (List Nat)} {s:Sd} (hsa:Dg sa) (hpo:Dg po) (htg:Dg tg) (hr:RdK w (.slice vo ks.length vc) ks) (ho:RdD w (.slice ao od.length ac) od) (hw:RdD w (.slice wo wd.length wc) wd) (hb:SlB w 1 (.slice bo body.length bc) body.length (bv body)) (hP:ks.map VK.p=P) (hs:(⟨ad,od.map DD.x,joint,wd.map DD.x,body,tg⟩:Sd)=s) (hvs:Gi s=true) (hres:Kr P s=r) :
  Calls Tryz.prog 62 #[Aw sa po (.slice vo ks.length vc),Bm ad (.slice ao od.length ac) joint (.slice wo wd.length wc) (.slice bo body.length bc) tg] w fun e w'=>∃u,e=.returned u∧(∃c,u=.tuple #[AO c,.bool r.isSome]∧Dg c∧(∀c',r=some c'→c'=c)∧w.grownBy w' none):=by
 subst hs hP hres
 exact(AAl ks vo vc sa po hsa hpo ad joint od wd ao wo bo ac wc bc body tg htg w hr ho hw hb hvs).mono fun e w' ⟨c,h1,h2⟩=>⟨_,h1,c,rfl,h2⟩
theorem Pn {w:World} {ad joint:Int} {od wd:List DD} {ao wo bo:Option Addr} {ac wc bc:Nat} {body tg:List Nat} {b:Bool} {s:Sd} (htg:Dg tg) (ho:RdD w (.slice ao od.length ac) od) (hw:RdD w (.slice wo wd.length wc) wd) (hb:SlB w 1 (.slice bo body.length bc) body.length (bv body)) (hs:(⟨ad,od.map DD.x,joint,wd.map DD.x,body,tg⟩:Sd)=s) (hvs:Gi s=b) :
  Calls Tryz.prog 27 #[Bm ad (.slice ao od.length ac) joint (.slice wo wd.length wc) (.slice bo body.length bc) tg] w fun e w'=>e=.returned (.bool b)∧w.grownBy w' none:=by
 subst hs hvs
 exact AG9 ad joint od wd ao wo bo ac wc bc body tg htg w ho hw hb
theorem ADO (ks:List VK) (vo:Option Addr) (vc_:Nat) (sa po:List Nat) (hsa:Dg sa) (hpo:Dg po) (ad joint:Int) (od wd:List DD) (ao wo bo:Option Addr) (ac wc bc:Nat) (body tg:List Nat) (htg:Dg tg) (bby:By body) (w:World) (hr:RdK w (.slice vo ks.length vc_) ks) (ho:RdD w (.slice ao od.length ac) od) (hw:RdD w (.slice wo wd.length wc) wd) (hb:SlB w 1 (.slice bo body.length bc) body.length (bv body)) :
   Calls Tryz.prog 22 #[Aw sa po (.slice vo ks.length vc_),Bm ad (.slice ao od.length ac) joint (.slice wo wd.length wc) (.slice bo body.length bc) tg] w fun e w'=>e=.returned (.tuple #[Bp (I0 (ks.map VK.p) ⟨ad,od.map DD.x,joint,wd.map DD.x,body,tg⟩).1,.int .i64 (I0 (ks.map VK.p) ⟨ad,od.map DD.x,joint,wd.map DD.x,body,tg⟩).2])∧w.grownBy w' none:=by
 obtain⟨P,hP⟩:∃P,ks.map VK.p=P:=⟨_,rfl⟩
 obtain⟨S,hS⟩:∃S:Sd,⟨ad,od.map DD.x,joint,wd.map DD.x,body,tg⟩=S:=⟨_,rfl⟩
 have s1:S.addr=ad:=by rw[←hS]
 have s2:S.own=od.map DD.x:=by rw[←hS]
 have s3:S.body=body:=by rw[←hS]
 have s4:S.tag=tg:=by rw[←hS]
 rw[hP,hS]
 refine Eu Tryz.func22 rfl Tryz.ntmps22 rfl fun a0 sv0=>?_
 have HG:=World.grownBy.refl w none
 replace sv0:Sv 62 [] [(0,Aw sa po (.slice vo ks.length vc_)),(1,Bm ad (.slice ao od.length ac) joint (.slice wo wd.length wc) (.slice bo body.length bc) tg)] a0:=sv0
 refine ALa fun K1 k1=>?_
 refine ALZ ?_
 refine BZ sv0 r6 (Bq hsa hpo (.slice vo ks.length vc_) rfl) fun a2 w2 CO DP g2 z2 AK sv2=>?_
 refine BZ sv2 r6 (Cy _ _ htg (.slice ao od.length ac) (.slice wo wd.length wc) (.slice bo body.length bc) rfl rfl rfl) fun a3 w3 CG E2 g3 z3 AN sv3=>?_
 replace AK:=AC g3 AK
 replace hr:=(hr.kn g2).kn g3
 replace ho:=(ho.kn g2).kn g3
 replace hw:=(hw.kn g2).kn g3
 replace hb:=(hb.kn g2).kn g3
 replace HG:=AA (AA HG g2) g3
 refine Az (T:=25) (Z:=[.int .i64 0,.int .i64 0,.string ⟨#[]⟩]) sv3 rfl rfl rfl (fun a w=>by kernel_rfl) fun a4 w4 Fp CB g4 z4 AU sv4=>?_
 have BT:=Ax AK CB
 have Bf:=Ax AN CB
 have CL:=Bk HG CB
 have CI:=Ay (hr.lt) CB
 have EA:=Ay (ho.lt) CB
 have EB:=Ay (hw.lt) CB
 have Dn:=Ay (hb.lt) CB
 replace AK:=AC g4 AK
 replace AN:=AC g4 AN
 replace hr:=hr.kn g4
 replace ho:=ho.kn g4
 replace hw:=hw.kn g4
 replace hb:=hb.kn g4
 replace HG:=AA HG g4
 refine Az (T:=38) (Z:=[.int .i64 0]) sv4 rfl rfl rfl (fun a w=>by kernel_rfl) fun a5 w5 Xm E3 g5 z5 A9 sv5=>?_
 have Cj:=Ax AK E3
 have C6:=Ax AN E3
 have BO:=Ax AU E3
 have FQ:=Bk HG E3
 have FI:=Ay (hr.lt) E3
 have Hb:=Ay (ho.lt) E3
 have Hc:=Ay (hw.lt) E3
 have Ft:=Ay (hb.lt) E3
 replace AK:=AC g5 AK
 replace AN:=AC g5 AN
 replace AU:=AC g5 AU
 replace hr:=hr.kn g5
 replace ho:=ho.kn g5
 replace hw:=hw.kn g5
 replace hb:=hb.kn g5
 replace HG:=AA HG g5
 refine AE ?_
 refine k1 _ _ ?_
 refine ALa fun K6 k6=>?_
 refine ALZ ?_
 refine Ht sv5 rfl rfl rfl rfl rfl rfl fun a7 sv7=>?_
 refine Fe sv7 rfl (dd:={ target:=.fn (.func 60) #[pt Fp,pt Xm],args:=#[] }) rfl (by have e1:=sv7.ev (x:=.tmp 8) rfl rfl;simp[execOp,resolve,Deferred.ofValue,e1];try rfl) fun a8 sv8=>?_
 refine AE ?_
 refine k6 _ _ ?_
 refine ALa fun K9 k9=>?_
 refine ALa fun K10 k10=>?_
 rcases(show(Gi S=false∧CZ P=false)∨(Gi S=false∧CZ P=true)∨(Gi S=true∧CZ P=false)∨(Gi S=true∧CZ P=true) by cases Gi S<;>cases CZ P<;>simp) with ⟨hh,hv⟩|⟨hh,hv⟩|⟨hh,hv⟩|⟨hh,hv⟩
 · refine ALZ ?_
   refine AH sv8 8 [(9,Bm ad (.slice ao od.length ac) joint (.slice wo wd.length wc) (.slice bo body.length bc) tg),(10,.bool false),(11,.bool true),(12,.bool true),(13,undef),(14,undef),(15,undef),(16,.bool true)]
     ⟨yl r6 (Cy _ _ htg (.slice ao od.length ac) (.slice wo wd.length wc) (.slice bo body.length bc) rfl rfl rfl) AN,Ae [Bm ad (.slice ao od.length ac) joint (.slice wo wd.length wc) (.slice bo body.length bc) tg] Tryz.func27 (by kernel_rfl) rq4 ⟨(oy rfl rfl),ALg⟩ (Au fun W g=>Pn htg (ho.kn g) (hw.kn g) (hb.kn g) hS hh),Cr r6 (fun _=>Ba),ym r5,AS r6,AS r6,AS r6,BQ r7,ALg⟩ fun a11 w11 g11 B7=>?_
   refine AE ?_
   refine k10 _ _ ?_
   refine Av B7 rfl rfl ?_
   refine ALa fun K12 k12=>?_
   refine ALZ ?_
   replace AU:=AC g11 AU
   refine AH B7 1 [(17,Bp V.nul)]
     ⟨BR (vs:=[]) rfl rfl trivial trivial (fun _=>Ot _) (fun _=>rfl),ALg⟩ fun a13 w13 g13 Cl=>?_
   refine As Cl r7 (ED V.nul) (AC g13 AU) rfl fun w14 g14 h14=>?_
   replace A9:=Af g13 g14 (AC g11 A9) BO
   refine As Cl r7 (GI 1) A9 rfl fun w15 g15 h15=>?_
   replace AK:=Ac g15 (Af g13 g14 (AC g11 AK) (Ne.symm BT)) (Ne.symm Cj)
   replace AN:=Ac g15 (Af g13 g14 (AC g11 AN) (Ne.symm Bf)) (Ne.symm C6)
   replace AU:=Ac g15 h14 (Ne.symm BO)
   replace hr:=(((hr.kn g11).kn g13).offR g14 (AR CI)).offR g15 (AR FI)
   replace ho:=(((ho.kn g11).kn g13).offR g14 (AR EA)).offR g15 (AR Hb)
   replace hw:=(((hw.kn g11).kn g13).offR g14 (AR EB)).offR g15 (AR Hc)
   replace hb:=(((hb.kn g11).kn g13).offR g14 (AR Dn)).offR g15 (AR Ft)
   replace HG:=AD (AD (AA (AA HG g11) g13) g14 CL) g15 FQ
   replace A9:=h15
   refine AE ?_
   refine k12 _ _ ?_
   refine ALd ?_
   repeat refine AJ ?_
   refine Bi (fn:=Tryz.f22) Cl (B6 (p:=4) (q:=5) Tryz.results22 Cl rfl rfl rfl rfl (ED V.nul) (GI 1) AU A9) (CH Tryz.func60 (by kernel_rfl) rfl _ _) (Dw _ _ _) ?_
   exact⟨RM (OO (.inl hh)),HG⟩
 · refine ALZ ?_
   refine AH sv8 8 [(9,Bm ad (.slice ao od.length ac) joint (.slice wo wd.length wc) (.slice bo body.length bc) tg),(10,.bool false),(11,.bool true),(12,.bool true),(13,undef),(14,undef),(15,undef),(16,.bool true)]
     ⟨yl r6 (Cy _ _ htg (.slice ao od.length ac) (.slice wo wd.length wc) (.slice bo body.length bc) rfl rfl rfl) AN,Ae [Bm ad (.slice ao od.length ac) joint (.slice wo wd.length wc) (.slice bo body.length bc) tg] Tryz.func27 (by kernel_rfl) rq4 ⟨(oy rfl rfl),ALg⟩ (Au fun W g=>Pn htg (ho.kn g) (hw.kn g) (hb.kn g) hS hh),Cr r6 (fun _=>Ba),ym r5,AS r6,AS r6,AS r6,BQ r7,ALg⟩ fun a16 w16 g16 Ch=>?_
   refine AE ?_
   refine k10 _ _ ?_
   refine Av Ch rfl rfl ?_
   refine ALa fun K17 k17=>?_
   refine ALZ ?_
   replace AU:=AC g16 AU
   refine AH Ch 1 [(17,Bp V.nul)]
     ⟨BR (vs:=[]) rfl rfl trivial trivial (fun _=>Ot _) (fun _=>rfl),ALg⟩ fun a18 w18 g18 CD=>?_
   refine As CD r7 (ED V.nul) (AC g18 AU) rfl fun w19 g19 h19=>?_
   replace A9:=Af g18 g19 (AC g16 A9) BO
   refine As CD r7 (GI 1) A9 rfl fun w20 g20 h20=>?_
   replace AK:=Ac g20 (Af g18 g19 (AC g16 AK) (Ne.symm BT)) (Ne.symm Cj)
   replace AN:=Ac g20 (Af g18 g19 (AC g16 AN) (Ne.symm Bf)) (Ne.symm C6)
   replace AU:=Ac g20 h19 (Ne.symm BO)
   replace hr:=(((hr.kn g16).kn g18).offR g19 (AR CI)).offR g20 (AR FI)
   replace ho:=(((ho.kn g16).kn g18).offR g19 (AR EA)).offR g20 (AR Hb)
   replace hw:=(((hw.kn g16).kn g18).offR g19 (AR EB)).offR g20 (AR Hc)
   replace hb:=(((hb.kn g16).kn g18).offR g19 (AR Dn)).offR g20 (AR Ft)
   replace HG:=AD (AD (AA (AA HG g16) g18) g19 CL) g20 FQ
   replace A9:=h20
   refine AE ?_
   refine k17 _ _ ?_
   refine ALd ?_
   repeat refine AJ ?_
   refine Bi (fn:=Tryz.f22) CD (B6 (p:=4) (q:=5) Tryz.results22 CD rfl rfl rfl rfl (ED V.nul) (GI 1) AU A9) (CH Tryz.func60 (by kernel_rfl) rfl _ _) (Dw _ _ _) ?_
   exact⟨RM (OO (.inl hh)),HG⟩
 · refine ALZ ?_
   refine AH sv8 8 [(9,Bm ad (.slice ao od.length ac) joint (.slice wo wd.length wc) (.slice bo body.length bc) tg),(10,.bool true),(11,.bool false),(12,.bool false),(13,Aw sa po (.slice vo ks.length vc_)),(14,.bool false),(15,.bool true),(16,.bool true)]
     ⟨yl r6 (Cy _ _ htg (.slice ao od.length ac) (.slice wo wd.length wc) (.slice bo body.length bc) rfl rfl rfl) AN,Ae [Bm ad (.slice ao od.length ac) joint (.slice wo wd.length wc) (.slice bo body.length bc) tg] Tryz.func27 (by kernel_rfl) rq4 ⟨(oy rfl rfl),ALg⟩ (Au fun W g=>Pn htg (ho.kn g) (hw.kn g) (hb.kn g) hS hh),Cr r6 (fun _=>Ba),ym r5,A2 rq9 (fun _ g=>Ab (Bq hsa hpo (.slice vo ks.length vc_) rfl) (Am (AF g AK (by simp)))),Bn [Aw sa po (.slice vo ks.length vc_)] Tryz.func51 (by kernel_rfl) r7 ⟨(oy rfl rfl),ALg⟩ (Au fun W g=>NI hsa hpo (hr.kn g) hP hv),Ik rfl rfl (gy rfl rfl rfl) (oy rfl rfl) (fun _=>Ba) (fun _=>rfl),Ag rq9,ALg⟩ fun a21 w21 g21 Di=>?_
   refine AE ?_
   refine k10 _ _ ?_
   refine Av Di rfl rfl ?_
   refine ALa fun K22 k22=>?_
   refine ALZ ?_
   replace AU:=AC g21 AU
   refine AH Di 1 [(17,Bp V.nul)]
     ⟨BR (vs:=[]) rfl rfl trivial trivial (fun _=>Ot _) (fun _=>rfl),ALg⟩ fun a23 w23 g23 CS=>?_
   refine As CS r7 (ED V.nul) (AC g23 AU) rfl fun w24 g24 h24=>?_
   replace A9:=Af g23 g24 (AC g21 A9) BO
   refine As CS r7 (GI 1) A9 rfl fun w25 g25 h25=>?_
   replace AK:=Ac g25 (Af g23 g24 (AC g21 AK) (Ne.symm BT)) (Ne.symm Cj)
   replace AN:=Ac g25 (Af g23 g24 (AC g21 AN) (Ne.symm Bf)) (Ne.symm C6)
   replace AU:=Ac g25 h24 (Ne.symm BO)
   replace hr:=(((hr.kn g21).kn g23).offR g24 (AR CI)).offR g25 (AR FI)
   replace ho:=(((ho.kn g21).kn g23).offR g24 (AR EA)).offR g25 (AR Hb)
   replace hw:=(((hw.kn g21).kn g23).offR g24 (AR EB)).offR g25 (AR Hc)
   replace hb:=(((hb.kn g21).kn g23).offR g24 (AR Dn)).offR g25 (AR Ft)
   replace HG:=AD (AD (AA (AA HG g21) g23) g24 CL) g25 FQ
   replace A9:=h25
   refine AE ?_
   refine k22 _ _ ?_
   refine ALd ?_
   repeat refine AJ ?_
   refine Bi (fn:=Tryz.f22) CS (B6 (p:=4) (q:=5) Tryz.results22 CS rfl rfl rfl rfl (ED V.nul) (GI 1) AU A9) (CH Tryz.func60 (by kernel_rfl) rfl _ _) (Dw _ _ _) ?_
   exact⟨RM (OO (.inr hv)),HG⟩
 · have hb64:body.length≤64:=s3▸AI6 hh
   have hia:Mw ad:=by have:=(ABc (AFO hh)).1;rw[s1] at this;exact⟨by omega,by omega⟩
   refine ALZ ?_
   refine AH sv8 8 [(9,Bm ad (.slice ao od.length ac) joint (.slice wo wd.length wc) (.slice bo body.length bc) tg),(10,.bool true),(11,.bool false),(12,.bool false),(13,Aw sa po (.slice vo ks.length vc_)),(14,.bool true),(15,.bool false),(16,.bool false)]
     ⟨yl r6 (Cy _ _ htg (.slice ao od.length ac) (.slice wo wd.length wc) (.slice bo body.length bc) rfl rfl rfl) AN,Ae [Bm ad (.slice ao od.length ac) joint (.slice wo wd.length wc) (.slice bo body.length bc) tg] Tryz.func27 (by kernel_rfl) rq4 ⟨(oy rfl rfl),ALg⟩ (Au fun W g=>Pn htg (ho.kn g) (hw.kn g) (hb.kn g) hS hh),Cr r6 (fun _=>Ba),ym r5,A2 rq9 (fun _ g=>Ab (Bq hsa hpo (.slice vo ks.length vc_) rfl) (Am (AF g AK (by simp)))),Bn [Aw sa po (.slice vo ks.length vc_)] Tryz.func51 (by kernel_rfl) r7 ⟨(oy rfl rfl),ALg⟩ (Au fun W g=>NI hsa hpo (hr.kn g) hP hv),Ik rfl rfl (gy rfl rfl rfl) (oy rfl rfl) (fun _=>Ba) (fun _=>rfl),Ag rq9,ALg⟩ fun a26 w26 g26 Cp=>?_
   refine AE ?_
   refine k10 _ _ ?_
   refine A1 Cp rfl rfl ?_
   refine ALe ?_
   refine k9 _ _ ?_
   refine ALa fun K27 k27=>?_
   refine ALa fun K28 k28=>?_
   replace AK:=AC g26 AK
   replace AN:=AC g26 AN
   replace AU:=AC g26 AU
   replace A9:=AC g26 A9
   replace hr:=hr.kn g26
   replace ho:=ho.kn g26
   replace hw:=hw.kn g26
   replace hb:=hb.kn g26
   replace HG:=AA HG g26
   rcases Nat.eq_zero_or_pos od.length with hz|hz
   · have hnil:S.own=[]:=by rw[s2,List.eq_nil_of_length_eq_zero hz];rfl
     have hopen:=Ou hh hv hnil
     rw[s1,s3,s4] at hopen
     refine ALZ ?_
     refine AH Cp 4 [(18,pk CG 1),(19,.slice ao od.length ac),(20,.int .i64 ((od.length:Nat))),(21,.bool true)]
       ⟨yf r6 (fun _=>by kernel_rfl),yp (i:=1) r6 (Hz (.slice ao od.length ac) rfl) AN rfl rfl,BI (Tryz.underlying28) rfl rfl trivial (oy rfl rfl) (fun _=>rfl),Cm r6 (fun _=>Bd (Ny (by omega))),ALg⟩ fun a29 w29 g29 CU=>?_
     refine AE ?_
     refine k28 _ _ ?_
     refine Av CU rfl rfl ?_
     refine ALa fun K30 k30=>?_
     refine ALa fun K31 k31=>?_
     replace AK:=AC g29 AK
     replace AN:=AC g29 AN
     replace AU:=AC g29 AU
     replace A9:=AC g29 A9
     replace hr:=hr.kn g29
     replace ho:=ho.kn g29
     replace hw:=hw.kn g29
     replace hb:=hb.kn g29
     replace HG:=AA HG g29
     by_cases htt:Wf ad body=tg
     · rw[if_pos htt] at hopen
       obtain⟨dq,hdq⟩:∃q,KZ body=q:=⟨_,rfl⟩
       rw[hdq] at hopen
       refine DK CU [(22,pk CG 5),(23,AO tg),(24,pt CG),(25,.int .i64 ad),(26,pk CG 4),(27,.slice bo body.length bc),(28,AO ((Wf ad body))),(29,.bool false)]
         ⟨yf r6 (fun _=>by kernel_rfl),yp (i:=5) r6 (BV tg htg.1) AN rfl rfl,yf r6 (fun _=>by kernel_rfl),yp (i:=0) r6 (E4 ad) AN rfl rfl,yf r6 (fun _=>by kernel_rfl),yp (i:=4) r6 (E8 (.slice bo body.length bc) rfl) AN rfl rfl,Ae [.int .i64 ad,.slice bo body.length bc] Tryz.func54 (by kernel_rfl) rq4 ⟨(oy rfl rfl),(oy rfl rfl),ALg⟩ (Au fun W g=>JY ad hia body bby (by omega) _ _ _ (hb.kn g)),GC r7 (fun _=>(JB htg (Dr ad body) _ _ _).2.trans (by rw[decide_eq_true (htt.symm)];rfl)),ALg⟩ fun a32 w32 g32 Ci=>?_
       refine k31 _ _ ?_
       refine A1 Ci rfl rfl ?_
       refine ALe ?_
       refine k30 _ _ ?_
       refine ALa fun K33 k33=>?_
       refine ALZ ?_
       refine AH Ci 2 [(31,pk CG 4),(32,.slice bo body.length bc)]
         ⟨yf r6 (fun _=>by kernel_rfl),yp (i:=4) r6 (E8 (.slice bo body.length bc) rfl) (AC g32 AN) rfl rfl,ALg⟩ fun a34 w34 g34 Hw=>?_
       have WJ:=AA g32 g34
       replace hb:=hb.kn WJ
       refine BB Hw Tryz.func61 (by kernel_rfl) r6 (Jq (AH4 hb bby (by omega) hdq)) fun a35 v35 w35 hR35 Mj=>?_
       obtain⟨rfl,g35⟩:=hR35
       replace AU:=AC g35 (AC WJ AU)
       refine AH Mj 2 [(34,Bp dq.1),(35,.int .i64 dq.2)]
         ⟨BX rq4 (fun _ _ h=>⟨_,_,h,rfl,rfl⟩),BX rq4 (fun _ _ h=>⟨_,_,h,rfl,rfl⟩),ALg⟩ fun a36 w36 g36 FG=>?_
       refine As FG r7 (ED dq.1) (AC g36 AU) rfl fun w37 g37 h37=>?_
       replace A9:=Af g36 g37 (AC g35 (AC WJ A9)) BO
       refine As FG r7 (GI dq.2) A9 rfl fun w38 g38 h38=>?_
       replace AK:=Ac g38 (Af g36 g37 (AC g35 (AC WJ AK)) (Ne.symm BT)) (Ne.symm Cj)
       replace AN:=Ac g38 (Af g36 g37 (AC g35 (AC WJ AN)) (Ne.symm Bf)) (Ne.symm C6)
       replace AU:=Ac g38 h37 (Ne.symm BO)
       replace hr:=((((hr.kn WJ).kn g35).kn g36).offR g37 (AR CI)).offR g38 (AR FI)
       replace ho:=((((ho.kn WJ).kn g35).kn g36).offR g37 (AR EA)).offR g38 (AR Hb)
       replace hw:=((((hw.kn WJ).kn g35).kn g36).offR g37 (AR EB)).offR g38 (AR Hc)
       replace hb:=(((hb.kn g35).kn g36).offR g37 (AR Dn)).offR g38 (AR Ft)
       replace HG:=AD (AD (AA (AA (AA HG WJ) g35) g36) g37 CL) g38 FQ
       replace A9:=h38
       have Jl:Sv _ _ [_,_,_,_,_,_,_,_,_,_,_,_,_,_,_,_,_,_,_,_,_,_,_,_,_,_,_] _:=FG.dl [34,35,33,31,32]
       refine AE ?_
       refine k33 _ _ ?_
       refine ALd ?_
       repeat refine AJ ?_
       refine Bi (fn:=Tryz.f22) Jl (B6 (p:=4) (q:=5) Tryz.results22 Jl rfl rfl rfl rfl (ED dq.1) (GI dq.2) AU A9) (CH Tryz.func60 (by kernel_rfl) rfl _ _) (Dw _ _ _) ?_
       exact⟨RM (hopen),HG⟩
     · rw[if_neg htt] at hopen
       refine DK CU [(22,pk CG 5),(23,AO tg),(24,pt CG),(25,.int .i64 ad),(26,pk CG 4),(27,.slice bo body.length bc),(28,AO ((Wf ad body))),(29,.bool true)]
         ⟨yf r6 (fun _=>by kernel_rfl),yp (i:=5) r6 (BV tg htg.1) AN rfl rfl,yf r6 (fun _=>by kernel_rfl),yp (i:=0) r6 (E4 ad) AN rfl rfl,yf r6 (fun _=>by kernel_rfl),yp (i:=4) r6 (E8 (.slice bo body.length bc) rfl) AN rfl rfl,Ae [.int .i64 ad,.slice bo body.length bc] Tryz.func54 (by kernel_rfl) rq4 ⟨(oy rfl rfl),(oy rfl rfl),ALg⟩ (Au fun W g=>JY ad hia body bby (by omega) _ _ _ (hb.kn g)),GC r7 (fun _=>(JB htg (Dr ad body) _ _ _).2.trans (by rw[decide_eq_false ((fun h=>htt h.symm))];rfl)),ALg⟩ fun a40 w40 g40 Jm=>?_
       refine k31 _ _ ?_
       refine Av Jm rfl rfl ?_
       refine ALa fun K41 k41=>?_
       refine ALZ ?_
       replace AU:=AC g40 AU
       refine AH Jm 1 [(30,Bp V.nul)]
         ⟨BR (vs:=[]) rfl rfl trivial trivial (fun _=>Ot _) (fun _=>rfl),ALg⟩ fun a42 w42 g42 GH=>?_
       refine As GH r7 (ED V.nul) (AC g42 AU) rfl fun w43 g43 h43=>?_
       replace A9:=Af g42 g43 (AC g40 A9) BO
       refine As GH r7 (GI 101) A9 rfl fun w44 g44 h44=>?_
       replace AK:=Ac g44 (Af g42 g43 (AC g40 AK) (Ne.symm BT)) (Ne.symm Cj)
       replace AN:=Ac g44 (Af g42 g43 (AC g40 AN) (Ne.symm Bf)) (Ne.symm C6)
       replace AU:=Ac g44 h43 (Ne.symm BO)
       replace hr:=(((hr.kn g40).kn g42).offR g43 (AR CI)).offR g44 (AR FI)
       replace ho:=(((ho.kn g40).kn g42).offR g43 (AR EA)).offR g44 (AR Hb)
       replace hw:=(((hw.kn g40).kn g42).offR g43 (AR EB)).offR g44 (AR Hc)
       replace hb:=(((hb.kn g40).kn g42).offR g43 (AR Dn)).offR g44 (AR Ft)
       replace HG:=AD (AD (AA (AA HG g40) g42) g43 CL) g44 FQ
       replace A9:=h44
       refine AE ?_
       refine k41 _ _ ?_
       refine ALd ?_
       repeat refine AJ ?_
       refine Bi (fn:=Tryz.f22) GH (B6 (p:=4) (q:=5) Tryz.results22 GH rfl rfl rfl rfl (ED V.nul) (GI 101) AU A9) (CH Tryz.func60 (by kernel_rfl) rfl _ _) (Dw _ _ _) ?_
       exact⟨RM (hopen),HG⟩
   · have hne:S.own≠[]:=fun h=>by rw[s2] at h;have h2:od.length=0:=(List.length_map _).symm.trans (congrArg List.length h);omega
     refine ALZ ?_
     refine AH Cp 4 [(18,pk CG 1),(19,.slice ao od.length ac),(20,.int .i64 ((od.length:Nat))),(21,.bool false)]
       ⟨yf r6 (fun _=>by kernel_rfl),yp (i:=1) r6 (Hz (.slice ao od.length ac) rfl) AN rfl rfl,BI (Tryz.underlying28) rfl rfl trivial (oy rfl rfl) (fun _=>rfl),Cm r6 (fun _=>Bd (MG (by omega))),ALg⟩ fun a45 w45 g45 Ep=>?_
     refine AE ?_
     refine k28 _ _ ?_
     refine A1 Ep rfl rfl ?_
     refine ALe ?_
     refine k27 _ _ ?_
     refine ALa fun K46 k46=>?_
     replace AK:=AC g45 AK
     replace AN:=AC g45 AN
     replace AU:=AC g45 AU
     replace A9:=AC g45 A9
     replace hr:=hr.kn g45
     replace ho:=ho.kn g45
     replace hw:=hw.kn g45
     replace hb:=hb.kn g45
     replace HG:=AA HG g45
     rcases(show Kr P S=none∨∃c,Kr P S=some c by cases Kr P S<;>simp) with hrec|⟨c,hrec⟩
     · refine ALZ ?_
       refine AH Ep 2 [(37,Aw sa po (.slice vo ks.length vc_)),(38,Bm ad (.slice ao od.length ac) joint (.slice wo wd.length wc) (.slice bo body.length bc) tg)]
         ⟨yl r6 (Bq hsa hpo (.slice vo ks.length vc_) rfl) AK,yl r6 (Cy _ _ htg (.slice ao od.length ac) (.slice wo wd.length wc) (.slice bo body.length bc) rfl rfl rfl) AN,ALg⟩ fun a47 w47 g47 Kq=>?_
       replace hr:=hr.kn g47
       replace ho:=ho.kn g47
       replace hw:=hw.kn g47
       replace hb:=hb.kn g47
       refine BB Kq Tryz.func62 (by kernel_rfl) r6 (ABr hsa hpo htg hr ho hw hb hP hS hh hrec) fun a48 v48 w48 hR48 Vn=>?_
       obtain⟨cz,rfl,hcd,_,g48⟩:=hR48
       refine AH Vn 3 [(36,.tuple #[AO cz,.bool false]),(40,AO cz),(41,.bool false)]
         ⟨ym r5,BX rq4 (fun _ _ h=>⟨_,_,h,rfl,rfl⟩),BX rq4 (fun _ _ h=>⟨_,_,h,rfl,rfl⟩),ALg⟩ fun a49 w49 g49 ES=>?_
       replace AK:=AC g49 (AC g48 (AC g47 AK))
       replace AN:=AC g49 (AC g48 (AC g47 AN))
       replace AU:=AC g49 (AC g48 (AC g47 AU))
       replace A9:=AC g49 (AC g48 (AC g47 A9))
       replace hr:=(hr.kn g48).kn g49
       replace ho:=(ho.kn g48).kn g49
       replace hw:=(hw.kn g48).kn g49
       replace hb:=(hb.kn g48).kn g49
       replace HG:=AA (AA (AA HG g47) g48) g49
       refine Az (T:=23) (Z:=(bv AM)) ES rfl rfl rfl (fun a w=>by kernel_rfl) fun a50 w50 ALJ Gg g50 z50 AI9 PA=>?_
       have S4:=Ax AK Gg
       have S5:=Ax AN Gg
       have S6:=Ax AU Gg
       have S7:=Ax A9 Gg
       have AFW:=Bk HG Gg
       have ZD:=Ay (hr.lt) Gg
       have ZE:=Ay (ho.lt) Gg
       have ZF:=Ay (hw.lt) Gg
       have ZG:=Ay (hb.lt) Gg
       refine As PA r7 (BV cz hcd.1) AI9 (En hcd) fun w51 g51 h51=>?_
       refine AX (v:=.bool false) PA r6 fun a52 O9=>?_
       have ACm:Sv _ _ [_,_,_,_,_,_,_,_,_,_,_,_,_,_,_,_,_,_,_,_,_] _:=O9.dl [36,40,41,39,37,38]
       refine AE ?_
       refine k46 _ _ ?_
       refine ALa fun K54 k54=>?_
       refine ALa fun K55 k55=>?_
       refine ALZ ?_
       refine AH ACm 2 [(42,.bool false),(43,.bool true)]
         ⟨ym r5,Cr r6 (fun _=>Ba),ALg⟩ fun a56 w56 g56 SC=>?_
       refine AE ?_
       refine k55 _ _ ?_
       refine Av SC rfl rfl ?_
       refine ALa fun K57 k57=>?_
       refine ALZ ?_
       replace AU:=AC g56 (Ac g51 (AC g50 AU) (Ne.symm S6))
       refine AH SC 1 [(44,Bp V.nul)]
         ⟨BR (vs:=[]) rfl rfl trivial trivial (fun _=>Ot _) (fun _=>rfl),ALg⟩ fun a58 w58 g58 Uz=>?_
       refine As Uz r7 (ED V.nul) (AC g58 AU) rfl fun w59 g59 h59=>?_
       replace A9:=Af g58 g59 (AC g56 (Ac g51 (AC g50 A9) (Ne.symm S7))) BO
       refine As Uz r7 (GI 10) A9 rfl fun w60 g60 h60=>?_
       replace AK:=Ac g60 (Af g58 g59 (AC g56 (Ac g51 (AC g50 AK) (Ne.symm S4))) (Ne.symm BT)) (Ne.symm Cj)
       replace AN:=Ac g60 (Af g58 g59 (AC g56 (Ac g51 (AC g50 AN) (Ne.symm S5))) (Ne.symm Bf)) (Ne.symm C6)
       replace AU:=Ac g60 h59 (Ne.symm BO)
       replace hr:=(((((hr.kn g50).offR g51 (AR ZD)).kn g56).kn g58).offR g59 (AR CI)).offR g60 (AR FI)
       replace ho:=(((((ho.kn g50).offR g51 (AR ZE)).kn g56).kn g58).offR g59 (AR EA)).offR g60 (AR Hb)
       replace hw:=(((((hw.kn g50).offR g51 (AR ZF)).kn g56).kn g58).offR g59 (AR EB)).offR g60 (AR Hc)
       replace hb:=(((((hb.kn g50).offR g51 (AR ZG)).kn g56).kn g58).offR g59 (AR Dn)).offR g60 (AR Ft)
       replace HG:=AD (AD (AA (AA (AD (AA HG g50) g51 AFW) g56) g58) g59 CL) g60 FQ
       replace A9:=h60
       refine AE ?_
       refine k57 _ _ ?_
       refine ALd ?_
       repeat refine AJ ?_
       refine Bi (fn:=Tryz.f22) Uz (B6 (p:=4) (q:=5) Tryz.results22 Uz rfl rfl rfl rfl (ED V.nul) (GI 10) AU A9) (CH Tryz.func60 (by kernel_rfl) rfl _ _) (Dw _ _ _) ?_
       exact⟨RM (AAq hh hv hne hrec),HG⟩
     · have hopen:=UD hh hv hne hrec
       rw[s1,s3,s4] at hopen
       refine ALZ ?_
       refine AH Ep 2 [(37,Aw sa po (.slice vo ks.length vc_)),(38,Bm ad (.slice ao od.length ac) joint (.slice wo wd.length wc) (.slice bo body.length bc) tg)]
         ⟨yl r6 (Bq hsa hpo (.slice vo ks.length vc_) rfl) AK,yl r6 (Cy _ _ htg (.slice ao od.length ac) (.slice wo wd.length wc) (.slice bo body.length bc) rfl rfl rfl) AN,ALg⟩ fun a61 w61 g61 OA=>?_
       replace hr:=hr.kn g61
       replace ho:=ho.kn g61
       replace hw:=hw.kn g61
       replace hb:=hb.kn g61
       refine BB OA Tryz.func62 (by kernel_rfl) r6 (ABr hsa hpo htg hr ho hw hb hP hS hh hrec) fun a62 v62 w62 hR62 AHK=>?_
       obtain⟨cz,rfl,hcd,hcc,g62⟩:=hR62
       obtain rfl:=hcc c rfl
       refine AH AHK 3 [(36,.tuple #[AO c,.bool true]),(40,AO c),(41,.bool true)]
         ⟨ym r5,BX rq4 (fun _ _ h=>⟨_,_,h,rfl,rfl⟩),BX rq4 (fun _ _ h=>⟨_,_,h,rfl,rfl⟩),ALg⟩ fun a63 w63 g63 AC7=>?_
       replace AN:=AC g63 (AC g62 (AC g61 AN))
       replace AU:=AC g63 (AC g62 (AC g61 AU))
       replace A9:=AC g63 (AC g62 (AC g61 A9))
       replace hb:=(hb.kn g62).kn g63
       replace HG:=AA (AA (AA HG g61) g62) g63
       refine Az (T:=23) (Z:=(bv AM)) AC7 rfl rfl rfl (fun a w=>by kernel_rfl) fun a64 w64 ALK Lf g64 z64 Ms AAj=>?_
       have S9:=Ax AN Lf
       have MS:=Ax AU Lf
       have MT:=Ax A9 Lf
       have AFX:=Bk HG Lf
       have ZH:=Ay (hb.lt) Lf
       refine As AAj r7 (BV c hcd.1) Ms (En hcd) fun w65 g65 h65=>?_
       refine AX (v:=.bool true) AAj r6 fun a66 AFJ=>?_
       have ADI:Sv _ _ [_,_,_,_,_,_,_,_,_,_,_,_,_,_,_,_,_,_,_,_,_] _:=AFJ.dl [36,40,41,39,37,38]
       refine AE ?_
       refine k46 _ _ ?_
       refine ALa fun K68 k68=>?_
       refine ALa fun K69 k69=>?_
       refine ALZ ?_
       refine AH ADI 2 [(42,.bool true),(43,.bool false)]
         ⟨ym r5,Cr r6 (fun _=>Ba),ALg⟩ fun a70 w70 g70 AAo=>?_
       refine AE ?_
       refine k69 _ _ ?_
       refine A1 AAo rfl rfl ?_
       refine ALe ?_
       refine k68 _ _ ?_
       refine ALa fun K71 k71=>?_
       refine ALa fun K72 k72=>?_
       replace AN:=AC g70 (Ac g65 (AC g64 AN) (Ne.symm S9))
       replace AU:=AC g70 (Ac g65 (AC g64 AU) (Ne.symm MS))
       replace A9:=AC g70 (Ac g65 (AC g64 A9) (Ne.symm MT))
       replace Ms:=AC g70 h65
       replace hb:=((hb.kn g64).offR g65 (AR ZH)).kn g70
       replace HG:=AA (AD (AA HG g64) g65 AFX) g70
       by_cases htt:QZ c ad body=tg
       · rw[if_pos htt] at hopen
         obtain⟨dq,hdq⟩:∃q,KZ (Fv body c)=q:=⟨_,rfl⟩
         rw[hdq] at hopen
         refine DK AAo [(45,pk CG 5),(46,AO tg),(47,AO c),(48,pt CG),(49,.int .i64 ad),(50,pk CG 4),(51,.slice bo body.length bc),(52,AO ((QZ c ad body))),(53,.bool false)]
          ⟨yf r6 (fun _=>by kernel_rfl),yp (i:=5) r6 (BV tg htg.1) AN rfl rfl,yl r6 (BV c hcd.1) Ms,yf r6 (fun _=>by kernel_rfl),yp (i:=0) r6 (E4 ad) AN rfl rfl,yf r6 (fun _=>by kernel_rfl),yp (i:=4) r6 (E8 (.slice bo body.length bc) rfl) AN rfl rfl,Ae [AO c,.int .i64 ad,.slice bo body.length bc] Tryz.func58 (by kernel_rfl) rq4 ⟨(oy rfl rfl),(oy rfl rfl),(oy rfl rfl),ALg⟩ (Au fun W g=>Hh c hcd ad hia body bby (by omega) _ _ _ (hb.kn g)),GC r7 (fun _=>(JB htg (CV c ad body) _ _ _).2.trans (by rw[decide_eq_true (htt.symm)];rfl)),ALg⟩ fun a73 w73 g73 YT=>?_
         refine k72 _ _ ?_
         refine A1 YT rfl rfl ?_
         refine ALe ?_
         refine k71 _ _ ?_
         refine ALa fun K74 k74=>?_
         refine ALZ ?_
         refine AH YT 3 [(55,pk CG 4),(56,.slice bo body.length bc),(57,AO c)]
          ⟨yf r6 (fun _=>by kernel_rfl),yp (i:=4) r6 (E8 (.slice bo body.length bc) rfl) (AC g73 AN) rfl rfl,yl r6 (BV c hcd.1) (AC g73 Ms),ALg⟩ fun a75 w75 g75 AI1=>?_
         have ADP:=AA g73 g75
         replace AU:=AC ADP AU
         replace A9:=AC ADP A9
         replace hb:=hb.kn ADP
         refine BB AI1 Tryz.func57 (by kernel_rfl) r6 (NN (KU body bby (by omega) _ _ c hcd _ hb)) fun a76 v76 w76 hR76 ADA=>?_
         obtain⟨ao76,cap76,rfl,_⟩:=(Sl.of_own hR76.1).shape
         obtain⟨ow76,fr76⟩:=hR76
         replace fr76:=Cq fr76
         have oy_:=ow76
         clear ow76
         have g76:=fr76.1
         replace fr76:=fr76.2
         have ZI:=Ca fr76 AU
         have ZJ:=Ca fr76 A9
         refine BB ADA Tryz.func61 (by kernel_rfl) r6 (Jq (AH4 (Own.sb oy_) (KS _ bby) (by rw[KR];omega) hdq)) fun a77 v77 w77 hR77 AFK=>?_
         obtain⟨rfl,g77⟩:=hR77
         replace AU:=AC g77 (AC g76 AU)
         have ADJ:Sv _ _ [_,_,_,_,_,_,_,_,_,_,_,_,_,_,_,_,_,_,_,_,_,_,_,_,_,_,_,_,_,_,_,_,_] _:=AFK.dl [58,55,56,57]
         refine AH ADJ 2 [(60,Bp dq.1),(61,.int .i64 dq.2)]
          ⟨BX rq4 (fun _ _ h=>⟨_,_,h,rfl,rfl⟩),BX rq4 (fun _ _ h=>⟨_,_,h,rfl,rfl⟩),ALg⟩ fun a79 w79 g79 SO=>?_
         refine As SO r7 (ED dq.1) (AC g79 AU) rfl fun w80 g80 h80=>?_
         replace A9:=Af g79 g80 (AC g77 (AC g76 A9)) BO
         refine As SO r7 (GI dq.2) A9 rfl fun w81 g81 h81=>?_
         replace AN:=Ac g81 (Af g79 g80 (AC g77 (AC g76 (AC ADP AN))) (Ne.symm Bf)) (Ne.symm C6)
         replace AU:=Ac g81 h80 (Ne.symm BO)
         replace Ms:=Ac g81 (Af g79 g80 (AC g77 (AC g76 (AC ADP Ms))) MS) MT
         replace hb:=((((hb.kn g76).kn g77).kn g79).offR g80 (AR Dn)).offR g81 (AR Ft)
         replace oy_:=(((oy_.kn g77).kn g79).offR g80 (AR ZI)).offR g81 (AR ZJ)
         replace HG:=AD (AD (AA (AA (AA (AA HG ADP) g76) g77) g79) g80 CL) g81 FQ
         replace A9:=h81
         refine AE ?_
         refine k74 _ _ ?_
         refine ALd ?_
         repeat refine AJ ?_
         refine Bi (fn:=Tryz.f22) SO (B6 (p:=4) (q:=5) Tryz.results22 SO rfl rfl rfl rfl (ED dq.1) (GI dq.2) AU A9) (CH Tryz.func60 (by kernel_rfl) rfl _ _) (Dw _ _ _) ?_
         exact⟨RM (hopen),HG⟩
       · rw[if_neg htt] at hopen
         refine DK AAo [(45,pk CG 5),(46,AO tg),(47,AO c),(48,pt CG),(49,.int .i64 ad),(50,pk CG 4),(51,.slice bo body.length bc),(52,AO ((QZ c ad body))),(53,.bool true)]
          ⟨yf r6 (fun _=>by kernel_rfl),yp (i:=5) r6 (BV tg htg.1) AN rfl rfl,yl r6 (BV c hcd.1) Ms,yf r6 (fun _=>by kernel_rfl),yp (i:=0) r6 (E4 ad) AN rfl rfl,yf r6 (fun _=>by kernel_rfl),yp (i:=4) r6 (E8 (.slice bo body.length bc) rfl) AN rfl rfl,Ae [AO c,.int .i64 ad,.slice bo body.length bc] Tryz.func58 (by kernel_rfl) rq4 ⟨(oy rfl rfl),(oy rfl rfl),(oy rfl rfl),ALg⟩ (Au fun W g=>Hh c hcd ad hia body bby (by omega) _ _ _ (hb.kn g)),GC r7 (fun _=>(JB htg (CV c ad body) _ _ _).2.trans (by rw[decide_eq_false ((fun h=>htt h.symm))];rfl)),ALg⟩ fun a82 w82 g82 Vc=>?_
         refine k72 _ _ ?_
         refine Av Vc rfl rfl ?_
         refine ALa fun K83 k83=>?_
         refine ALZ ?_
         replace AU:=AC g82 AU
         refine AH Vc 1 [(54,Bp V.nul)]
          ⟨BR (vs:=[]) rfl rfl trivial trivial (fun _=>Ot _) (fun _=>rfl),ALg⟩ fun a84 w84 g84 Vd=>?_
         refine As Vd r7 (ED V.nul) (AC g84 AU) rfl fun w85 g85 h85=>?_
         replace A9:=Af g84 g85 (AC g82 A9) BO
         refine As Vd r7 (GI 101) A9 rfl fun w86 g86 h86=>?_
         replace AU:=Ac g86 h85 (Ne.symm BO)
         replace HG:=AD (AD (AA (AA HG g82) g84) g85 CL) g86 FQ
         replace A9:=h86
         refine AE ?_
         refine k83 _ _ ?_
         refine ALd ?_
         repeat refine AJ ?_
         refine Bi (fn:=Tryz.f22) Vd (B6 (p:=4) (q:=5) Tryz.results22 Vd rfl rfl rfl rfl (ED V.nul) (GI 101) AU A9) (CH Tryz.func60 (by kernel_rfl) rfl _ _) (Dw _ _ _) ?_
         exact⟨RM (hopen),HG⟩
theorem AJA {w:World} {ks:List VK} {vo:Option Addr} {vc_:Nat} {sa po:List Nat} {ad joint:Int} {od wd:List DD} {ao wo bo:Option Addr} {ac wc bc:Nat} {body tg:List Nat} {q:V×Int} (hsa:Dg sa) (hpo:Dg po) (htg:Dg tg) (bby:By body) (hr:RdK w (.slice vo ks.length vc_) ks) (ho:RdD w (.slice ao od.length ac) od) (hw:RdD w (.slice wo wd.length wc) wd) (hb:SlB w 1 (.slice bo body.length bc) body.length (bv body)) (hq:I0 (ks.map VK.p) ⟨ad,od.map DD.x,joint,wd.map DD.x,body,tg⟩=q) :
  Calls Tryz.prog 22 #[Aw sa po (.slice vo ks.length vc_),Bm ad (.slice ao od.length ac) joint (.slice wo wd.length wc) (.slice bo body.length bc) tg] w fun e w'=>e=.returned (.tuple #[Bp q.1,.int .i64 q.2])∧w.grownBy w' none:=by
 subst hq
 exact ADO ks vo vc_ sa po hsa hpo ad joint od wd ao wo bo ac wc bc body tg htg bby w hr ho hw hb
end Go.Proofs.YtbfjfnbcmojpiaaGreat
namespace Go.Proofs.YtbfjfnbcmojpiaaGreat
open Go.RowKit
theorem AIQ {P:List VP} {i:Nat} (h:i<P.length):od P i∈P.map (·.1):=by rw[Tm h];exact List.mem_map.2 ⟨_,List.getElem_mem h,rfl⟩
theorem AGI {P:List VP} (hs:Srt P) {o:List Nat}:J5 P o=true↔o∈P.map (·.1):=by
 constructor
 · intro h
   obtain⟨h1,h2⟩:=Ug h
   rw[←h2]
   exact AIQ h1
 · intro h
   obtain⟨x,hx,rfl⟩:=List.mem_map.1 h
   obtain⟨i,hi,rfl⟩:=List.getElem_of_mem hx
   exact(M7 hs hi (Tm hi)).2
theorem AGJ {P:List VP} (hs:Srt P) {o:List Nat} (h:o ∉ P.map (·.1)):J5 P o=false:=by
 cases e:J5 P o with
 | false=>rfl
 | true=>exact absurd ((AGI hs).1 e) h
theorem ABJ {P:List VP} {o:List Nat} {t:List Nd} {x:VP}:x∈Me P o t↔x=(o,t)∨x∈P:=by
 unfold Me
 rw[List.mem_append,List.mem_cons]
 constructor
 · rintro (h|h|h)
   · exact .inr (List.mem_of_mem_take h)
   · exact .inl h
   · exact .inr (List.mem_of_mem_drop h)
 · rintro (h|h)
   · exact .inr (.inl h)
   · rw[←List.take_append_drop (pos P o) P] at h
     exact(List.mem_append.1 h).imp id .inr
theorem AGK (P:List VP) (o:List Nat) (t:List Nd):(Me P o t).length=P.length+1:=by rw[M8];exact Nx (QA P o) _
theorem AGL {P:List VP} (hs:Srt P) {o:List Nat} {t:List Nd} (h:(o,t)∈P):J5 P o=true∧tr P (pos P o)=t:=by
 obtain⟨i,hi,he⟩:=List.getElem_of_mem h
 have h1:od P i=o:=by rw[Tm hi,he]
 obtain⟨h2,h3⟩:=M7 hs hi h1
 refine⟨h3,?_⟩
 rw[h2,AHi hi,he]
theorem ABK {x:Int} (h1:0≤x) (h2:x<256):IntKind.u8.wrap x=x:=by simp[IntKind.wrap,IntKind.bits,IntKind.signed];omega
theorem J8 (k:List Nat):Ho (tree k [])=true:=XM k [] (by simp)
theorem XN {P:List VP} {sa po o nx:List Nat} {T:List Nd} (hv:CZ P=true) (hf:J5 P o=false) (hl:P.length<64):ME (P,sa,po) o T nx=((Me P o T,sa,nx),0):=by
 unfold ME
 rw[if_pos hv,if_neg (by rw[hf];simp),if_neg (by simpa using hl)]
theorem Zs {P:Program} {a b c:Int} {t:TypeId} {x y:Operand} {w:World} (h:bits .and .i64 a b=c):(do eqGuard .and t x y (.int .i64 a) (.int .i64 b);binOp .and t (.int .i64 a) (.int .i64 b):Sem Value).run P w=.ok (.int .i64 c) w:=by
 subst h
 simp[eqGuard,binOp_and]
 rfl
end Go.Proofs.YtbfjfnbcmojpiaaGreat
namespace Go.Proofs.YtbfjfnbcmojpiaaGreat
open Go.RowKit Go.Shelf
theorem AKk (a b:Nat) (w:World):(Instr.build 23 #[(0,.int .u8 (a:Int)),(31,.int .u8 (b:Int))]).run Tryz.prog w=.ok (AO (a::(zs 30++[b]))) w:=by kernel_rfl
theorem AGq {P:List VP} {o:List Nat} {a:Int} {l:List Nd} {q:List Nat×Int} (ha:Cg a=true) (hv:CZ P=true) (h:J5 P o=true∧tr P (pos P o)=l) (hq:CF l a=q):DI P o a=q:=(N5 ha hv h.1 rfl h.2).trans hq
end Go.Proofs.YtbfjfnbcmojpiaaGreat
