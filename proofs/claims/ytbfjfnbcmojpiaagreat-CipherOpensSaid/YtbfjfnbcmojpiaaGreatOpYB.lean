import Derived.Test.YtbfjfnbcmojpiaaGreatOpYA
set_option linter.unusedSimpArgs false
set_option linter.unusedVariables false
set_option maxRecDepth 100000
set_option maxHeartbeats 4000000
namespace Go.Proofs.YtbfjfnbcmojpiaaGreat
open Go.RowKit Go.Shelf
theorem F8 (w:World):(Instr.build 25 #[]).run Tryz.prog w=.ok (B7 V.nul) w:=by kernel_rfl
theorem M0 (w:World):CallsD Tryz.prog 68 #[] .returning w fun e u' w'=>e=.returned (.tuple #[])∧u'=.returning∧w'=w:=by
 refine callsD_of_wpS Tryz.func68 rfl fun c₀ cs hu=>?_
 apply wpS_region
 simp[wpOpsS,go_sem,recoverD,hu,Tryz.ntmps68]
 cases c₀
 simp_all [bodyPostS,results,Tryz.results68]
theorem IT {x:V} {c:Int} {y:V×Int} (h:y=(x,c)):Ending.returned (.tuple #[B7 x,.int .i64 c])=Ending.returned (.tuple #[B7 y.1,.int .i64 y.2]):=by rw[h]
theorem AGG {w:World} {b:List Nat} {v:Value} (hv:SlB w 1 v b.length (bv b)) (hb:By b) (hl:b.length≤100000):Calls Tryz.prog 107 #[v] w fun e w'=>∃u,e=.returned u∧(∃(x:V) (ao:Option Addr) (n cap:Nat) (er:Int),u=.tuple #[B7 x,.slice ao n cap,.int .i64 er]∧w.grownBy w' none ∧
   ((er=0∧∃r,r.length=n∧pV b=.ok (x,r))∨(er≠0∧∃k,pV b=.error k))):=by
 refine(QY v b w hv.1 (by omega) hb hv.2).mono ?_
 intro e w' h
 unfold ReadPost at h
 obtain⟨hg,h⟩:=h
 cases hp:pV b with
 | ok y =>
   obtain⟨x,r⟩:=y
   rw[hp] at h
   obtain⟨u,rv,rfl,hrep,hs,hlo⟩:=h
   obtain rfl:u=B7 x:=hrep
   obtain⟨ao,cap,rfl,_⟩:=Sl.shape hs
   exact⟨_,rfl,x,ao,_,cap,0,rfl,hg,.inl ⟨rfl,r,rfl,rfl⟩⟩
 | error n =>
   rw[hp] at h
   obtain⟨rfl,hn⟩:=h
   exact⟨_,rfl,V.nul,none,0,0,n,rfl,hg,.inr ⟨by omega,n,rfl⟩⟩
theorem XY {w:World} {R:Nat} {b:List Nat} {v:Value} (hrow:w.heap[R]?=some (.cells #[v,.int .i64 0] 94 (0,0))) (hv:SlB w 1 v b.length (bv b)) (hR:∀k,Ba v k→k<R) (hb:By b) (hl:b.length≤100000):Calls Tryz.prog 64 #[.pointer (some ⟨R,0,none⟩)] w fun e w'=>∃u,e=.returned u∧(∃(x:V) (ao:Option Addr) (n cap:Nat) (er:Int),u=B7 x∧w.grownBy w' (some R)∧w'.heap[R]?=some (.cells ([[.slice ao n cap],[.int .i64 er]].flatten).toArray 94 (0,0)) ∧
   ((er=0∧∃r,r.length=n∧pV b=.ok (x,r))∨(er≠0∧∃k,pV b=.error k))):=by
 refine(ABQ (L:=R) R (.ok b) w ⟨v,b,⟨rfl,hrow⟩,hv.1,⟨fun k hk=>hR k hk,Nat.le_refl _⟩,hb,by omega⟩).mono ?_
 rintro e w' ⟨u,x,s',rfl,rfl,hg,hst,hrel⟩
 obtain⟨v2,l2,hc,hs,_⟩:=hst
 obtain⟨ao,cap,rfl,_⟩:=Sl.shape hs
 cases s' with
 | error er=>exact⟨_,rfl,x,ao,_,cap,er,rfl,hg,hc.2.2,.inr ⟨by have:=hc.1;omega,er,hrel.err⟩⟩
 | ok r =>
   obtain⟨rfl,hc⟩:=hc
   exact⟨_,rfl,x,ao,_,cap,0,rfl,hg,hc,.inl ⟨rfl,r,rfl,hrel.ok⟩⟩
theorem UV {b:List Nat} {x:V} {n:Nat} {er:Int} (h:(er=0∧∃r,r.length=n∧pV b=.ok (x,r))∨(er≠0∧∃k,pV b=.error k)):(er≠0→I4 b=(V.nul,101))∧(er=0→n=0→I4 b=(x,0))∧(er=0→0<n→I4 b=(V.nul,101)):=by
 rcases h with ⟨h0,r,rfl,hp⟩|⟨h0,k,hp⟩
 · exact⟨fun h=>absurd h0 h,fun _ h=>AAq (by rw[hp,List.eq_nil_of_length_eq_zero h]),fun _ h=>AB8 hp h⟩
 · exact⟨fun _=>AD4 hp,fun h=>absurd h h0,fun h=>absurd h h0⟩
theorem XZ (b:List Nat) (hby:By b) (hl:b.length≤100000) (bo:Option Addr) (bc:Nat) (w:World) (hb:SlB w 1 (.slice bo b.length bc) b.length (bv b)) :
   Calls Tryz.prog 61 #[.slice bo b.length bc] w fun e w'=>e=.returned (.tuple #[B7 (I4 b).1,.int .i64 (I4 b).2])∧w.grownBy w' none:=by
 refine BV Tryz.func61 rfl Tryz.ntmps61 rfl fun a0 sv0=>?_
 have HG:=World.grownBy.refl w none
 replace sv0:Sv 22 [] [(0,.slice bo b.length bc)] a0:=sv0
 refine AKQ fun K1 k1=>?_
 refine AKP ?_
 refine BB (T:=25) (Z:=[.int .i64 0,.int .i64 0,.string ⟨#[]⟩]) sv0 rfl rfl rfl (fun a w=>by kernel_rfl) fun a2 w2 CP DG g2 z2 AH sv2=>?_
 have Fq:=Bq HG DG
 refine AR (v:=.int .i64 0) sv2 r6 fun a3 sv3=>?_
 refine AE ?_
 refine k1 _ _ ?_
 refine AKQ fun K4 k4=>?_
 refine AKP ?_
 refine AJ sv3 1 [(8,.slice bo b.length bc)]
   ⟨ym r5,AKW⟩ fun a5 w5 g5 sv5=>?_
 replace hb:=(hb.kn g2).kn g5
 refine BD sv5 Tryz.func107 (by kernel_rfl) r6 (AGG hb hby hl) fun a6 v6 w6 hR6 sv6=>?_
 obtain⟨x,ro,rn,rc,er,rfl,g6,hcs⟩:=hR6
 obtain⟨hf1,hf2,hf3⟩:=UV hcs
 refine AJ sv6 4 [(7,.tuple #[B7 x,.slice ro rn rc,.int .i64 er]),(10,B7 x),(11,.slice ro rn rc),(12,.int .i64 er)]
   ⟨ym r5,BZ rq4 (fun _ _ h=>⟨_,_,h,rfl,rfl⟩),BZ rq4 (fun _ _ h=>⟨_,_,h,rfl,rfl⟩),BZ rq4 (fun _ _ h=>⟨_,_,h,rfl,rfl⟩),AKW⟩ fun a7 w7 g7 sv7=>?_
 replace AH:=AC g7 (AC g6 (AC g5 AH))
 replace HG:=AA (AA (AA (AA HG g2) g5) g6) g7
 refine BB (T:=25) (Z:=[.int .i64 0,.int .i64 0,.string ⟨#[]⟩]) sv7 rfl rfl rfl (fun a w=>by kernel_rfl) fun a8 w8 AKL AAr g8 z8 Xa sv8=>?_
 have M1:=As AH AAr
 have AGH:=Bq HG AAr
 refine Av sv8 r7 (Ck x) Xa rfl fun w9 g9 h9=>?_
 replace AH:=AZ g9 (AC g8 AH) (Ne.symm M1)
 replace HG:=AD (AA HG g8) g9 AGH
 replace Xa:=h9
 refine AR (v:=.slice ro rn rc) sv8 r6 fun a10 BF=>?_
 refine AR (v:=.int .i64 er) BF r6 fun a11 Bv=>?_
 have Cq:Sv _ _ [_,_,_,_,_] _:=Bv.dl [7,10,11,12,9,8,0]
 refine AE ?_
 refine k4 _ _ ?_
 refine AKQ fun K13 k13=>?_
 refine AKQ fun K14 k14=>?_
 rcases(show er≠0∨(er=0∧rn=0)∨(er=0∧0<rn) by omega) with h1|⟨h1,h2⟩|⟨h1,h2⟩
 · refine AKP ?_
   refine AJ Cq 7 [(13,.int .i64 er),(14,.bool true),(15,.bool true),(16,undef),(17,undef),(18,undef),(19,.bool true)]
    ⟨ym r5,Cp r6 (fun _=>Db (by simpa using h1)),ym r5,AN r6,AN r6,AN r6,A1 r7,AKW⟩ fun a15 w15 g15 EE=>?_
   refine AE ?_
   refine k14 _ _ ?_
   refine Ar EE rfl rfl ?_
   refine AKQ fun K16 k16=>?_
   refine AKP ?_
   replace AH:=AC g15 AH
   refine AJ EE 1 [(20,B7 V.nul)]
    ⟨BM (vs:=[]) rfl rfl trivial trivial (fun _=>F8 _) (fun _=>rfl),AKW⟩ fun a17 w17 g17 De=>?_
   refine Av De r7 (Ck V.nul) (AC g17 AH) rfl fun w18 g18 h18=>?_
   replace Xa:=Ag g17 g18 (AC g15 Xa) M1
   replace HG:=AD (AA (AA HG g15) g17) g18 Fq
   replace AH:=h18
   refine AR (v:=.int .i64 101) De r6 fun a19 Cs=>?_
   refine AE ?_
   refine k16 _ _ ?_
   refine AKT ?_
   repeat refine AK ?_
   refine Aw (fn:=Tryz.f61) Cs (C4 (p:=2) (q:=3) Tryz.results61 Cs rfl rfl rfl rfl (Ck V.nul) AH) ?_
   exact⟨IT (hf1 h1),HG⟩
 · refine AKP ?_
   refine AJ Cq 7 [(13,.int .i64 er),(14,.bool false),(15,.bool false),(16,.slice ro rn rc),(17,.int .i64 ((rn:Nat))),(18,.bool false),(19,.bool false)]
    ⟨ym r5,Cp r6 (fun _=>Db (by simpa using h1)),ym r5,Ad rq8,Au (Tryz.underlying29) rfl rfl (gy rfl rfl rfl) (oy rfl rfl) (fun _=>rfl),Af rq9 (fun _=>Bl (decide_eq_false (by omega))),Aa rq9,AKW⟩ fun a20 w20 g20 DH=>?_
   refine AE ?_
   refine k14 _ _ ?_
   refine A2 DH rfl rfl ?_
   refine AKU ?_
   refine k13 _ _ ?_
   refine AKQ fun K21 k21=>?_
   refine AKP ?_
   refine AJ DH 1 [(21,B7 x)]
    ⟨yl r6 (Ck x) (AC g20 Xa),AKW⟩ fun a22 w22 g22 Bu=>?_
   have N5:=AA g20 g22
   refine Av Bu r7 (Ck x) (AC N5 AH) rfl fun w23 g23 h23=>?_
   replace HG:=AD (AA HG N5) g23 Fq
   replace AH:=h23
   refine AR (v:=.int .i64 0) Bu r6 fun a24 Du=>?_
   refine AE ?_
   refine k21 _ _ ?_
   refine AKT ?_
   repeat refine AK ?_
   refine Aw (fn:=Tryz.f61) Du (C4 (p:=2) (q:=3) Tryz.results61 Du rfl rfl rfl rfl (Ck x) AH) ?_
   exact⟨IT (hf2 h1 h2),HG⟩
 · refine AKP ?_
   refine AJ Cq 7 [(13,.int .i64 er),(14,.bool false),(15,.bool false),(16,.slice ro rn rc),(17,.int .i64 ((rn:Nat))),(18,.bool true),(19,.bool true)]
    ⟨ym r5,Cp r6 (fun _=>Db (by simpa using h1)),ym r5,Ad rq8,Au (Tryz.underlying29) rfl rfl (gy rfl rfl rfl) (oy rfl rfl) (fun _=>rfl),Af rq9 (fun _=>Bl (decide_eq_true (by omega))),Aa rq9,AKW⟩ fun a25 w25 g25 Bz=>?_
   refine AE ?_
   refine k14 _ _ ?_
   refine Ar Bz rfl rfl ?_
   refine AKQ fun K26 k26=>?_
   refine AKP ?_
   replace AH:=AC g25 AH
   refine AJ Bz 1 [(20,B7 V.nul)]
    ⟨BM (vs:=[]) rfl rfl trivial trivial (fun _=>F8 _) (fun _=>rfl),AKW⟩ fun a27 w27 g27 F6=>?_
   refine Av F6 r7 (Ck V.nul) (AC g27 AH) rfl fun w28 g28 h28=>?_
   replace HG:=AD (AA (AA HG g25) g27) g28 Fq
   replace AH:=h28
   refine AR (v:=.int .i64 101) F6 r6 fun a29 CY=>?_
   refine AE ?_
   refine k26 _ _ ?_
   refine AKT ?_
   repeat refine AK ?_
   refine Aw (fn:=Tryz.f61) CY (C4 (p:=2) (q:=3) Tryz.results61 CY rfl rfl rfl rfl (Ck V.nul) AH) ?_
   exact⟨IT (hf3 h1 h2),HG⟩
theorem AGs {w:World} {b:List Nat} {q:V×Int} {v:Value} (hv:SlB w 1 v b.length (bv b)) (hb:By b) (hl:b.length≤100000) (hq:I4 b=q):Calls Tryz.prog 61 #[v] w fun e w'=>e=.returned (.tuple #[B7 q.1,.int .i64 q.2])∧w.grownBy w' none:=by
 subst hq
 obtain⟨ao,cap,rfl,_⟩:=Sl.shape hv.1
 exact XZ b hb hl ao cap w hv
theorem Ht {P:List VP} {s:Sd} (h:EX s=false∨Cj P=false):Ei P s=(V.nul,1):=by
 unfold Ei
 rcases h with h|h<;>simp[h]
theorem Kn {P:List VP} {s:Sd} (h1:EX s=true) (h2:Cj P=true) (h3:s.own=[]):Ei P s=if ML s.addr s.body=s.tag then I4 s.body else (V.nul,101):=by
 unfold Ei
 simp[h1,h2,h3]
theorem P3 {P:List VP} {s:Sd} (h1:EX s=true) (h2:Cj P=true) (h3:s.own≠[]) (h4:FT P s=none):Ei P s=(V.nul,10):=by
 unfold Ei
 simp[h1,h2,h3,h4]
theorem NW {P:List VP} {s:Sd} {c:List Nat} (h1:EX s=true) (h2:Cj P=true) (h3:s.own≠[]) (h4:FT P s=some c):Ei P s=if LS c s.addr s.body=s.tag then I4 (IK s.body c) else (V.nul,101):=by
 unfold Ei
 simp[h1,h2,h3,h4]
theorem AAs {w:World} {ks:List VK} {vo:Option Addr} {vc:Nat} {sa po:List Nat} {P:List VP} {ad joint:Int} {od wd:List DD} {ao wo bo:Option Addr} {ac wc bc:Nat} {body tg:List Nat} {r:Option (List Nat)} {s:Sd} (hsa:Dg sa) (hpo:Dg po) (htg:Dg tg) (hr:RdK w (.slice vo ks.length vc) ks) (ho:RdD w (.slice ao od.length ac) od) (hw:RdD w (.slice wo wd.length wc) wd) (hb:SlB w 1 (.slice bo body.length bc) body.length (bv body)) (hP:ks.map VK.p=P) (hs:(⟨ad,od.map DD.x,joint,wd.map DD.x,body,tg⟩:Sd)=s) (hvs:EX s=true) (hres:FT P s=r) :
  Calls Tryz.prog 62 #[A8 sa po (.slice vo ks.length vc),BR ad (.slice ao od.length ac) joint (.slice wo wd.length wc) (.slice bo body.length bc) tg] w fun e w'=>∃u,e=.returned u∧(∃c,u=.tuple #[AQ c,.bool r.isSome]∧Dg c∧(∀c',r=some c'→c'=c)∧w.grownBy w' none):=by
 subst hs hP hres
 exact(Zg ks vo vc sa po hsa hpo ad joint od wd ao wo bo ac wc bc body tg htg w hr ho hw hb hvs).mono fun e w' ⟨c,h1,h2⟩=>⟨_,h1,c,rfl,h2⟩
theorem Xb {w:World} {ks:List VK} {vo:Option Addr} {vc:Nat} {sa po:List Nat} {P:List VP} {ad joint:Int} {od wd:List DD} {ao wo bo:Option Addr} {ac wc bc:Nat} {body tg:List Nat} {r:Option (List Nat)} {s:Sd} (hsa:Dg sa) (hpo:Dg po) (htg:Dg tg) (hr:RdK w (.slice vo ks.length vc) ks) (ho:RdD w (.slice ao od.length ac) od) (hw:RdD w (.slice wo wd.length wc) wd) (hb:SlB w 1 (.slice bo body.length bc) body.length (bv body)) (hP:ks.map VK.p=P) (hs:(⟨ad,od.map DD.x,joint,wd.map DD.x,body,tg⟩:Sd)=s) (hvs:EX s=true) (hres:FT P s=r) :
  Calls Tryz.prog 63 #[A8 sa po (.slice vo ks.length vc),BR ad (.slice ao od.length ac) joint (.slice wo wd.length wc) (.slice bo body.length bc) tg] w fun e w'=>∃u,e=.returned u∧(∃c,u=.tuple #[AQ c,.bool r.isSome]∧Dg c∧(∀c',r=some c'→c'=c)∧w.grownBy w' none):=by
 subst hs hP hres
 exact(XH ks vo vc sa po hsa hpo ad joint od wd ao wo bo ac wc bc body tg htg w hr ho hw hb hvs).mono fun e w' ⟨c,h1,h2⟩=>⟨_,h1,c,rfl,h2⟩
theorem M2 {w:World} {ad joint:Int} {od wd:List DD} {ao wo bo:Option Addr} {ac wc bc:Nat} {body tg:List Nat} {b:Bool} {s:Sd} (htg:Dg tg) (ho:RdD w (.slice ao od.length ac) od) (hw:RdD w (.slice wo wd.length wc) wd) (hb:SlB w 1 (.slice bo body.length bc) body.length (bv body)) (hs:(⟨ad,od.map DD.x,joint,wd.map DD.x,body,tg⟩:Sd)=s) (hvs:EX s=b) :
  Calls Tryz.prog 27 #[BR ad (.slice ao od.length ac) joint (.slice wo wd.length wc) (.slice bo body.length bc) tg] w fun e w'=>e=.returned (.bool b)∧w.grownBy w' none:=by
 subst hs hvs
 exact AF4 ad joint od wd ao wo bo ac wc bc body tg htg w ho hw hb
theorem P4 {w:World} {ad joint:Int} {od wd:List DD} {ao wo bo:Option Addr} {ac wc bc:Nat} {body tg:List Nat} {b:Bool} {s:Sd} (htg:Dg tg) (ho:RdD w (.slice ao od.length ac) od) (hw:RdD w (.slice wo wd.length wc) wd) (hb:SlB w 1 (.slice bo body.length bc) body.length (bv body)) (hs:(⟨ad,od.map DD.x,joint,wd.map DD.x,body,tg⟩:Sd)=s) (hvs:EX s=b) :
  Calls Tryz.prog 28 #[BR ad (.slice ao od.length ac) joint (.slice wo wd.length wc) (.slice bo body.length bc) tg] w fun e w'=>e=.returned (.bool b)∧w.grownBy w' none:=by
 subst hs hvs
 exact ADu ad joint od wd ao wo bo ac wc bc body tg htg w ho hw hb
theorem ACA (ks:List VK) (vo:Option Addr) (vc_:Nat) (sa po:List Nat) (hsa:Dg sa) (hpo:Dg po) (ad joint:Int) (od wd:List DD) (ao wo bo:Option Addr) (ac wc bc:Nat) (body tg:List Nat) (htg:Dg tg) (bby:By body) (w:World) (hr:RdK w (.slice vo ks.length vc_) ks) (ho:RdD w (.slice ao od.length ac) od) (hw:RdD w (.slice wo wd.length wc) wd) (hb:SlB w 1 (.slice bo body.length bc) body.length (bv body)) :
   Calls Tryz.prog 22 #[A8 sa po (.slice vo ks.length vc_),BR ad (.slice ao od.length ac) joint (.slice wo wd.length wc) (.slice bo body.length bc) tg] w fun e w'=>e=.returned (.tuple #[B7 (Ei (ks.map VK.p) ⟨ad,od.map DD.x,joint,wd.map DD.x,body,tg⟩).1,.int .i64 (Ei (ks.map VK.p) ⟨ad,od.map DD.x,joint,wd.map DD.x,body,tg⟩).2])∧w.grownBy w' none:=by
 obtain⟨P,hP⟩:∃P,ks.map VK.p=P:=⟨_,rfl⟩
 obtain⟨S,hS⟩:∃S:Sd,⟨ad,od.map DD.x,joint,wd.map DD.x,body,tg⟩=S:=⟨_,rfl⟩
 have s1:S.addr=ad:=by rw[←hS]
 have s2:S.own=od.map DD.x:=by rw[←hS]
 have s3:S.body=body:=by rw[←hS]
 have s4:S.tag=tg:=by rw[←hS]
 rw[hP,hS]
 refine Dy Tryz.func22 rfl Tryz.ntmps22 rfl fun a0 sv0=>?_
 have HG:=World.grownBy.refl w none
 replace sv0:Sv 62 [] [(0,A8 sa po (.slice vo ks.length vc_)),(1,BR ad (.slice ao od.length ac) joint (.slice wo wd.length wc) (.slice bo body.length bc) tg)] a0:=sv0
 refine AKQ fun K1 k1=>?_
 refine AKP ?_
 refine Be sv0 r6 (CX hsa hpo (.slice vo ks.length vc_) rfl) fun a2 w2 CP DG g2 z2 AH sv2=>?_
 refine Be sv2 r6 (Df _ _ htg (.slice ao od.length ac) (.slice wo wd.length wc) (.slice bo body.length bc) rfl rfl rfl) fun a3 w3 BO Dw g3 z3 AG sv3=>?_
 replace AH:=AC g3 AH
 replace hr:=(hr.kn g2).kn g3
 replace ho:=(ho.kn g2).kn g3
 replace hw:=(hw.kn g2).kn g3
 replace hb:=(hb.kn g2).kn g3
 replace HG:=AA (AA HG g2) g3
 refine BB (T:=25) (Z:=[.int .i64 0,.int .i64 0,.string ⟨#[]⟩]) sv3 rfl rfl rfl (fun a w=>by kernel_rfl) fun a4 w4 FS Bk g4 z4 AM sv4=>?_
 have A9:=As AH Bk
 have BA:=As AG Bk
 have Bn:=Bq HG Bk
 have Bm:=Ay (hr.lt) Bk
 have Br:=Ay (ho.lt) Bk
 have Bt:=Ay (hw.lt) Bk
 have Bo:=Ay (hb.lt) Bk
 replace AH:=AC g4 AH
 replace AG:=AC g4 AG
 replace hr:=hr.kn g4
 replace ho:=ho.kn g4
 replace hw:=hw.kn g4
 replace hb:=hb.kn g4
 replace HG:=AA HG g4
 refine BB (T:=38) (Z:=[.int .i64 0]) sv4 rfl rfl rfl (fun a w=>by kernel_rfl) fun a5 w5 WF Eh g5 z5 BE sv5=>?_
 have Cf:=As AH Eh
 have Cx:=As AG Eh
 have BQ:=As AM Eh
 have Ew:=Bq HG Eh
 have Er:=Ay (hr.lt) Eh
 have GK:=Ay (ho.lt) Eh
 have GL:=Ay (hw.lt) Eh
 have FV:=Ay (hb.lt) Eh
 replace AH:=AC g5 AH
 replace AG:=AC g5 AG
 replace AM:=AC g5 AM
 replace hr:=hr.kn g5
 replace ho:=ho.kn g5
 replace hw:=hw.kn g5
 replace hb:=hb.kn g5
 replace HG:=AA HG g5
 refine AE ?_
 refine k1 _ _ ?_
 refine AKQ fun K6 k6=>?_
 refine AKP ?_
 refine Gm sv5 rfl rfl rfl rfl rfl rfl fun a7 sv7=>?_
 refine Eo sv7 rfl (dd:={ target:=.fn (.func 60) #[pt FS,pt WF],args:=#[] }) rfl (by have e1:=sv7.ev (x:=.tmp 8) rfl rfl;simp[execOp,resolve,Deferred.ofValue,e1];try rfl) fun a8 sv8=>?_
 refine AE ?_
 refine k6 _ _ ?_
 refine AKQ fun K9 k9=>?_
 refine AKQ fun K10 k10=>?_
 rcases(show(EX S=false∧Cj P=false)∨(EX S=false∧Cj P=true)∨(EX S=true∧Cj P=false)∨(EX S=true∧Cj P=true) by cases EX S<;>cases Cj P<;>simp) with ⟨hh,hv⟩|⟨hh,hv⟩|⟨hh,hv⟩|⟨hh,hv⟩
 · refine AKP ?_
   refine AJ sv8 8 [(9,BR ad (.slice ao od.length ac) joint (.slice wo wd.length wc) (.slice bo body.length bc) tg),(10,.bool false),(11,.bool true),(12,.bool true),(13,undef),(14,undef),(15,undef),(16,.bool true)]
     ⟨yl r6 (Df _ _ htg (.slice ao od.length ac) (.slice wo wd.length wc) (.slice bo body.length bc) rfl rfl rfl) AG,Al [BR ad (.slice ao od.length ac) joint (.slice wo wd.length wc) (.slice bo body.length bc) tg] Tryz.func27 (by kernel_rfl) rq4 ⟨(oy rfl rfl),AKW⟩ (A7 fun W g=>M2 htg (ho.kn g) (hw.kn g) (hb.kn g) hS hh),C3 r6 (fun _=>Bi),ym r5,AN r6,AN r6,AN r6,A1 r7,AKW⟩ fun a11 w11 g11 Bv=>?_
   refine AE ?_
   refine k10 _ _ ?_
   refine Ar Bv rfl rfl ?_
   refine AKQ fun K12 k12=>?_
   refine AKP ?_
   replace AM:=AC g11 AM
   refine AJ Bv 1 [(17,B7 V.nul)]
     ⟨BM (vs:=[]) rfl rfl trivial trivial (fun _=>F8 _) (fun _=>rfl),AKW⟩ fun a13 w13 g13 Cg=>?_
   refine Av Cg r7 (Ck V.nul) (AC g13 AM) rfl fun w14 g14 h14=>?_
   replace BE:=Ag g13 g14 (AC g11 BE) BQ
   refine Av Cg r7 (E9 1) BE rfl fun w15 g15 h15=>?_
   replace AH:=AZ g15 (Ag g13 g14 (AC g11 AH) (Ne.symm A9)) (Ne.symm Cf)
   replace AG:=AZ g15 (Ag g13 g14 (AC g11 AG) (Ne.symm BA)) (Ne.symm Cx)
   replace AM:=AZ g15 h14 (Ne.symm BQ)
   replace hr:=(((hr.kn g11).kn g13).offR g14 (AP Bm)).offR g15 (AP Er)
   replace ho:=(((ho.kn g11).kn g13).offR g14 (AP Br)).offR g15 (AP GK)
   replace hw:=(((hw.kn g11).kn g13).offR g14 (AP Bt)).offR g15 (AP GL)
   replace hb:=(((hb.kn g11).kn g13).offR g14 (AP Bo)).offR g15 (AP FV)
   replace HG:=AD (AD (AA (AA HG g11) g13) g14 Bn) g15 Ew
   replace BE:=h15
   refine AE ?_
   refine k12 _ _ ?_
   refine AKT ?_
   repeat refine AK ?_
   refine Bj (fn:=Tryz.f22) Cg (CC (p:=4) (q:=5) Tryz.results22 Cg rfl rfl rfl rfl (Ck V.nul) (E9 1) AM BE) (CH Tryz.func60 (by kernel_rfl) rfl _ _) (Ds _ _ _) ?_
   exact⟨IT (Ht (.inl hh)),HG⟩
 · refine AKP ?_
   refine AJ sv8 8 [(9,BR ad (.slice ao od.length ac) joint (.slice wo wd.length wc) (.slice bo body.length bc) tg),(10,.bool false),(11,.bool true),(12,.bool true),(13,undef),(14,undef),(15,undef),(16,.bool true)]
     ⟨yl r6 (Df _ _ htg (.slice ao od.length ac) (.slice wo wd.length wc) (.slice bo body.length bc) rfl rfl rfl) AG,Al [BR ad (.slice ao od.length ac) joint (.slice wo wd.length wc) (.slice bo body.length bc) tg] Tryz.func27 (by kernel_rfl) rq4 ⟨(oy rfl rfl),AKW⟩ (A7 fun W g=>M2 htg (ho.kn g) (hw.kn g) (hb.kn g) hS hh),C3 r6 (fun _=>Bi),ym r5,AN r6,AN r6,AN r6,A1 r7,AKW⟩ fun a16 w16 g16 Cr=>?_
   refine AE ?_
   refine k10 _ _ ?_
   refine Ar Cr rfl rfl ?_
   refine AKQ fun K17 k17=>?_
   refine AKP ?_
   replace AM:=AC g16 AM
   refine AJ Cr 1 [(17,B7 V.nul)]
     ⟨BM (vs:=[]) rfl rfl trivial trivial (fun _=>F8 _) (fun _=>rfl),AKW⟩ fun a18 w18 g18 CQ=>?_
   refine Av CQ r7 (Ck V.nul) (AC g18 AM) rfl fun w19 g19 h19=>?_
   replace BE:=Ag g18 g19 (AC g16 BE) BQ
   refine Av CQ r7 (E9 1) BE rfl fun w20 g20 h20=>?_
   replace AH:=AZ g20 (Ag g18 g19 (AC g16 AH) (Ne.symm A9)) (Ne.symm Cf)
   replace AG:=AZ g20 (Ag g18 g19 (AC g16 AG) (Ne.symm BA)) (Ne.symm Cx)
   replace AM:=AZ g20 h19 (Ne.symm BQ)
   replace hr:=(((hr.kn g16).kn g18).offR g19 (AP Bm)).offR g20 (AP Er)
   replace ho:=(((ho.kn g16).kn g18).offR g19 (AP Br)).offR g20 (AP GK)
   replace hw:=(((hw.kn g16).kn g18).offR g19 (AP Bt)).offR g20 (AP GL)
   replace hb:=(((hb.kn g16).kn g18).offR g19 (AP Bo)).offR g20 (AP FV)
   replace HG:=AD (AD (AA (AA HG g16) g18) g19 Bn) g20 Ew
   replace BE:=h20
   refine AE ?_
   refine k17 _ _ ?_
   refine AKT ?_
   repeat refine AK ?_
   refine Bj (fn:=Tryz.f22) CQ (CC (p:=4) (q:=5) Tryz.results22 CQ rfl rfl rfl rfl (Ck V.nul) (E9 1) AM BE) (CH Tryz.func60 (by kernel_rfl) rfl _ _) (Ds _ _ _) ?_
   exact⟨IT (Ht (.inl hh)),HG⟩
 · refine AKP ?_
   refine AJ sv8 8 [(9,BR ad (.slice ao od.length ac) joint (.slice wo wd.length wc) (.slice bo body.length bc) tg),(10,.bool true),(11,.bool false),(12,.bool false),(13,A8 sa po (.slice vo ks.length vc_)),(14,.bool false),(15,.bool true),(16,.bool true)]
     ⟨yl r6 (Df _ _ htg (.slice ao od.length ac) (.slice wo wd.length wc) (.slice bo body.length bc) rfl rfl rfl) AG,Al [BR ad (.slice ao od.length ac) joint (.slice wo wd.length wc) (.slice bo body.length bc) tg] Tryz.func27 (by kernel_rfl) rq4 ⟨(oy rfl rfl),AKW⟩ (A7 fun W g=>M2 htg (ho.kn g) (hw.kn g) (hb.kn g) hS hh),C3 r6 (fun _=>Bi),ym r5,Ai rq9 (fun _ g=>AY (CX hsa hpo (.slice vo ks.length vc_) rfl) (Aj (AF g AH (by simp)))),B8 [A8 sa po (.slice vo ks.length vc_)] Tryz.func51 (by kernel_rfl) r7 ⟨(oy rfl rfl),AKW⟩ (A7 fun W g=>Mg hsa hpo (hr.kn g) hP hv),IA rfl rfl (gy rfl rfl rfl) (oy rfl rfl) (fun _=>Bi) (fun _=>rfl),Aa rq9,AKW⟩ fun a21 w21 g21 CK=>?_
   refine AE ?_
   refine k10 _ _ ?_
   refine Ar CK rfl rfl ?_
   refine AKQ fun K22 k22=>?_
   refine AKP ?_
   replace AM:=AC g21 AM
   refine AJ CK 1 [(17,B7 V.nul)]
     ⟨BM (vs:=[]) rfl rfl trivial trivial (fun _=>F8 _) (fun _=>rfl),AKW⟩ fun a23 w23 g23 Cl=>?_
   refine Av Cl r7 (Ck V.nul) (AC g23 AM) rfl fun w24 g24 h24=>?_
   replace BE:=Ag g23 g24 (AC g21 BE) BQ
   refine Av Cl r7 (E9 1) BE rfl fun w25 g25 h25=>?_
   replace AH:=AZ g25 (Ag g23 g24 (AC g21 AH) (Ne.symm A9)) (Ne.symm Cf)
   replace AG:=AZ g25 (Ag g23 g24 (AC g21 AG) (Ne.symm BA)) (Ne.symm Cx)
   replace AM:=AZ g25 h24 (Ne.symm BQ)
   replace hr:=(((hr.kn g21).kn g23).offR g24 (AP Bm)).offR g25 (AP Er)
   replace ho:=(((ho.kn g21).kn g23).offR g24 (AP Br)).offR g25 (AP GK)
   replace hw:=(((hw.kn g21).kn g23).offR g24 (AP Bt)).offR g25 (AP GL)
   replace hb:=(((hb.kn g21).kn g23).offR g24 (AP Bo)).offR g25 (AP FV)
   replace HG:=AD (AD (AA (AA HG g21) g23) g24 Bn) g25 Ew
   replace BE:=h25
   refine AE ?_
   refine k22 _ _ ?_
   refine AKT ?_
   repeat refine AK ?_
   refine Bj (fn:=Tryz.f22) Cl (CC (p:=4) (q:=5) Tryz.results22 Cl rfl rfl rfl rfl (Ck V.nul) (E9 1) AM BE) (CH Tryz.func60 (by kernel_rfl) rfl _ _) (Ds _ _ _) ?_
   exact⟨IT (Ht (.inr hv)),HG⟩
 · have hb64:body.length≤64:=s3▸AD5 hh
   have hia:MM ad:=by have:=(Wa (UE hh)).1;rw[s1] at this;exact⟨by omega,by omega⟩
   refine AKP ?_
   refine AJ sv8 8 [(9,BR ad (.slice ao od.length ac) joint (.slice wo wd.length wc) (.slice bo body.length bc) tg),(10,.bool true),(11,.bool false),(12,.bool false),(13,A8 sa po (.slice vo ks.length vc_)),(14,.bool true),(15,.bool false),(16,.bool false)]
     ⟨yl r6 (Df _ _ htg (.slice ao od.length ac) (.slice wo wd.length wc) (.slice bo body.length bc) rfl rfl rfl) AG,Al [BR ad (.slice ao od.length ac) joint (.slice wo wd.length wc) (.slice bo body.length bc) tg] Tryz.func27 (by kernel_rfl) rq4 ⟨(oy rfl rfl),AKW⟩ (A7 fun W g=>M2 htg (ho.kn g) (hw.kn g) (hb.kn g) hS hh),C3 r6 (fun _=>Bi),ym r5,Ai rq9 (fun _ g=>AY (CX hsa hpo (.slice vo ks.length vc_) rfl) (Aj (AF g AH (by simp)))),B8 [A8 sa po (.slice vo ks.length vc_)] Tryz.func51 (by kernel_rfl) r7 ⟨(oy rfl rfl),AKW⟩ (A7 fun W g=>Mg hsa hpo (hr.kn g) hP hv),IA rfl rfl (gy rfl rfl rfl) (oy rfl rfl) (fun _=>Bi) (fun _=>rfl),Aa rq9,AKW⟩ fun a26 w26 g26 Cy=>?_
   refine AE ?_
   refine k10 _ _ ?_
   refine A2 Cy rfl rfl ?_
   refine AKU ?_
   refine k9 _ _ ?_
   refine AKQ fun K27 k27=>?_
   refine AKQ fun K28 k28=>?_
   replace AH:=AC g26 AH
   replace AG:=AC g26 AG
   replace AM:=AC g26 AM
   replace BE:=AC g26 BE
   replace hr:=hr.kn g26
   replace ho:=ho.kn g26
   replace hw:=hw.kn g26
   replace hb:=hb.kn g26
   replace HG:=AA HG g26
   rcases Nat.eq_zero_or_pos od.length with hz|hz
   · have hnil:S.own=[]:=by rw[s2,List.eq_nil_of_length_eq_zero hz];rfl
     have hopen:=Kn hh hv hnil
     rw[s1,s3,s4] at hopen
     refine AKP ?_
     refine AJ Cy 4 [(18,pk BO 1),(19,.slice ao od.length ac),(20,.int .i64 ((od.length:Nat))),(21,.bool true)]
       ⟨yf r6 (fun _=>by kernel_rfl),yp (i:=1) r6 (D4 (.slice ao od.length ac) rfl) AG rfl rfl,Au (Tryz.underlying28) rfl rfl trivial (oy rfl rfl) (fun _=>rfl),Cp r6 (fun _=>BU (JE (by omega))),AKW⟩ fun a29 w29 g29 CY=>?_
     refine AE ?_
     refine k28 _ _ ?_
     refine Ar CY rfl rfl ?_
     refine AKQ fun K30 k30=>?_
     refine AKQ fun K31 k31=>?_
     replace AH:=AC g29 AH
     replace AG:=AC g29 AG
     replace AM:=AC g29 AM
     replace BE:=AC g29 BE
     replace hr:=hr.kn g29
     replace ho:=ho.kn g29
     replace hw:=hw.kn g29
     replace hb:=hb.kn g29
     replace HG:=AA HG g29
     by_cases htt:ML ad body=tg
     · rw[if_pos htt] at hopen
       obtain⟨dq,hdq⟩:∃q,I4 body=q:=⟨_,rfl⟩
       rw[hdq] at hopen
       refine DU CY [(22,pk BO 5),(23,AQ tg),(24,pt BO),(25,.int .i64 ad),(26,pk BO 4),(27,.slice bo body.length bc),(28,AQ ((ML ad body))),(29,.bool false)]
         ⟨yf r6 (fun _=>by kernel_rfl),yp (i:=5) r6 (Bb tg htg.1) AG rfl rfl,yf r6 (fun _=>by kernel_rfl),yp (i:=0) r6 (Dr ad) AG rfl rfl,yf r6 (fun _=>by kernel_rfl),yp (i:=4) r6 (Di (.slice bo body.length bc) rfl) AG rfl rfl,Al [.int .i64 ad,.slice bo body.length bc] Tryz.func54 (by kernel_rfl) rq4 ⟨(oy rfl rfl),(oy rfl rfl),AKW⟩ (A7 fun W g=>I2 ad hia body bby (by omega) _ _ _ (hb.kn g)),FG r7 (fun _=>(Ef htg (DM ad body) _ _ _).2.trans (by rw[decide_eq_true (htt.symm)];rfl)),AKW⟩ fun a32 w32 g32 Dm=>?_
       refine k31 _ _ ?_
       refine A2 Dm rfl rfl ?_
       refine AKU ?_
       refine k30 _ _ ?_
       refine AKQ fun K33 k33=>?_
       refine AKP ?_
       refine AJ Dm 2 [(31,pk BO 4),(32,.slice bo body.length bc)]
         ⟨yf r6 (fun _=>by kernel_rfl),yp (i:=4) r6 (Di (.slice bo body.length bc) rfl) (AC g32 AG) rfl rfl,AKW⟩ fun a34 w34 g34 FI=>?_
       have UW:=AA g32 g34
       replace hb:=hb.kn UW
       refine BD FI Tryz.func61 (by kernel_rfl) r6 (I1 (AGs hb bby (by omega) hdq)) fun a35 v35 w35 hR35 Iz=>?_
       obtain⟨rfl,g35⟩:=hR35
       replace AM:=AC g35 (AC UW AM)
       refine AJ Iz 2 [(34,B7 dq.1),(35,.int .i64 dq.2)]
         ⟨BZ rq4 (fun _ _ h=>⟨_,_,h,rfl,rfl⟩),BZ rq4 (fun _ _ h=>⟨_,_,h,rfl,rfl⟩),AKW⟩ fun a36 w36 g36 Ep=>?_
       refine Av Ep r7 (Ck dq.1) (AC g36 AM) rfl fun w37 g37 h37=>?_
       replace BE:=Ag g36 g37 (AC g35 (AC UW BE)) BQ
       refine Av Ep r7 (E9 dq.2) BE rfl fun w38 g38 h38=>?_
       replace AH:=AZ g38 (Ag g36 g37 (AC g35 (AC UW AH)) (Ne.symm A9)) (Ne.symm Cf)
       replace AG:=AZ g38 (Ag g36 g37 (AC g35 (AC UW AG)) (Ne.symm BA)) (Ne.symm Cx)
       replace AM:=AZ g38 h37 (Ne.symm BQ)
       replace hr:=((((hr.kn UW).kn g35).kn g36).offR g37 (AP Bm)).offR g38 (AP Er)
       replace ho:=((((ho.kn UW).kn g35).kn g36).offR g37 (AP Br)).offR g38 (AP GK)
       replace hw:=((((hw.kn UW).kn g35).kn g36).offR g37 (AP Bt)).offR g38 (AP GL)
       replace hb:=(((hb.kn g35).kn g36).offR g37 (AP Bo)).offR g38 (AP FV)
       replace HG:=AD (AD (AA (AA (AA HG UW) g35) g36) g37 Bn) g38 Ew
       replace BE:=h38
       have LP:Sv _ _ [_,_,_,_,_,_,_,_,_,_,_,_,_,_,_,_,_,_,_,_,_,_,_,_,_,_,_] _:=Ep.dl [34,35,33,31,32]
       refine AE ?_
       refine k33 _ _ ?_
       refine AKT ?_
       repeat refine AK ?_
       refine Bj (fn:=Tryz.f22) LP (CC (p:=4) (q:=5) Tryz.results22 LP rfl rfl rfl rfl (Ck dq.1) (E9 dq.2) AM BE) (CH Tryz.func60 (by kernel_rfl) rfl _ _) (Ds _ _ _) ?_
       exact⟨IT (hopen),HG⟩
     · rw[if_neg htt] at hopen
       refine DU CY [(22,pk BO 5),(23,AQ tg),(24,pt BO),(25,.int .i64 ad),(26,pk BO 4),(27,.slice bo body.length bc),(28,AQ ((ML ad body))),(29,.bool true)]
         ⟨yf r6 (fun _=>by kernel_rfl),yp (i:=5) r6 (Bb tg htg.1) AG rfl rfl,yf r6 (fun _=>by kernel_rfl),yp (i:=0) r6 (Dr ad) AG rfl rfl,yf r6 (fun _=>by kernel_rfl),yp (i:=4) r6 (Di (.slice bo body.length bc) rfl) AG rfl rfl,Al [.int .i64 ad,.slice bo body.length bc] Tryz.func54 (by kernel_rfl) rq4 ⟨(oy rfl rfl),(oy rfl rfl),AKW⟩ (A7 fun W g=>I2 ad hia body bby (by omega) _ _ _ (hb.kn g)),FG r7 (fun _=>(Ef htg (DM ad body) _ _ _).2.trans (by rw[decide_eq_false ((fun h=>htt h.symm))];rfl)),AKW⟩ fun a40 w40 g40 IG=>?_
       refine k31 _ _ ?_
       refine Ar IG rfl rfl ?_
       refine AKQ fun K41 k41=>?_
       refine AKP ?_
       replace AM:=AC g40 AM
       refine AJ IG 1 [(30,B7 V.nul)]
         ⟨BM (vs:=[]) rfl rfl trivial trivial (fun _=>F8 _) (fun _=>rfl),AKW⟩ fun a42 w42 g42 Gp=>?_
       refine Av Gp r7 (Ck V.nul) (AC g42 AM) rfl fun w43 g43 h43=>?_
       replace BE:=Ag g42 g43 (AC g40 BE) BQ
       refine Av Gp r7 (E9 101) BE rfl fun w44 g44 h44=>?_
       replace AH:=AZ g44 (Ag g42 g43 (AC g40 AH) (Ne.symm A9)) (Ne.symm Cf)
       replace AG:=AZ g44 (Ag g42 g43 (AC g40 AG) (Ne.symm BA)) (Ne.symm Cx)
       replace AM:=AZ g44 h43 (Ne.symm BQ)
       replace hr:=(((hr.kn g40).kn g42).offR g43 (AP Bm)).offR g44 (AP Er)
       replace ho:=(((ho.kn g40).kn g42).offR g43 (AP Br)).offR g44 (AP GK)
       replace hw:=(((hw.kn g40).kn g42).offR g43 (AP Bt)).offR g44 (AP GL)
       replace hb:=(((hb.kn g40).kn g42).offR g43 (AP Bo)).offR g44 (AP FV)
       replace HG:=AD (AD (AA (AA HG g40) g42) g43 Bn) g44 Ew
       replace BE:=h44
       refine AE ?_
       refine k41 _ _ ?_
       refine AKT ?_
       repeat refine AK ?_
       refine Bj (fn:=Tryz.f22) Gp (CC (p:=4) (q:=5) Tryz.results22 Gp rfl rfl rfl rfl (Ck V.nul) (E9 101) AM BE) (CH Tryz.func60 (by kernel_rfl) rfl _ _) (Ds _ _ _) ?_
       exact⟨IT (hopen),HG⟩
   · have hne:S.own≠[]:=fun h=>by rw[s2] at h;have h2:od.length=0:=(List.length_map _).symm.trans (congrArg List.length h);omega
     refine AKP ?_
     refine AJ Cy 4 [(18,pk BO 1),(19,.slice ao od.length ac),(20,.int .i64 ((od.length:Nat))),(21,.bool false)]
       ⟨yf r6 (fun _=>by kernel_rfl),yp (i:=1) r6 (D4 (.slice ao od.length ac) rfl) AG rfl rfl,Au (Tryz.underlying28) rfl rfl trivial (oy rfl rfl) (fun _=>rfl),Cp r6 (fun _=>BU (HH (by omega))),AKW⟩ fun a45 w45 g45 E8=>?_
     refine AE ?_
     refine k28 _ _ ?_
     refine A2 E8 rfl rfl ?_
     refine AKU ?_
     refine k27 _ _ ?_
     refine AKQ fun K46 k46=>?_
     replace AH:=AC g45 AH
     replace AG:=AC g45 AG
     replace AM:=AC g45 AM
     replace BE:=AC g45 BE
     replace hr:=hr.kn g45
     replace ho:=ho.kn g45
     replace hw:=hw.kn g45
     replace hb:=hb.kn g45
     replace HG:=AA HG g45
     rcases(show FT P S=none∨∃c,FT P S=some c by cases FT P S<;>simp) with hrec|⟨c,hrec⟩
     · refine AKP ?_
       refine AJ E8 2 [(37,A8 sa po (.slice vo ks.length vc_)),(38,BR ad (.slice ao od.length ac) joint (.slice wo wd.length wc) (.slice bo body.length bc) tg)]
         ⟨yl r6 (CX hsa hpo (.slice vo ks.length vc_) rfl) AH,yl r6 (Df _ _ htg (.slice ao od.length ac) (.slice wo wd.length wc) (.slice bo body.length bc) rfl rfl rfl) AG,AKW⟩ fun a47 w47 g47 NH=>?_
       replace hr:=hr.kn g47
       replace ho:=ho.kn g47
       replace hw:=hw.kn g47
       replace hb:=hb.kn g47
       refine BD NH Tryz.func62 (by kernel_rfl) r6 (AAs hsa hpo htg hr ho hw hb hP hS hh hrec) fun a48 v48 w48 hR48 UI=>?_
       obtain⟨cz,rfl,hcd,_,g48⟩:=hR48
       refine AJ UI 3 [(36,.tuple #[AQ cz,.bool false]),(40,AQ cz),(41,.bool false)]
         ⟨ym r5,BZ rq4 (fun _ _ h=>⟨_,_,h,rfl,rfl⟩),BZ rq4 (fun _ _ h=>⟨_,_,h,rfl,rfl⟩),AKW⟩ fun a49 w49 g49 LQ=>?_
       replace AH:=AC g49 (AC g48 (AC g47 AH))
       replace AG:=AC g49 (AC g48 (AC g47 AG))
       replace AM:=AC g49 (AC g48 (AC g47 AM))
       replace BE:=AC g49 (AC g48 (AC g47 BE))
       replace hr:=(hr.kn g48).kn g49
       replace ho:=(ho.kn g48).kn g49
       replace hw:=(hw.kn g48).kn g49
       replace hb:=(hb.kn g48).kn g49
       replace HG:=AA (AA (AA HG g47) g48) g49
       refine BB (T:=23) (Z:=(bv AS)) LQ rfl rfl rfl (fun a w=>by kernel_rfl) fun a50 w50 AJ2 Fz g50 z50 AHy NI=>?_
       have RY:=As AH Fz
       have RZ:=As AG Fz
       have Ra:=As AM Fz
       have Rb:=As BE Fz
       have AEQ:=Bq HG Fz
       have Xc:=Ay (hr.lt) Fz
       have Xd:=Ay (ho.lt) Fz
       have Xe:=Ay (hw.lt) Fz
       have Xf:=Ay (hb.lt) Fz
       refine Av NI r7 (Bb cz hcd.1) AHy (Dk hcd) fun w51 g51 h51=>?_
       refine AR (v:=.bool false) NI r6 fun a52 PQ=>?_
       have N9:Sv _ _ [_,_,_,_,_,_,_,_,_,_,_,_,_,_,_,_,_,_,_,_,_] _:=PQ.dl [36,40,41,39,37,38]
       refine AE ?_
       refine k46 _ _ ?_
       refine AKQ fun K54 k54=>?_
       refine AKQ fun K55 k55=>?_
       refine AKP ?_
       refine AJ N9 2 [(42,.bool false),(43,.bool true)]
         ⟨ym r5,C3 r6 (fun _=>Bi),AKW⟩ fun a56 w56 g56 Pg=>?_
       refine AE ?_
       refine k55 _ _ ?_
       refine Ar Pg rfl rfl ?_
       refine AKQ fun K57 k57=>?_
       refine AKP ?_
       replace AM:=AC g56 (AZ g51 (AC g50 AM) (Ne.symm Ra))
       refine AJ Pg 1 [(44,B7 V.nul)]
         ⟨BM (vs:=[]) rfl rfl trivial trivial (fun _=>F8 _) (fun _=>rfl),AKW⟩ fun a58 w58 g58 Qk=>?_
       refine Av Qk r7 (Ck V.nul) (AC g58 AM) rfl fun w59 g59 h59=>?_
       replace BE:=Ag g58 g59 (AC g56 (AZ g51 (AC g50 BE) (Ne.symm Rb))) BQ
       refine Av Qk r7 (E9 10) BE rfl fun w60 g60 h60=>?_
       replace AH:=AZ g60 (Ag g58 g59 (AC g56 (AZ g51 (AC g50 AH) (Ne.symm RY))) (Ne.symm A9)) (Ne.symm Cf)
       replace AG:=AZ g60 (Ag g58 g59 (AC g56 (AZ g51 (AC g50 AG) (Ne.symm RZ))) (Ne.symm BA)) (Ne.symm Cx)
       replace AM:=AZ g60 h59 (Ne.symm BQ)
       replace hr:=(((((hr.kn g50).offR g51 (AP Xc)).kn g56).kn g58).offR g59 (AP Bm)).offR g60 (AP Er)
       replace ho:=(((((ho.kn g50).offR g51 (AP Xd)).kn g56).kn g58).offR g59 (AP Br)).offR g60 (AP GK)
       replace hw:=(((((hw.kn g50).offR g51 (AP Xe)).kn g56).kn g58).offR g59 (AP Bt)).offR g60 (AP GL)
       replace hb:=(((((hb.kn g50).offR g51 (AP Xf)).kn g56).kn g58).offR g59 (AP Bo)).offR g60 (AP FV)
       replace HG:=AD (AD (AA (AA (AD (AA HG g50) g51 AEQ) g56) g58) g59 Bn) g60 Ew
       replace BE:=h60
       refine AE ?_
       refine k57 _ _ ?_
       refine AKT ?_
       repeat refine AK ?_
       refine Bj (fn:=Tryz.f22) Qk (CC (p:=4) (q:=5) Tryz.results22 Qk rfl rfl rfl rfl (Ck V.nul) (E9 10) AM BE) (CH Tryz.func60 (by kernel_rfl) rfl _ _) (Ds _ _ _) ?_
       exact⟨IT (P3 hh hv hne hrec),HG⟩
     · have hopen:=NW hh hv hne hrec
       rw[s1,s3,s4] at hopen
       refine AKP ?_
       refine AJ E8 2 [(37,A8 sa po (.slice vo ks.length vc_)),(38,BR ad (.slice ao od.length ac) joint (.slice wo wd.length wc) (.slice bo body.length bc) tg)]
         ⟨yl r6 (CX hsa hpo (.slice vo ks.length vc_) rfl) AH,yl r6 (Df _ _ htg (.slice ao od.length ac) (.slice wo wd.length wc) (.slice bo body.length bc) rfl rfl rfl) AG,AKW⟩ fun a61 w61 g61 Wb=>?_
       replace hr:=hr.kn g61
       replace ho:=ho.kn g61
       replace hw:=hw.kn g61
       replace hb:=hb.kn g61
       refine BD Wb Tryz.func62 (by kernel_rfl) r6 (AAs hsa hpo htg hr ho hw hb hP hS hh hrec) fun a62 v62 w62 hR62 AGI=>?_
       obtain⟨cz,rfl,hcd,hcc,g62⟩:=hR62
       obtain rfl:=hcc c rfl
       refine AJ AGI 3 [(36,.tuple #[AQ c,.bool true]),(40,AQ c),(41,.bool true)]
         ⟨ym r5,BZ rq4 (fun _ _ h=>⟨_,_,h,rfl,rfl⟩),BZ rq4 (fun _ _ h=>⟨_,_,h,rfl,rfl⟩),AKW⟩ fun a63 w63 g63 OD=>?_
       replace AG:=AC g63 (AC g62 (AC g61 AG))
       replace AM:=AC g63 (AC g62 (AC g61 AM))
       replace BE:=AC g63 (AC g62 (AC g61 BE))
       replace hb:=(hb.kn g62).kn g63
       replace HG:=AA (AA (AA HG g61) g62) g63
       refine BB (T:=23) (Z:=(bv AS)) OD rfl rfl rfl (fun a w=>by kernel_rfl) fun a64 w64 AJ3 Ko g64 z64 MI AEB=>?_
       have Rc:=As AG Ko
       have Lh:=As AM Ko
       have Li:=As BE Ko
       have AER:=Bq HG Ko
       have Xg:=Ay (hb.lt) Ko
       refine Av AEB r7 (Bb c hcd.1) MI (Dk hcd) fun w65 g65 h65=>?_
       refine AR (v:=.bool true) AEB r6 fun a66 AHw=>?_
       have Zj:Sv _ _ [_,_,_,_,_,_,_,_,_,_,_,_,_,_,_,_,_,_,_,_,_] _:=AHw.dl [36,40,41,39,37,38]
       refine AE ?_
       refine k46 _ _ ?_
       refine AKQ fun K68 k68=>?_
       refine AKQ fun K69 k69=>?_
       refine AKP ?_
       refine AJ Zj 2 [(42,.bool true),(43,.bool false)]
         ⟨ym r5,C3 r6 (fun _=>Bi),AKW⟩ fun a70 w70 g70 OO=>?_
       refine AE ?_
       refine k69 _ _ ?_
       refine A2 OO rfl rfl ?_
       refine AKU ?_
       refine k68 _ _ ?_
       refine AKQ fun K71 k71=>?_
       refine AKQ fun K72 k72=>?_
       replace AG:=AC g70 (AZ g65 (AC g64 AG) (Ne.symm Rc))
       replace AM:=AC g70 (AZ g65 (AC g64 AM) (Ne.symm Lh))
       replace BE:=AC g70 (AZ g65 (AC g64 BE) (Ne.symm Li))
       replace MI:=AC g70 h65
       replace hb:=((hb.kn g64).offR g65 (AP Xg)).kn g70
       replace HG:=AA (AD (AA HG g64) g65 AER) g70
       by_cases htt:LS c ad body=tg
       · rw[if_pos htt] at hopen
         obtain⟨dq,hdq⟩:∃q,I4 (IK body c)=q:=⟨_,rfl⟩
         rw[hdq] at hopen
         refine DU OO [(45,pk BO 5),(46,AQ tg),(47,AQ c),(48,pt BO),(49,.int .i64 ad),(50,pk BO 4),(51,.slice bo body.length bc),(52,AQ ((LS c ad body))),(53,.bool false)]
          ⟨yf r6 (fun _=>by kernel_rfl),yp (i:=5) r6 (Bb tg htg.1) AG rfl rfl,yl r6 (Bb c hcd.1) MI,yf r6 (fun _=>by kernel_rfl),yp (i:=0) r6 (Dr ad) AG rfl rfl,yf r6 (fun _=>by kernel_rfl),yp (i:=4) r6 (Di (.slice bo body.length bc) rfl) AG rfl rfl,Al [AQ c,.int .i64 ad,.slice bo body.length bc] Tryz.func58 (by kernel_rfl) rq4 ⟨(oy rfl rfl),(oy rfl rfl),(oy rfl rfl),AKW⟩ (A7 fun W g=>Gb c hcd ad hia body bby (by omega) _ _ _ (hb.kn g)),FG r7 (fun _=>(Ef htg (Cm c ad body) _ _ _).2.trans (by rw[decide_eq_true (htt.symm)];rfl)),AKW⟩ fun a73 w73 g73 Pj=>?_
         refine k72 _ _ ?_
         refine A2 Pj rfl rfl ?_
         refine AKU ?_
         refine k71 _ _ ?_
         refine AKQ fun K74 k74=>?_
         refine AKP ?_
         refine AJ Pj 3 [(55,pk BO 4),(56,.slice bo body.length bc),(57,AQ c)]
          ⟨yf r6 (fun _=>by kernel_rfl),yp (i:=4) r6 (Di (.slice bo body.length bc) rfl) (AC g73 AG) rfl rfl,yl r6 (Bb c hcd.1) (AC g73 MI),AKW⟩ fun a75 w75 g75 ADz=>?_
         have ACB:=AA g73 g75
         replace AM:=AC ACB AM
         replace BE:=AC ACB BE
         replace hb:=hb.kn ACB
         refine BD ADz Tryz.func57 (by kernel_rfl) r6 (Nt (Jp body bby (by omega) _ _ c hcd _ hb)) fun a76 v76 w76 hR76 T7=>?_
         obtain⟨ao76,cap76,rfl,_⟩:=(Sl.of_own hR76.1).shape
         obtain⟨ow76,fr76⟩:=hR76
         replace fr76:=C7 fr76
         have oy_:=ow76
         clear ow76
         have g76:=fr76.1
         replace fr76:=fr76.2
         have Fd:=DK fr76 AM
         have Xh:=DK fr76 BE
         refine BD T7 Tryz.func61 (by kernel_rfl) r6 (I1 (AGs (Own.sb oy_) (NJ _ bby) (by rw[LG];omega) hdq)) fun a77 v77 w77 hR77 AEC=>?_
         obtain⟨rfl,g77⟩:=hR77
         replace AM:=AC g77 (AC g76 AM)
         have AED:Sv _ _ [_,_,_,_,_,_,_,_,_,_,_,_,_,_,_,_,_,_,_,_,_,_,_,_,_,_,_,_,_,_,_,_,_] _:=AEC.dl [58,55,56,57]
         refine AJ AED 2 [(60,B7 dq.1),(61,.int .i64 dq.2)]
          ⟨BZ rq4 (fun _ _ h=>⟨_,_,h,rfl,rfl⟩),BZ rq4 (fun _ _ h=>⟨_,_,h,rfl,rfl⟩),AKW⟩ fun a79 w79 g79 MH=>?_
         refine Av MH r7 (Ck dq.1) (AC g79 AM) rfl fun w80 g80 h80=>?_
         replace BE:=Ag g79 g80 (AC g77 (AC g76 BE)) BQ
         refine Av MH r7 (E9 dq.2) BE rfl fun w81 g81 h81=>?_
         replace AG:=AZ g81 (Ag g79 g80 (AC g77 (AC g76 (AC ACB AG))) (Ne.symm BA)) (Ne.symm Cx)
         replace AM:=AZ g81 h80 (Ne.symm BQ)
         replace MI:=AZ g81 (Ag g79 g80 (AC g77 (AC g76 (AC ACB MI))) Lh) Li
         replace hb:=((((hb.kn g76).kn g77).kn g79).offR g80 (AP Bo)).offR g81 (AP FV)
         replace oy_:=(((oy_.kn g77).kn g79).offR g80 (AP Fd)).offR g81 (AP Xh)
         replace HG:=AD (AD (AA (AA (AA (AA HG ACB) g76) g77) g79) g80 Bn) g81 Ew
         replace BE:=h81
         refine AE ?_
         refine k74 _ _ ?_
         refine AKT ?_
         repeat refine AK ?_
         refine Bj (fn:=Tryz.f22) MH (CC (p:=4) (q:=5) Tryz.results22 MH rfl rfl rfl rfl (Ck dq.1) (E9 dq.2) AM BE) (CH Tryz.func60 (by kernel_rfl) rfl _ _) (Ds _ _ _) ?_
         exact⟨IT (hopen),HG⟩
       · rw[if_neg htt] at hopen
         refine DU OO [(45,pk BO 5),(46,AQ tg),(47,AQ c),(48,pt BO),(49,.int .i64 ad),(50,pk BO 4),(51,.slice bo body.length bc),(52,AQ ((LS c ad body))),(53,.bool true)]
          ⟨yf r6 (fun _=>by kernel_rfl),yp (i:=5) r6 (Bb tg htg.1) AG rfl rfl,yl r6 (Bb c hcd.1) MI,yf r6 (fun _=>by kernel_rfl),yp (i:=0) r6 (Dr ad) AG rfl rfl,yf r6 (fun _=>by kernel_rfl),yp (i:=4) r6 (Di (.slice bo body.length bc) rfl) AG rfl rfl,Al [AQ c,.int .i64 ad,.slice bo body.length bc] Tryz.func58 (by kernel_rfl) rq4 ⟨(oy rfl rfl),(oy rfl rfl),(oy rfl rfl),AKW⟩ (A7 fun W g=>Gb c hcd ad hia body bby (by omega) _ _ _ (hb.kn g)),FG r7 (fun _=>(Ef htg (Cm c ad body) _ _ _).2.trans (by rw[decide_eq_false ((fun h=>htt h.symm))];rfl)),AKW⟩ fun a82 w82 g82 Wc=>?_
         refine k72 _ _ ?_
         refine Ar Wc rfl rfl ?_
         refine AKQ fun K83 k83=>?_
         refine AKP ?_
         replace AM:=AC g82 AM
         refine AJ Wc 1 [(54,B7 V.nul)]
          ⟨BM (vs:=[]) rfl rfl trivial trivial (fun _=>F8 _) (fun _=>rfl),AKW⟩ fun a84 w84 g84 Pq=>?_
         refine Av Pq r7 (Ck V.nul) (AC g84 AM) rfl fun w85 g85 h85=>?_
         replace BE:=Ag g84 g85 (AC g82 BE) BQ
         refine Av Pq r7 (E9 101) BE rfl fun w86 g86 h86=>?_
         replace AM:=AZ g86 h85 (Ne.symm BQ)
         replace HG:=AD (AD (AA (AA HG g82) g84) g85 Bn) g86 Ew
         replace BE:=h86
         refine AE ?_
         refine k83 _ _ ?_
         refine AKT ?_
         repeat refine AK ?_
         refine Bj (fn:=Tryz.f22) Pq (CC (p:=4) (q:=5) Tryz.results22 Pq rfl rfl rfl rfl (Ck V.nul) (E9 101) AM BE) (CH Tryz.func60 (by kernel_rfl) rfl _ _) (Ds _ _ _) ?_
         exact⟨IT (hopen),HG⟩
theorem Zm {w:World} {ks:List VK} {vo:Option Addr} {vc_:Nat} {sa po:List Nat} {ad joint:Int} {od wd:List DD} {ao wo bo:Option Addr} {ac wc bc:Nat} {body tg:List Nat} {q:V×Int} (hsa:Dg sa) (hpo:Dg po) (htg:Dg tg) (bby:By body) (hr:RdK w (.slice vo ks.length vc_) ks) (ho:RdD w (.slice ao od.length ac) od) (hw:RdD w (.slice wo wd.length wc) wd) (hb:SlB w 1 (.slice bo body.length bc) body.length (bv body)) (hq:Ei (ks.map VK.p) ⟨ad,od.map DD.x,joint,wd.map DD.x,body,tg⟩=q) :
  Calls Tryz.prog 22 #[A8 sa po (.slice vo ks.length vc_),BR ad (.slice ao od.length ac) joint (.slice wo wd.length wc) (.slice bo body.length bc) tg] w fun e w'=>e=.returned (.tuple #[B7 q.1,.int .i64 q.2])∧w.grownBy w' none:=by
 subst hq
 exact ACA ks vo vc_ sa po hsa hpo ad joint od wd ao wo bo ac wc bc body tg htg bby w hr ho hw hb
theorem Rd (ks:List VK) (vo:Option Addr) (vc_:Nat) (sa po:List Nat) (hsa:Dg sa) (hpo:Dg po) (ad joint:Int) (od wd:List DD) (ao wo bo:Option Addr) (ac wc bc:Nat) (body tg:List Nat) (htg:Dg tg) (bby:By body) (w:World) (hr:RdK w (.slice vo ks.length vc_) ks) (ho:RdD w (.slice ao od.length ac) od) (hw:RdD w (.slice wo wd.length wc) wd) (hb:SlB w 1 (.slice bo body.length bc) body.length (bv body)) :
   Calls Tryz.prog 26 #[A8 sa po (.slice vo ks.length vc_),BR ad (.slice ao od.length ac) joint (.slice wo wd.length wc) (.slice bo body.length bc) tg] w fun e w'=>e=.returned (.bool (decide ((Ei (ks.map VK.p) ⟨ad,od.map DD.x,joint,wd.map DD.x,body,tg⟩).2=0)))∧w.grownBy w' none:=by
 obtain⟨q,hq⟩:∃q,Ei (ks.map VK.p) ⟨ad,od.map DD.x,joint,wd.map DD.x,body,tg⟩=q:=⟨_,rfl⟩
 rw[hq]
 refine Dy Tryz.func26 rfl Tryz.ntmps26 rfl fun a0 sv0=>?_
 have HG:=World.grownBy.refl w none
 replace sv0:Sv 15 [] [(0,A8 sa po (.slice vo ks.length vc_)),(1,BR ad (.slice ao od.length ac) joint (.slice wo wd.length wc) (.slice bo body.length bc) tg)] a0:=sv0
 refine AKQ fun K1 k1=>?_
 refine AKP ?_
 refine Be sv0 r6 (CX hsa hpo (.slice vo ks.length vc_) rfl) fun a2 w2 CP DG g2 z2 AH sv2=>?_
 refine Be sv2 r6 (Df _ _ htg (.slice ao od.length ac) (.slice wo wd.length wc) (.slice bo body.length bc) rfl rfl rfl) fun a3 w3 BO Dw g3 z3 AG sv3=>?_
 replace AH:=AC g3 AH
 refine AR (v:=.bool false) sv3 r6 fun a4 sv4=>?_
 refine AE ?_
 refine k1 _ _ ?_
 refine AKQ fun K5 k5=>?_
 refine AKP ?_
 refine Eo sv4 rfl (dd:={ target:=.fn (.func 68) #[],args:=#[] }) rfl (by simp[execOp,resolve,Deferred.ofValue];try rfl) fun a6 sv6=>?_
 refine AE ?_
 refine k5 _ _ ?_
 refine AKQ fun K7 k7=>?_
 refine AKP ?_
 refine AJ sv6 2 [(8,A8 sa po (.slice vo ks.length vc_)),(9,BR ad (.slice ao od.length ac) joint (.slice wo wd.length wc) (.slice bo body.length bc) tg)]
   ⟨yl r6 (CX hsa hpo (.slice vo ks.length vc_) rfl) AH,yl r6 (Df _ _ htg (.slice ao od.length ac) (.slice wo wd.length wc) (.slice bo body.length bc) rfl rfl rfl) AG,AKW⟩ fun a8 w8 g8 sv8=>?_
 replace hr:=((hr.kn g2).kn g3).kn g8
 replace ho:=((ho.kn g2).kn g3).kn g8
 replace hw:=((hw.kn g2).kn g3).kn g8
 replace hb:=((hb.kn g2).kn g3).kn g8
 refine BD sv8 Tryz.func22 (by kernel_rfl) r6 (I1 (Zm hsa hpo htg bby hr ho hw hb hq)) fun a9 v9 w9 hR9 sv9=>?_
 obtain⟨rfl,g9⟩:=hR9
 have BF:Sv _ _ [_,_,_,_] _:=sv9.dl [8,9,3,2]
 refine AJ BF 3 [(7,.tuple #[B7 q.1,.int .i64 q.2]),(11,B7 q.1),(12,.int .i64 q.2)]
   ⟨ym r5,BZ rq4 (fun _ _ h=>⟨_,_,h,rfl,rfl⟩),BZ rq4 (fun _ _ h=>⟨_,_,h,rfl,rfl⟩),AKW⟩ fun a11 w11 g11 Bv=>?_
 replace HG:=AA (AA (AA (AA (AA HG g2) g3) g8) g9) g11
 refine BB (T:=25) (Z:=[.int .i64 0,.int .i64 0,.string ⟨#[]⟩]) Bv rfl rfl rfl (fun a w=>by kernel_rfl) fun a12 w12 AJ4 AES g12 z12 AHz Cq=>?_
 have AET:=Bq HG AES
 refine Av Cq r7 (Ck q.1) AHz rfl fun w13 g13 h13=>?_
 replace HG:=AD (AA HG g12) g13 AET
 refine AR (v:=.int .i64 q.2) Cq r6 fun a14 C6=>?_
 have EE:Sv _ _ [_,_,_,_] _:=C6.dl [5,7,11,12,10]
 refine AE ?_
 refine k7 _ _ ?_
 refine AKQ fun K16 k16=>?_
 by_cases h0:q.2=0
 · refine AKP ?_
   refine AJ EE 2 [(13,.int .i64 q.2),(14,.bool true)]
    ⟨ym r5,Cp r6 (fun _=>BU (by simpa using h0)),AKW⟩ fun a17 w17 g17 De=>?_
   refine AR (v:=.bool true) De r6 fun a18 CQ=>?_
   refine AE ?_
   refine k16 _ _ ?_
   replace HG:=AA HG g17
   refine AKT ?_
   repeat refine AK ?_
   refine Bj (fn:=Tryz.f26) CQ (BC (p:=4) Tryz.results26 CQ rfl rfl) (CH Tryz.func68 (by kernel_rfl) rfl _ _) (M0 _) ?_
   exact⟨D0 ((decide_eq_true h0).symm),HG⟩
 · refine AKP ?_
   refine AJ EE 2 [(13,.int .i64 q.2),(14,.bool false)]
    ⟨ym r5,Cp r6 (fun _=>BU (by simpa using h0)),AKW⟩ fun a19 w19 g19 Cs=>?_
   refine AR (v:=.bool false) Cs r6 fun a20 DH=>?_
   refine AE ?_
   refine k16 _ _ ?_
   replace HG:=AA HG g19
   refine AKT ?_
   repeat refine AK ?_
   refine Bj (fn:=Tryz.f26) DH (BC (p:=4) Tryz.results26 DH rfl rfl) (CH Tryz.func68 (by kernel_rfl) rfl _ _) (M0 _) ?_
   exact⟨D0 ((decide_eq_false h0).symm),HG⟩
end Go.Proofs.YtbfjfnbcmojpiaaGreat
