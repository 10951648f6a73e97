import Derived.Test.YtbfjfnbcmojpiaaGreatDaYA
set_option linter.unusedSimpArgs false
set_option linter.unusedVariables false
set_option maxRecDepth 100000
set_option maxHeartbeats 4000000
namespace Go.Proofs.YtbfjfnbcmojpiaaGreat
open Go.RowKit Go.Shelf
theorem IQ (w:World):(Instr.build 25 #[]).run Tryz.prog w=.ok (Br V.nul) w:=by kernel_rfl
theorem KE {x:V} {c:Int} {y:V×Int} (h:y=(x,c)):Ending.returned (.tuple #[Br x,.int .i64 c])=Ending.returned (.tuple #[Br y.1,.int .i64 y.2]):=by rw[h]
theorem AKG {w:World} {b:List Nat} {v:Value} (hv:SlB w 1 v b.length (bv b)) (hb:By b) (hl:b.length≤100000):Calls Tryz.prog 107 #[v] w fun e w'=>∃u,e=.returned u∧(∃(x:V) (ao:Option Addr) (n cap:Nat) (er:Int),u=.tuple #[Br x,.slice ao n cap,.int .i64 er]∧w.grownBy w' none ∧
   ((er=0∧∃r,r.length=n∧pV b=.ok (x,r))∨(er≠0∧∃k,pV b=.error k))):=by
 refine(UY v b w hv.1 (by omega) hb hv.2).mono ?_
 intro e w' h
 unfold ReadPost at h
 obtain⟨hg,h⟩:=h
 cases hp:pV b with
 | ok y =>
   obtain⟨x,r⟩:=y
   rw[hp] at h
   obtain⟨u,rv,rfl,hrep,hs,hlo⟩:=h
   obtain rfl:u=Br x:=hrep
   obtain⟨ao,cap,rfl,_⟩:=Sl.shape hs
   exact⟨_,rfl,x,ao,_,cap,0,rfl,hg,.inl ⟨rfl,r,rfl,rfl⟩⟩
 | error n =>
   rw[hp] at h
   obtain⟨rfl,hn⟩:=h
   exact⟨_,rfl,V.nul,none,0,0,n,rfl,hg,.inr ⟨by omega,n,rfl⟩⟩
theorem ABr {w:World} {R:Nat} {b:List Nat} {v:Value} (hrow:w.heap[R]?=some (.cells #[v,.int .i64 0] 94 (0,0))) (hv:SlB w 1 v b.length (bv b)) (hR:∀k,BC v k→k<R) (hb:By b) (hl:b.length≤100000):Calls Tryz.prog 64 #[.pointer (some ⟨R,0,none⟩)] w fun e w'=>∃u,e=.returned u∧(∃(x:V) (ao:Option Addr) (n cap:Nat) (er:Int),u=Br x∧w.grownBy w' (some R)∧w'.heap[R]?=some (.cells ([[.slice ao n cap],[.int .i64 er]].flatten).toArray 94 (0,0)) ∧
   ((er=0∧∃r,r.length=n∧pV b=.ok (x,r))∨(er≠0∧∃k,pV b=.error k))):=by
 refine(AFW (L:=R) R (.ok b) w ⟨v,b,⟨rfl,hrow⟩,hv.1,⟨fun k hk=>hR k hk,Nat.le_refl _⟩,hb,by omega⟩).mono ?_
 rintro e w' ⟨u,x,s',rfl,rfl,hg,hst,hrel⟩
 obtain⟨v2,l2,hc,hs,_⟩:=hst
 obtain⟨ao,cap,rfl,_⟩:=Sl.shape hs
 cases s' with
 | error er=>exact⟨_,rfl,x,ao,_,cap,er,rfl,hg,hc.2.2,.inr ⟨by have:=hc.1;omega,er,hrel.err⟩⟩
 | ok r =>
   obtain⟨rfl,hc⟩:=hc
   exact⟨_,rfl,x,ao,_,cap,0,rfl,hg,hc,.inl ⟨rfl,r,rfl,hrel.ok⟩⟩
theorem Yo {b:List Nat} {x:V} {n:Nat} {er:Int} (h:(er=0∧∃r,r.length=n∧pV b=.ok (x,r))∨(er≠0∧∃k,pV b=.error k)):(er≠0→LC b=(V.nul,101))∧(er=0→n=0→LC b=(x,0))∧(er=0→0<n→LC b=(V.nul,101)):=by
 rcases h with ⟨h0,r,rfl,hp⟩|⟨h0,k,hp⟩
 · exact⟨fun h=>absurd h0 h,fun _ h=>AEp (by rw[hp,List.eq_nil_of_length_eq_zero h]),fun _ h=>AGF hp h⟩
 · exact⟨fun _=>AIG hp,fun h=>absurd h h0,fun h=>absurd h h0⟩
theorem ABs (b:List Nat) (hby:By b) (hl:b.length≤100000) (bo:Option Addr) (bc:Nat) (w:World) (hb:SlB w 1 (.slice bo b.length bc) b.length (bv b)) :
   Calls Tryz.prog 61 #[.slice bo b.length bc] w fun e w'=>e=.returned (.tuple #[Br (LC b).1,.int .i64 (LC b).2])∧w.grownBy w' none:=by
 refine BV Tryz.func61 rfl Tryz.ntmps61 rfl fun a0 sv0=>?_
 have HG:=World.grownBy.refl w none
 replace sv0:Sv 22 [] [(0,.slice bo b.length bc)] a0:=sv0
 refine AOQ fun K1 k1=>?_
 refine AOP ?_
 refine A9 (T:=25) (Z:=[.int .i64 0,.int .i64 0,.string ⟨#[]⟩]) sv0 rfl rfl rfl (fun a w=>by kernel_rfl) fun a2 w2 Cp Dt g2 z2 AJ sv2=>?_
 have GD:=Bq HG Dt
 refine AS (v:=.int .i64 0) sv2 r6 fun a3 sv3=>?_
 refine AD ?_
 refine k1 _ _ ?_
 refine AOQ fun K4 k4=>?_
 refine AOP ?_
 refine AH sv3 1 [(8,.slice bo b.length bc)]
   ⟨ym r5,AOW⟩ fun a5 w5 g5 sv5=>?_
 replace hb:=(hb.kn g2).kn g5
 refine BA sv5 Tryz.func107 (by kernel_rfl) r6 (AKG hb hby hl) fun a6 v6 w6 hR6 sv6=>?_
 obtain⟨x,ro,rn,rc,er,rfl,g6,hcs⟩:=hR6
 obtain⟨hf1,hf2,hf3⟩:=Yo hcs
 refine AH sv6 4 [(7,.tuple #[Br x,.slice ro rn rc,.int .i64 er]),(10,Br x),(11,.slice ro rn rc),(12,.int .i64 er)]
   ⟨ym r5,Bh rq4 (fun _ _ h=>⟨_,_,h,rfl,rfl⟩),Bh rq4 (fun _ _ h=>⟨_,_,h,rfl,rfl⟩),Bh rq4 (fun _ _ h=>⟨_,_,h,rfl,rfl⟩),AOW⟩ fun a7 w7 g7 sv7=>?_
 replace AJ:=AC g7 (AC g6 (AC g5 AJ))
 replace HG:=AA (AA (AA (AA HG g2) g5) g6) g7
 refine A9 (T:=25) (Z:=[.int .i64 0,.int .i64 0,.string ⟨#[]⟩]) sv7 rfl rfl rfl (fun a w=>by kernel_rfl) fun a8 w8 AOL AEq g8 z8 ABt sv8=>?_
 have PY:=Ao AJ AEq
 have AKH:=Bq HG AEq
 refine Aq sv8 r7 (C6 x) ABt rfl fun w9 g9 h9=>?_
 replace AJ:=Aa g9 (AC g8 AJ) (Ne.symm PY)
 replace HG:=AE (AA HG g8) g9 AKH
 replace ABt:=h9
 refine AS (v:=.slice ro rn rc) sv8 r6 fun a10 Bt=>?_
 refine AS (v:=.int .i64 er) Bt r6 fun a11 CQ=>?_
 have DF:Sv _ _ [_,_,_,_,_] _:=CQ.dl [7,10,11,12,9,8,0]
 refine AD ?_
 refine k4 _ _ ?_
 refine AOQ fun K13 k13=>?_
 refine AOQ fun K14 k14=>?_
 rcases(show er≠0∨(er=0∧rn=0)∨(er=0∧0<rn) by omega) with h1|⟨h1,h2⟩|⟨h1,h2⟩
 · refine AOP ?_
   refine AH DF 7 [(13,.int .i64 er),(14,.bool true),(15,.bool true),(16,undef),(17,undef),(18,undef),(19,.bool true)]
    ⟨ym r5,Ce r6 (fun _=>Dy (by simpa using h1)),ym r5,AN r6,AN r6,AN r6,BF r7,AOW⟩ fun a15 w15 g15 Fp=>?_
   refine AD ?_
   refine k14 _ _ ?_
   refine Am Fp rfl rfl ?_
   refine AOQ fun K16 k16=>?_
   refine AOP ?_
   replace AJ:=AC g15 AJ
   refine AH Fp 1 [(20,Br V.nul)]
    ⟨BG (vs:=[]) rfl rfl trivial trivial (fun _=>IQ _) (fun _=>rfl),AOW⟩ fun a17 w17 g17 EK=>?_
   refine Aq EK r7 (C6 V.nul) (AC g17 AJ) rfl fun w18 g18 h18=>?_
   replace ABt:=Ab g17 g18 (AC g15 ABt) PY
   replace HG:=AE (AA (AA HG g15) g17) g18 GD
   replace AJ:=h18
   refine AS (v:=.int .i64 101) EK r6 fun a19 Dq=>?_
   refine AD ?_
   refine k16 _ _ ?_
   refine AOT ?_
   repeat refine AM ?_
   refine Ap (fn:=Tryz.f61) Dq (Cb (p:=2) (q:=3) Tryz.results61 Dq rfl rfl rfl rfl (C6 V.nul) AJ) ?_
   exact⟨KE (hf1 h1),HG⟩
 · refine AOP ?_
   refine AH DF 7 [(13,.int .i64 er),(14,.bool false),(15,.bool false),(16,.slice ro rn rc),(17,.int .i64 ((rn:Nat))),(18,.bool false),(19,.bool false)]
    ⟨ym r5,Ce r6 (fun _=>Dy (by simpa using h1)),ym r5,Ae rq8,BJ (Tryz.underlying29) rfl rfl (gy rfl rfl rfl) (oy rfl rfl) (fun _=>rfl),Ai rq9 (fun _=>C3 (decide_eq_false (by omega))),Ah rq9,AOW⟩ fun a20 w20 g20 Du=>?_
   refine AD ?_
   refine k14 _ _ ?_
   refine Au Du rfl rfl ?_
   refine AOU ?_
   refine k13 _ _ ?_
   refine AOQ fun K21 k21=>?_
   refine AOP ?_
   refine AH Du 1 [(21,Br x)]
    ⟨yl r6 (C6 x) (AC g20 ABt),AOW⟩ fun a22 w22 g22 B7=>?_
   have Qs:=AA g20 g22
   refine Aq B7 r7 (C6 x) (AC Qs AJ) rfl fun w23 g23 h23=>?_
   replace HG:=AE (AA HG Qs) g23 GD
   replace AJ:=h23
   refine AS (v:=.int .i64 0) B7 r6 fun a24 EN=>?_
   refine AD ?_
   refine k21 _ _ ?_
   refine AOT ?_
   repeat refine AM ?_
   refine Ap (fn:=Tryz.f61) EN (Cb (p:=2) (q:=3) Tryz.results61 EN rfl rfl rfl rfl (C6 x) AJ) ?_
   exact⟨KE (hf2 h1 h2),HG⟩
 · refine AOP ?_
   refine AH DF 7 [(13,.int .i64 er),(14,.bool false),(15,.bool false),(16,.slice ro rn rc),(17,.int .i64 ((rn:Nat))),(18,.bool true),(19,.bool true)]
    ⟨ym r5,Ce r6 (fun _=>Dy (by simpa using h1)),ym r5,Ae rq8,BJ (Tryz.underlying29) rfl rfl (gy rfl rfl rfl) (oy rfl rfl) (fun _=>rfl),Ai rq9 (fun _=>C3 (decide_eq_true (by omega))),Ah rq9,AOW⟩ fun a25 w25 g25 DR=>?_
   refine AD ?_
   refine k14 _ _ ?_
   refine Am DR rfl rfl ?_
   refine AOQ fun K26 k26=>?_
   refine AOP ?_
   replace AJ:=AC g25 AJ
   refine AH DR 1 [(20,Br V.nul)]
    ⟨BG (vs:=[]) rfl rfl trivial trivial (fun _=>IQ _) (fun _=>rfl),AOW⟩ fun a27 w27 g27 HU=>?_
   refine Aq HU r7 (C6 V.nul) (AC g27 AJ) rfl fun w28 g28 h28=>?_
   replace HG:=AE (AA (AA HG g25) g27) g28 GD
   replace AJ:=h28
   refine AS (v:=.int .i64 101) HU r6 fun a29 Ck=>?_
   refine AD ?_
   refine k26 _ _ ?_
   refine AOT ?_
   repeat refine AM ?_
   refine Ap (fn:=Tryz.f61) Ck (Cb (p:=2) (q:=3) Tryz.results61 Ck rfl rfl rfl rfl (C6 V.nul) AJ) ?_
   exact⟨KE (hf3 h1 h2),HG⟩
theorem AKw {w:World} {b:List Nat} {q:V×Int} {v:Value} (hv:SlB w 1 v b.length (bv b)) (hb:By b) (hl:b.length≤100000) (hq:LC b=q):Calls Tryz.prog 61 #[v] w fun e w'=>e=.returned (.tuple #[Br q.1,.int .i64 q.2])∧w.grownBy w' none:=by
 subst hq
 obtain⟨ao,cap,rfl,_⟩:=Sl.shape hv.1
 exact ABs b hb hl ao cap w hv
theorem Ji {P:List VP} {s:Sd} (h:Ed s=false∨Co P=false):Fl P s=(V.nul,1):=by
 unfold Fl
 rcases h with h|h<;>simp[h]
theorem NB {P:List VP} {s:Sd} (h1:Ed s=true) (h2:Co P=true) (h3:s.own=[]):Fl P s=if Nt s.addr s.body=s.tag then LC s.body else (V.nul,101):=by
 unfold Fl
 simp[h1,h2,h3]
theorem Tn {P:List VP} {s:Sd} (h1:Ed s=true) (h2:Co P=true) (h3:s.own≠[]) (h4:Ga P s=none):Fl P s=(V.nul,10):=by
 unfold Fl
 simp[h1,h2,h3,h4]
theorem NZ {P:List VP} {s:Sd} {c:List Nat} (h1:Ed s=true) (h2:Co P=true) (h3:s.own≠[]) (h4:Ga P s=some c):Fl P s=if MI c s.addr s.body=s.tag then LC (Fj s.body c) else (V.nul,101):=by
 unfold Fl
 simp[h1,h2,h3,h4]
theorem AEr {w:World} {ks:List VK} {vo:Option Addr} {vc:Nat} {sa po:List Nat} {P:List VP} {ad joint:Int} {od wd:List DD} {ao wo bo:Option Addr} {ac wc bc:Nat} {body tg:List Nat} {r:Option (List Nat)} {s:Sd} (hsa:Dg sa) (hpo:Dg po) (htg:Dg tg) (hr:RdK w (.slice vo ks.length vc) ks) (ho:RdD w (.slice ao od.length ac) od) (hw:RdD w (.slice wo wd.length wc) wd) (hb:SlB w 1 (.slice bo body.length bc) body.length (bv body)) (hP:ks.map VK.p=P) (hs:(⟨ad,od.map DD.x,joint,wd.map DD.x,body,tg⟩:Sd)=s) (hvs:Ed s=true) (hres:Ga P s=r) :
  Calls Tryz.prog 62 #[Ay sa po (.slice vo ks.length vc),Bv ad (.slice ao od.length ac) joint (.slice wo wd.length wc) (.slice bo body.length bc) tg] w fun e w'=>∃u,e=.returned u∧(∃c,u=.tuple #[AQ c,.bool r.isSome]∧Dg c∧(∀c',r=some c'→c'=c)∧w.grownBy w' none):=by
 subst hs hP hres
 exact(ADg ks vo vc sa po hsa hpo ad joint od wd ao wo bo ac wc bc body tg htg w hr ho hw hb hvs).mono fun e w' ⟨c,h1,h2⟩=>⟨_,h1,c,rfl,h2⟩
theorem ABu {w:World} {ks:List VK} {vo:Option Addr} {vc:Nat} {sa po:List Nat} {P:List VP} {ad joint:Int} {od wd:List DD} {ao wo bo:Option Addr} {ac wc bc:Nat} {body tg:List Nat} {r:Option (List Nat)} {s:Sd} (hsa:Dg sa) (hpo:Dg po) (htg:Dg tg) (hr:RdK w (.slice vo ks.length vc) ks) (ho:RdD w (.slice ao od.length ac) od) (hw:RdD w (.slice wo wd.length wc) wd) (hb:SlB w 1 (.slice bo body.length bc) body.length (bv body)) (hP:ks.map VK.p=P) (hs:(⟨ad,od.map DD.x,joint,wd.map DD.x,body,tg⟩:Sd)=s) (hvs:Ed s=true) (hres:Ga P s=r) :
  Calls Tryz.prog 63 #[Ay sa po (.slice vo ks.length vc),Bv ad (.slice ao od.length ac) joint (.slice wo wd.length wc) (.slice bo body.length bc) tg] w fun e w'=>∃u,e=.returned u∧(∃c,u=.tuple #[AQ c,.bool r.isSome]∧Dg c∧(∀c',r=some c'→c'=c)∧w.grownBy w' none):=by
 subst hs hP hres
 exact(ABa ks vo vc sa po hsa hpo ad joint od wd ao wo bo ac wc bc body tg htg w hr ho hw hb hvs).mono fun e w' ⟨c,h1,h2⟩=>⟨_,h1,c,rfl,h2⟩
theorem Rg {w:World} {ad joint:Int} {od wd:List DD} {ao wo bo:Option Addr} {ac wc bc:Nat} {body tg:List Nat} {b:Bool} {s:Sd} (htg:Dg tg) (ho:RdD w (.slice ao od.length ac) od) (hw:RdD w (.slice wo wd.length wc) wd) (hb:SlB w 1 (.slice bo body.length bc) body.length (bv body)) (hs:(⟨ad,od.map DD.x,joint,wd.map DD.x,body,tg⟩:Sd)=s) (hvs:Ed s=b) :
  Calls Tryz.prog 27 #[Bv ad (.slice ao od.length ac) joint (.slice wo wd.length wc) (.slice bo body.length bc) tg] w fun e w'=>e=.returned (.bool b)∧w.grownBy w' none:=by
 subst hs hvs
 exact AJ4 ad joint od wd ao wo bo ac wc bc body tg htg w ho hw hb
theorem ABv {w:World} {ad joint:Int} {od wd:List DD} {ao wo bo:Option Addr} {ac wc bc:Nat} {body tg:List Nat} {b:Bool} {s:Sd} (htg:Dg tg) (ho:RdD w (.slice ao od.length ac) od) (hw:RdD w (.slice wo wd.length wc) wd) (hb:SlB w 1 (.slice bo body.length bc) body.length (bv body)) (hs:(⟨ad,od.map DD.x,joint,wd.map DD.x,body,tg⟩:Sd)=s) (hvs:Ed s=b) :
  Calls Tryz.prog 28 #[Bv ad (.slice ao od.length ac) joint (.slice wo wd.length wc) (.slice bo body.length bc) tg] w fun e w'=>e=.returned (.bool b)∧w.grownBy w' none:=by
 subst hs hvs
 exact AH5 ad joint od wd ao wo bo ac wc bc body tg htg w ho hw hb
theorem AGH (ks:List VK) (vo:Option Addr) (vc_:Nat) (sa po:List Nat) (hsa:Dg sa) (hpo:Dg po) (ad joint:Int) (od wd:List DD) (ao wo bo:Option Addr) (ac wc bc:Nat) (body tg:List Nat) (htg:Dg tg) (bby:By body) (w:World) (hr:RdK w (.slice vo ks.length vc_) ks) (ho:RdD w (.slice ao od.length ac) od) (hw:RdD w (.slice wo wd.length wc) wd) (hb:SlB w 1 (.slice bo body.length bc) body.length (bv body)) :
   Calls Tryz.prog 22 #[Ay sa po (.slice vo ks.length vc_),Bv ad (.slice ao od.length ac) joint (.slice wo wd.length wc) (.slice bo body.length bc) tg] w fun e w'=>e=.returned (.tuple #[Br (Fl (ks.map VK.p) ⟨ad,od.map DD.x,joint,wd.map DD.x,body,tg⟩).1,.int .i64 (Fl (ks.map VK.p) ⟨ad,od.map DD.x,joint,wd.map DD.x,body,tg⟩).2])∧w.grownBy w' none:=by
 obtain⟨P,hP⟩:∃P,ks.map VK.p=P:=⟨_,rfl⟩
 obtain⟨S,hS⟩:∃S:Sd,⟨ad,od.map DD.x,joint,wd.map DD.x,body,tg⟩=S:=⟨_,rfl⟩
 have s1:S.addr=ad:=by rw[←hS]
 have s2:S.own=od.map DD.x:=by rw[←hS]
 have s3:S.body=body:=by rw[←hS]
 have s4:S.tag=tg:=by rw[←hS]
 rw[hP,hS]
 refine FY Tryz.func22 rfl Tryz.ntmps22 rfl fun a0 sv0=>?_
 have HG:=World.grownBy.refl w none
 replace sv0:Sv 62 [] [(0,Ay sa po (.slice vo ks.length vc_)),(1,Bv ad (.slice ao od.length ac) joint (.slice wo wd.length wc) (.slice bo body.length bc) tg)] a0:=sv0
 refine AOQ fun K1 k1=>?_
 refine AOP ?_
 refine Bi sv0 r6 (B6 hsa hpo (.slice vo ks.length vc_) rfl) fun a2 w2 Cp Dt g2 z2 AJ sv2=>?_
 refine Bi sv2 r6 (Dh _ _ htg (.slice ao od.length ac) (.slice wo wd.length wc) (.slice bo body.length bc) rfl rfl rfl) fun a3 w3 Bn Fh g3 z3 AI sv3=>?_
 replace AJ:=AC g3 AJ
 replace hr:=(hr.kn g2).kn g3
 replace ho:=(ho.kn g2).kn g3
 replace hw:=(hw.kn g2).kn g3
 replace hb:=(hb.kn g2).kn g3
 replace HG:=AA (AA HG g2) g3
 refine A9 (T:=25) (Z:=[.int .i64 0,.int .i64 0,.string ⟨#[]⟩]) sv3 rfl rfl rfl (fun a w=>by kernel_rfl) fun a4 w4 Ev Bl g4 z4 AL sv4=>?_
 have A3:=Ao AJ Bl
 have A7:=Ao AI Bl
 have Bm:=Bq HG Bl
 have Bd:=Aw (hr.lt) Bl
 have CC:=Aw (ho.lt) Bl
 have CD:=Aw (hw.lt) Bl
 have B9:=Aw (hb.lt) Bl
 replace AJ:=AC g4 AJ
 replace AI:=AC g4 AI
 replace hr:=hr.kn g4
 replace ho:=ho.kn g4
 replace hw:=hw.kn g4
 replace hb:=hb.kn g4
 replace HG:=AA HG g4
 refine A9 (T:=38) (Z:=[.int .i64 0]) sv4 rfl rfl rfl (fun a w=>by kernel_rfl) fun a5 w5 AAa Fi g5 z5 BO sv5=>?_
 have DB:=Ao AJ Fi
 have De:=Ao AI Fi
 have Be:=Ao AL Fi
 have GF:=Bq HG Fi
 have Fy:=Aw (hr.lt) Fi
 have Ik:=Aw (ho.lt) Fi
 have Il:=Aw (hw.lt) Fi
 have He:=Aw (hb.lt) Fi
 replace AJ:=AC g5 AJ
 replace AI:=AC g5 AI
 replace AL:=AC g5 AL
 replace hr:=hr.kn g5
 replace ho:=ho.kn g5
 replace hw:=hw.kn g5
 replace hb:=hb.kn g5
 replace HG:=AA HG g5
 refine AD ?_
 refine k1 _ _ ?_
 refine AOQ fun K6 k6=>?_
 refine AOP ?_
 refine I5 sv5 rfl rfl rfl rfl rfl rfl fun a7 sv7=>?_
 refine Gh sv7 rfl (dd:={ target:=.fn (.func 60) #[pt Ev,pt AAa],args:=#[] }) rfl (by have e1:=sv7.ev (x:=.tmp 8) rfl rfl;simp[execOp,resolve,Deferred.ofValue,e1];try rfl) fun a8 sv8=>?_
 refine AD ?_
 refine k6 _ _ ?_
 refine AOQ fun K9 k9=>?_
 refine AOQ fun K10 k10=>?_
 rcases(show(Ed S=false∧Co P=false)∨(Ed S=false∧Co P=true)∨(Ed S=true∧Co P=false)∨(Ed S=true∧Co P=true) by cases Ed S<;>cases Co P<;>simp) with ⟨hh,hv⟩|⟨hh,hv⟩|⟨hh,hv⟩|⟨hh,hv⟩
 · refine AOP ?_
   refine AH sv8 8 [(9,Bv ad (.slice ao od.length ac) joint (.slice wo wd.length wc) (.slice bo body.length bc) tg),(10,.bool false),(11,.bool true),(12,.bool true),(13,undef),(14,undef),(15,undef),(16,.bool true)]
     ⟨yl r6 (Dh _ _ htg (.slice ao od.length ac) (.slice wo wd.length wc) (.slice bo body.length bc) rfl rfl rfl) AI,Ag [Bv ad (.slice ao od.length ac) joint (.slice wo wd.length wc) (.slice bo body.length bc) tg] Tryz.func27 (by kernel_rfl) rq4 ⟨(oy rfl rfl),AOW⟩ (A1 fun W g=>Rg htg (ho.kn g) (hw.kn g) (hb.kn g) hS hh),C7 r6 (fun _=>Bf),ym r5,AN r6,AN r6,AN r6,BF r7,AOW⟩ fun a11 w11 g11 CQ=>?_
   refine AD ?_
   refine k10 _ _ ?_
   refine Am CQ rfl rfl ?_
   refine AOQ fun K12 k12=>?_
   refine AOP ?_
   replace AL:=AC g11 AL
   refine AH CQ 1 [(17,Br V.nul)]
     ⟨BG (vs:=[]) rfl rfl trivial trivial (fun _=>IQ _) (fun _=>rfl),AOW⟩ fun a13 w13 g13 Cx=>?_
   refine Aq Cx r7 (C6 V.nul) (AC g13 AL) rfl fun w14 g14 h14=>?_
   replace BO:=Ab g13 g14 (AC g11 BO) Be
   refine Aq Cx r7 (Gc 1) BO rfl fun w15 g15 h15=>?_
   replace AJ:=Aa g15 (Ab g13 g14 (AC g11 AJ) (Ne.symm A3)) (Ne.symm DB)
   replace AI:=Aa g15 (Ab g13 g14 (AC g11 AI) (Ne.symm A7)) (Ne.symm De)
   replace AL:=Aa g15 h14 (Ne.symm Be)
   replace hr:=(((hr.kn g11).kn g13).offR g14 (AP Bd)).offR g15 (AP Fy)
   replace ho:=(((ho.kn g11).kn g13).offR g14 (AP CC)).offR g15 (AP Ik)
   replace hw:=(((hw.kn g11).kn g13).offR g14 (AP CD)).offR g15 (AP Il)
   replace hb:=(((hb.kn g11).kn g13).offR g14 (AP B9)).offR g15 (AP He)
   replace HG:=AE (AE (AA (AA HG g11) g13) g14 Bm) g15 GF
   replace BO:=h15
   refine AD ?_
   refine k12 _ _ ?_
   refine AOT ?_
   repeat refine AM ?_
   refine Bz (fn:=Tryz.f22) Cx (CR (p:=4) (q:=5) Tryz.results22 Cx rfl rfl rfl rfl (C6 V.nul) (Gc 1) AL BO) (Ch Tryz.func60 (by kernel_rfl) rfl _ _) (EW _ _ _) ?_
   exact⟨KE (Ji (.inl hh)),HG⟩
 · refine AOP ?_
   refine AH sv8 8 [(9,Bv ad (.slice ao od.length ac) joint (.slice wo wd.length wc) (.slice bo body.length bc) tg),(10,.bool false),(11,.bool true),(12,.bool true),(13,undef),(14,undef),(15,undef),(16,.bool true)]
     ⟨yl r6 (Dh _ _ htg (.slice ao od.length ac) (.slice wo wd.length wc) (.slice bo body.length bc) rfl rfl rfl) AI,Ag [Bv ad (.slice ao od.length ac) joint (.slice wo wd.length wc) (.slice bo body.length bc) tg] Tryz.func27 (by kernel_rfl) rq4 ⟨(oy rfl rfl),AOW⟩ (A1 fun W g=>Rg htg (ho.kn g) (hw.kn g) (hb.kn g) hS hh),C7 r6 (fun _=>Bf),ym r5,AN r6,AN r6,AN r6,BF r7,AOW⟩ fun a16 w16 g16 DG=>?_
   refine AD ?_
   refine k10 _ _ ?_
   refine Am DG rfl rfl ?_
   refine AOQ fun K17 k17=>?_
   refine AOP ?_
   replace AL:=AC g16 AL
   refine AH DG 1 [(17,Br V.nul)]
     ⟨BG (vs:=[]) rfl rfl trivial trivial (fun _=>IQ _) (fun _=>rfl),AOW⟩ fun a18 w18 g18 CY=>?_
   refine Aq CY r7 (C6 V.nul) (AC g18 AL) rfl fun w19 g19 h19=>?_
   replace BO:=Ab g18 g19 (AC g16 BO) Be
   refine Aq CY r7 (Gc 1) BO rfl fun w20 g20 h20=>?_
   replace AJ:=Aa g20 (Ab g18 g19 (AC g16 AJ) (Ne.symm A3)) (Ne.symm DB)
   replace AI:=Aa g20 (Ab g18 g19 (AC g16 AI) (Ne.symm A7)) (Ne.symm De)
   replace AL:=Aa g20 h19 (Ne.symm Be)
   replace hr:=(((hr.kn g16).kn g18).offR g19 (AP Bd)).offR g20 (AP Fy)
   replace ho:=(((ho.kn g16).kn g18).offR g19 (AP CC)).offR g20 (AP Ik)
   replace hw:=(((hw.kn g16).kn g18).offR g19 (AP CD)).offR g20 (AP Il)
   replace hb:=(((hb.kn g16).kn g18).offR g19 (AP B9)).offR g20 (AP He)
   replace HG:=AE (AE (AA (AA HG g16) g18) g19 Bm) g20 GF
   replace BO:=h20
   refine AD ?_
   refine k17 _ _ ?_
   refine AOT ?_
   repeat refine AM ?_
   refine Bz (fn:=Tryz.f22) CY (CR (p:=4) (q:=5) Tryz.results22 CY rfl rfl rfl rfl (C6 V.nul) (Gc 1) AL BO) (Ch Tryz.func60 (by kernel_rfl) rfl _ _) (EW _ _ _) ?_
   exact⟨KE (Ji (.inl hh)),HG⟩
 · refine AOP ?_
   refine AH sv8 8 [(9,Bv ad (.slice ao od.length ac) joint (.slice wo wd.length wc) (.slice bo body.length bc) tg),(10,.bool true),(11,.bool false),(12,.bool false),(13,Ay sa po (.slice vo ks.length vc_)),(14,.bool false),(15,.bool true),(16,.bool true)]
     ⟨yl r6 (Dh _ _ htg (.slice ao od.length ac) (.slice wo wd.length wc) (.slice bo body.length bc) rfl rfl rfl) AI,Ag [Bv ad (.slice ao od.length ac) joint (.slice wo wd.length wc) (.slice bo body.length bc) tg] Tryz.func27 (by kernel_rfl) rq4 ⟨(oy rfl rfl),AOW⟩ (A1 fun W g=>Rg htg (ho.kn g) (hw.kn g) (hb.kn g) hS hh),C7 r6 (fun _=>Bf),ym r5,A8 rq9 (fun _ g=>Ad (B6 hsa hpo (.slice vo ks.length vc_) rfl) (Av (AF g AJ (by simp)))),CG [Ay sa po (.slice vo ks.length vc_)] Tryz.func51 (by kernel_rfl) r7 ⟨(oy rfl rfl),AOW⟩ (A1 fun W g=>O6 hsa hpo (hr.kn g) hP hv),I3 rfl rfl (gy rfl rfl rfl) (oy rfl rfl) (fun _=>Bf) (fun _=>rfl),Ah rq9,AOW⟩ fun a21 w21 g21 Dl=>?_
   refine AD ?_
   refine k10 _ _ ?_
   refine Am Dl rfl rfl ?_
   refine AOQ fun K22 k22=>?_
   refine AOP ?_
   replace AL:=AC g21 AL
   refine AH Dl 1 [(17,Br V.nul)]
     ⟨BG (vs:=[]) rfl rfl trivial trivial (fun _=>IQ _) (fun _=>rfl),AOW⟩ fun a23 w23 g23 Cc=>?_
   refine Aq Cc r7 (C6 V.nul) (AC g23 AL) rfl fun w24 g24 h24=>?_
   replace BO:=Ab g23 g24 (AC g21 BO) Be
   refine Aq Cc r7 (Gc 1) BO rfl fun w25 g25 h25=>?_
   replace AJ:=Aa g25 (Ab g23 g24 (AC g21 AJ) (Ne.symm A3)) (Ne.symm DB)
   replace AI:=Aa g25 (Ab g23 g24 (AC g21 AI) (Ne.symm A7)) (Ne.symm De)
   replace AL:=Aa g25 h24 (Ne.symm Be)
   replace hr:=(((hr.kn g21).kn g23).offR g24 (AP Bd)).offR g25 (AP Fy)
   replace ho:=(((ho.kn g21).kn g23).offR g24 (AP CC)).offR g25 (AP Ik)
   replace hw:=(((hw.kn g21).kn g23).offR g24 (AP CD)).offR g25 (AP Il)
   replace hb:=(((hb.kn g21).kn g23).offR g24 (AP B9)).offR g25 (AP He)
   replace HG:=AE (AE (AA (AA HG g21) g23) g24 Bm) g25 GF
   replace BO:=h25
   refine AD ?_
   refine k22 _ _ ?_
   refine AOT ?_
   repeat refine AM ?_
   refine Bz (fn:=Tryz.f22) Cc (CR (p:=4) (q:=5) Tryz.results22 Cc rfl rfl rfl rfl (C6 V.nul) (Gc 1) AL BO) (Ch Tryz.func60 (by kernel_rfl) rfl _ _) (EW _ _ _) ?_
   exact⟨KE (Ji (.inr hv)),HG⟩
 · have hb64:body.length≤64:=s3▸AIH hh
   have hia:N6 ad:=by have:=(Sz (Yb hh)).1;rw[s1] at this;exact⟨by omega,by omega⟩
   refine AOP ?_
   refine AH sv8 8 [(9,Bv ad (.slice ao od.length ac) joint (.slice wo wd.length wc) (.slice bo body.length bc) tg),(10,.bool true),(11,.bool false),(12,.bool false),(13,Ay sa po (.slice vo ks.length vc_)),(14,.bool true),(15,.bool false),(16,.bool false)]
     ⟨yl r6 (Dh _ _ htg (.slice ao od.length ac) (.slice wo wd.length wc) (.slice bo body.length bc) rfl rfl rfl) AI,Ag [Bv ad (.slice ao od.length ac) joint (.slice wo wd.length wc) (.slice bo body.length bc) tg] Tryz.func27 (by kernel_rfl) rq4 ⟨(oy rfl rfl),AOW⟩ (A1 fun W g=>Rg htg (ho.kn g) (hw.kn g) (hb.kn g) hS hh),C7 r6 (fun _=>Bf),ym r5,A8 rq9 (fun _ g=>Ad (B6 hsa hpo (.slice vo ks.length vc_) rfl) (Av (AF g AJ (by simp)))),CG [Ay sa po (.slice vo ks.length vc_)] Tryz.func51 (by kernel_rfl) r7 ⟨(oy rfl rfl),AOW⟩ (A1 fun W g=>O6 hsa hpo (hr.kn g) hP hv),I3 rfl rfl (gy rfl rfl rfl) (oy rfl rfl) (fun _=>Bf) (fun _=>rfl),Ah rq9,AOW⟩ fun a26 w26 g26 DH=>?_
   refine AD ?_
   refine k10 _ _ ?_
   refine Au DH rfl rfl ?_
   refine AOU ?_
   refine k9 _ _ ?_
   refine AOQ fun K27 k27=>?_
   refine AOQ fun K28 k28=>?_
   replace AJ:=AC g26 AJ
   replace AI:=AC g26 AI
   replace AL:=AC g26 AL
   replace BO:=AC g26 BO
   replace hr:=hr.kn g26
   replace ho:=ho.kn g26
   replace hw:=hw.kn g26
   replace hb:=hb.kn g26
   replace HG:=AA HG g26
   rcases Nat.eq_zero_or_pos od.length with hz|hz
   · have hnil:S.own=[]:=by rw[s2,List.eq_nil_of_length_eq_zero hz];rfl
     have hopen:=NB hh hv hnil
     rw[s1,s3,s4] at hopen
     refine AOP ?_
     refine AH DH 4 [(18,pk Bn 1),(19,.slice ao od.length ac),(20,.int .i64 ((od.length:Nat))),(21,.bool true)]
       ⟨yf r6 (fun _=>by kernel_rfl),yp (i:=1) r6 (Fe (.slice ao od.length ac) rfl) AI rfl rfl,BJ (Tryz.underlying28) rfl rfl trivial (oy rfl rfl) (fun _=>rfl),Ce r6 (fun _=>BM (Ks (by omega))),AOW⟩ fun a29 w29 g29 Ck=>?_
     refine AD ?_
     refine k28 _ _ ?_
     refine Am Ck rfl rfl ?_
     refine AOQ fun K30 k30=>?_
     refine AOQ fun K31 k31=>?_
     replace AJ:=AC g29 AJ
     replace AI:=AC g29 AI
     replace AL:=AC g29 AL
     replace BO:=AC g29 BO
     replace hr:=hr.kn g29
     replace ho:=ho.kn g29
     replace hw:=hw.kn g29
     replace hb:=hb.kn g29
     replace HG:=AA HG g29
     by_cases htt:Nt ad body=tg
     · rw[if_pos htt] at hopen
       obtain⟨dq,hdq⟩:∃q,LC body=q:=⟨_,rfl⟩
       rw[hdq] at hopen
       refine Dx Ck [(22,pk Bn 5),(23,AQ tg),(24,pt Bn),(25,.int .i64 ad),(26,pk Bn 4),(27,.slice bo body.length bc),(28,AQ ((Nt ad body))),(29,.bool false)]
         ⟨yf r6 (fun _=>by kernel_rfl),yp (i:=5) r6 (Bb tg htg.1) AI rfl rfl,yf r6 (fun _=>by kernel_rfl),yp (i:=0) r6 (D9 ad) AI rfl rfl,yf r6 (fun _=>by kernel_rfl),yp (i:=4) r6 (D5 (.slice bo body.length bc) rfl) AI rfl rfl,Ag [.int .i64 ad,.slice bo body.length bc] Tryz.func54 (by kernel_rfl) rq4 ⟨(oy rfl rfl),(oy rfl rfl),AOW⟩ (A1 fun W g=>LB ad hia body bby (by omega) _ _ _ (hb.kn g)),Fg r7 (fun _=>(Ff htg (DJ ad body) _ _ _).2.trans (by rw[decide_eq_true (htt.symm)];rfl)),AOW⟩ fun a32 w32 g32 Cu=>?_
       refine k31 _ _ ?_
       refine Au Cu rfl rfl ?_
       refine AOU ?_
       refine k30 _ _ ?_
       refine AOQ fun K33 k33=>?_
       refine AOP ?_
       refine AH Cu 2 [(31,pk Bn 4),(32,.slice bo body.length bc)]
         ⟨yf r6 (fun _=>by kernel_rfl),yp (i:=4) r6 (D5 (.slice bo body.length bc) rfl) (AC g32 AI) rfl rfl,AOW⟩ fun a34 w34 g34 DW=>?_
       have Yp:=AA g32 g34
       replace hb:=hb.kn Yp
       refine BA DW Tryz.func61 (by kernel_rfl) r6 (Jb (AKw hb bby (by omega) hdq)) fun a35 v35 w35 hR35 Kw=>?_
       obtain⟨rfl,g35⟩:=hR35
       replace AL:=AC g35 (AC Yp AL)
       refine AH Kw 2 [(34,Br dq.1),(35,.int .i64 dq.2)]
         ⟨Bh rq4 (fun _ _ h=>⟨_,_,h,rfl,rfl⟩),Bh rq4 (fun _ _ h=>⟨_,_,h,rfl,rfl⟩),AOW⟩ fun a36 w36 g36 GC=>?_
       refine Aq GC r7 (C6 dq.1) (AC g36 AL) rfl fun w37 g37 h37=>?_
       replace BO:=Ab g36 g37 (AC g35 (AC Yp BO)) Be
       refine Aq GC r7 (Gc dq.2) BO rfl fun w38 g38 h38=>?_
       replace AJ:=Aa g38 (Ab g36 g37 (AC g35 (AC Yp AJ)) (Ne.symm A3)) (Ne.symm DB)
       replace AI:=Aa g38 (Ab g36 g37 (AC g35 (AC Yp AI)) (Ne.symm A7)) (Ne.symm De)
       replace AL:=Aa g38 h37 (Ne.symm Be)
       replace hr:=((((hr.kn Yp).kn g35).kn g36).offR g37 (AP Bd)).offR g38 (AP Fy)
       replace ho:=((((ho.kn Yp).kn g35).kn g36).offR g37 (AP CC)).offR g38 (AP Ik)
       replace hw:=((((hw.kn Yp).kn g35).kn g36).offR g37 (AP CD)).offR g38 (AP Il)
       replace hb:=(((hb.kn g35).kn g36).offR g37 (AP B9)).offR g38 (AP He)
       replace HG:=AE (AE (AA (AA (AA HG Yp) g35) g36) g37 Bm) g38 GF
       replace BO:=h38
       have JY:Sv _ _ [_,_,_,_,_,_,_,_,_,_,_,_,_,_,_,_,_,_,_,_,_,_,_,_,_,_,_] _:=GC.dl [34,35,33,31,32]
       refine AD ?_
       refine k33 _ _ ?_
       refine AOT ?_
       repeat refine AM ?_
       refine Bz (fn:=Tryz.f22) JY (CR (p:=4) (q:=5) Tryz.results22 JY rfl rfl rfl rfl (C6 dq.1) (Gc dq.2) AL BO) (Ch Tryz.func60 (by kernel_rfl) rfl _ _) (EW _ _ _) ?_
       exact⟨KE (hopen),HG⟩
     · rw[if_neg htt] at hopen
       refine Dx Ck [(22,pk Bn 5),(23,AQ tg),(24,pt Bn),(25,.int .i64 ad),(26,pk Bn 4),(27,.slice bo body.length bc),(28,AQ ((Nt ad body))),(29,.bool true)]
         ⟨yf r6 (fun _=>by kernel_rfl),yp (i:=5) r6 (Bb tg htg.1) AI rfl rfl,yf r6 (fun _=>by kernel_rfl),yp (i:=0) r6 (D9 ad) AI rfl rfl,yf r6 (fun _=>by kernel_rfl),yp (i:=4) r6 (D5 (.slice bo body.length bc) rfl) AI rfl rfl,Ag [.int .i64 ad,.slice bo body.length bc] Tryz.func54 (by kernel_rfl) rq4 ⟨(oy rfl rfl),(oy rfl rfl),AOW⟩ (A1 fun W g=>LB ad hia body bby (by omega) _ _ _ (hb.kn g)),Fg r7 (fun _=>(Ff htg (DJ ad body) _ _ _).2.trans (by rw[decide_eq_false ((fun h=>htt h.symm))];rfl)),AOW⟩ fun a40 w40 g40 I7=>?_
       refine k31 _ _ ?_
       refine Am I7 rfl rfl ?_
       refine AOQ fun K41 k41=>?_
       refine AOP ?_
       replace AL:=AC g40 AL
       refine AH I7 1 [(30,Br V.nul)]
         ⟨BG (vs:=[]) rfl rfl trivial trivial (fun _=>IQ _) (fun _=>rfl),AOW⟩ fun a42 w42 g42 Gj=>?_
       refine Aq Gj r7 (C6 V.nul) (AC g42 AL) rfl fun w43 g43 h43=>?_
       replace BO:=Ab g42 g43 (AC g40 BO) Be
       refine Aq Gj r7 (Gc 101) BO rfl fun w44 g44 h44=>?_
       replace AJ:=Aa g44 (Ab g42 g43 (AC g40 AJ) (Ne.symm A3)) (Ne.symm DB)
       replace AI:=Aa g44 (Ab g42 g43 (AC g40 AI) (Ne.symm A7)) (Ne.symm De)
       replace AL:=Aa g44 h43 (Ne.symm Be)
       replace hr:=(((hr.kn g40).kn g42).offR g43 (AP Bd)).offR g44 (AP Fy)
       replace ho:=(((ho.kn g40).kn g42).offR g43 (AP CC)).offR g44 (AP Ik)
       replace hw:=(((hw.kn g40).kn g42).offR g43 (AP CD)).offR g44 (AP Il)
       replace hb:=(((hb.kn g40).kn g42).offR g43 (AP B9)).offR g44 (AP He)
       replace HG:=AE (AE (AA (AA HG g40) g42) g43 Bm) g44 GF
       replace BO:=h44
       refine AD ?_
       refine k41 _ _ ?_
       refine AOT ?_
       repeat refine AM ?_
       refine Bz (fn:=Tryz.f22) Gj (CR (p:=4) (q:=5) Tryz.results22 Gj rfl rfl rfl rfl (C6 V.nul) (Gc 101) AL BO) (Ch Tryz.func60 (by kernel_rfl) rfl _ _) (EW _ _ _) ?_
       exact⟨KE (hopen),HG⟩
   · have hne:S.own≠[]:=fun h=>by rw[s2] at h;have h2:od.length=0:=(List.length_map _).symm.trans (congrArg List.length h);omega
     refine AOP ?_
     refine AH DH 4 [(18,pk Bn 1),(19,.slice ao od.length ac),(20,.int .i64 ((od.length:Nat))),(21,.bool false)]
       ⟨yf r6 (fun _=>by kernel_rfl),yp (i:=1) r6 (Fe (.slice ao od.length ac) rfl) AI rfl rfl,BJ (Tryz.underlying28) rfl rfl trivial (oy rfl rfl) (fun _=>rfl),Ce r6 (fun _=>BM (I2 (by omega))),AOW⟩ fun a45 w45 g45 FT=>?_
     refine AD ?_
     refine k28 _ _ ?_
     refine Au FT rfl rfl ?_
     refine AOU ?_
     refine k27 _ _ ?_
     refine AOQ fun K46 k46=>?_
     replace AJ:=AC g45 AJ
     replace AI:=AC g45 AI
     replace AL:=AC g45 AL
     replace BO:=AC g45 BO
     replace hr:=hr.kn g45
     replace ho:=ho.kn g45
     replace hw:=hw.kn g45
     replace hb:=hb.kn g45
     replace HG:=AA HG g45
     rcases(show Ga P S=none∨∃c,Ga P S=some c by cases Ga P S<;>simp) with hrec|⟨c,hrec⟩
     · refine AOP ?_
       refine AH FT 2 [(37,Ay sa po (.slice vo ks.length vc_)),(38,Bv ad (.slice ao od.length ac) joint (.slice wo wd.length wc) (.slice bo body.length bc) tg)]
         ⟨yl r6 (B6 hsa hpo (.slice vo ks.length vc_) rfl) AJ,yl r6 (Dh _ _ htg (.slice ao od.length ac) (.slice wo wd.length wc) (.slice bo body.length bc) rfl rfl rfl) AI,AOW⟩ fun a47 w47 g47 Kx=>?_
       replace hr:=hr.kn g47
       replace ho:=ho.kn g47
       replace hw:=hw.kn g47
       replace hb:=hb.kn g47
       refine BA Kx Tryz.func62 (by kernel_rfl) r6 (AEr hsa hpo htg hr ho hw hb hP hS hh hrec) fun a48 v48 w48 hR48 TV=>?_
       obtain⟨cz,rfl,hcd,_,g48⟩:=hR48
       refine AH TV 3 [(36,.tuple #[AQ cz,.bool false]),(40,AQ cz),(41,.bool false)]
         ⟨ym r5,Bh rq4 (fun _ _ h=>⟨_,_,h,rfl,rfl⟩),Bh rq4 (fun _ _ h=>⟨_,_,h,rfl,rfl⟩),AOW⟩ fun a49 w49 g49 ER=>?_
       replace AJ:=AC g49 (AC g48 (AC g47 AJ))
       replace AI:=AC g49 (AC g48 (AC g47 AI))
       replace AL:=AC g49 (AC g48 (AC g47 AL))
       replace BO:=AC g49 (AC g48 (AC g47 BO))
       replace hr:=(hr.kn g48).kn g49
       replace ho:=(ho.kn g48).kn g49
       replace hw:=(hw.kn g48).kn g49
       replace hb:=(hb.kn g48).kn g49
       replace HG:=AA (AA (AA HG g47) g48) g49
       refine A9 (T:=23) (Z:=(bv AR)) ER rfl rfl rfl (fun a w=>by kernel_rfl) fun a50 w50 AN8 IG g50 z50 ALt Ky=>?_
       have Vh:=Ao AJ IG
       have Vi:=Ao AI IG
       have Vj:=Ao AL IG
       have Vk:=Ao BO IG
       have AIW:=Bq HG IG
       have ABw:=Aw (hr.lt) IG
       have ABx:=Aw (ho.lt) IG
       have ABy:=Aw (hw.lt) IG
       have ABz:=Aw (hb.lt) IG
       refine Aq Ky r7 (Bb cz hcd.1) ALt (EM hcd) fun w51 g51 h51=>?_
       refine AS (v:=.bool false) Ky r6 fun a52 Mw=>?_
       have FU:Sv _ _ [_,_,_,_,_,_,_,_,_,_,_,_,_,_,_,_,_,_,_,_,_] _:=Mw.dl [36,40,41,39,37,38]
       refine AD ?_
       refine k46 _ _ ?_
       refine AOQ fun K54 k54=>?_
       refine AOQ fun K55 k55=>?_
       refine AOP ?_
       refine AH FU 2 [(42,.bool false),(43,.bool true)]
         ⟨ym r5,C7 r6 (fun _=>Bf),AOW⟩ fun a56 w56 g56 Oz=>?_
       refine AD ?_
       refine k55 _ _ ?_
       refine Am Oz rfl rfl ?_
       refine AOQ fun K57 k57=>?_
       refine AOP ?_
       replace AL:=AC g56 (Aa g51 (AC g50 AL) (Ne.symm Vj))
       refine AH Oz 1 [(44,Br V.nul)]
         ⟨BG (vs:=[]) rfl rfl trivial trivial (fun _=>IQ _) (fun _=>rfl),AOW⟩ fun a58 w58 g58 OL=>?_
       refine Aq OL r7 (C6 V.nul) (AC g58 AL) rfl fun w59 g59 h59=>?_
       replace BO:=Ab g58 g59 (AC g56 (Aa g51 (AC g50 BO) (Ne.symm Vk))) Be
       refine Aq OL r7 (Gc 10) BO rfl fun w60 g60 h60=>?_
       replace AJ:=Aa g60 (Ab g58 g59 (AC g56 (Aa g51 (AC g50 AJ) (Ne.symm Vh))) (Ne.symm A3)) (Ne.symm DB)
       replace AI:=Aa g60 (Ab g58 g59 (AC g56 (Aa g51 (AC g50 AI) (Ne.symm Vi))) (Ne.symm A7)) (Ne.symm De)
       replace AL:=Aa g60 h59 (Ne.symm Be)
       replace hr:=(((((hr.kn g50).offR g51 (AP ABw)).kn g56).kn g58).offR g59 (AP Bd)).offR g60 (AP Fy)
       replace ho:=(((((ho.kn g50).offR g51 (AP ABx)).kn g56).kn g58).offR g59 (AP CC)).offR g60 (AP Ik)
       replace hw:=(((((hw.kn g50).offR g51 (AP ABy)).kn g56).kn g58).offR g59 (AP CD)).offR g60 (AP Il)
       replace hb:=(((((hb.kn g50).offR g51 (AP ABz)).kn g56).kn g58).offR g59 (AP B9)).offR g60 (AP He)
       replace HG:=AE (AE (AA (AA (AE (AA HG g50) g51 AIW) g56) g58) g59 Bm) g60 GF
       replace BO:=h60
       refine AD ?_
       refine k57 _ _ ?_
       refine AOT ?_
       repeat refine AM ?_
       refine Bz (fn:=Tryz.f22) OL (CR (p:=4) (q:=5) Tryz.results22 OL rfl rfl rfl rfl (C6 V.nul) (Gc 10) AL BO) (Ch Tryz.func60 (by kernel_rfl) rfl _ _) (EW _ _ _) ?_
       exact⟨KE (Tn hh hv hne hrec),HG⟩
     · have hopen:=NZ hh hv hne hrec
       rw[s1,s3,s4] at hopen
       refine AOP ?_
       refine AH FT 2 [(37,Ay sa po (.slice vo ks.length vc_)),(38,Bv ad (.slice ao od.length ac) joint (.slice wo wd.length wc) (.slice bo body.length bc) tg)]
         ⟨yl r6 (B6 hsa hpo (.slice vo ks.length vc_) rfl) AJ,yl r6 (Dh _ _ htg (.slice ao od.length ac) (.slice wo wd.length wc) (.slice bo body.length bc) rfl rfl rfl) AI,AOW⟩ fun a61 w61 g61 Nm=>?_
       replace hr:=hr.kn g61
       replace ho:=ho.kn g61
       replace hw:=hw.kn g61
       replace hb:=hb.kn g61
       refine BA Nm Tryz.func62 (by kernel_rfl) r6 (AEr hsa hpo htg hr ho hw hb hP hS hh hrec) fun a62 v62 w62 hR62 ADd=>?_
       obtain⟨cz,rfl,hcd,hcc,g62⟩:=hR62
       obtain rfl:=hcc c rfl
       refine AH ADd 3 [(36,.tuple #[AQ c,.bool true]),(40,AQ c),(41,.bool true)]
         ⟨ym r5,Bh rq4 (fun _ _ h=>⟨_,_,h,rfl,rfl⟩),Bh rq4 (fun _ _ h=>⟨_,_,h,rfl,rfl⟩),AOW⟩ fun a63 w63 g63 PF=>?_
       replace AI:=AC g63 (AC g62 (AC g61 AI))
       replace AL:=AC g63 (AC g62 (AC g61 AL))
       replace BO:=AC g63 (AC g62 (AC g61 BO))
       replace hb:=(hb.kn g62).kn g63
       replace HG:=AA (AA (AA HG g61) g62) g63
       refine A9 (T:=23) (Z:=(bv AR)) PF rfl rfl rfl (fun a w=>by kernel_rfl) fun a64 w64 AN9 NC g64 z64 OT U5=>?_
       have Vl:=Ao AI NC
       have N0:=Ao AL NC
       have N1:=Ao BO NC
       have AIX:=Bq HG NC
       have AB0:=Aw (hb.lt) NC
       refine Aq U5 r7 (Bb c hcd.1) OT (EM hcd) fun w65 g65 h65=>?_
       refine AS (v:=.bool true) U5 r6 fun a66 Gq=>?_
       have Tc:Sv _ _ [_,_,_,_,_,_,_,_,_,_,_,_,_,_,_,_,_,_,_,_,_] _:=Gq.dl [36,40,41,39,37,38]
       refine AD ?_
       refine k46 _ _ ?_
       refine AOQ fun K68 k68=>?_
       refine AOQ fun K69 k69=>?_
       refine AOP ?_
       refine AH Tc 2 [(42,.bool true),(43,.bool false)]
         ⟨ym r5,C7 r6 (fun _=>Bf),AOW⟩ fun a70 w70 g70 PT=>?_
       refine AD ?_
       refine k69 _ _ ?_
       refine Au PT rfl rfl ?_
       refine AOU ?_
       refine k68 _ _ ?_
       refine AOQ fun K71 k71=>?_
       refine AOQ fun K72 k72=>?_
       replace AI:=AC g70 (Aa g65 (AC g64 AI) (Ne.symm Vl))
       replace AL:=AC g70 (Aa g65 (AC g64 AL) (Ne.symm N0))
       replace BO:=AC g70 (Aa g65 (AC g64 BO) (Ne.symm N1))
       replace OT:=AC g70 h65
       replace hb:=((hb.kn g64).offR g65 (AP AB0)).kn g70
       replace HG:=AA (AE (AA HG g64) g65 AIX) g70
       by_cases htt:MI c ad body=tg
       · rw[if_pos htt] at hopen
         obtain⟨dq,hdq⟩:∃q,LC (Fj body c)=q:=⟨_,rfl⟩
         rw[hdq] at hopen
         refine Dx PT [(45,pk Bn 5),(46,AQ tg),(47,AQ c),(48,pt Bn),(49,.int .i64 ad),(50,pk Bn 4),(51,.slice bo body.length bc),(52,AQ ((MI c ad body))),(53,.bool false)]
          ⟨yf r6 (fun _=>by kernel_rfl),yp (i:=5) r6 (Bb tg htg.1) AI rfl rfl,yl r6 (Bb c hcd.1) OT,yf r6 (fun _=>by kernel_rfl),yp (i:=0) r6 (D9 ad) AI rfl rfl,yf r6 (fun _=>by kernel_rfl),yp (i:=4) r6 (D5 (.slice bo body.length bc) rfl) AI rfl rfl,Ag [AQ c,.int .i64 ad,.slice bo body.length bc] Tryz.func58 (by kernel_rfl) rq4 ⟨(oy rfl rfl),(oy rfl rfl),(oy rfl rfl),AOW⟩ (A1 fun W g=>Iu c hcd ad hia body bby (by omega) _ _ _ (hb.kn g)),Fg r7 (fun _=>(Ff htg (CE c ad body) _ _ _).2.trans (by rw[decide_eq_true (htt.symm)];rfl)),AOW⟩ fun a73 w73 g73 Nn=>?_
         refine k72 _ _ ?_
         refine Au Nn rfl rfl ?_
         refine AOU ?_
         refine k71 _ _ ?_
         refine AOQ fun K74 k74=>?_
         refine AOP ?_
         refine AH Nn 3 [(55,pk Bn 4),(56,.slice bo body.length bc),(57,AQ c)]
          ⟨yf r6 (fun _=>by kernel_rfl),yp (i:=4) r6 (D5 (.slice bo body.length bc) rfl) (AC g73 AI) rfl rfl,yl r6 (Bb c hcd.1) (AC g73 OT),AOW⟩ fun a75 w75 g75 AH9=>?_
         have AGI:=AA g73 g75
         replace AL:=AC AGI AL
         replace BO:=AC AGI BO
         replace hb:=hb.kn AGI
         refine BA AH9 Tryz.func57 (by kernel_rfl) r6 (Nu (MM body bby (by omega) _ _ c hcd _ hb)) fun a76 v76 w76 hR76 P1=>?_
         obtain⟨ao76,cap76,rfl,_⟩:=(Sl.of_own hR76.1).shape
         obtain⟨ow76,fr76⟩:=hR76
         replace fr76:=DT fr76
         have oy_:=ow76
         clear ow76
         have g76:=fr76.1
         replace fr76:=fr76.2
         have Hm:=Cj fr76 AL
         have AB1:=Cj fr76 BO
         refine BA P1 Tryz.func61 (by kernel_rfl) r6 (Jb (AKw (Own.sb oy_) (Kz _ bby) (by rw[Hy];omega) hdq)) fun a77 v77 w77 hR77 U6=>?_
         obtain⟨rfl,g77⟩:=hR77
         replace AL:=AC g77 (AC g76 AL)
         have AA9:Sv _ _ [_,_,_,_,_,_,_,_,_,_,_,_,_,_,_,_,_,_,_,_,_,_,_,_,_,_,_,_,_,_,_,_,_] _:=U6.dl [58,55,56,57]
         refine AH AA9 2 [(60,Br dq.1),(61,.int .i64 dq.2)]
          ⟨Bh rq4 (fun _ _ h=>⟨_,_,h,rfl,rfl⟩),Bh rq4 (fun _ _ h=>⟨_,_,h,rfl,rfl⟩),AOW⟩ fun a79 w79 g79 Md=>?_
         refine Aq Md r7 (C6 dq.1) (AC g79 AL) rfl fun w80 g80 h80=>?_
         replace BO:=Ab g79 g80 (AC g77 (AC g76 BO)) Be
         refine Aq Md r7 (Gc dq.2) BO rfl fun w81 g81 h81=>?_
         replace AI:=Aa g81 (Ab g79 g80 (AC g77 (AC g76 (AC AGI AI))) (Ne.symm A7)) (Ne.symm De)
         replace AL:=Aa g81 h80 (Ne.symm Be)
         replace OT:=Aa g81 (Ab g79 g80 (AC g77 (AC g76 (AC AGI OT))) N0) N1
         replace hb:=((((hb.kn g76).kn g77).kn g79).offR g80 (AP B9)).offR g81 (AP He)
         replace oy_:=(((oy_.kn g77).kn g79).offR g80 (AP Hm)).offR g81 (AP AB1)
         replace HG:=AE (AE (AA (AA (AA (AA HG AGI) g76) g77) g79) g80 Bm) g81 GF
         replace BO:=h81
         refine AD ?_
         refine k74 _ _ ?_
         refine AOT ?_
         repeat refine AM ?_
         refine Bz (fn:=Tryz.f22) Md (CR (p:=4) (q:=5) Tryz.results22 Md rfl rfl rfl rfl (C6 dq.1) (Gc dq.2) AL BO) (Ch Tryz.func60 (by kernel_rfl) rfl _ _) (EW _ _ _) ?_
         exact⟨KE (hopen),HG⟩
       · rw[if_neg htt] at hopen
         refine Dx PT [(45,pk Bn 5),(46,AQ tg),(47,AQ c),(48,pt Bn),(49,.int .i64 ad),(50,pk Bn 4),(51,.slice bo body.length bc),(52,AQ ((MI c ad body))),(53,.bool true)]
          ⟨yf r6 (fun _=>by kernel_rfl),yp (i:=5) r6 (Bb tg htg.1) AI rfl rfl,yl r6 (Bb c hcd.1) OT,yf r6 (fun _=>by kernel_rfl),yp (i:=0) r6 (D9 ad) AI rfl rfl,yf r6 (fun _=>by kernel_rfl),yp (i:=4) r6 (D5 (.slice bo body.length bc) rfl) AI rfl rfl,Ag [AQ c,.int .i64 ad,.slice bo body.length bc] Tryz.func58 (by kernel_rfl) rq4 ⟨(oy rfl rfl),(oy rfl rfl),(oy rfl rfl),AOW⟩ (A1 fun W g=>Iu c hcd ad hia body bby (by omega) _ _ _ (hb.kn g)),Fg r7 (fun _=>(Ff htg (CE c ad body) _ _ _).2.trans (by rw[decide_eq_false ((fun h=>htt h.symm))];rfl)),AOW⟩ fun a82 w82 g82 TB=>?_
         refine k72 _ _ ?_
         refine Am TB rfl rfl ?_
         refine AOQ fun K83 k83=>?_
         refine AOP ?_
         replace AL:=AC g82 AL
         refine AH TB 1 [(54,Br V.nul)]
          ⟨BG (vs:=[]) rfl rfl trivial trivial (fun _=>IQ _) (fun _=>rfl),AOW⟩ fun a84 w84 g84 M6=>?_
         refine Aq M6 r7 (C6 V.nul) (AC g84 AL) rfl fun w85 g85 h85=>?_
         replace BO:=Ab g84 g85 (AC g82 BO) Be
         refine Aq M6 r7 (Gc 101) BO rfl fun w86 g86 h86=>?_
         replace AL:=Aa g86 h85 (Ne.symm Be)
         replace HG:=AE (AE (AA (AA HG g82) g84) g85 Bm) g86 GF
         replace BO:=h86
         refine AD ?_
         refine k83 _ _ ?_
         refine AOT ?_
         repeat refine AM ?_
         refine Bz (fn:=Tryz.f22) M6 (CR (p:=4) (q:=5) Tryz.results22 M6 rfl rfl rfl rfl (C6 V.nul) (Gc 101) AL BO) (Ch Tryz.func60 (by kernel_rfl) rfl _ _) (EW _ _ _) ?_
         exact⟨KE (hopen),HG⟩
theorem ALu {w:World} {ks:List VK} {vo:Option Addr} {vc_:Nat} {sa po:List Nat} {ad joint:Int} {od wd:List DD} {ao wo bo:Option Addr} {ac wc bc:Nat} {body tg:List Nat} {q:V×Int} (hsa:Dg sa) (hpo:Dg po) (htg:Dg tg) (bby:By body) (hr:RdK w (.slice vo ks.length vc_) ks) (ho:RdD w (.slice ao od.length ac) od) (hw:RdD w (.slice wo wd.length wc) wd) (hb:SlB w 1 (.slice bo body.length bc) body.length (bv body)) (hq:Fl (ks.map VK.p) ⟨ad,od.map DD.x,joint,wd.map DD.x,body,tg⟩=q) :
  Calls Tryz.prog 22 #[Ay sa po (.slice vo ks.length vc_),Bv ad (.slice ao od.length ac) joint (.slice wo wd.length wc) (.slice bo body.length bc) tg] w fun e w'=>e=.returned (.tuple #[Br q.1,.int .i64 q.2])∧w.grownBy w' none:=by
 subst hq
 exact AGH ks vo vc_ sa po hsa hpo ad joint od wd ao wo bo ac wc bc body tg htg bby w hr ho hw hb
end Go.Proofs.YtbfjfnbcmojpiaaGreat
