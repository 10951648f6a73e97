import Derived.Test.YtbfjfnbcmojpiaaGreatDaYB
import Derived.Test.YtbfjfnbcmojpiaaGreatDaY1
set_option linter.unusedSimpArgs false
set_option linter.unusedVariables false
set_option maxRecDepth 100000
set_option maxHeartbeats 4000000
namespace Go.Proofs.YtbfjfnbcmojpiaaGreat
open Go.RowKit Go.Shelf
theorem AMy (v:Value) (h:v.oneCell'=true) (e:Int):TY Tryz.prog 94 ([[v],[.int .i64 e]].flatten) (.agg #[v,.int .i64 e]):=
 TY.agg Tryz.underlying94 rfl (by kernel_rfl) (by
  intro c hc
  simp at hc
  rcases hc with rfl|rfl
  · exact h
  · rfl)
theorem Gs {P:Program} {ops:Array Oper} {L:Nat→Sp} {n:Nat} {w0:World} {o:Oper} {x:Operand} {d b k:Nat} (ho:o.op=.nilCheck x) (hd:o.dst=some d) (hg:GX ops L n o.guard) (hx:OpX L n x (.pointer (some ⟨b,k,none⟩))) (h:∀w,(L d).on w (.pointer (some ⟨b,k,none⟩))):OX P ops L n w0 o:=
 Fv hg fun a w hw hl hsz=>⟨_,by
  have e1:=hx.eval (o:=o) (a:=a) (w:=w) (by simp[ho,Op.operands]) hl
  simp[execOp,ho,e1],Da hd (h w)⟩
theorem AMz (ao:Option Addr) (n c:Nat) (w:World):(Instr.build 94 #[(0,.slice ao n c)]).run Tryz.prog w=.ok (.agg #[.slice ao n c,.int .i64 0]) w:=by kernel_rfl
theorem ADl (ks:List VK) (vo:Option Addr) (vc_:Nat) (sa po:List Nat) (hsa:Dg sa) (hpo:Dg po) (ad joint:Int) (od wd:List DD) (ao wo bo:Option Addr) (ac wc bc:Nat) (body tg:List Nat) (htg:Dg tg) (bby:By body) (w:World) (hr:RdK w (.slice vo ks.length vc_) ks) (ho:RdD w (.slice ao od.length ac) od) (hw:RdD w (.slice wo wd.length wc) wd) (hb:SlB w 1 (.slice bo body.length bc) body.length (bv body)) :
   Calls Tryz.prog 23 #[Ay sa po (.slice vo ks.length vc_),Bv ad (.slice ao od.length ac) joint (.slice wo wd.length wc) (.slice bo body.length bc) tg] w fun e w'=>e=.returned (.tuple #[Br (Fl (ks.map VK.p) ⟨ad,od.map DD.x,joint,wd.map DD.x,body,tg⟩).1,.int .i64 (Fl (ks.map VK.p) ⟨ad,od.map DD.x,joint,wd.map DD.x,body,tg⟩).2])∧w.grownBy w' none:=by
 obtain⟨P,hP⟩:∃P,ks.map VK.p=P:=⟨_,rfl⟩
 obtain⟨S,hS⟩:∃S:Sd,⟨ad,od.map DD.x,joint,wd.map DD.x,body,tg⟩=S:=⟨_,rfl⟩
 have s1:S.addr=ad:=by rw[←hS]
 have s2:S.own=od.map DD.x:=by rw[←hS]
 have s3:S.body=body:=by rw[←hS]
 have s4:S.tag=tg:=by rw[←hS]
 rw[hP,hS]
 refine BV Tryz.func23 rfl Tryz.ntmps23 rfl fun a0 sv0=>?_
 have HG:=World.grownBy.refl w none
 replace sv0:Sv 77 [] [(0,Ay sa po (.slice vo ks.length vc_)),(1,Bv ad (.slice ao od.length ac) joint (.slice wo wd.length wc) (.slice bo body.length bc) tg)] a0:=sv0
 refine AOQ fun K1 k1=>?_
 refine AOP ?_
 refine Bi sv0 r6 (B6 hsa hpo (.slice vo ks.length vc_) rfl) fun a2 w2 Cp Dt g2 z2 AJ sv2=>?_
 refine Bi sv2 r6 (Dh _ _ htg (.slice ao od.length ac) (.slice wo wd.length wc) (.slice bo body.length bc) rfl rfl rfl) fun a3 w3 Bn Fh g3 z3 AI sv3=>?_
 replace AJ:=AC g3 AJ
 replace hr:=(hr.kn g2).kn g3
 replace ho:=(ho.kn g2).kn g3
 replace hw:=(hw.kn g2).kn g3
 replace hb:=(hb.kn g2).kn g3
 replace HG:=AA (AA HG g2) g3
 refine A9 (T:=25) (Z:=[.int .i64 0,.int .i64 0,.string ⟨#[]⟩]) sv3 rfl rfl rfl (fun a w=>by kernel_rfl) fun a4 w4 Ev Bl g4 z4 AL sv4=>?_
 have A3:=Ao AJ Bl
 have A7:=Ao AI Bl
 have Bm:=Bq HG Bl
 have Bd:=Aw (hr.lt) Bl
 have CC:=Aw (ho.lt) Bl
 have CD:=Aw (hw.lt) Bl
 have B9:=Aw (hb.lt) Bl
 replace AJ:=AC g4 AJ
 replace AI:=AC g4 AI
 replace hr:=hr.kn g4
 replace ho:=ho.kn g4
 replace hw:=hw.kn g4
 replace hb:=hb.kn g4
 replace HG:=AA HG g4
 refine AS (v:=.int .i64 0) sv4 r6 fun a5 sv5=>?_
 refine AD ?_
 refine k1 _ _ ?_
 refine AOQ fun K6 k6=>?_
 refine AOQ fun K7 k7=>?_
 rcases(show(Ed S=false∧Co P=false)∨(Ed S=false∧Co P=true)∨(Ed S=true∧Co P=false)∨(Ed S=true∧Co P=true) by cases Ed S<;>cases Co P<;>simp) with ⟨hh,hv⟩|⟨hh,hv⟩|⟨hh,hv⟩|⟨hh,hv⟩
 · refine AOP ?_
   refine AH sv5 8 [(12,Ay sa po (.slice vo ks.length vc_)),(13,.bool false),(14,.bool true),(15,.bool true),(16,undef),(17,undef),(18,undef),(19,.bool true)]
     ⟨yl r6 (B6 hsa hpo (.slice vo ks.length vc_) rfl) AJ,Ag [Ay sa po (.slice vo ks.length vc_)] Tryz.func40 (by kernel_rfl) rq4 ⟨(oy rfl rfl),AOW⟩ (A1 fun W g=>Hf hsa hpo (hr.kn g) hP hv),C7 r6 (fun _=>Bf),ym r5,AN r6,AN r6,AN r6,BF r7,AOW⟩ fun a8 w8 g8 sv8=>?_
   refine AD ?_
   refine k7 _ _ ?_
   refine Am sv8 rfl rfl ?_
   refine AOQ fun K9 k9=>?_
   refine AOP ?_
   replace AL:=AC g8 AL
   refine AH sv8 1 [(20,Br V.nul)]
     ⟨BG (vs:=[]) rfl rfl trivial trivial (fun _=>IQ _) (fun _=>rfl),AOW⟩ fun a10 w10 g10 Bt=>?_
   refine Aq Bt r7 (C6 V.nul) (AC g10 AL) rfl fun w11 g11 h11=>?_
   replace AJ:=Ab g10 g11 (AC g8 AJ) (Ne.symm A3)
   replace AI:=Ab g10 g11 (AC g8 AI) (Ne.symm A7)
   replace hr:=((hr.kn g8).kn g10).offR g11 (AP Bd)
   replace ho:=((ho.kn g8).kn g10).offR g11 (AP CC)
   replace hw:=((hw.kn g8).kn g10).offR g11 (AP CD)
   replace hb:=((hb.kn g8).kn g10).offR g11 (AP B9)
   replace HG:=AE (AA (AA HG g8) g10) g11 Bm
   replace AL:=h11
   refine AS (v:=.int .i64 1) Bt r6 fun a12 DF=>?_
   refine AD ?_
   refine k9 _ _ ?_
   refine AOT ?_
   repeat refine AM ?_
   refine Ap (fn:=Tryz.f23) DF (Cb (p:=4) (q:=5) Tryz.results23 DF rfl rfl rfl rfl (C6 V.nul) AL) ?_
   exact⟨KE (Ji (.inl hh)),HG⟩
 · refine AOP ?_
   refine AH sv5 8 [(12,Ay sa po (.slice vo ks.length vc_)),(13,.bool true),(14,.bool false),(15,.bool false),(16,Bv ad (.slice ao od.length ac) joint (.slice wo wd.length wc) (.slice bo body.length bc) tg),(17,.bool false),(18,.bool true),(19,.bool true)]
     ⟨yl r6 (B6 hsa hpo (.slice vo ks.length vc_) rfl) AJ,Ag [Ay sa po (.slice vo ks.length vc_)] Tryz.func40 (by kernel_rfl) rq4 ⟨(oy rfl rfl),AOW⟩ (A1 fun W g=>Hf hsa hpo (hr.kn g) hP hv),C7 r6 (fun _=>Bf),ym r5,A8 rq9 (fun _ g=>Ad (Dh _ _ htg (.slice ao od.length ac) (.slice wo wd.length wc) (.slice bo body.length bc) rfl rfl rfl) (Av (AF g AI (by simp)))),CG [Bv ad (.slice ao od.length ac) joint (.slice wo wd.length wc) (.slice bo body.length bc) tg] Tryz.func28 (by kernel_rfl) r7 ⟨(oy rfl rfl),AOW⟩ (A1 fun W g=>ABv htg (ho.kn g) (hw.kn g) (hb.kn g) hS hh),I3 rfl rfl (gy rfl rfl rfl) (oy rfl rfl) (fun _=>Bf) (fun _=>rfl),Ah rq9,AOW⟩ fun a13 w13 g13 Cx=>?_
   refine AD ?_
   refine k7 _ _ ?_
   refine Am Cx rfl rfl ?_
   refine AOQ fun K14 k14=>?_
   refine AOP ?_
   replace AL:=AC g13 AL
   refine AH Cx 1 [(20,Br V.nul)]
     ⟨BG (vs:=[]) rfl rfl trivial trivial (fun _=>IQ _) (fun _=>rfl),AOW⟩ fun a15 w15 g15 Fp=>?_
   refine Aq Fp r7 (C6 V.nul) (AC g15 AL) rfl fun w16 g16 h16=>?_
   replace AJ:=Ab g15 g16 (AC g13 AJ) (Ne.symm A3)
   replace AI:=Ab g15 g16 (AC g13 AI) (Ne.symm A7)
   replace hr:=((hr.kn g13).kn g15).offR g16 (AP Bd)
   replace ho:=((ho.kn g13).kn g15).offR g16 (AP CC)
   replace hw:=((hw.kn g13).kn g15).offR g16 (AP CD)
   replace hb:=((hb.kn g13).kn g15).offR g16 (AP B9)
   replace HG:=AE (AA (AA HG g13) g15) g16 Bm
   replace AL:=h16
   refine AS (v:=.int .i64 1) Fp r6 fun a17 EK=>?_
   refine AD ?_
   refine k14 _ _ ?_
   refine AOT ?_
   repeat refine AM ?_
   refine Ap (fn:=Tryz.f23) EK (Cb (p:=4) (q:=5) Tryz.results23 EK rfl rfl rfl rfl (C6 V.nul) AL) ?_
   exact⟨KE (Ji (.inl hh)),HG⟩
 · refine AOP ?_
   refine AH sv5 8 [(12,Ay sa po (.slice vo ks.length vc_)),(13,.bool false),(14,.bool true),(15,.bool true),(16,undef),(17,undef),(18,undef),(19,.bool true)]
     ⟨yl r6 (B6 hsa hpo (.slice vo ks.length vc_) rfl) AJ,Ag [Ay sa po (.slice vo ks.length vc_)] Tryz.func40 (by kernel_rfl) rq4 ⟨(oy rfl rfl),AOW⟩ (A1 fun W g=>Hf hsa hpo (hr.kn g) hP hv),C7 r6 (fun _=>Bf),ym r5,AN r6,AN r6,AN r6,BF r7,AOW⟩ fun a18 w18 g18 CY=>?_
   refine AD ?_
   refine k7 _ _ ?_
   refine Am CY rfl rfl ?_
   refine AOQ fun K19 k19=>?_
   refine AOP ?_
   replace AL:=AC g18 AL
   refine AH CY 1 [(20,Br V.nul)]
     ⟨BG (vs:=[]) rfl rfl trivial trivial (fun _=>IQ _) (fun _=>rfl),AOW⟩ fun a20 w20 g20 Du=>?_
   refine Aq Du r7 (C6 V.nul) (AC g20 AL) rfl fun w21 g21 h21=>?_
   replace AJ:=Ab g20 g21 (AC g18 AJ) (Ne.symm A3)
   replace AI:=Ab g20 g21 (AC g18 AI) (Ne.symm A7)
   replace hr:=((hr.kn g18).kn g20).offR g21 (AP Bd)
   replace ho:=((ho.kn g18).kn g20).offR g21 (AP CC)
   replace hw:=((hw.kn g18).kn g20).offR g21 (AP CD)
   replace hb:=((hb.kn g18).kn g20).offR g21 (AP B9)
   replace HG:=AE (AA (AA HG g18) g20) g21 Bm
   replace AL:=h21
   refine AS (v:=.int .i64 1) Du r6 fun a22 B7=>?_
   refine AD ?_
   refine k19 _ _ ?_
   refine AOT ?_
   repeat refine AM ?_
   refine Ap (fn:=Tryz.f23) B7 (Cb (p:=4) (q:=5) Tryz.results23 B7 rfl rfl rfl rfl (C6 V.nul) AL) ?_
   exact⟨KE (Ji (.inr hv)),HG⟩
 · have hb64:body.length≤64:=s3▸AIH hh
   have hia:N6 ad:=by have:=(Sz (Yb hh)).1;rw[s1] at this;exact⟨by omega,by omega⟩
   refine AOP ?_
   refine AH sv5 8 [(12,Ay sa po (.slice vo ks.length vc_)),(13,.bool true),(14,.bool false),(15,.bool false),(16,Bv ad (.slice ao od.length ac) joint (.slice wo wd.length wc) (.slice bo body.length bc) tg),(17,.bool true),(18,.bool false),(19,.bool false)]
     ⟨yl r6 (B6 hsa hpo (.slice vo ks.length vc_) rfl) AJ,Ag [Ay sa po (.slice vo ks.length vc_)] Tryz.func40 (by kernel_rfl) rq4 ⟨(oy rfl rfl),AOW⟩ (A1 fun W g=>Hf hsa hpo (hr.kn g) hP hv),C7 r6 (fun _=>Bf),ym r5,A8 rq9 (fun _ g=>Ad (Dh _ _ htg (.slice ao od.length ac) (.slice wo wd.length wc) (.slice bo body.length bc) rfl rfl rfl) (Av (AF g AI (by simp)))),CG [Bv ad (.slice ao od.length ac) joint (.slice wo wd.length wc) (.slice bo body.length bc) tg] Tryz.func28 (by kernel_rfl) r7 ⟨(oy rfl rfl),AOW⟩ (A1 fun W g=>ABv htg (ho.kn g) (hw.kn g) (hb.kn g) hS hh),I3 rfl rfl (gy rfl rfl rfl) (oy rfl rfl) (fun _=>Bf) (fun _=>rfl),Ah rq9,AOW⟩ fun a23 w23 g23 Cc=>?_
   refine AD ?_
   refine k7 _ _ ?_
   refine Au Cc rfl rfl ?_
   refine AOU ?_
   refine k6 _ _ ?_
   refine AOQ fun K24 k24=>?_
   refine AOP ?_
   refine AH Cc 2 [(21,pk Bn 4),(22,.slice bo body.length bc)]
     ⟨yf r6 (fun _=>by kernel_rfl),yp (i:=4) r6 (D5 (.slice bo body.length bc) rfl) (AC g23 AI) rfl rfl,AOW⟩ fun a25 w25 g25 DR=>?_
   have JJ:=AA g23 g25
   refine AS (v:=.slice bo body.length bc) DR r6 fun a26 DH=>?_
   refine AD ?_
   refine k24 _ _ ?_
   refine AOQ fun K27 k27=>?_
   refine AOP ?_
   refine AH DH 4 [(23,pt Bn),(24,.int .i64 ad),(25,pk Bn 4),(26,.slice bo body.length bc)]
     ⟨yf r6 (fun _=>by kernel_rfl),yp (i:=0) r6 (D9 ad) (AC JJ AI) rfl rfl,yf r6 (fun _=>by kernel_rfl),yp (i:=4) r6 (D5 (.slice bo body.length bc) rfl) (AC JJ AI) rfl rfl,AOW⟩ fun a28 w28 g28 Dm=>?_
   have FR:=AA JJ g28
   replace hb:=hb.kn FR
   refine BA Dm Tryz.func44 (by kernel_rfl) r6 (Jb (Sw ad hia body bby (by omega) _ _ _ hb)) fun a29 v29 w29 hR29 Ck=>?_
   obtain⟨rfl,g29⟩:=hR29
   replace AJ:=AC g29 (AC FR AJ)
   replace AI:=AC g29 (AC FR AI)
   replace AL:=AC g29 (AC FR AL)
   replace hr:=(hr.kn FR).kn g29
   replace ho:=(ho.kn FR).kn g29
   replace hw:=(hw.kn FR).kn g29
   replace hb:=hb.kn g29
   replace HG:=AA (AA HG FR) g29
   refine A9 (T:=23) (Z:=(bv AR)) Ck rfl rfl rfl (fun a w=>by kernel_rfl) fun a30 w30 AOA JD g30 z30 Bo EF=>?_
   have Vm:=Ao AJ JD
   have N2:=Ao AI JD
   have Db:=Ao AL JD
   have AB2:=Bq HG JD
   have AB3:=Aw (hr.lt) JD
   have AB4:=Aw (ho.lt) JD
   have AB5:=Aw (hw.lt) JD
   have AB6:=Aw (hb.lt) JD
   refine Aq EF r7 (Bb ((Nt ad body)) (DJ ad body).1) Bo (EM (DJ ad body)) fun w31 g31 h31=>?_
   replace AJ:=Aa g31 (AC g30 AJ) (Ne.symm Vm)
   replace AI:=Aa g31 (AC g30 AI) (Ne.symm N2)
   replace AL:=Aa g31 (AC g30 AL) (Ne.symm Db)
   replace hr:=(hr.kn g30).offR g31 (AP AB3)
   replace ho:=(ho.kn g30).offR g31 (AP AB4)
   replace hw:=(hw.kn g30).offR g31 (AP AB5)
   replace hb:=(hb.kn g30).offR g31 (AP AB6)
   replace HG:=AE (AA HG g30) g31 AB2
   replace Bo:=h31
   have Cu:Sv _ _ [_,_,_,_,_,_,_,_,_,_,_,_,_,_,_,_,_,_] _:=EF.dl [27,23,24,25,26]
   refine AD ?_
   refine k27 _ _ ?_
   refine AOQ fun K33 k33=>?_
   refine AOQ fun K34 k34=>?_
   rcases Nat.eq_zero_or_pos od.length with hz|hz
   · have hnil:S.own=[]:=by rw[s2,List.eq_nil_of_length_eq_zero hz];rfl
     have hopen:=NB hh hv hnil
     rw[s1,s3,s4] at hopen
     refine AOP ?_
     refine AH Cu 4 [(28,pk Bn 1),(29,.slice ao od.length ac),(30,.int .i64 ((od.length:Nat))),(31,.bool false)]
       ⟨yf r6 (fun _=>by kernel_rfl),yp (i:=1) r6 (Fe (.slice ao od.length ac) rfl) AI rfl rfl,BJ (Tryz.underlying28) rfl rfl trivial (oy rfl rfl) (fun _=>rfl),Ce r6 (fun _=>C3 (decide_eq_false (by omega))),AOW⟩ fun a35 w35 g35 Kw=>?_
     refine AD ?_
     refine k34 _ _ ?_
     refine Au Kw rfl rfl ?_
     refine AOU ?_
     refine k33 _ _ ?_
     refine AOQ fun K36 k36=>?_
     refine AOP ?_
     refine AH Kw 2 [(51,.slice bo body.length bc),(52,.agg #[.slice bo body.length bc,.int .i64 0])]
       ⟨ym r5,BG (vs:=[.slice bo body.length bc]) rfl rfl trivial ⟨(oy rfl rfl),AOW⟩ (fun _=>AMz _ _ _ _) (fun _=>rfl),AOW⟩ fun a37 w37 g37 Gi=>?_
     replace AJ:=AC g37 (AC g35 AJ)
     replace AI:=AC g37 (AC g35 AI)
     replace AL:=AC g37 (AC g35 AL)
     replace Bo:=AC g37 (AC g35 Bo)
     replace hr:=(hr.kn g35).kn g37
     replace ho:=(ho.kn g35).kn g37
     replace hw:=(hw.kn g35).kn g37
     replace hb:=(hb.kn g35).kn g37
     replace HG:=AA (AA HG g35) g37
     have hlt0:=hb.lt
     refine Bi Gi r6 (AMy (.slice bo body.length bc) rfl _) fun a38 w38 FL Fc g38 z38 EP Qt=>?_
     have hltb:∀k,BC (.slice bo body.length bc) k→k<FL:=fun k hk=>Fc▸hlt0 k hk
     have To:=Ao AJ Fc
     have Tp:=Ao AI Fc
     have IH:=Ao AL Fc
     have RK:=Ao Bo Fc
     have AGJ:=Bq HG Fc
     have Yq:=Aw (hr.lt) Fc
     have Yr:=Aw (ho.lt) Fc
     have Ys:=Aw (hw.lt) Fc
     have Yt:=Aw (hb.lt) Fc
     refine AS (v:=pt FL) Qt r6 fun a39 JY=>?_
     have I7:Sv _ _ [_,_,_,_,_,_,_,_,_,_,_,_,_,_,_,_,_,_,_,_,_,_] _:=JY.dl [53,51,52,6]
     refine AD ?_
     refine k36 _ _ ?_
     refine AOQ fun K41 k41=>?_
     refine AOP ?_
     refine AH I7 1 [(54,pt FL)]
       ⟨ym r5,AOW⟩ fun a42 w42 g42 Gj=>?_
     replace EP:=AC g42 EP
     replace hb:=(hb.kn g38).kn g42
     have hlt:∀k,BC (.slice bo body.length bc) k→k<FL:=fun k hk=>hltb k hk
     refine BA Gj Tryz.func64 (by kernel_rfl) r6 (ABr EP hb hlt bby (by omega)) fun a43 v43 w43 hR43 IK=>?_
     obtain⟨x,ro,rn,rc,er,rfl,g43,h43,hcs⟩:=hR43
     obtain⟨hf1,hf2,hf3⟩:=Yo hcs
     replace AJ:=Aa g43 (AC g42 (AC g38 AJ)) (Ne.symm To)
     replace AI:=Aa g43 (AC g42 (AC g38 AI)) (Ne.symm Tp)
     replace AL:=Aa g43 (AC g42 (AC g38 AL)) (Ne.symm IH)
     replace Bo:=Aa g43 (AC g42 (AC g38 Bo)) (Ne.symm RK)
     replace hr:=((hr.kn g38).kn g42).offR g43 (AP Yq)
     replace ho:=((ho.kn g38).kn g42).offR g43 (AP Yr)
     replace hw:=((hw.kn g38).kn g42).offR g43 (AP Ys)
     replace hb:=hb.offR g43 (AP Yt)
     replace HG:=AE (AA (AA HG g38) g42) g43 AGJ
     replace EP:=h43
     refine A9 (T:=25) (Z:=[.int .i64 0,.int .i64 0,.string ⟨#[]⟩]) IK rfl rfl rfl (fun a w=>by kernel_rfl) fun a44 w44 ANh Fd g44 z44 MR Mv=>?_
     have Tq:=Ao AJ Fd
     have Tr:=Ao AI Fd
     have KF:=Ao AL Fd
     have RL:=Ao Bo Fd
     have QA:=Ao EP Fd
     have AGK:=Bq HG Fd
     have Yu:=Aw (hr.lt) Fd
     have Yv:=Aw (ho.lt) Fd
     have Yw:=Aw (hw.lt) Fd
     have Yx:=Aw (hb.lt) Fd
     refine Aq Mv r7 (C6 x) MR rfl fun w45 g45 h45=>?_
     replace AJ:=Aa g45 (AC g44 AJ) (Ne.symm Tq)
     replace AI:=Aa g45 (AC g44 AI) (Ne.symm Tr)
     replace AL:=Aa g45 (AC g44 AL) (Ne.symm KF)
     replace Bo:=Aa g45 (AC g44 Bo) (Ne.symm RL)
     replace EP:=Aa g45 (AC g44 EP) (Ne.symm QA)
     replace hr:=(hr.kn g44).offR g45 (AP Yu)
     replace ho:=(ho.kn g44).offR g45 (AP Yv)
     replace hw:=(hw.kn g44).offR g45 (AP Yw)
     replace hb:=(hb.kn g44).offR g45 (AP Yx)
     replace HG:=AE (AA HG g44) g45 AGK
     replace MR:=h45
     refine AD ?_
     refine k41 _ _ ?_
     refine AOQ fun K46 k46=>?_
     refine AOQ fun K47 k47=>?_
     rcases(show(Nt ad body≠tg)∨(Nt ad body=tg∧er≠0)∨(Nt ad body=tg∧er=0∧rn=0)∨(Nt ad body=tg∧er=0∧0<rn) by by_cases h:Nt ad body=tg<;>simp[h]<;>omega) with htt|⟨htt,h1⟩|⟨htt,h1,h2⟩|⟨htt,h1,h2⟩
     · rw[if_neg htt] at hopen
       refine AOP ?_
       refine AH Mv 19 [(56,AQ ((Nt ad body))),(57,pk Bn 5),(58,AQ tg),(59,.bool true),(60,.bool true),(61,undef),(62,undef),(63,undef),(64,undef),(65,undef),(66,.bool true),(67,.bool true),(68,undef),(69,undef),(70,undef),(71,undef),(72,undef),(73,undef),(74,.bool true)]
         ⟨yl r6 (Bb ((Nt ad body)) (DJ ad body).1) Bo,yf r6 (fun _=>by kernel_rfl),yp (i:=5) r6 (Bb tg htg.1) AI rfl rfl,Fg r7 (fun _=>(Ff (DJ ad body) htg _ _ _).2.trans (by rw[decide_eq_false (htt)];rfl)),ym r5,AN r6,AN r6,AN r6,AN r6,AN r6,BF r7,ym r5,AN r6,AN r6,AN r6,AN r6,AN r6,AN r6,BF r7,AOW⟩ fun a48 w48 g48 TV=>?_
       refine AD ?_
       refine k47 _ _ ?_
       refine Am TV rfl rfl ?_
       refine AOQ fun K49 k49=>?_
       refine AOP ?_
       replace AL:=AC g48 AL
       refine AH TV 1 [(75,Br V.nul)]
         ⟨BG (vs:=[]) rfl rfl trivial trivial (fun _=>IQ _) (fun _=>rfl),AOW⟩ fun a50 w50 g50 Ky=>?_
       refine Aq Ky r7 (C6 V.nul) (AC g50 AL) rfl fun w51 g51 h51=>?_
       replace AJ:=Ab g50 g51 (AC g48 AJ) (Ne.symm A3)
       replace AI:=Ab g50 g51 (AC g48 AI) (Ne.symm A7)
       replace Bo:=Ab g50 g51 (AC g48 Bo) Db
       replace EP:=Ab g50 g51 (AC g48 EP) IH
       replace MR:=Ab g50 g51 (AC g48 MR) KF
       replace hr:=((hr.kn g48).kn g50).offR g51 (AP Bd)
       replace ho:=((ho.kn g48).kn g50).offR g51 (AP CC)
       replace hw:=((hw.kn g48).kn g50).offR g51 (AP CD)
       replace hb:=((hb.kn g48).kn g50).offR g51 (AP B9)
       replace HG:=AE (AA (AA HG g48) g50) g51 Bm
       replace AL:=h51
       refine AS (v:=.int .i64 101) Ky r6 fun a52 Mw=>?_
       refine AD ?_
       refine k49 _ _ ?_
       refine AOT ?_
       repeat refine AM ?_
       refine Ap (fn:=Tryz.f23) Mw (Cb (p:=4) (q:=5) Tryz.results23 Mw rfl rfl rfl rfl (C6 V.nul) AL) ?_
       exact⟨KE (hopen),HG⟩
     · rw[if_pos htt] at hopen
       refine AOP ?_
       refine AH Mv 19 [(56,AQ ((Nt ad body))),(57,pk Bn 5),(58,AQ tg),(59,.bool false),(60,.bool false),(61,pt FL),(62,pt FL),(63,pk FL 1),(64,.int .i64 er),(65,.bool true),(66,.bool true),(67,.bool true),(68,undef),(69,undef),(70,undef),(71,undef),(72,undef),(73,undef),(74,.bool true)]
         ⟨yl r6 (Bb ((Nt ad body)) (DJ ad body).1) Bo,yf r6 (fun _=>by kernel_rfl),yp (i:=5) r6 (Bb tg htg.1) AI rfl rfl,Fg r7 (fun _=>(Ff (DJ ad body) htg _ _ _).2.trans (by rw[decide_eq_true (htt)];rfl)),ym r5,Ae rq8,Gs rfl rfl (gy rfl rfl rfl) (oy rfl rfl) (fun _=>rfl),BI rq9 (fun _=>by kernel_rfl),A8 rq9 (fun _ g=>Ad (Gc er) (BB (L:=[[.slice ro rn rc],[.int .i64 er]]) (i:=1) (AF g EP (by simp)) rfl rfl)),Ai rq9 (fun _=>Dy (by simpa using h1)),Ah rq9,ym r5,AN r6,AN r6,AN r6,AN r6,AN r6,AN r6,BF r7,AOW⟩ fun a53 w53 g53 FU=>?_
       refine AD ?_
       refine k47 _ _ ?_
       refine Am FU rfl rfl ?_
       refine AOQ fun K54 k54=>?_
       refine AOP ?_
       replace AL:=AC g53 AL
       refine AH FU 1 [(75,Br V.nul)]
         ⟨BG (vs:=[]) rfl rfl trivial trivial (fun _=>IQ _) (fun _=>rfl),AOW⟩ fun a55 w55 g55 Uk=>?_
       refine Aq Uk r7 (C6 V.nul) (AC g55 AL) rfl fun w56 g56 h56=>?_
       replace AJ:=Ab g55 g56 (AC g53 AJ) (Ne.symm A3)
       replace AI:=Ab g55 g56 (AC g53 AI) (Ne.symm A7)
       replace Bo:=Ab g55 g56 (AC g53 Bo) Db
       replace EP:=Ab g55 g56 (AC g53 EP) IH
       replace MR:=Ab g55 g56 (AC g53 MR) KF
       replace hr:=((hr.kn g53).kn g55).offR g56 (AP Bd)
       replace ho:=((ho.kn g53).kn g55).offR g56 (AP CC)
       replace hw:=((hw.kn g53).kn g55).offR g56 (AP CD)
       replace hb:=((hb.kn g53).kn g55).offR g56 (AP B9)
       replace HG:=AE (AA (AA HG g53) g55) g56 Bm
       replace AL:=h56
       refine AS (v:=.int .i64 101) Uk r6 fun a57 Qw=>?_
       refine AD ?_
       refine k54 _ _ ?_
       refine AOT ?_
       repeat refine AM ?_
       refine Ap (fn:=Tryz.f23) Qw (Cb (p:=4) (q:=5) Tryz.results23 Qw rfl rfl rfl rfl (C6 V.nul) AL) ?_
       exact⟨KE (hopen.trans (hf1 h1)),HG⟩
     · rw[if_pos htt] at hopen
       refine AOP ?_
       refine AH Mv 19 [(56,AQ ((Nt ad body))),(57,pk Bn 5),(58,AQ tg),(59,.bool false),(60,.bool false),(61,pt FL),(62,pt FL),(63,pk FL 1),(64,.int .i64 er),(65,.bool false),(66,.bool false),(67,.bool false),(68,pt FL),(69,pt FL),(70,pt FL),(71,.slice ro rn rc),(72,.int .i64 ((rn:Nat))),(73,.bool false),(74,.bool false)]
         ⟨yl r6 (Bb ((Nt ad body)) (DJ ad body).1) Bo,yf r6 (fun _=>by kernel_rfl),yp (i:=5) r6 (Bb tg htg.1) AI rfl rfl,Fg r7 (fun _=>(Ff (DJ ad body) htg _ _ _).2.trans (by rw[decide_eq_true (htt)];rfl)),ym r5,Ae rq8,Gs rfl rfl (gy rfl rfl rfl) (oy rfl rfl) (fun _=>rfl),BI rq9 (fun _=>by kernel_rfl),A8 rq9 (fun _ g=>Ad (Gc er) (BB (L:=[[.slice ro rn rc],[.int .i64 er]]) (i:=1) (AF g EP (by simp)) rfl rfl)),Ai rq9 (fun _=>Dy (by simpa using h1)),Ah rq9,ym r5,Ae rq8,Gs rfl rfl (gy rfl rfl rfl) (oy rfl rfl) (fun _=>rfl),BI rq9 (fun _=>by kernel_rfl),A8 rq9 (fun _ g=>Ad (D5 (.slice ro rn rc) rfl) (BB (L:=[[.slice ro rn rc],[.int .i64 er]]) (i:=0) (AF g EP (by simp)) rfl rfl)),BJ (Tryz.underlying29) rfl rfl (gy rfl rfl rfl) (oy rfl rfl) (fun _=>rfl),Ai rq9 (fun _=>C3 (decide_eq_false (by omega))),Ah rq9,AOW⟩ fun a58 w58 g58 OL=>?_
       refine AD ?_
       refine k47 _ _ ?_
       refine Au OL rfl rfl ?_
       refine AOU ?_
       refine k46 _ _ ?_
       refine AOQ fun K59 k59=>?_
       refine AOP ?_
       refine AH OL 1 [(76,Br x)]
         ⟨yl r6 (C6 x) (AC g58 MR),AOW⟩ fun a60 w60 g60 Qv=>?_
       have Mc:=AA g58 g60
       refine Aq Qv r7 (C6 x) (AC Mc AL) rfl fun w61 g61 h61=>?_
       replace AJ:=Ab Mc g61 AJ (Ne.symm A3)
       replace AI:=Ab Mc g61 AI (Ne.symm A7)
       replace Bo:=Ab Mc g61 Bo Db
       replace EP:=Ab Mc g61 EP IH
       replace hr:=(hr.kn Mc).offR g61 (AP Bd)
       replace ho:=(ho.kn Mc).offR g61 (AP CC)
       replace hw:=(hw.kn Mc).offR g61 (AP CD)
       replace hb:=(hb.kn Mc).offR g61 (AP B9)
       replace HG:=AE (AA HG Mc) g61 Bm
       replace AL:=h61
       refine AS (v:=.int .i64 0) Qv r6 fun a62 ADd=>?_
       refine AD ?_
       refine k59 _ _ ?_
       refine AOT ?_
       repeat refine AM ?_
       refine Ap (fn:=Tryz.f23) ADd (Cb (p:=4) (q:=5) Tryz.results23 ADd rfl rfl rfl rfl (C6 x) AL) ?_
       exact⟨KE (hopen.trans (hf2 h1 h2)),HG⟩
     · rw[if_pos htt] at hopen
       refine AOP ?_
       refine AH Mv 19 [(56,AQ ((Nt ad body))),(57,pk Bn 5),(58,AQ tg),(59,.bool false),(60,.bool false),(61,pt FL),(62,pt FL),(63,pk FL 1),(64,.int .i64 er),(65,.bool false),(66,.bool false),(67,.bool false),(68,pt FL),(69,pt FL),(70,pt FL),(71,.slice ro rn rc),(72,.int .i64 ((rn:Nat))),(73,.bool true),(74,.bool true)]
         ⟨yl r6 (Bb ((Nt ad body)) (DJ ad body).1) Bo,yf r6 (fun _=>by kernel_rfl),yp (i:=5) r6 (Bb tg htg.1) AI rfl rfl,Fg r7 (fun _=>(Ff (DJ ad body) htg _ _ _).2.trans (by rw[decide_eq_true (htt)];rfl)),ym r5,Ae rq8,Gs rfl rfl (gy rfl rfl rfl) (oy rfl rfl) (fun _=>rfl),BI rq9 (fun _=>by kernel_rfl),A8 rq9 (fun _ g=>Ad (Gc er) (BB (L:=[[.slice ro rn rc],[.int .i64 er]]) (i:=1) (AF g EP (by simp)) rfl rfl)),Ai rq9 (fun _=>Dy (by simpa using h1)),Ah rq9,ym r5,Ae rq8,Gs rfl rfl (gy rfl rfl rfl) (oy rfl rfl) (fun _=>rfl),BI rq9 (fun _=>by kernel_rfl),A8 rq9 (fun _ g=>Ad (D5 (.slice ro rn rc) rfl) (BB (L:=[[.slice ro rn rc],[.int .i64 er]]) (i:=0) (AF g EP (by simp)) rfl rfl)),BJ (Tryz.underlying29) rfl rfl (gy rfl rfl rfl) (oy rfl rfl) (fun _=>rfl),Ai rq9 (fun _=>C3 (decide_eq_true (by omega))),Ah rq9,AOW⟩ fun a63 w63 g63 PF=>?_
       refine AD ?_
       refine k47 _ _ ?_
       refine Am PF rfl rfl ?_
       refine AOQ fun K64 k64=>?_
       refine AOP ?_
       replace AL:=AC g63 AL
       refine AH PF 1 [(75,Br V.nul)]
         ⟨BG (vs:=[]) rfl rfl trivial trivial (fun _=>IQ _) (fun _=>rfl),AOW⟩ fun a65 w65 g65 AIT=>?_
       refine Aq AIT r7 (C6 V.nul) (AC g65 AL) rfl fun w66 g66 h66=>?_
       replace AJ:=Ab g65 g66 (AC g63 AJ) (Ne.symm A3)
       replace AI:=Ab g65 g66 (AC g63 AI) (Ne.symm A7)
       replace Bo:=Ab g65 g66 (AC g63 Bo) Db
       replace hr:=((hr.kn g63).kn g65).offR g66 (AP Bd)
       replace ho:=((ho.kn g63).kn g65).offR g66 (AP CC)
       replace hw:=((hw.kn g63).kn g65).offR g66 (AP CD)
       replace hb:=((hb.kn g63).kn g65).offR g66 (AP B9)
       replace HG:=AE (AA (AA HG g63) g65) g66 Bm
       replace AL:=h66
       refine AS (v:=.int .i64 101) AIT r6 fun a67 Tc=>?_
       refine AD ?_
       refine k64 _ _ ?_
       refine AOT ?_
       repeat refine AM ?_
       refine Ap (fn:=Tryz.f23) Tc (Cb (p:=4) (q:=5) Tryz.results23 Tc rfl rfl rfl rfl (C6 V.nul) AL) ?_
       exact⟨KE (hopen.trans (hf3 h1 h2)),HG⟩
   · have hne:S.own≠[]:=fun h=>by rw[s2] at h;have h2:od.length=0:=(List.length_map _).symm.trans (congrArg List.length h);omega
     refine AOP ?_
     refine AH Cu 4 [(28,pk Bn 1),(29,.slice ao od.length ac),(30,.int .i64 ((od.length:Nat))),(31,.bool true)]
       ⟨yf r6 (fun _=>by kernel_rfl),yp (i:=1) r6 (Fe (.slice ao od.length ac) rfl) AI rfl rfl,BJ (Tryz.underlying28) rfl rfl trivial (oy rfl rfl) (fun _=>rfl),Ce r6 (fun _=>C3 (decide_eq_true (by omega))),AOW⟩ fun a68 w68 g68 Ih=>?_
     refine AD ?_
     refine k34 _ _ ?_
     refine Am Ih rfl rfl ?_
     refine AOQ fun K69 k69=>?_
     replace AJ:=AC g68 AJ
     replace AI:=AC g68 AI
     replace AL:=AC g68 AL
     replace Bo:=AC g68 Bo
     replace hr:=hr.kn g68
     replace ho:=ho.kn g68
     replace hw:=hw.kn g68
     replace hb:=hb.kn g68
     replace HG:=AA HG g68
     rcases(show Ga P S=none∨∃c,Ga P S=some c by cases Ga P S<;>simp) with hrec|⟨c,hrec⟩
     · refine AOP ?_
       refine AH Ih 2 [(33,Ay sa po (.slice vo ks.length vc_)),(34,Bv ad (.slice ao od.length ac) joint (.slice wo wd.length wc) (.slice bo body.length bc) tg)]
         ⟨yl r6 (B6 hsa hpo (.slice vo ks.length vc_) rfl) AJ,yl r6 (Dh _ _ htg (.slice ao od.length ac) (.slice wo wd.length wc) (.slice bo body.length bc) rfl rfl rfl) AI,AOW⟩ fun a70 w70 g70 PT=>?_
       replace hr:=hr.kn g70
       replace ho:=ho.kn g70
       replace hw:=hw.kn g70
       replace hb:=hb.kn g70
       refine BA PT Tryz.func63 (by kernel_rfl) r6 (ABu hsa hpo htg hr ho hw hb hP hS hh hrec) fun a71 v71 w71 hR71 ADe=>?_
       obtain⟨cz,rfl,hcd,_,g71⟩:=hR71
       refine AH ADe 3 [(32,.tuple #[AQ cz,.bool false]),(36,AQ cz),(37,.bool false)]
         ⟨ym r5,Bh rq4 (fun _ _ h=>⟨_,_,h,rfl,rfl⟩),Bh rq4 (fun _ _ h=>⟨_,_,h,rfl,rfl⟩),AOW⟩ fun a72 w72 g72 Xu=>?_
       replace AJ:=AC g72 (AC g71 (AC g70 AJ))
       replace AI:=AC g72 (AC g71 (AC g70 AI))
       replace AL:=AC g72 (AC g71 (AC g70 AL))
       replace Bo:=AC g72 (AC g71 (AC g70 Bo))
       replace hr:=(hr.kn g71).kn g72
       replace ho:=(ho.kn g71).kn g72
       replace hw:=(hw.kn g71).kn g72
       replace hb:=(hb.kn g71).kn g72
       replace HG:=AA (AA (AA HG g70) g71) g72
       refine A9 (T:=23) (Z:=(bv AR)) Xu rfl rfl rfl (fun a w=>by kernel_rfl) fun a73 w73 AOB II g73 z73 ALv Nn=>?_
       have Vn:=Ao AJ II
       have Vo:=Ao AI II
       have Vp:=Ao AL II
       have Ts:=Ao Bo II
       have AIY:=Bq HG II
       have AB7:=Aw (hr.lt) II
       have AB8:=Aw (ho.lt) II
       have AB9:=Aw (hw.lt) II
       have ACA:=Aw (hb.lt) II
       refine Aq Nn r7 (Bb cz hcd.1) ALv (EM hcd) fun w74 g74 h74=>?_
       refine AS (v:=.bool false) Nn r6 fun a75 AH9=>?_
       have P1:Sv _ _ [_,_,_,_,_,_,_,_,_,_,_,_,_,_,_,_,_,_,_,_,_,_,_,_] _:=AH9.dl [32,36,37,35,33,34]
       refine AD ?_
       refine k69 _ _ ?_
       refine AOQ fun K77 k77=>?_
       refine AOQ fun K78 k78=>?_
       refine AOP ?_
       refine AH P1 2 [(38,.bool false),(39,.bool true)]
         ⟨ym r5,C7 r6 (fun _=>Bf),AOW⟩ fun a79 w79 g79 Md=>?_
       refine AD ?_
       refine k78 _ _ ?_
       refine Am Md rfl rfl ?_
       refine AOQ fun K80 k80=>?_
       refine AOP ?_
       replace AL:=AC g79 (Aa g74 (AC g73 AL) (Ne.symm Vp))
       refine AH Md 1 [(40,Br V.nul)]
         ⟨BG (vs:=[]) rfl rfl trivial trivial (fun _=>IQ _) (fun _=>rfl),AOW⟩ fun a81 w81 g81 AF6=>?_
       refine Aq AF6 r7 (C6 V.nul) (AC g81 AL) rfl fun w82 g82 h82=>?_
       replace AJ:=Ab g81 g82 (AC g79 (Aa g74 (AC g73 AJ) (Ne.symm Vn))) (Ne.symm A3)
       replace AI:=Ab g81 g82 (AC g79 (Aa g74 (AC g73 AI) (Ne.symm Vo))) (Ne.symm A7)
       replace Bo:=Ab g81 g82 (AC g79 (Aa g74 (AC g73 Bo) (Ne.symm Ts))) Db
       replace hr:=((((hr.kn g73).offR g74 (AP AB7)).kn g79).kn g81).offR g82 (AP Bd)
       replace ho:=((((ho.kn g73).offR g74 (AP AB8)).kn g79).kn g81).offR g82 (AP CC)
       replace hw:=((((hw.kn g73).offR g74 (AP AB9)).kn g79).kn g81).offR g82 (AP CD)
       replace hb:=((((hb.kn g73).offR g74 (AP ACA)).kn g79).kn g81).offR g82 (AP B9)
       replace HG:=AE (AA (AA (AE (AA HG g73) g74 AIY) g79) g81) g82 Bm
       replace AL:=h82
       refine AS (v:=.int .i64 10) AF6 r6 fun a83 Lj=>?_
       refine AD ?_
       refine k80 _ _ ?_
       refine AOT ?_
       repeat refine AM ?_
       refine Ap (fn:=Tryz.f23) Lj (Cb (p:=4) (q:=5) Tryz.results23 Lj rfl rfl rfl rfl (C6 V.nul) AL) ?_
       exact⟨KE (Tn hh hv hne hrec),HG⟩
     · have hopen:=NZ hh hv hne hrec
       rw[s1,s3,s4] at hopen
       refine AOP ?_
       refine AH Ih 2 [(33,Ay sa po (.slice vo ks.length vc_)),(34,Bv ad (.slice ao od.length ac) joint (.slice wo wd.length wc) (.slice bo body.length bc) tg)]
         ⟨yl r6 (B6 hsa hpo (.slice vo ks.length vc_) rfl) AJ,yl r6 (Dh _ _ htg (.slice ao od.length ac) (.slice wo wd.length wc) (.slice bo body.length bc) rfl rfl rfl) AI,AOW⟩ fun a84 w84 g84 M6=>?_
       replace hr:=hr.kn g84
       replace ho:=ho.kn g84
       replace hw:=hw.kn g84
       replace hb:=hb.kn g84
       refine BA M6 Tryz.func63 (by kernel_rfl) r6 (ABu hsa hpo htg hr ho hw hb hP hS hh hrec) fun a85 v85 w85 hR85 AA2=>?_
       obtain⟨cz,rfl,hcd,hcc,g85⟩:=hR85
       obtain rfl:=hcc c rfl
       refine AH AA2 3 [(32,.tuple #[AQ c,.bool true]),(36,AQ c),(37,.bool true)]
         ⟨ym r5,Bh rq4 (fun _ _ h=>⟨_,_,h,rfl,rfl⟩),Bh rq4 (fun _ _ h=>⟨_,_,h,rfl,rfl⟩),AOW⟩ fun a86 w86 g86 En=>?_
       replace AI:=AC g86 (AC g85 (AC g84 AI))
       replace AL:=AC g86 (AC g85 (AC g84 AL))
       replace Bo:=AC g86 (AC g85 (AC g84 Bo))
       replace hb:=(hb.kn g85).kn g86
       replace HG:=AA (AA (AA HG g84) g85) g86
       refine A9 (T:=23) (Z:=(bv AR)) En rfl rfl rfl (fun a w=>by kernel_rfl) fun a87 w87 AOC ND g87 z87 QB TG=>?_
       have Vq:=Ao AI ND
       have Vr:=Ao AL ND
       have Tt:=Ao Bo ND
       have AIZ:=Bq HG ND
       have ACB:=Aw (hb.lt) ND
       refine Aq TG r7 (Bb c hcd.1) QB (EM hcd) fun w88 g88 h88=>?_
       replace AI:=Aa g88 (AC g87 AI) (Ne.symm Vq)
       replace QB:=h88
       refine AS (v:=.bool true) TG r6 fun a89 PG=>?_
       have ABY:Sv _ _ [_,_,_,_,_,_,_,_,_,_,_,_,_,_,_,_,_,_,_,_,_,_,_,_] _:=PG.dl [32,36,37,35,33,34]
       refine AD ?_
       refine k69 _ _ ?_
       refine AOQ fun K91 k91=>?_
       refine AOQ fun K92 k92=>?_
       refine AOP ?_
       refine AH ABY 2 [(38,.bool true),(39,.bool false)]
         ⟨ym r5,C7 r6 (fun _=>Bf),AOW⟩ fun a93 w93 g93 EQ=>?_
       refine AD ?_
       refine k92 _ _ ?_
       refine Au EQ rfl rfl ?_
       refine AOU ?_
       refine k91 _ _ ?_
       refine AOQ fun K94 k94=>?_
       refine AOP ?_
       refine AH EQ 3 [(41,AQ c),(42,pk Bn 4),(43,.slice bo body.length bc)]
         ⟨yl r6 (Bb c hcd.1) (AC g93 QB),yf r6 (fun _=>by kernel_rfl),yp (i:=4) r6 (D5 (.slice bo body.length bc) rfl) (AC g93 AI) rfl rfl,AOW⟩ fun a95 w95 g95 ADW=>?_
       have AGL:=AA g93 g95
       replace AL:=AC AGL (Aa g88 (AC g87 AL) (Ne.symm Vr))
       replace Bo:=AC AGL (Aa g88 (AC g87 Bo) (Ne.symm Tt))
       replace hb:=((hb.kn g87).offR g88 (AP ACB)).kn AGL
       refine BA ADW Tryz.func47 (by kernel_rfl) r6 (Nu (OO body bby (by omega) _ _ c hcd _ hb)) fun a96 v96 w96 hR96 AA3=>?_
       obtain⟨ao96,cap96,rfl,_⟩:=(Sl.of_own hR96.1).shape
       obtain⟨ow96,fr96⟩:=hR96
       replace fr96:=DT fr96
       have oy_:=ow96
       clear ow96
       have g96:=fr96.1
       replace fr96:=fr96.2
       have Hm:=Cj fr96 AL
       have Yy:=Cj fr96 Bo
       replace AI:=AC g96 (AC AGL AI)
       replace QB:=AC g96 (AC AGL QB)
       refine AS (v:=.slice ao96 ((Fj body c)).length cap96) AA3 r6 fun a97 Uu=>?_
       have YY:Sv _ _ [_,_,_,_,_,_,_,_,_,_,_,_,_,_,_,_,_,_,_,_,_,_,_,_,_,_] _:=Uu.dl [44,41,42,43]
       refine AD ?_
       refine k94 _ _ ?_
       refine AOP ?_
       refine AH YY 5 [(45,AQ c),(46,pt Bn),(47,.int .i64 ad),(48,pk Bn 4),(49,.slice bo body.length bc)]
         ⟨yl r6 (Bb c hcd.1) QB,yf r6 (fun _=>by kernel_rfl),yp (i:=0) r6 (D9 ad) AI rfl rfl,yf r6 (fun _=>by kernel_rfl),yp (i:=4) r6 (D5 (.slice bo body.length bc) rfl) AI rfl rfl,AOW⟩ fun a99 w99 g99 AKD=>?_
       replace hb:=(hb.kn g96).kn g99
       refine BA AKD Tryz.func48 (by kernel_rfl) r6 (Jb (Sy c hcd ad hia body bby (by omega) _ _ _ hb)) fun a100 v100 w100 hR100 Wj=>?_
       obtain⟨rfl,g100⟩:=hR100
       replace Bo:=AC g100 (AC g99 (AC g96 Bo))
       refine Aq Wj r7 (Bb ((MI c ad body)) (CE c ad body).1) Bo (QS (DJ ad body) (CE c ad body)) fun w101 g101 h101=>?_
       have Wk:Sv _ _ [_,_,_,_,_,_,_,_,_,_,_,_,_,_,_,_,_,_,_,_,_,_,_,_,_,_] _:=Wj.dl [50,45,46,47,48,49]
       refine AD ?_
       refine k33 _ _ ?_
       refine AOQ fun K103 k103=>?_
       refine AOP ?_
       refine AH Wk 2 [(51,.slice ao96 ((Fj body c)).length cap96),(52,.agg #[.slice ao96 ((Fj body c)).length cap96,.int .i64 0])]
         ⟨ym r5,BG (vs:=[.slice ao96 ((Fj body c)).length cap96]) rfl rfl trivial ⟨(oy rfl rfl),AOW⟩ (fun _=>AMz _ _ _ _) (fun _=>rfl),AOW⟩ fun a104 w104 g104 TK=>?_
       replace AI:=AC g104 (Aa g101 (AC g100 (AC g99 AI)) (Ne.symm N2))
       replace AL:=AC g104 (Aa g101 (AC g100 (AC g99 (AC g96 AL))) (Ne.symm Db))
       replace Bo:=AC g104 h101
       replace oy_:=(((oy_.kn g99).kn g100).offR g101 (AP Yy)).kn g104
       replace HG:=AA (AE (AA (AA (AA (AA (AE (AA HG g87) g88 AIZ) AGL) g96) g99) g100) g101 AB2) g104
       have hlt0:=(Own.lt oy_)
       refine Bi TK r6 (AMy (.slice ao96 ((Fj body c)).length cap96) rfl _) fun a105 w105 EA Hd g105 z105 DZ We=>?_
       have hltb:∀k,BC (.slice ao96 ((Fj body c)).length cap96) k→k<EA:=fun k hk=>Hd▸hlt0 k hk
       have RM:=Ao AI Hd
       have Gy:=Ao AL Hd
       have QC:=Ao Bo Hd
       have ADm:=Bq HG Hd
       have Tu:=Aw (Own.ltS oy_) Hd
       refine AS (v:=pt EA) We r6 fun a106 ABA=>?_
       have TL:Sv _ _ [_,_,_,_,_,_,_,_,_,_,_,_,_,_,_,_,_,_,_,_,_,_,_,_,_,_] _:=ABA.dl [53,51,52,6]
       refine AD ?_
       refine k103 _ _ ?_
       refine AOQ fun K108 k108=>?_
       refine AOP ?_
       refine AH TL 1 [(54,pt EA)]
         ⟨ym r5,AOW⟩ fun a109 w109 g109 QY=>?_
       replace DZ:=AC g109 DZ
       replace oy_:=(oy_.kn g105).kn g109
       have hlt:∀k,BC (.slice ao96 ((Fj body c)).length cap96) k→k<EA:=fun k hk=>hltb k hk
       refine BA QY Tryz.func64 (by kernel_rfl) r6 (ABr DZ (Own.sb oy_) hlt (Kz _ bby) (by rw[Hy];omega)) fun a110 v110 w110 hR110 JB=>?_
       obtain⟨x,ro,rn,rc,er,rfl,g110,h110,hcs⟩:=hR110
       obtain⟨hf1,hf2,hf3⟩:=Yo hcs
       replace AI:=Aa g110 (AC g109 (AC g105 AI)) (Ne.symm RM)
       replace AL:=Aa g110 (AC g109 (AC g105 AL)) (Ne.symm Gy)
       replace Bo:=Aa g110 (AC g109 (AC g105 Bo)) (Ne.symm QC)
       replace oy_:=oy_.offR g110 (AP Tu)
       replace HG:=AE (AA (AA HG g105) g109) g110 ADm
       replace DZ:=h110
       refine A9 (T:=25) (Z:=[.int .i64 0,.int .i64 0,.string ⟨#[]⟩]) JB rfl rfl rfl (fun a w=>by kernel_rfl) fun a111 w111 ANK Im g111 z111 KG Nv=>?_
       have RN:=Ao AI Im
       have JM:=Ao AL Im
       have QD:=Ao Bo Im
       have OU:=Ao DZ Im
       have ADn:=Bq HG Im
       have Tv:=Aw (Own.ltS oy_) Im
       refine Aq Nv r7 (C6 x) KG rfl fun w112 g112 h112=>?_
       replace AI:=Aa g112 (AC g111 AI) (Ne.symm RN)
       replace AL:=Aa g112 (AC g111 AL) (Ne.symm JM)
       replace Bo:=Aa g112 (AC g111 Bo) (Ne.symm QD)
       replace DZ:=Aa g112 (AC g111 DZ) (Ne.symm OU)
       replace oy_:=(oy_.kn g111).offR g112 (AP Tv)
       replace HG:=AE (AA HG g111) g112 ADn
       replace KG:=h112
       refine AD ?_
       refine k108 _ _ ?_
       refine AOQ fun K113 k113=>?_
       refine AOQ fun K114 k114=>?_
       rcases(show(MI c ad body≠tg)∨(MI c ad body=tg∧er≠0)∨(MI c ad body=tg∧er=0∧rn=0)∨(MI c ad body=tg∧er=0∧0<rn) by by_cases h:MI c ad body=tg<;>simp[h]<;>omega) with htt|⟨htt,h1⟩|⟨htt,h1,h2⟩|⟨htt,h1,h2⟩
       · rw[if_neg htt] at hopen
         refine AOP ?_
         refine AH Nv 19 [(56,AQ ((MI c ad body))),(57,pk Bn 5),(58,AQ tg),(59,.bool true),(60,.bool true),(61,undef),(62,undef),(63,undef),(64,undef),(65,undef),(66,.bool true),(67,.bool true),(68,undef),(69,undef),(70,undef),(71,undef),(72,undef),(73,undef),(74,.bool true)]
          ⟨yl r6 (Bb ((MI c ad body)) (CE c ad body).1) Bo,yf r6 (fun _=>by kernel_rfl),yp (i:=5) r6 (Bb tg htg.1) AI rfl rfl,Fg r7 (fun _=>(Ff (CE c ad body) htg _ _ _).2.trans (by rw[decide_eq_false (htt)];rfl)),ym r5,AN r6,AN r6,AN r6,AN r6,AN r6,BF r7,ym r5,AN r6,AN r6,AN r6,AN r6,AN r6,AN r6,BF r7,AOW⟩ fun a115 w115 g115 Cv=>?_
         refine AD ?_
         refine k114 _ _ ?_
         refine Am Cv rfl rfl ?_
         refine AOQ fun K116 k116=>?_
         refine AOP ?_
         replace AL:=AC g115 AL
         refine AH Cv 1 [(75,Br V.nul)]
          ⟨BG (vs:=[]) rfl rfl trivial trivial (fun _=>IQ _) (fun _=>rfl),AOW⟩ fun a117 w117 g117 PQ=>?_
         refine Aq PQ r7 (C6 V.nul) (AC g117 AL) rfl fun w118 g118 h118=>?_
         replace AI:=Ab g117 g118 (AC g115 AI) (Ne.symm A7)
         replace Bo:=Ab g117 g118 (AC g115 Bo) Db
         replace DZ:=Ab g117 g118 (AC g115 DZ) Gy
         replace KG:=Ab g117 g118 (AC g115 KG) JM
         replace oy_:=((oy_.kn g115).kn g117).offR g118 (AP Hm)
         replace HG:=AE (AA (AA HG g115) g117) g118 Bm
         replace AL:=h118
         refine AS (v:=.int .i64 101) PQ r6 fun a119 ABZ=>?_
         refine AD ?_
         refine k116 _ _ ?_
         refine AOT ?_
         repeat refine AM ?_
         refine Ap (fn:=Tryz.f23) ABZ (Cb (p:=4) (q:=5) Tryz.results23 ABZ rfl rfl rfl rfl (C6 V.nul) AL) ?_
         exact⟨KE (hopen),HG⟩
       · rw[if_pos htt] at hopen
         refine AOP ?_
         refine AH Nv 19 [(56,AQ ((MI c ad body))),(57,pk Bn 5),(58,AQ tg),(59,.bool false),(60,.bool false),(61,pt EA),(62,pt EA),(63,pk EA 1),(64,.int .i64 er),(65,.bool true),(66,.bool true),(67,.bool true),(68,undef),(69,undef),(70,undef),(71,undef),(72,undef),(73,undef),(74,.bool true)]
          ⟨yl r6 (Bb ((MI c ad body)) (CE c ad body).1) Bo,yf r6 (fun _=>by kernel_rfl),yp (i:=5) r6 (Bb tg htg.1) AI rfl rfl,Fg r7 (fun _=>(Ff (CE c ad body) htg _ _ _).2.trans (by rw[decide_eq_true (htt)];rfl)),ym r5,Ae rq8,Gs rfl rfl (gy rfl rfl rfl) (oy rfl rfl) (fun _=>rfl),BI rq9 (fun _=>by kernel_rfl),A8 rq9 (fun _ g=>Ad (Gc er) (BB (L:=[[.slice ro rn rc],[.int .i64 er]]) (i:=1) (AF g DZ (by simp)) rfl rfl)),Ai rq9 (fun _=>Dy (by simpa using h1)),Ah rq9,ym r5,AN r6,AN r6,AN r6,AN r6,AN r6,AN r6,BF r7,AOW⟩ fun a120 w120 g120 Cw=>?_
         refine AD ?_
         refine k114 _ _ ?_
         refine Am Cw rfl rfl ?_
         refine AOQ fun K121 k121=>?_
         refine AOP ?_
         replace AL:=AC g120 AL
         refine AH Cw 1 [(75,Br V.nul)]
          ⟨BG (vs:=[]) rfl rfl trivial trivial (fun _=>IQ _) (fun _=>rfl),AOW⟩ fun a122 w122 g122 Wf=>?_
         refine Aq Wf r7 (C6 V.nul) (AC g122 AL) rfl fun w123 g123 h123=>?_
         replace AI:=Ab g122 g123 (AC g120 AI) (Ne.symm A7)
         replace Bo:=Ab g122 g123 (AC g120 Bo) Db
         replace DZ:=Ab g122 g123 (AC g120 DZ) Gy
         replace KG:=Ab g122 g123 (AC g120 KG) JM
         replace oy_:=((oy_.kn g120).kn g122).offR g123 (AP Hm)
         replace HG:=AE (AA (AA HG g120) g122) g123 Bm
         replace AL:=h123
         refine AS (v:=.int .i64 101) Wf r6 fun a124 TM=>?_
         refine AD ?_
         refine k121 _ _ ?_
         refine AOT ?_
         repeat refine AM ?_
         refine Ap (fn:=Tryz.f23) TM (Cb (p:=4) (q:=5) Tryz.results23 TM rfl rfl rfl rfl (C6 V.nul) AL) ?_
         exact⟨KE (hopen.trans (hf1 h1)),HG⟩
       · rw[if_pos htt] at hopen
         refine AOP ?_
         refine AH Nv 19 [(56,AQ ((MI c ad body))),(57,pk Bn 5),(58,AQ tg),(59,.bool false),(60,.bool false),(61,pt EA),(62,pt EA),(63,pk EA 1),(64,.int .i64 er),(65,.bool false),(66,.bool false),(67,.bool false),(68,pt EA),(69,pt EA),(70,pt EA),(71,.slice ro rn rc),(72,.int .i64 ((rn:Nat))),(73,.bool false),(74,.bool false)]
          ⟨yl r6 (Bb ((MI c ad body)) (CE c ad body).1) Bo,yf r6 (fun _=>by kernel_rfl),yp (i:=5) r6 (Bb tg htg.1) AI rfl rfl,Fg r7 (fun _=>(Ff (CE c ad body) htg _ _ _).2.trans (by rw[decide_eq_true (htt)];rfl)),ym r5,Ae rq8,Gs rfl rfl (gy rfl rfl rfl) (oy rfl rfl) (fun _=>rfl),BI rq9 (fun _=>by kernel_rfl),A8 rq9 (fun _ g=>Ad (Gc er) (BB (L:=[[.slice ro rn rc],[.int .i64 er]]) (i:=1) (AF g DZ (by simp)) rfl rfl)),Ai rq9 (fun _=>Dy (by simpa using h1)),Ah rq9,ym r5,Ae rq8,Gs rfl rfl (gy rfl rfl rfl) (oy rfl rfl) (fun _=>rfl),BI rq9 (fun _=>by kernel_rfl),A8 rq9 (fun _ g=>Ad (D5 (.slice ro rn rc) rfl) (BB (L:=[[.slice ro rn rc],[.int .i64 er]]) (i:=0) (AF g DZ (by simp)) rfl rfl)),BJ (Tryz.underlying29) rfl rfl (gy rfl rfl rfl) (oy rfl rfl) (fun _=>rfl),Ai rq9 (fun _=>C3 (decide_eq_false (by omega))),Ah rq9,AOW⟩ fun a125 w125 g125 ABC=>?_
         refine AD ?_
         refine k114 _ _ ?_
         refine Au ABC rfl rfl ?_
         refine AOU ?_
         refine k113 _ _ ?_
         refine AOQ fun K126 k126=>?_
         refine AOP ?_
         refine AH ABC 1 [(76,Br x)]
          ⟨yl r6 (C6 x) (AC g125 KG),AOW⟩ fun a127 w127 g127 AEo=>?_
         have Wl:=AA g125 g127
         refine Aq AEo r7 (C6 x) (AC Wl AL) rfl fun w128 g128 h128=>?_
         replace AI:=Ab Wl g128 AI (Ne.symm A7)
         replace Bo:=Ab Wl g128 Bo Db
         replace DZ:=Ab Wl g128 DZ Gy
         replace oy_:=(oy_.kn Wl).offR g128 (AP Hm)
         replace HG:=AE (AA HG Wl) g128 Bm
         replace AL:=h128
         refine AS (v:=.int .i64 0) AEo r6 fun a129 DQ=>?_
         refine AD ?_
         refine k126 _ _ ?_
         refine AOT ?_
         repeat refine AM ?_
         refine Ap (fn:=Tryz.f23) DQ (Cb (p:=4) (q:=5) Tryz.results23 DQ rfl rfl rfl rfl (C6 x) AL) ?_
         exact⟨KE (hopen.trans (hf2 h1 h2)),HG⟩
       · rw[if_pos htt] at hopen
         refine AOP ?_
         refine AH Nv 19 [(56,AQ ((MI c ad body))),(57,pk Bn 5),(58,AQ tg),(59,.bool false),(60,.bool false),(61,pt EA),(62,pt EA),(63,pk EA 1),(64,.int .i64 er),(65,.bool false),(66,.bool false),(67,.bool false),(68,pt EA),(69,pt EA),(70,pt EA),(71,.slice ro rn rc),(72,.int .i64 ((rn:Nat))),(73,.bool true),(74,.bool true)]
          ⟨yl r6 (Bb ((MI c ad body)) (CE c ad body).1) Bo,yf r6 (fun _=>by kernel_rfl),yp (i:=5) r6 (Bb tg htg.1) AI rfl rfl,Fg r7 (fun _=>(Ff (CE c ad body) htg _ _ _).2.trans (by rw[decide_eq_true (htt)];rfl)),ym r5,Ae rq8,Gs rfl rfl (gy rfl rfl rfl) (oy rfl rfl) (fun _=>rfl),BI rq9 (fun _=>by kernel_rfl),A8 rq9 (fun _ g=>Ad (Gc er) (BB (L:=[[.slice ro rn rc],[.int .i64 er]]) (i:=1) (AF g DZ (by simp)) rfl rfl)),Ai rq9 (fun _=>Dy (by simpa using h1)),Ah rq9,ym r5,Ae rq8,Gs rfl rfl (gy rfl rfl rfl) (oy rfl rfl) (fun _=>rfl),BI rq9 (fun _=>by kernel_rfl),A8 rq9 (fun _ g=>Ad (D5 (.slice ro rn rc) rfl) (BB (L:=[[.slice ro rn rc],[.int .i64 er]]) (i:=0) (AF g DZ (by simp)) rfl rfl)),BJ (Tryz.underlying29) rfl rfl (gy rfl rfl rfl) (oy rfl rfl) (fun _=>rfl),Ai rq9 (fun _=>C3 (decide_eq_true (by omega))),Ah rq9,AOW⟩ fun a130 w130 g130 QZ=>?_
         refine AD ?_
         refine k114 _ _ ?_
         refine Am QZ rfl rfl ?_
         refine AOQ fun K131 k131=>?_
         refine AOP ?_
         replace AL:=AC g130 AL
         refine AH QZ 1 [(75,Br V.nul)]
          ⟨BG (vs:=[]) rfl rfl trivial trivial (fun _=>IQ _) (fun _=>rfl),AOW⟩ fun a132 w132 g132 Wg=>?_
         refine Aq Wg r7 (C6 V.nul) (AC g132 AL) rfl fun w133 g133 h133=>?_
         replace oy_:=((oy_.kn g130).kn g132).offR g133 (AP Hm)
         replace HG:=AE (AA (AA HG g130) g132) g133 Bm
         replace AL:=h133
         refine AS (v:=.int .i64 101) Wg r6 fun a134 Qa=>?_
         refine AD ?_
         refine k131 _ _ ?_
         refine AOT ?_
         repeat refine AM ?_
         refine Ap (fn:=Tryz.f23) Qa (Cb (p:=4) (q:=5) Tryz.results23 Qa rfl rfl rfl rfl (C6 V.nul) AL) ?_
         exact⟨KE (hopen.trans (hf3 h1 h2)),HG⟩
end Go.Proofs.YtbfjfnbcmojpiaaGreat
namespace Go.Proofs.YtbfjfnbcmojpiaaGreat
open Go.RowKit
theorem ALI {P:List VP} {i:Nat} (h:i<P.length):od P i∈P.map (·.1):=by rw[WN h];exact List.mem_map.2 ⟨_,List.getElem_mem h,rfl⟩
theorem AJK {P:List VP} (hs:Srt P) {o:List Nat}:Ly P o=true↔o∈P.map (·.1):=by
 constructor
 · intro h
   obtain⟨h1,h2⟩:=XF h
   rw[←h2]
   exact ALI h1
 · intro h
   obtain⟨x,hx,rfl⟩:=List.mem_map.1 h
   obtain⟨i,hi,rfl⟩:=List.getElem_of_mem hx
   exact(Ol hs hi (WN hi)).2
theorem AJL {P:List VP} (hs:Srt P) {o:List Nat} (h:o ∉ P.map (·.1)):Ly P o=false:=by
 cases e:Ly P o with
 | false=>rfl
 | true=>exact absurd ((AJK hs).1 e) h
theorem AEL {P:List VP} {o:List Nat} {t:List Nd} {x:VP}:x∈OE P o t↔x=(o,t)∨x∈P:=by
 unfold OE
 rw[List.mem_append,List.mem_cons]
 constructor
 · rintro (h|h|h)
   · exact .inr (List.mem_of_mem_take h)
   · exact .inl h
   · exact .inr (List.mem_of_mem_drop h)
 · rintro (h|h)
   · exact .inr (.inl h)
   · rw[←List.take_append_drop (pos P o) P] at h
     exact(List.mem_append.1 h).imp id .inr
theorem AJM (P:List VP) (o:List Nat) (t:List Nd):(OE P o t).length=P.length+1:=by rw[Om];exact Pm (R5 P o) _
theorem AEM {P:List VP} (hs:Srt P) {o:List Nat} {t:List Nd} (h:(o,t)∈P):Ly P o=true∧tr P (pos P o)=t:=by
 obtain⟨i,hi,he⟩:=List.getElem_of_mem h
 have h1:od P i=o:=by rw[WN hi,he]
 obtain⟨h2,h3⟩:=Ol hs hi h1
 refine⟨h3,?_⟩
 rw[h2,AKd hi,he]
theorem AEN {x:Int} (h1:0≤x) (h2:x<256):IntKind.u8.wrap x=x:=by simp[IntKind.wrap,IntKind.bits,IntKind.signed];omega
theorem Lz (k:List Nat):I1 (tree k [])=true:=Z6 k [] (by simp)
theorem Z7 {P:List VP} {sa po o nx:List Nat} {T:List Nd} (hv:Co P=true) (hf:Ly P o=false) (hl:P.length<64):Nj (P,sa,po) o T nx=((OE P o T,sa,nx),0):=by
 unfold Nj
 rw[if_pos hv,if_neg (by rw[hf];simp),if_neg (by simpa using hl)]
theorem R7 {P:Program} {a b c:Int} {t:TypeId} {x y:Operand} {w:World} (h:bits .and .i64 a b=c):(do eqGuard .and t x y (.int .i64 a) (.int .i64 b);binOp .and t (.int .i64 a) (.int .i64 b):Sem Value).run P w=.ok (.int .i64 c) w:=by
 subst h
 simp[eqGuard,binOp_and]
 rfl
end Go.Proofs.YtbfjfnbcmojpiaaGreat
namespace Go.Proofs.YtbfjfnbcmojpiaaGreat
open Go.RowKit Go.Shelf
theorem ANU (a b:Nat) (w:World):(Instr.build 23 #[(0,.int .u8 (a:Int)),(31,.int .u8 (b:Int))]).run Tryz.prog w=.ok (AQ (a::(zs 30++[b]))) w:=by kernel_rfl
theorem AET {P:List VP} {o:List Nat} {a:Int} {l:List Nd} {q:List Nat×Int} (ha:Ci a=true) (hv:Co P=true) (h:Ly P o=true∧tr P (pos P o)=l) (hq:Ca l a=q):DI P o a=q:=(Ps ha hv h.1 rfl h.2).trans hq
end Go.Proofs.YtbfjfnbcmojpiaaGreat
