import Derived.Test.YtbfjfnbcmojpiaaGreatOpYB
import Derived.Test.YtbfjfnbcmojpiaaGreatOpY1
import Derived.Test.YtbfjfnbcmojpiaaGreatOpMK6
import Derived.Test.YtbfjfnbcmojpiaaGreatOpV3
set_option linter.unusedSimpArgs false
set_option linter.unusedVariables false
set_option maxRecDepth 100000
set_option maxHeartbeats 4000000
namespace Go.Proofs.YtbfjfnbcmojpiaaGreat
open Go.RowKit Go.Shelf
theorem AI9 (v:Value) (h:v.oneCell'=true) (e:Int):TY Tryz.prog 94 ([[v],[.int .i64 e]].flatten) (.agg #[v,.int .i64 e]):=
 TY.agg Tryz.underlying94 rfl (by kernel_rfl) (by
  intro c hc
  simp at hc
  rcases hc with rfl|rfl
  · exact h
  · rfl)
theorem FM {P:Program} {ops:Array Oper} {L:Nat→Sp} {n:Nat} {w0:World} {o:Oper} {x:Operand} {d b k:Nat} (ho:o.op=.nilCheck x) (hd:o.dst=some d) (hg:GX ops L n o.guard) (hx:OpX L n x (.pointer (some ⟨b,k,none⟩))) (h:∀w,(L d).on w (.pointer (some ⟨b,k,none⟩))):OX P ops L n w0 o:=
 E5 hg fun a w hw hl hsz=>⟨_,by
  have e1:=hx.eval (o:=o) (a:=a) (w:=w) (by simp[ho,Op.operands]) hl
  simp[execOp,ho,e1],Cw hd (h w)⟩
theorem AJA (ao:Option Addr) (n c:Nat) (w:World):(Instr.build 94 #[(0,.slice ao n c)]).run Tryz.prog w=.ok (.agg #[.slice ao n c,.int .i64 0]) w:=by kernel_rfl
theorem Zn (ks:List VK) (vo:Option Addr) (vc_:Nat) (sa po:List Nat) (hsa:Dg sa) (hpo:Dg po) (ad joint:Int) (od wd:List DD) (ao wo bo:Option Addr) (ac wc bc:Nat) (body tg:List Nat) (htg:Dg tg) (bby:By body) (w:World) (hr:RdK w (.slice vo ks.length vc_) ks) (ho:RdD w (.slice ao od.length ac) od) (hw:RdD w (.slice wo wd.length wc) wd) (hb:SlB w 1 (.slice bo body.length bc) body.length (bv body)) :
   Calls Tryz.prog 23 #[A8 sa po (.slice vo ks.length vc_),BR ad (.slice ao od.length ac) joint (.slice wo wd.length wc) (.slice bo body.length bc) tg] w fun e w'=>e=.returned (.tuple #[B7 (Ei (ks.map VK.p) ⟨ad,od.map DD.x,joint,wd.map DD.x,body,tg⟩).1,.int .i64 (Ei (ks.map VK.p) ⟨ad,od.map DD.x,joint,wd.map DD.x,body,tg⟩).2])∧w.grownBy w' none:=by
 obtain⟨P,hP⟩:∃P,ks.map VK.p=P:=⟨_,rfl⟩
 obtain⟨S,hS⟩:∃S:Sd,⟨ad,od.map DD.x,joint,wd.map DD.x,body,tg⟩=S:=⟨_,rfl⟩
 have s1:S.addr=ad:=by rw[←hS]
 have s2:S.own=od.map DD.x:=by rw[←hS]
 have s3:S.body=body:=by rw[←hS]
 have s4:S.tag=tg:=by rw[←hS]
 rw[hP,hS]
 refine BV Tryz.func23 rfl Tryz.ntmps23 rfl fun a0 sv0=>?_
 have HG:=World.grownBy.refl w none
 replace sv0:Sv 77 [] [(0,A8 sa po (.slice vo ks.length vc_)),(1,BR ad (.slice ao od.length ac) joint (.slice wo wd.length wc) (.slice bo body.length bc) tg)] a0:=sv0
 refine AKQ fun K1 k1=>?_
 refine AKP ?_
 refine Be sv0 r6 (CX hsa hpo (.slice vo ks.length vc_) rfl) fun a2 w2 CP DG g2 z2 AH sv2=>?_
 refine Be sv2 r6 (Df _ _ htg (.slice ao od.length ac) (.slice wo wd.length wc) (.slice bo body.length bc) rfl rfl rfl) fun a3 w3 BO Dw g3 z3 AG sv3=>?_
 replace AH:=AC g3 AH
 replace hr:=(hr.kn g2).kn g3
 replace ho:=(ho.kn g2).kn g3
 replace hw:=(hw.kn g2).kn g3
 replace hb:=(hb.kn g2).kn g3
 replace HG:=AA (AA HG g2) g3
 refine BB (T:=25) (Z:=[.int .i64 0,.int .i64 0,.string ⟨#[]⟩]) sv3 rfl rfl rfl (fun a w=>by kernel_rfl) fun a4 w4 FS Bk g4 z4 AM sv4=>?_
 have A9:=As AH Bk
 have BA:=As AG Bk
 have Bn:=Bq HG Bk
 have Bm:=Ay (hr.lt) Bk
 have Br:=Ay (ho.lt) Bk
 have Bt:=Ay (hw.lt) Bk
 have Bo:=Ay (hb.lt) Bk
 replace AH:=AC g4 AH
 replace AG:=AC g4 AG
 replace hr:=hr.kn g4
 replace ho:=ho.kn g4
 replace hw:=hw.kn g4
 replace hb:=hb.kn g4
 replace HG:=AA HG g4
 refine AR (v:=.int .i64 0) sv4 r6 fun a5 sv5=>?_
 refine AE ?_
 refine k1 _ _ ?_
 refine AKQ fun K6 k6=>?_
 refine AKQ fun K7 k7=>?_
 rcases(show(EX S=false∧Cj P=false)∨(EX S=false∧Cj P=true)∨(EX S=true∧Cj P=false)∨(EX S=true∧Cj P=true) by cases EX S<;>cases Cj P<;>simp) with ⟨hh,hv⟩|⟨hh,hv⟩|⟨hh,hv⟩|⟨hh,hv⟩
 · refine AKP ?_
   refine AJ sv5 8 [(12,A8 sa po (.slice vo ks.length vc_)),(13,.bool false),(14,.bool true),(15,.bool true),(16,undef),(17,undef),(18,undef),(19,.bool true)]
     ⟨yl r6 (CX hsa hpo (.slice vo ks.length vc_) rfl) AH,Al [A8 sa po (.slice vo ks.length vc_)] Tryz.func40 (by kernel_rfl) rq4 ⟨(oy rfl rfl),AKW⟩ (A7 fun W g=>LF hsa hpo (hr.kn g) hP hv),C3 r6 (fun _=>Bi),ym r5,AN r6,AN r6,AN r6,A1 r7,AKW⟩ fun a8 w8 g8 sv8=>?_
   refine AE ?_
   refine k7 _ _ ?_
   refine Ar sv8 rfl rfl ?_
   refine AKQ fun K9 k9=>?_
   refine AKP ?_
   replace AM:=AC g8 AM
   refine AJ sv8 1 [(20,B7 V.nul)]
     ⟨BM (vs:=[]) rfl rfl trivial trivial (fun _=>F8 _) (fun _=>rfl),AKW⟩ fun a10 w10 g10 BF=>?_
   refine Av BF r7 (Ck V.nul) (AC g10 AM) rfl fun w11 g11 h11=>?_
   replace AH:=Ag g10 g11 (AC g8 AH) (Ne.symm A9)
   replace AG:=Ag g10 g11 (AC g8 AG) (Ne.symm BA)
   replace hr:=((hr.kn g8).kn g10).offR g11 (AP Bm)
   replace ho:=((ho.kn g8).kn g10).offR g11 (AP Br)
   replace hw:=((hw.kn g8).kn g10).offR g11 (AP Bt)
   replace hb:=((hb.kn g8).kn g10).offR g11 (AP Bo)
   replace HG:=AD (AA (AA HG g8) g10) g11 Bn
   replace AM:=h11
   refine AR (v:=.int .i64 1) BF r6 fun a12 Cq=>?_
   refine AE ?_
   refine k9 _ _ ?_
   refine AKT ?_
   repeat refine AK ?_
   refine Aw (fn:=Tryz.f23) Cq (C4 (p:=4) (q:=5) Tryz.results23 Cq rfl rfl rfl rfl (Ck V.nul) AM) ?_
   exact⟨IT (Ht (.inl hh)),HG⟩
 · refine AKP ?_
   refine AJ sv5 8 [(12,A8 sa po (.slice vo ks.length vc_)),(13,.bool true),(14,.bool false),(15,.bool false),(16,BR ad (.slice ao od.length ac) joint (.slice wo wd.length wc) (.slice bo body.length bc) tg),(17,.bool false),(18,.bool true),(19,.bool true)]
     ⟨yl r6 (CX hsa hpo (.slice vo ks.length vc_) rfl) AH,Al [A8 sa po (.slice vo ks.length vc_)] Tryz.func40 (by kernel_rfl) rq4 ⟨(oy rfl rfl),AKW⟩ (A7 fun W g=>LF hsa hpo (hr.kn g) hP hv),C3 r6 (fun _=>Bi),ym r5,Ai rq9 (fun _ g=>AY (Df _ _ htg (.slice ao od.length ac) (.slice wo wd.length wc) (.slice bo body.length bc) rfl rfl rfl) (Aj (AF g AG (by simp)))),B8 [BR ad (.slice ao od.length ac) joint (.slice wo wd.length wc) (.slice bo body.length bc) tg] Tryz.func28 (by kernel_rfl) r7 ⟨(oy rfl rfl),AKW⟩ (A7 fun W g=>P4 htg (ho.kn g) (hw.kn g) (hb.kn g) hS hh),IA rfl rfl (gy rfl rfl rfl) (oy rfl rfl) (fun _=>Bi) (fun _=>rfl),Aa rq9,AKW⟩ fun a13 w13 g13 Cg=>?_
   refine AE ?_
   refine k7 _ _ ?_
   refine Ar Cg rfl rfl ?_
   refine AKQ fun K14 k14=>?_
   refine AKP ?_
   replace AM:=AC g13 AM
   refine AJ Cg 1 [(20,B7 V.nul)]
     ⟨BM (vs:=[]) rfl rfl trivial trivial (fun _=>F8 _) (fun _=>rfl),AKW⟩ fun a15 w15 g15 EE=>?_
   refine Av EE r7 (Ck V.nul) (AC g15 AM) rfl fun w16 g16 h16=>?_
   replace AH:=Ag g15 g16 (AC g13 AH) (Ne.symm A9)
   replace AG:=Ag g15 g16 (AC g13 AG) (Ne.symm BA)
   replace hr:=((hr.kn g13).kn g15).offR g16 (AP Bm)
   replace ho:=((ho.kn g13).kn g15).offR g16 (AP Br)
   replace hw:=((hw.kn g13).kn g15).offR g16 (AP Bt)
   replace hb:=((hb.kn g13).kn g15).offR g16 (AP Bo)
   replace HG:=AD (AA (AA HG g13) g15) g16 Bn
   replace AM:=h16
   refine AR (v:=.int .i64 1) EE r6 fun a17 De=>?_
   refine AE ?_
   refine k14 _ _ ?_
   refine AKT ?_
   repeat refine AK ?_
   refine Aw (fn:=Tryz.f23) De (C4 (p:=4) (q:=5) Tryz.results23 De rfl rfl rfl rfl (Ck V.nul) AM) ?_
   exact⟨IT (Ht (.inl hh)),HG⟩
 · refine AKP ?_
   refine AJ sv5 8 [(12,A8 sa po (.slice vo ks.length vc_)),(13,.bool false),(14,.bool true),(15,.bool true),(16,undef),(17,undef),(18,undef),(19,.bool true)]
     ⟨yl r6 (CX hsa hpo (.slice vo ks.length vc_) rfl) AH,Al [A8 sa po (.slice vo ks.length vc_)] Tryz.func40 (by kernel_rfl) rq4 ⟨(oy rfl rfl),AKW⟩ (A7 fun W g=>LF hsa hpo (hr.kn g) hP hv),C3 r6 (fun _=>Bi),ym r5,AN r6,AN r6,AN r6,A1 r7,AKW⟩ fun a18 w18 g18 CQ=>?_
   refine AE ?_
   refine k7 _ _ ?_
   refine Ar CQ rfl rfl ?_
   refine AKQ fun K19 k19=>?_
   refine AKP ?_
   replace AM:=AC g18 AM
   refine AJ CQ 1 [(20,B7 V.nul)]
     ⟨BM (vs:=[]) rfl rfl trivial trivial (fun _=>F8 _) (fun _=>rfl),AKW⟩ fun a20 w20 g20 DH=>?_
   refine Av DH r7 (Ck V.nul) (AC g20 AM) rfl fun w21 g21 h21=>?_
   replace AH:=Ag g20 g21 (AC g18 AH) (Ne.symm A9)
   replace AG:=Ag g20 g21 (AC g18 AG) (Ne.symm BA)
   replace hr:=((hr.kn g18).kn g20).offR g21 (AP Bm)
   replace ho:=((ho.kn g18).kn g20).offR g21 (AP Br)
   replace hw:=((hw.kn g18).kn g20).offR g21 (AP Bt)
   replace hb:=((hb.kn g18).kn g20).offR g21 (AP Bo)
   replace HG:=AD (AA (AA HG g18) g20) g21 Bn
   replace AM:=h21
   refine AR (v:=.int .i64 1) DH r6 fun a22 Bu=>?_
   refine AE ?_
   refine k19 _ _ ?_
   refine AKT ?_
   repeat refine AK ?_
   refine Aw (fn:=Tryz.f23) Bu (C4 (p:=4) (q:=5) Tryz.results23 Bu rfl rfl rfl rfl (Ck V.nul) AM) ?_
   exact⟨IT (Ht (.inr hv)),HG⟩
 · have hb64:body.length≤64:=s3▸AD5 hh
   have hia:MM ad:=by have:=(Wa (UE hh)).1;rw[s1] at this;exact⟨by omega,by omega⟩
   refine AKP ?_
   refine AJ sv5 8 [(12,A8 sa po (.slice vo ks.length vc_)),(13,.bool true),(14,.bool false),(15,.bool false),(16,BR ad (.slice ao od.length ac) joint (.slice wo wd.length wc) (.slice bo body.length bc) tg),(17,.bool true),(18,.bool false),(19,.bool false)]
     ⟨yl r6 (CX hsa hpo (.slice vo ks.length vc_) rfl) AH,Al [A8 sa po (.slice vo ks.length vc_)] Tryz.func40 (by kernel_rfl) rq4 ⟨(oy rfl rfl),AKW⟩ (A7 fun W g=>LF hsa hpo (hr.kn g) hP hv),C3 r6 (fun _=>Bi),ym r5,Ai rq9 (fun _ g=>AY (Df _ _ htg (.slice ao od.length ac) (.slice wo wd.length wc) (.slice bo body.length bc) rfl rfl rfl) (Aj (AF g AG (by simp)))),B8 [BR ad (.slice ao od.length ac) joint (.slice wo wd.length wc) (.slice bo body.length bc) tg] Tryz.func28 (by kernel_rfl) r7 ⟨(oy rfl rfl),AKW⟩ (A7 fun W g=>P4 htg (ho.kn g) (hw.kn g) (hb.kn g) hS hh),IA rfl rfl (gy rfl rfl rfl) (oy rfl rfl) (fun _=>Bi) (fun _=>rfl),Aa rq9,AKW⟩ fun a23 w23 g23 Cl=>?_
   refine AE ?_
   refine k7 _ _ ?_
   refine A2 Cl rfl rfl ?_
   refine AKU ?_
   refine k6 _ _ ?_
   refine AKQ fun K24 k24=>?_
   refine AKP ?_
   refine AJ Cl 2 [(21,pk BO 4),(22,.slice bo body.length bc)]
     ⟨yf r6 (fun _=>by kernel_rfl),yp (i:=4) r6 (Di (.slice bo body.length bc) rfl) (AC g23 AG) rfl rfl,AKW⟩ fun a25 w25 g25 Bz=>?_
   have KQ:=AA g23 g25
   refine AR (v:=.slice bo body.length bc) Bz r6 fun a26 Cy=>?_
   refine AE ?_
   refine k24 _ _ ?_
   refine AKQ fun K27 k27=>?_
   refine AKP ?_
   refine AJ Cy 4 [(23,pt BO),(24,.int .i64 ad),(25,pk BO 4),(26,.slice bo body.length bc)]
     ⟨yf r6 (fun _=>by kernel_rfl),yp (i:=0) r6 (Dr ad) (AC KQ AG) rfl rfl,yf r6 (fun _=>by kernel_rfl),yp (i:=4) r6 (Di (.slice bo body.length bc) rfl) (AC KQ AG) rfl rfl,AKW⟩ fun a28 w28 g28 GI=>?_
   have EW:=AA KQ g28
   replace hb:=hb.kn EW
   refine BD GI Tryz.func44 (by kernel_rfl) r6 (I1 (ZY ad hia body bby (by omega) _ _ _ hb)) fun a29 v29 w29 hR29 CY=>?_
   obtain⟨rfl,g29⟩:=hR29
   replace AH:=AC g29 (AC EW AH)
   replace AG:=AC g29 (AC EW AG)
   replace AM:=AC g29 (AC EW AM)
   replace hr:=(hr.kn EW).kn g29
   replace ho:=(ho.kn EW).kn g29
   replace hw:=(hw.kn EW).kn g29
   replace hb:=hb.kn g29
   replace HG:=AA (AA HG EW) g29
   refine BB (T:=23) (Z:=(bv AS)) CY rfl rfl rfl (fun a w=>by kernel_rfl) fun a30 w30 AJ5 Gv g30 z30 Bf Dl=>?_
   have Re:=As AH Gv
   have Lj:=As AG Gv
   have Cu:=As AM Gv
   have Xi:=Bq HG Gv
   have Xj:=Ay (hr.lt) Gv
   have Xk:=Ay (ho.lt) Gv
   have Xl:=Ay (hw.lt) Gv
   have Xm:=Ay (hb.lt) Gv
   refine Av Dl r7 (Bb ((ML ad body)) (DM ad body).1) Bf (Dk (DM ad body)) fun w31 g31 h31=>?_
   replace AH:=AZ g31 (AC g30 AH) (Ne.symm Re)
   replace AG:=AZ g31 (AC g30 AG) (Ne.symm Lj)
   replace AM:=AZ g31 (AC g30 AM) (Ne.symm Cu)
   replace hr:=(hr.kn g30).offR g31 (AP Xj)
   replace ho:=(ho.kn g30).offR g31 (AP Xk)
   replace hw:=(hw.kn g30).offR g31 (AP Xl)
   replace hb:=(hb.kn g30).offR g31 (AP Xm)
   replace HG:=AD (AA HG g30) g31 Xi
   replace Bf:=h31
   have Dm:Sv _ _ [_,_,_,_,_,_,_,_,_,_,_,_,_,_,_,_,_,_] _:=Dl.dl [27,23,24,25,26]
   refine AE ?_
   refine k27 _ _ ?_
   refine AKQ fun K33 k33=>?_
   refine AKQ fun K34 k34=>?_
   rcases Nat.eq_zero_or_pos od.length with hz|hz
   · have hnil:S.own=[]:=by rw[s2,List.eq_nil_of_length_eq_zero hz];rfl
     have hopen:=Kn hh hv hnil
     rw[s1,s3,s4] at hopen
     refine AKP ?_
     refine AJ Dm 4 [(28,pk BO 1),(29,.slice ao od.length ac),(30,.int .i64 ((od.length:Nat))),(31,.bool false)]
       ⟨yf r6 (fun _=>by kernel_rfl),yp (i:=1) r6 (D4 (.slice ao od.length ac) rfl) AG rfl rfl,Au (Tryz.underlying28) rfl rfl trivial (oy rfl rfl) (fun _=>rfl),Cp r6 (fun _=>Bl (decide_eq_false (by omega))),AKW⟩ fun a35 w35 g35 Iz=>?_
     refine AE ?_
     refine k34 _ _ ?_
     refine A2 Iz rfl rfl ?_
     refine AKU ?_
     refine k33 _ _ ?_
     refine AKQ fun K36 k36=>?_
     refine AKP ?_
     refine AJ Iz 2 [(51,.slice bo body.length bc),(52,.agg #[.slice bo body.length bc,.int .i64 0])]
       ⟨ym r5,BM (vs:=[.slice bo body.length bc]) rfl rfl trivial ⟨(oy rfl rfl),AKW⟩ (fun _=>AJA _ _ _ _) (fun _=>rfl),AKW⟩ fun a37 w37 g37 IE=>?_
     replace AH:=AC g37 (AC g35 AH)
     replace AG:=AC g37 (AC g35 AG)
     replace AM:=AC g37 (AC g35 AM)
     replace Bf:=AC g37 (AC g35 Bf)
     replace hr:=(hr.kn g35).kn g37
     replace ho:=(ho.kn g35).kn g37
     replace hw:=(hw.kn g35).kn g37
     replace hb:=(hb.kn g35).kn g37
     replace HG:=AA (AA HG g35) g37
     have hlt0:=hb.lt
     refine Be IE r6 (AI9 (.slice bo body.length bc) rfl _) fun a38 w38 ES Ed g38 z38 Dh N6=>?_
     have hltb:∀k,Ba (.slice bo body.length bc) k→k<ES:=fun k hk=>Ed▸hlt0 k hk
     have P7:=As AH Ed
     have P8:=As AG Ed
     have F4:=As AM Ed
     have OP:=As Bf Ed
     have ACC:=Bq HG Ed
     have UX:=Ay (hr.lt) Ed
     have UY:=Ay (ho.lt) Ed
     have UZ:=Ay (hw.lt) Ed
     have Ua:=Ay (hb.lt) Ed
     refine AR (v:=pt ES) N6 r6 fun a39 LP=>?_
     have IG:Sv _ _ [_,_,_,_,_,_,_,_,_,_,_,_,_,_,_,_,_,_,_,_,_,_] _:=LP.dl [53,51,52,6]
     refine AE ?_
     refine k36 _ _ ?_
     refine AKQ fun K41 k41=>?_
     refine AKP ?_
     refine AJ IG 1 [(54,pt ES)]
       ⟨ym r5,AKW⟩ fun a42 w42 g42 Gp=>?_
     replace Dh:=AC g42 Dh
     replace hb:=(hb.kn g38).kn g42
     have hlt:∀k,Ba (.slice bo body.length bc) k→k<ES:=fun k hk=>hltb k hk
     refine BD Gp Tryz.func64 (by kernel_rfl) r6 (XY Dh hb hlt bby (by omega)) fun a43 v43 w43 hR43 Hn=>?_
     obtain⟨x,ro,rn,rc,er,rfl,g43,h43,hcs⟩:=hR43
     obtain⟨hf1,hf2,hf3⟩:=UV hcs
     replace AH:=AZ g43 (AC g42 (AC g38 AH)) (Ne.symm P7)
     replace AG:=AZ g43 (AC g42 (AC g38 AG)) (Ne.symm P8)
     replace AM:=AZ g43 (AC g42 (AC g38 AM)) (Ne.symm F4)
     replace Bf:=AZ g43 (AC g42 (AC g38 Bf)) (Ne.symm OP)
     replace hr:=((hr.kn g38).kn g42).offR g43 (AP UX)
     replace ho:=((ho.kn g38).kn g42).offR g43 (AP UY)
     replace hw:=((hw.kn g38).kn g42).offR g43 (AP UZ)
     replace hb:=hb.offR g43 (AP Ua)
     replace HG:=AD (AA (AA HG g38) g42) g43 ACC
     replace Dh:=h43
     refine BB (T:=25) (Z:=[.int .i64 0,.int .i64 0,.string ⟨#[]⟩]) Hn rfl rfl rfl (fun a w=>by kernel_rfl) fun a44 w44 AJm Ee g44 z44 Jy N8=>?_
     have P9:=As AH Ee
     have QA:=As AG Ee
     have IU:=As AM Ee
     have OQ:=As Bf Ee
     have NX:=As Dh Ee
     have ACD:=Bq HG Ee
     have Ub:=Ay (hr.lt) Ee
     have Uc:=Ay (ho.lt) Ee
     have Ud:=Ay (hw.lt) Ee
     have Ue:=Ay (hb.lt) Ee
     refine Av N8 r7 (Ck x) Jy rfl fun w45 g45 h45=>?_
     replace AH:=AZ g45 (AC g44 AH) (Ne.symm P9)
     replace AG:=AZ g45 (AC g44 AG) (Ne.symm QA)
     replace AM:=AZ g45 (AC g44 AM) (Ne.symm IU)
     replace Bf:=AZ g45 (AC g44 Bf) (Ne.symm OQ)
     replace Dh:=AZ g45 (AC g44 Dh) (Ne.symm NX)
     replace hr:=(hr.kn g44).offR g45 (AP Ub)
     replace ho:=(ho.kn g44).offR g45 (AP Uc)
     replace hw:=(hw.kn g44).offR g45 (AP Ud)
     replace hb:=(hb.kn g44).offR g45 (AP Ue)
     replace HG:=AD (AA HG g44) g45 ACD
     replace Jy:=h45
     refine AE ?_
     refine k41 _ _ ?_
     refine AKQ fun K46 k46=>?_
     refine AKQ fun K47 k47=>?_
     rcases(show(ML ad body≠tg)∨(ML ad body=tg∧er≠0)∨(ML ad body=tg∧er=0∧rn=0)∨(ML ad body=tg∧er=0∧0<rn) by by_cases h:ML ad body=tg<;>simp[h]<;>omega) with htt|⟨htt,h1⟩|⟨htt,h1,h2⟩|⟨htt,h1,h2⟩
     · rw[if_neg htt] at hopen
       refine AKP ?_
       refine AJ N8 19 [(56,AQ ((ML ad body))),(57,pk BO 5),(58,AQ tg),(59,.bool true),(60,.bool true),(61,undef),(62,undef),(63,undef),(64,undef),(65,undef),(66,.bool true),(67,.bool true),(68,undef),(69,undef),(70,undef),(71,undef),(72,undef),(73,undef),(74,.bool true)]
         ⟨yl r6 (Bb ((ML ad body)) (DM ad body).1) Bf,yf r6 (fun _=>by kernel_rfl),yp (i:=5) r6 (Bb tg htg.1) AG rfl rfl,FG r7 (fun _=>(Ef (DM ad body) htg _ _ _).2.trans (by rw[decide_eq_false (htt)];rfl)),ym r5,AN r6,AN r6,AN r6,AN r6,AN r6,A1 r7,ym r5,AN r6,AN r6,AN r6,AN r6,AN r6,AN r6,A1 r7,AKW⟩ fun a48 w48 g48 UI=>?_
       refine AE ?_
       refine k47 _ _ ?_
       refine Ar UI rfl rfl ?_
       refine AKQ fun K49 k49=>?_
       refine AKP ?_
       replace AM:=AC g48 AM
       refine AJ UI 1 [(75,B7 V.nul)]
         ⟨BM (vs:=[]) rfl rfl trivial trivial (fun _=>F8 _) (fun _=>rfl),AKW⟩ fun a50 w50 g50 NI=>?_
       refine Av NI r7 (Ck V.nul) (AC g50 AM) rfl fun w51 g51 h51=>?_
       replace AH:=Ag g50 g51 (AC g48 AH) (Ne.symm A9)
       replace AG:=Ag g50 g51 (AC g48 AG) (Ne.symm BA)
       replace Bf:=Ag g50 g51 (AC g48 Bf) Cu
       replace Dh:=Ag g50 g51 (AC g48 Dh) F4
       replace Jy:=Ag g50 g51 (AC g48 Jy) IU
       replace hr:=((hr.kn g48).kn g50).offR g51 (AP Bm)
       replace ho:=((ho.kn g48).kn g50).offR g51 (AP Br)
       replace hw:=((hw.kn g48).kn g50).offR g51 (AP Bt)
       replace hb:=((hb.kn g48).kn g50).offR g51 (AP Bo)
       replace HG:=AD (AA (AA HG g48) g50) g51 Bn
       replace AM:=h51
       refine AR (v:=.int .i64 101) NI r6 fun a52 PQ=>?_
       refine AE ?_
       refine k49 _ _ ?_
       refine AKT ?_
       repeat refine AK ?_
       refine Aw (fn:=Tryz.f23) PQ (C4 (p:=4) (q:=5) Tryz.results23 PQ rfl rfl rfl rfl (Ck V.nul) AM) ?_
       exact⟨IT (hopen),HG⟩
     · rw[if_pos htt] at hopen
       refine AKP ?_
       refine AJ N8 19 [(56,AQ ((ML ad body))),(57,pk BO 5),(58,AQ tg),(59,.bool false),(60,.bool false),(61,pt ES),(62,pt ES),(63,pk ES 1),(64,.int .i64 er),(65,.bool true),(66,.bool true),(67,.bool true),(68,undef),(69,undef),(70,undef),(71,undef),(72,undef),(73,undef),(74,.bool true)]
         ⟨yl r6 (Bb ((ML ad body)) (DM ad body).1) Bf,yf r6 (fun _=>by kernel_rfl),yp (i:=5) r6 (Bb tg htg.1) AG rfl rfl,FG r7 (fun _=>(Ef (DM ad body) htg _ _ _).2.trans (by rw[decide_eq_true (htt)];rfl)),ym r5,Ad rq8,FM rfl rfl (gy rfl rfl rfl) (oy rfl rfl) (fun _=>rfl),Aq rq9 (fun _=>by kernel_rfl),Ai rq9 (fun _ g=>AY (E9 er) (Ak (L:=[[.slice ro rn rc],[.int .i64 er]]) (i:=1) (AF g Dh (by simp)) rfl rfl)),Af rq9 (fun _=>Db (by simpa using h1)),Aa rq9,ym r5,AN r6,AN r6,AN r6,AN r6,AN r6,AN r6,A1 r7,AKW⟩ fun a53 w53 g53 N9=>?_
       refine AE ?_
       refine k47 _ _ ?_
       refine Ar N9 rfl rfl ?_
       refine AKQ fun K54 k54=>?_
       refine AKP ?_
       replace AM:=AC g53 AM
       refine AJ N9 1 [(75,B7 V.nul)]
         ⟨BM (vs:=[]) rfl rfl trivial trivial (fun _=>F8 _) (fun _=>rfl),AKW⟩ fun a55 w55 g55 AFh=>?_
       refine Av AFh r7 (Ck V.nul) (AC g55 AM) rfl fun w56 g56 h56=>?_
       replace AH:=Ag g55 g56 (AC g53 AH) (Ne.symm A9)
       replace AG:=Ag g55 g56 (AC g53 AG) (Ne.symm BA)
       replace Bf:=Ag g55 g56 (AC g53 Bf) Cu
       replace Dh:=Ag g55 g56 (AC g53 Dh) F4
       replace Jy:=Ag g55 g56 (AC g53 Jy) IU
       replace hr:=((hr.kn g53).kn g55).offR g56 (AP Bm)
       replace ho:=((ho.kn g53).kn g55).offR g56 (AP Br)
       replace hw:=((hw.kn g53).kn g55).offR g56 (AP Bt)
       replace hb:=((hb.kn g53).kn g55).offR g56 (AP Bo)
       replace HG:=AD (AA (AA HG g53) g55) g56 Bn
       replace AM:=h56
       refine AR (v:=.int .i64 101) AFh r6 fun a57 AEA=>?_
       refine AE ?_
       refine k54 _ _ ?_
       refine AKT ?_
       repeat refine AK ?_
       refine Aw (fn:=Tryz.f23) AEA (C4 (p:=4) (q:=5) Tryz.results23 AEA rfl rfl rfl rfl (Ck V.nul) AM) ?_
       exact⟨IT (hopen.trans (hf1 h1)),HG⟩
     · rw[if_pos htt] at hopen
       refine AKP ?_
       refine AJ N8 19 [(56,AQ ((ML ad body))),(57,pk BO 5),(58,AQ tg),(59,.bool false),(60,.bool false),(61,pt ES),(62,pt ES),(63,pk ES 1),(64,.int .i64 er),(65,.bool false),(66,.bool false),(67,.bool false),(68,pt ES),(69,pt ES),(70,pt ES),(71,.slice ro rn rc),(72,.int .i64 ((rn:Nat))),(73,.bool false),(74,.bool false)]
         ⟨yl r6 (Bb ((ML ad body)) (DM ad body).1) Bf,yf r6 (fun _=>by kernel_rfl),yp (i:=5) r6 (Bb tg htg.1) AG rfl rfl,FG r7 (fun _=>(Ef (DM ad body) htg _ _ _).2.trans (by rw[decide_eq_true (htt)];rfl)),ym r5,Ad rq8,FM rfl rfl (gy rfl rfl rfl) (oy rfl rfl) (fun _=>rfl),Aq rq9 (fun _=>by kernel_rfl),Ai rq9 (fun _ g=>AY (E9 er) (Ak (L:=[[.slice ro rn rc],[.int .i64 er]]) (i:=1) (AF g Dh (by simp)) rfl rfl)),Af rq9 (fun _=>Db (by simpa using h1)),Aa rq9,ym r5,Ad rq8,FM rfl rfl (gy rfl rfl rfl) (oy rfl rfl) (fun _=>rfl),Aq rq9 (fun _=>by kernel_rfl),Ai rq9 (fun _ g=>AY (Di (.slice ro rn rc) rfl) (Ak (L:=[[.slice ro rn rc],[.int .i64 er]]) (i:=0) (AF g Dh (by simp)) rfl rfl)),Au (Tryz.underlying29) rfl rfl (gy rfl rfl rfl) (oy rfl rfl) (fun _=>rfl),Af rq9 (fun _=>Bl (decide_eq_false (by omega))),Aa rq9,AKW⟩ fun a58 w58 g58 Qk=>?_
       refine AE ?_
       refine k47 _ _ ?_
       refine A2 Qk rfl rfl ?_
       refine AKU ?_
       refine k46 _ _ ?_
       refine AKQ fun K59 k59=>?_
       refine AKP ?_
       refine AJ Qk 1 [(76,B7 x)]
         ⟨yl r6 (Ck x) (AC g58 Jy),AKW⟩ fun a60 w60 g60 ZM=>?_
       have LR:=AA g58 g60
       refine Av ZM r7 (Ck x) (AC LR AM) rfl fun w61 g61 h61=>?_
       replace AH:=Ag LR g61 AH (Ne.symm A9)
       replace AG:=Ag LR g61 AG (Ne.symm BA)
       replace Bf:=Ag LR g61 Bf Cu
       replace Dh:=Ag LR g61 Dh F4
       replace hr:=(hr.kn LR).offR g61 (AP Bm)
       replace ho:=(ho.kn LR).offR g61 (AP Br)
       replace hw:=(hw.kn LR).offR g61 (AP Bt)
       replace hb:=(hb.kn LR).offR g61 (AP Bo)
       replace HG:=AD (AA HG LR) g61 Bn
       replace AM:=h61
       refine AR (v:=.int .i64 0) ZM r6 fun a62 AGI=>?_
       refine AE ?_
       refine k59 _ _ ?_
       refine AKT ?_
       repeat refine AK ?_
       refine Aw (fn:=Tryz.f23) AGI (C4 (p:=4) (q:=5) Tryz.results23 AGI rfl rfl rfl rfl (Ck x) AM) ?_
       exact⟨IT (hopen.trans (hf2 h1 h2)),HG⟩
     · rw[if_pos htt] at hopen
       refine AKP ?_
       refine AJ N8 19 [(56,AQ ((ML ad body))),(57,pk BO 5),(58,AQ tg),(59,.bool false),(60,.bool false),(61,pt ES),(62,pt ES),(63,pk ES 1),(64,.int .i64 er),(65,.bool false),(66,.bool false),(67,.bool false),(68,pt ES),(69,pt ES),(70,pt ES),(71,.slice ro rn rc),(72,.int .i64 ((rn:Nat))),(73,.bool true),(74,.bool true)]
         ⟨yl r6 (Bb ((ML ad body)) (DM ad body).1) Bf,yf r6 (fun _=>by kernel_rfl),yp (i:=5) r6 (Bb tg htg.1) AG rfl rfl,FG r7 (fun _=>(Ef (DM ad body) htg _ _ _).2.trans (by rw[decide_eq_true (htt)];rfl)),ym r5,Ad rq8,FM rfl rfl (gy rfl rfl rfl) (oy rfl rfl) (fun _=>rfl),Aq rq9 (fun _=>by kernel_rfl),Ai rq9 (fun _ g=>AY (E9 er) (Ak (L:=[[.slice ro rn rc],[.int .i64 er]]) (i:=1) (AF g Dh (by simp)) rfl rfl)),Af rq9 (fun _=>Db (by simpa using h1)),Aa rq9,ym r5,Ad rq8,FM rfl rfl (gy rfl rfl rfl) (oy rfl rfl) (fun _=>rfl),Aq rq9 (fun _=>by kernel_rfl),Ai rq9 (fun _ g=>AY (Di (.slice ro rn rc) rfl) (Ak (L:=[[.slice ro rn rc],[.int .i64 er]]) (i:=0) (AF g Dh (by simp)) rfl rfl)),Au (Tryz.underlying29) rfl rfl (gy rfl rfl rfl) (oy rfl rfl) (fun _=>rfl),Af rq9 (fun _=>Bl (decide_eq_true (by omega))),Aa rq9,AKW⟩ fun a63 w63 g63 OD=>?_
       refine AE ?_
       refine k47 _ _ ?_
       refine Ar OD rfl rfl ?_
       refine AKQ fun K64 k64=>?_
       refine AKP ?_
       replace AM:=AC g63 AM
       refine AJ OD 1 [(75,B7 V.nul)]
         ⟨BM (vs:=[]) rfl rfl trivial trivial (fun _=>F8 _) (fun _=>rfl),AKW⟩ fun a65 w65 g65 AEO=>?_
       refine Av AEO r7 (Ck V.nul) (AC g65 AM) rfl fun w66 g66 h66=>?_
       replace AH:=Ag g65 g66 (AC g63 AH) (Ne.symm A9)
       replace AG:=Ag g65 g66 (AC g63 AG) (Ne.symm BA)
       replace Bf:=Ag g65 g66 (AC g63 Bf) Cu
       replace hr:=((hr.kn g63).kn g65).offR g66 (AP Bm)
       replace ho:=((ho.kn g63).kn g65).offR g66 (AP Br)
       replace hw:=((hw.kn g63).kn g65).offR g66 (AP Bt)
       replace hb:=((hb.kn g63).kn g65).offR g66 (AP Bo)
       replace HG:=AD (AA (AA HG g63) g65) g66 Bn
       replace AM:=h66
       refine AR (v:=.int .i64 101) AEO r6 fun a67 Zj=>?_
       refine AE ?_
       refine k64 _ _ ?_
       refine AKT ?_
       repeat refine AK ?_
       refine Aw (fn:=Tryz.f23) Zj (C4 (p:=4) (q:=5) Tryz.results23 Zj rfl rfl rfl rfl (Ck V.nul) AM) ?_
       exact⟨IT (hopen.trans (hf3 h1 h2)),HG⟩
   · have hne:S.own≠[]:=fun h=>by rw[s2] at h;have h2:od.length=0:=(List.length_map _).symm.trans (congrArg List.length h);omega
     refine AKP ?_
     refine AJ Dm 4 [(28,pk BO 1),(29,.slice ao od.length ac),(30,.int .i64 ((od.length:Nat))),(31,.bool true)]
       ⟨yf r6 (fun _=>by kernel_rfl),yp (i:=1) r6 (D4 (.slice ao od.length ac) rfl) AG rfl rfl,Au (Tryz.underlying28) rfl rfl trivial (oy rfl rfl) (fun _=>rfl),Cp r6 (fun _=>Bl (decide_eq_true (by omega))),AKW⟩ fun a68 w68 g68 I3=>?_
     refine AE ?_
     refine k34 _ _ ?_
     refine Ar I3 rfl rfl ?_
     refine AKQ fun K69 k69=>?_
     replace AH:=AC g68 AH
     replace AG:=AC g68 AG
     replace AM:=AC g68 AM
     replace Bf:=AC g68 Bf
     replace hr:=hr.kn g68
     replace ho:=ho.kn g68
     replace hw:=hw.kn g68
     replace hb:=hb.kn g68
     replace HG:=AA HG g68
     rcases(show FT P S=none∨∃c,FT P S=some c by cases FT P S<;>simp) with hrec|⟨c,hrec⟩
     · refine AKP ?_
       refine AJ I3 2 [(33,A8 sa po (.slice vo ks.length vc_)),(34,BR ad (.slice ao od.length ac) joint (.slice wo wd.length wc) (.slice bo body.length bc) tg)]
         ⟨yl r6 (CX hsa hpo (.slice vo ks.length vc_) rfl) AH,yl r6 (Df _ _ htg (.slice ao od.length ac) (.slice wo wd.length wc) (.slice bo body.length bc) rfl rfl rfl) AG,AKW⟩ fun a70 w70 g70 OO=>?_
       replace hr:=hr.kn g70
       replace ho:=ho.kn g70
       replace hw:=hw.kn g70
       replace hb:=hb.kn g70
       refine BD OO Tryz.func63 (by kernel_rfl) r6 (Xb hsa hpo htg hr ho hw hb hP hS hh hrec) fun a71 v71 w71 hR71 AJn=>?_
       obtain⟨cz,rfl,hcd,_,g71⟩:=hR71
       refine AJ AJn 3 [(32,.tuple #[AQ cz,.bool false]),(36,AQ cz),(37,.bool false)]
         ⟨ym r5,BZ rq4 (fun _ _ h=>⟨_,_,h,rfl,rfl⟩),BZ rq4 (fun _ _ h=>⟨_,_,h,rfl,rfl⟩),AKW⟩ fun a72 w72 g72 Tw=>?_
       replace AH:=AC g72 (AC g71 (AC g70 AH))
       replace AG:=AC g72 (AC g71 (AC g70 AG))
       replace AM:=AC g72 (AC g71 (AC g70 AM))
       replace Bf:=AC g72 (AC g71 (AC g70 Bf))
       replace hr:=(hr.kn g71).kn g72
       replace ho:=(ho.kn g71).kn g72
       replace hw:=(hw.kn g71).kn g72
       replace hb:=(hb.kn g71).kn g72
       replace HG:=AA (AA (AA HG g70) g71) g72
       refine BB (T:=23) (Z:=(bv AS)) Tw rfl rfl rfl (fun a w=>by kernel_rfl) fun a73 w73 AJ6 F5 g73 z73 AH0 Pj=>?_
       have Rf:=As AH F5
       have Rg:=As AG F5
       have Rh:=As AM F5
       have QB:=As Bf F5
       have AEU:=Bq HG F5
       have Xn:=Ay (hr.lt) F5
       have Xo:=Ay (ho.lt) F5
       have Xp:=Ay (hw.lt) F5
       have Xq:=Ay (hb.lt) F5
       refine Av Pj r7 (Bb cz hcd.1) AH0 (Dk hcd) fun w74 g74 h74=>?_
       refine AR (v:=.bool false) Pj r6 fun a75 ADz=>?_
       have T7:Sv _ _ [_,_,_,_,_,_,_,_,_,_,_,_,_,_,_,_,_,_,_,_,_,_,_,_] _:=ADz.dl [32,36,37,35,33,34]
       refine AE ?_
       refine k69 _ _ ?_
       refine AKQ fun K77 k77=>?_
       refine AKQ fun K78 k78=>?_
       refine AKP ?_
       refine AJ T7 2 [(38,.bool false),(39,.bool true)]
         ⟨ym r5,C3 r6 (fun _=>Bi),AKW⟩ fun a79 w79 g79 MH=>?_
       refine AE ?_
       refine k78 _ _ ?_
       refine Ar MH rfl rfl ?_
       refine AKQ fun K80 k80=>?_
       refine AKP ?_
       replace AM:=AC g79 (AZ g74 (AC g73 AM) (Ne.symm Rh))
       refine AJ MH 1 [(40,B7 V.nul)]
         ⟨BM (vs:=[]) rfl rfl trivial trivial (fun _=>F8 _) (fun _=>rfl),AKW⟩ fun a81 w81 g81 AB4=>?_
       refine Av AB4 r7 (Ck V.nul) (AC g81 AM) rfl fun w82 g82 h82=>?_
       replace AH:=Ag g81 g82 (AC g79 (AZ g74 (AC g73 AH) (Ne.symm Rf))) (Ne.symm A9)
       replace AG:=Ag g81 g82 (AC g79 (AZ g74 (AC g73 AG) (Ne.symm Rg))) (Ne.symm BA)
       replace Bf:=Ag g81 g82 (AC g79 (AZ g74 (AC g73 Bf) (Ne.symm QB))) Cu
       replace hr:=((((hr.kn g73).offR g74 (AP Xn)).kn g79).kn g81).offR g82 (AP Bm)
       replace ho:=((((ho.kn g73).offR g74 (AP Xo)).kn g79).kn g81).offR g82 (AP Br)
       replace hw:=((((hw.kn g73).offR g74 (AP Xp)).kn g79).kn g81).offR g82 (AP Bt)
       replace hb:=((((hb.kn g73).offR g74 (AP Xq)).kn g79).kn g81).offR g82 (AP Bo)
       replace HG:=AD (AA (AA (AD (AA HG g73) g74 AEU) g79) g81) g82 Bn
       replace AM:=h82
       refine AR (v:=.int .i64 10) AB4 r6 fun a83 J8=>?_
       refine AE ?_
       refine k80 _ _ ?_
       refine AKT ?_
       repeat refine AK ?_
       refine Aw (fn:=Tryz.f23) J8 (C4 (p:=4) (q:=5) Tryz.results23 J8 rfl rfl rfl rfl (Ck V.nul) AM) ?_
       exact⟨IT (P3 hh hv hne hrec),HG⟩
     · have hopen:=NW hh hv hne hrec
       rw[s1,s3,s4] at hopen
       refine AKP ?_
       refine AJ I3 2 [(33,A8 sa po (.slice vo ks.length vc_)),(34,BR ad (.slice ao od.length ac) joint (.slice wo wd.length wc) (.slice bo body.length bc) tg)]
         ⟨yl r6 (CX hsa hpo (.slice vo ks.length vc_) rfl) AH,yl r6 (Df _ _ htg (.slice ao od.length ac) (.slice wo wd.length wc) (.slice bo body.length bc) rfl rfl rfl) AG,AKW⟩ fun a84 w84 g84 Pq=>?_
       replace hr:=hr.kn g84
       replace ho:=ho.kn g84
       replace hw:=hw.kn g84
       replace hb:=hb.kn g84
       refine BD Pq Tryz.func63 (by kernel_rfl) r6 (Xb hsa hpo htg hr ho hw hb hP hS hh hrec) fun a85 v85 w85 hR85 AD1=>?_
       obtain⟨cz,rfl,hcd,hcc,g85⟩:=hR85
       obtain rfl:=hcc c rfl
       refine AJ AD1 3 [(32,.tuple #[AQ c,.bool true]),(36,AQ c),(37,.bool true)]
         ⟨ym r5,BZ rq4 (fun _ _ h=>⟨_,_,h,rfl,rfl⟩),BZ rq4 (fun _ _ h=>⟨_,_,h,rfl,rfl⟩),AKW⟩ fun a86 w86 g86 ER=>?_
       replace AG:=AC g86 (AC g85 (AC g84 AG))
       replace AM:=AC g86 (AC g85 (AC g84 AM))
       replace Bf:=AC g86 (AC g85 (AC g84 Bf))
       replace hb:=(hb.kn g85).kn g86
       replace HG:=AA (AA (AA HG g84) g85) g86
       refine BB (T:=23) (Z:=(bv AS)) ER rfl rfl rfl (fun a w=>by kernel_rfl) fun a87 w87 AJ7 Kp g87 z87 NY Zc=>?_
       have Ri:=As AG Kp
       have Rj:=As AM Kp
       have QC:=As Bf Kp
       have AEV:=Bq HG Kp
       have Xr:=Ay (hb.lt) Kp
       refine Av Zc r7 (Bb c hcd.1) NY (Dk hcd) fun w88 g88 h88=>?_
       replace AG:=AZ g88 (AC g87 AG) (Ne.symm Ri)
       replace NY:=h88
       refine AR (v:=.bool true) Zc r6 fun a89 Wg=>?_
       have AEG:Sv _ _ [_,_,_,_,_,_,_,_,_,_,_,_,_,_,_,_,_,_,_,_,_,_,_,_] _:=Wg.dl [32,36,37,35,33,34]
       refine AE ?_
       refine k69 _ _ ?_
       refine AKQ fun K91 k91=>?_
       refine AKQ fun K92 k92=>?_
       refine AKP ?_
       refine AJ AEG 2 [(38,.bool true),(39,.bool false)]
         ⟨ym r5,C3 r6 (fun _=>Bi),AKW⟩ fun a93 w93 g93 AGF=>?_
       refine AE ?_
       refine k92 _ _ ?_
       refine A2 AGF rfl rfl ?_
       refine AKU ?_
       refine k91 _ _ ?_
       refine AKQ fun K94 k94=>?_
       refine AKP ?_
       refine AJ AGF 3 [(41,AQ c),(42,pk BO 4),(43,.slice bo body.length bc)]
         ⟨yl r6 (Bb c hcd.1) (AC g93 NY),yf r6 (fun _=>by kernel_rfl),yp (i:=4) r6 (Di (.slice bo body.length bc) rfl) (AC g93 AG) rfl rfl,AKW⟩ fun a95 w95 g95 AHt=>?_
       have ACE:=AA g93 g95
       replace AM:=AC ACE (AZ g88 (AC g87 AM) (Ne.symm Rj))
       replace Bf:=AC ACE (AZ g88 (AC g87 Bf) (Ne.symm QC))
       replace hb:=((hb.kn g87).offR g88 (AP Xr)).kn ACE
       refine BD AHt Tryz.func47 (by kernel_rfl) r6 (Nt (ZX body bby (by omega) _ _ c hcd _ hb)) fun a96 v96 w96 hR96 AB5=>?_
       obtain⟨ao96,cap96,rfl,_⟩:=(Sl.of_own hR96.1).shape
       obtain⟨ow96,fr96⟩:=hR96
       replace fr96:=C7 fr96
       have oy_:=ow96
       clear ow96
       have g96:=fr96.1
       replace fr96:=fr96.2
       have Fd:=DK fr96 AM
       have Uf:=DK fr96 Bf
       replace AG:=AC g96 (AC ACE AG)
       replace NY:=AC g96 (AC ACE NY)
       refine AR (v:=.slice ao96 ((IK body c)).length cap96) AB5 r6 fun a97 Zd=>?_
       have AHx:Sv _ _ [_,_,_,_,_,_,_,_,_,_,_,_,_,_,_,_,_,_,_,_,_,_,_,_,_,_] _:=Zd.dl [44,41,42,43]
       refine AE ?_
       refine k94 _ _ ?_
       refine AKP ?_
       refine AJ AHx 5 [(45,AQ c),(46,pt BO),(47,.int .i64 ad),(48,pk BO 4),(49,.slice bo body.length bc)]
         ⟨yl r6 (Bb c hcd.1) NY,yf r6 (fun _=>by kernel_rfl),yp (i:=0) r6 (Dr ad) AG rfl rfl,yf r6 (fun _=>by kernel_rfl),yp (i:=4) r6 (Di (.slice bo body.length bc) rfl) AG rfl rfl,AKW⟩ fun a99 w99 g99 AGC=>?_
       replace hb:=(hb.kn g96).kn g99
       refine BD AGC Tryz.func48 (by kernel_rfl) r6 (I1 (ADl c hcd ad hia body bby (by omega) _ _ _ hb)) fun a100 v100 w100 hR100 AGt=>?_
       obtain⟨rfl,g100⟩:=hR100
       replace Bf:=AC g100 (AC g99 (AC g96 Bf))
       refine Av AGt r7 (Bb ((LS c ad body)) (Cm c ad body).1) Bf (Vl (DM ad body) (Cm c ad body)) fun w101 g101 h101=>?_
       have AEI:Sv _ _ [_,_,_,_,_,_,_,_,_,_,_,_,_,_,_,_,_,_,_,_,_,_,_,_,_,_] _:=AGt.dl [50,45,46,47,48,49]
       refine AE ?_
       refine k33 _ _ ?_
       refine AKQ fun K103 k103=>?_
       refine AKP ?_
       refine AJ AEI 2 [(51,.slice ao96 ((IK body c)).length cap96),(52,.agg #[.slice ao96 ((IK body c)).length cap96,.int .i64 0])]
         ⟨ym r5,BM (vs:=[.slice ao96 ((IK body c)).length cap96]) rfl rfl trivial ⟨(oy rfl rfl),AKW⟩ (fun _=>AJA _ _ _ _) (fun _=>rfl),AKW⟩ fun a104 w104 g104 Wh=>?_
       replace AG:=AC g104 (AZ g101 (AC g100 (AC g99 AG)) (Ne.symm Lj))
       replace AM:=AC g104 (AZ g101 (AC g100 (AC g99 (AC g96 AM))) (Ne.symm Cu))
       replace Bf:=AC g104 h101
       replace oy_:=(((oy_.kn g99).kn g100).offR g101 (AP Uf)).kn g104
       replace HG:=AA (AD (AA (AA (AA (AA (AD (AA HG g87) g88 AEV) ACE) g96) g99) g100) g101 Xi) g104
       have hlt0:=(Own.lt oy_)
       refine Be Wh r6 (AI9 (.slice ao96 ((IK body c)).length cap96) rfl _) fun a105 w105 DQ FU g105 z105 Co SY=>?_
       have hltb:∀k,Ba (.slice ao96 ((IK body c)).length cap96) k→k<DQ:=fun k hk=>FU▸hlt0 k hk
       have OS:=As AG FU
       have FO:=As AM FU
       have NZ:=As Bf FU
       have Zo:=Bq HG FU
       have QD:=Ay (Own.ltS oy_) FU
       refine AR (v:=pt DQ) SY r6 fun a106 AEJ=>?_
       have Wi:Sv _ _ [_,_,_,_,_,_,_,_,_,_,_,_,_,_,_,_,_,_,_,_,_,_,_,_,_,_] _:=AEJ.dl [53,51,52,6]
       refine AE ?_
       refine k103 _ _ ?_
       refine AKQ fun K108 k108=>?_
       refine AKP ?_
       refine AJ Wi 1 [(54,pt DQ)]
         ⟨ym r5,AKW⟩ fun a109 w109 g109 Wj=>?_
       replace Co:=AC g109 Co
       replace oy_:=(oy_.kn g105).kn g109
       have hlt:∀k,Ba (.slice ao96 ((IK body c)).length cap96) k→k<DQ:=fun k hk=>hltb k hk
       refine BD Wj Tryz.func64 (by kernel_rfl) r6 (XY Co (Own.sb oy_) hlt (NJ _ bby) (by rw[LG];omega)) fun a110 v110 w110 hR110 Gr=>?_
       obtain⟨x,ro,rn,rc,er,rfl,g110,h110,hcs⟩:=hR110
       obtain⟨hf1,hf2,hf3⟩:=UV hcs
       replace AG:=AZ g110 (AC g109 (AC g105 AG)) (Ne.symm OS)
       replace AM:=AZ g110 (AC g109 (AC g105 AM)) (Ne.symm FO)
       replace Bf:=AZ g110 (AC g109 (AC g105 Bf)) (Ne.symm NZ)
       replace oy_:=oy_.offR g110 (AP QD)
       replace HG:=AD (AA (AA HG g105) g109) g110 Zo
       replace Co:=h110
       refine BB (T:=25) (Z:=[.int .i64 0,.int .i64 0,.string ⟨#[]⟩]) Gr rfl rfl rfl (fun a w=>by kernel_rfl) fun a111 w111 AJP GM g111 z111 IV Lb=>?_
       have OT:=As AG GM
       have Hd:=As AM GM
       have Na:=As Bf GM
       have MJ:=As Co GM
       have Zp:=Bq HG GM
       have QE:=Ay (Own.ltS oy_) GM
       refine Av Lb r7 (Ck x) IV rfl fun w112 g112 h112=>?_
       replace AG:=AZ g112 (AC g111 AG) (Ne.symm OT)
       replace AM:=AZ g112 (AC g111 AM) (Ne.symm Hd)
       replace Bf:=AZ g112 (AC g111 Bf) (Ne.symm Na)
       replace Co:=AZ g112 (AC g111 Co) (Ne.symm MJ)
       replace oy_:=(oy_.kn g111).offR g112 (AP QE)
       replace HG:=AD (AA HG g111) g112 Zp
       replace IV:=h112
       refine AE ?_
       refine k108 _ _ ?_
       refine AKQ fun K113 k113=>?_
       refine AKQ fun K114 k114=>?_
       rcases(show(LS c ad body≠tg)∨(LS c ad body=tg∧er≠0)∨(LS c ad body=tg∧er=0∧rn=0)∨(LS c ad body=tg∧er=0∧0<rn) by by_cases h:LS c ad body=tg<;>simp[h]<;>omega) with htt|⟨htt,h1⟩|⟨htt,h1,h2⟩|⟨htt,h1,h2⟩
       · rw[if_neg htt] at hopen
         refine AKP ?_
         refine AJ Lb 19 [(56,AQ ((LS c ad body))),(57,pk BO 5),(58,AQ tg),(59,.bool true),(60,.bool true),(61,undef),(62,undef),(63,undef),(64,undef),(65,undef),(66,.bool true),(67,.bool true),(68,undef),(69,undef),(70,undef),(71,undef),(72,undef),(73,undef),(74,.bool true)]
          ⟨yl r6 (Bb ((LS c ad body)) (Cm c ad body).1) Bf,yf r6 (fun _=>by kernel_rfl),yp (i:=5) r6 (Bb tg htg.1) AG rfl rfl,FG r7 (fun _=>(Ef (Cm c ad body) htg _ _ _).2.trans (by rw[decide_eq_false (htt)];rfl)),ym r5,AN r6,AN r6,AN r6,AN r6,AN r6,A1 r7,ym r5,AN r6,AN r6,AN r6,AN r6,AN r6,AN r6,A1 r7,AKW⟩ fun a115 w115 g115 Lc=>?_
         refine AE ?_
         refine k114 _ _ ?_
         refine Ar Lc rfl rfl ?_
         refine AKQ fun K116 k116=>?_
         refine AKP ?_
         replace AM:=AC g115 AM
         refine AJ Lc 1 [(75,B7 V.nul)]
          ⟨BM (vs:=[]) rfl rfl trivial trivial (fun _=>F8 _) (fun _=>rfl),AKW⟩ fun a117 w117 g117 XF=>?_
         refine Av XF r7 (Ck V.nul) (AC g117 AM) rfl fun w118 g118 h118=>?_
         replace AG:=Ag g117 g118 (AC g115 AG) (Ne.symm BA)
         replace Bf:=Ag g117 g118 (AC g115 Bf) Cu
         replace Co:=Ag g117 g118 (AC g115 Co) FO
         replace IV:=Ag g117 g118 (AC g115 IV) Hd
         replace oy_:=((oy_.kn g115).kn g117).offR g118 (AP Fd)
         replace HG:=AD (AA (AA HG g115) g117) g118 Bn
         replace AM:=h118
         refine AR (v:=.int .i64 101) XF r6 fun a119 XG=>?_
         refine AE ?_
         refine k116 _ _ ?_
         refine AKT ?_
         repeat refine AK ?_
         refine Aw (fn:=Tryz.f23) XG (C4 (p:=4) (q:=5) Tryz.results23 XG rfl rfl rfl rfl (Ck V.nul) AM) ?_
         exact⟨IT (hopen),HG⟩
       · rw[if_pos htt] at hopen
         refine AKP ?_
         refine AJ Lb 19 [(56,AQ ((LS c ad body))),(57,pk BO 5),(58,AQ tg),(59,.bool false),(60,.bool false),(61,pt DQ),(62,pt DQ),(63,pk DQ 1),(64,.int .i64 er),(65,.bool true),(66,.bool true),(67,.bool true),(68,undef),(69,undef),(70,undef),(71,undef),(72,undef),(73,undef),(74,.bool true)]
          ⟨yl r6 (Bb ((LS c ad body)) (Cm c ad body).1) Bf,yf r6 (fun _=>by kernel_rfl),yp (i:=5) r6 (Bb tg htg.1) AG rfl rfl,FG r7 (fun _=>(Ef (Cm c ad body) htg _ _ _).2.trans (by rw[decide_eq_true (htt)];rfl)),ym r5,Ad rq8,FM rfl rfl (gy rfl rfl rfl) (oy rfl rfl) (fun _=>rfl),Aq rq9 (fun _=>by kernel_rfl),Ai rq9 (fun _ g=>AY (E9 er) (Ak (L:=[[.slice ro rn rc],[.int .i64 er]]) (i:=1) (AF g Co (by simp)) rfl rfl)),Af rq9 (fun _=>Db (by simpa using h1)),Aa rq9,ym r5,AN r6,AN r6,AN r6,AN r6,AN r6,AN r6,A1 r7,AKW⟩ fun a120 w120 g120 Cc=>?_
         refine AE ?_
         refine k114 _ _ ?_
         refine Ar Cc rfl rfl ?_
         refine AKQ fun K121 k121=>?_
         refine AKP ?_
         replace AM:=AC g120 AM
         refine AJ Cc 1 [(75,B7 V.nul)]
          ⟨BM (vs:=[]) rfl rfl trivial trivial (fun _=>F8 _) (fun _=>rfl),AKW⟩ fun a122 w122 g122 SZ=>?_
         refine Av SZ r7 (Ck V.nul) (AC g122 AM) rfl fun w123 g123 h123=>?_
         replace AG:=Ag g122 g123 (AC g120 AG) (Ne.symm BA)
         replace Bf:=Ag g122 g123 (AC g120 Bf) Cu
         replace Co:=Ag g122 g123 (AC g120 Co) FO
         replace IV:=Ag g122 g123 (AC g120 IV) Hd
         replace oy_:=((oy_.kn g120).kn g122).offR g123 (AP Fd)
         replace HG:=AD (AA (AA HG g120) g122) g123 Bn
         replace AM:=h123
         refine AR (v:=.int .i64 101) SZ r6 fun a124 Wk=>?_
         refine AE ?_
         refine k121 _ _ ?_
         refine AKT ?_
         repeat refine AK ?_
         refine Aw (fn:=Tryz.f23) Wk (C4 (p:=4) (q:=5) Tryz.results23 Wk rfl rfl rfl rfl (Ck V.nul) AM) ?_
         exact⟨IT (hopen.trans (hf1 h1)),HG⟩
       · rw[if_pos htt] at hopen
         refine AKP ?_
         refine AJ Lb 19 [(56,AQ ((LS c ad body))),(57,pk BO 5),(58,AQ tg),(59,.bool false),(60,.bool false),(61,pt DQ),(62,pt DQ),(63,pk DQ 1),(64,.int .i64 er),(65,.bool false),(66,.bool false),(67,.bool false),(68,pt DQ),(69,pt DQ),(70,pt DQ),(71,.slice ro rn rc),(72,.int .i64 ((rn:Nat))),(73,.bool false),(74,.bool false)]
          ⟨yl r6 (Bb ((LS c ad body)) (Cm c ad body).1) Bf,yf r6 (fun _=>by kernel_rfl),yp (i:=5) r6 (Bb tg htg.1) AG rfl rfl,FG r7 (fun _=>(Ef (Cm c ad body) htg _ _ _).2.trans (by rw[decide_eq_true (htt)];rfl)),ym r5,Ad rq8,FM rfl rfl (gy rfl rfl rfl) (oy rfl rfl) (fun _=>rfl),Aq rq9 (fun _=>by kernel_rfl),Ai rq9 (fun _ g=>AY (E9 er) (Ak (L:=[[.slice ro rn rc],[.int .i64 er]]) (i:=1) (AF g Co (by simp)) rfl rfl)),Af rq9 (fun _=>Db (by simpa using h1)),Aa rq9,ym r5,Ad rq8,FM rfl rfl (gy rfl rfl rfl) (oy rfl rfl) (fun _=>rfl),Aq rq9 (fun _=>by kernel_rfl),Ai rq9 (fun _ g=>AY (Di (.slice ro rn rc) rfl) (Ak (L:=[[.slice ro rn rc],[.int .i64 er]]) (i:=0) (AF g Co (by simp)) rfl rfl)),Au (Tryz.underlying29) rfl rfl (gy rfl rfl rfl) (oy rfl rfl) (fun _=>rfl),Af rq9 (fun _=>Bl (decide_eq_false (by omega))),Aa rq9,AKW⟩ fun a125 w125 g125 AGu=>?_
         refine AE ?_
         refine k114 _ _ ?_
         refine A2 AGu rfl rfl ?_
         refine AKU ?_
         refine k113 _ _ ?_
         refine AKQ fun K126 k126=>?_
         refine AKP ?_
         refine AJ AGu 1 [(76,B7 x)]
          ⟨yl r6 (Ck x) (AC g125 IV),AKW⟩ fun a127 w127 g127 AGv=>?_
         have Sa:=AA g125 g127
         refine Av AGv r7 (Ck x) (AC Sa AM) rfl fun w128 g128 h128=>?_
         replace AG:=Ag Sa g128 AG (Ne.symm BA)
         replace Bf:=Ag Sa g128 Bf Cu
         replace Co:=Ag Sa g128 Co FO
         replace oy_:=(oy_.kn Sa).offR g128 (AP Fd)
         replace HG:=AD (AA HG Sa) g128 Bn
         replace AM:=h128
         refine AR (v:=.int .i64 0) AGv r6 fun a129 AAn=>?_
         refine AE ?_
         refine k126 _ _ ?_
         refine AKT ?_
         repeat refine AK ?_
         refine Aw (fn:=Tryz.f23) AAn (C4 (p:=4) (q:=5) Tryz.results23 AAn rfl rfl rfl rfl (Ck x) AM) ?_
         exact⟨IT (hopen.trans (hf2 h1 h2)),HG⟩
       · rw[if_pos htt] at hopen
         refine AKP ?_
         refine AJ Lb 19 [(56,AQ ((LS c ad body))),(57,pk BO 5),(58,AQ tg),(59,.bool false),(60,.bool false),(61,pt DQ),(62,pt DQ),(63,pk DQ 1),(64,.int .i64 er),(65,.bool false),(66,.bool false),(67,.bool false),(68,pt DQ),(69,pt DQ),(70,pt DQ),(71,.slice ro rn rc),(72,.int .i64 ((rn:Nat))),(73,.bool true),(74,.bool true)]
          ⟨yl r6 (Bb ((LS c ad body)) (Cm c ad body).1) Bf,yf r6 (fun _=>by kernel_rfl),yp (i:=5) r6 (Bb tg htg.1) AG rfl rfl,FG r7 (fun _=>(Ef (Cm c ad body) htg _ _ _).2.trans (by rw[decide_eq_true (htt)];rfl)),ym r5,Ad rq8,FM rfl rfl (gy rfl rfl rfl) (oy rfl rfl) (fun _=>rfl),Aq rq9 (fun _=>by kernel_rfl),Ai rq9 (fun _ g=>AY (E9 er) (Ak (L:=[[.slice ro rn rc],[.int .i64 er]]) (i:=1) (AF g Co (by simp)) rfl rfl)),Af rq9 (fun _=>Db (by simpa using h1)),Aa rq9,ym r5,Ad rq8,FM rfl rfl (gy rfl rfl rfl) (oy rfl rfl) (fun _=>rfl),Aq rq9 (fun _=>by kernel_rfl),Ai rq9 (fun _ g=>AY (Di (.slice ro rn rc) rfl) (Ak (L:=[[.slice ro rn rc],[.int .i64 er]]) (i:=0) (AF g Co (by simp)) rfl rfl)),Au (Tryz.underlying29) rfl rfl (gy rfl rfl rfl) (oy rfl rfl) (fun _=>rfl),Af rq9 (fun _=>Bl (decide_eq_true (by omega))),Aa rq9,AKW⟩ fun a130 w130 g130 Wl=>?_
         refine AE ?_
         refine k114 _ _ ?_
         refine Ar Wl rfl rfl ?_
         refine AKQ fun K131 k131=>?_
         refine AKP ?_
         replace AM:=AC g130 AM
         refine AJ Wl 1 [(75,B7 V.nul)]
          ⟨BM (vs:=[]) rfl rfl trivial trivial (fun _=>F8 _) (fun _=>rfl),AKW⟩ fun a132 w132 g132 AAo=>?_
         refine Av AAo r7 (Ck V.nul) (AC g132 AM) rfl fun w133 g133 h133=>?_
         replace oy_:=((oy_.kn g130).kn g132).offR g133 (AP Fd)
         replace HG:=AD (AA (AA HG g130) g132) g133 Bn
         replace AM:=h133
         refine AR (v:=.int .i64 101) AAo r6 fun a134 Wn=>?_
         refine AE ?_
         refine k131 _ _ ?_
         refine AKT ?_
         repeat refine AK ?_
         refine Aw (fn:=Tryz.f23) Wn (C4 (p:=4) (q:=5) Tryz.results23 Wn rfl rfl rfl rfl (Ck V.nul) AM) ?_
         exact⟨IT (hopen.trans (hf3 h1 h2)),HG⟩
end Go.Proofs.YtbfjfnbcmojpiaaGreat
namespace Go.Proofs.YtbfjfnbcmojpiaaGreat
open Go.RowKit
theorem AFH {P:List VP} {o:List Nat} {t:List Nd} {x:VP}:x∈QV P o t↔x=(o,t)∨x∈P:=by
 unfold QV
 rw[List.mem_append,List.mem_cons]
 constructor
 · rintro (h|h|h)
   · exact .inr (List.mem_of_mem_take h)
   · exact .inl h
   · exact .inr (List.mem_of_mem_drop h)
 · rintro (h|h)
   · exact .inr (.inl h)
   · rw[←List.take_append_drop (pos P o) P] at h
     exact(List.mem_append.1 h).imp id .inr
theorem AFI {P:List VP} (hs:Srt P) {o:List Nat} {t:List Nd} (h:(o,t)∈P):LO P o=true∧tr P (pos P o)=t:=by
 obtain⟨i,hi,he⟩:=List.getElem_of_mem h
 have h1:od P i=o:=by rw[AAO hi,he]
 obtain⟨h2,h3⟩:=S5 hs hi h1
 refine⟨h3,?_⟩
 rw[h2,AGZ hi,he]
theorem MZ (k:List Nat):Gy (tree k [])=true:=Vc k [] (by simp)
theorem ACy {P:List VP} {sa po o nx:List Nat} {T:List Nd} (hv:Cj P=true) (hf:LO P o=false) (hl:P.length<64):Vd (P,sa,po) o T nx=((QV P o T,sa,nx),0):=by
 unfold Vd
 rw[if_pos hv,if_neg (by rw[hf];simp),if_neg (by simpa using hl)]
end Go.Proofs.YtbfjfnbcmojpiaaGreat
namespace Go.Proofs.YtbfjfnbcmojpiaaGreat
open Go.RowKit Go.Shelf
section
variable {T:Nat→List Nd} {P:List VP} {i:Nat}
end
theorem AFi {P:List VP} {o:List Nat} {a:Int} {l:List Nd} {q:List Nat×Int} (ha:Ce a=true) (hv:Cj P=true) (h:LO P o=true∧tr P (pos P o)=l) (hq:CO l a=q):Cz P o a=q:=(NG ha hv h.1 rfl h.2).trans hq
theorem AJB (n:Int) (w:World):(Instr.build 25 #[(0,.int .i64 1),(1,.int .i64 n)]).run Tryz.prog w=.ok (B7 ⟨1,n,⟨#[]⟩⟩) w:=by kernel_rfl
def IZ (n:Int):V:=(⟨1,n,⟨#[]⟩⟩:V).clean
theorem Nb (n:Int) (w:World) :
  Calls Tryz.prog 37 #[.int .i64 n] w fun e w'=>e=.returned (B7 (IZ n))∧w.grownBy w' none:=by
 refine BV Tryz.func37 rfl Tryz.ntmps37 rfl fun a0 sv0=>?_
 have HG:=World.grownBy.refl w none
 replace sv0:Sv 6 [] [(0,.int .i64 n)] a0:=sv0
 refine AKQ fun K1 k1=>?_
 refine AKP ?_
 refine BB (T:=25) (Z:=[.int .i64 0,.int .i64 0,.string ⟨#[]⟩]) sv0 rfl rfl rfl (fun a w=>by kernel_rfl) fun a2 w2 CP DG g2 z2 AH sv2=>?_
 have Fq:=Bq HG DG
 refine AE ?_
 refine k1 _ _ ?_
 refine AKQ fun K3 k3=>?_
 refine AKP ?_
 refine AJ sv2 3 [(3,.int .i64 n),(4,B7 ((⟨1,n,⟨#[]⟩⟩:V))),(5,B7 ((IZ n)))]
  ⟨ym r5,BM (vs:=[.int .i64 1,.int .i64 n]) rfl rfl trivial ⟨rfl,(oy rfl rfl),AKW⟩ (fun _=>AJB n _) (fun _=>rfl),Al [B7 ((⟨1,n,⟨#[]⟩⟩:V))] Tryz.func25 (by kernel_rfl) rq4 ⟨(oy rfl rfl),AKW⟩ (A7 fun W g=>U3 _ W),AKW⟩ fun a4 w4 g4 sv4=>?_
 refine Av sv4 r7 (Ck ((IZ n))) (AC g4 AH) rfl fun w5 g5 h5=>?_
 replace HG:=AD (AA (AA HG g2) g4) g5 Fq
 replace AH:=h5
 have sv6:Sv _ _ [_] _:=sv4.dl [3,4,5,0]
 refine AE ?_
 refine k3 _ _ ?_
 refine AKT ?_
 repeat refine AK ?_
 refine Aw (fn:=Tryz.f37) sv6 (Dz (p:=2) Tryz.results37 sv6 rfl rfl (Ck ((IZ n))) AH) ?_
 exact⟨rfl,HG⟩
end Go.Proofs.YtbfjfnbcmojpiaaGreat
namespace Go.Proofs.YtbfjfnbcmojpiaaGreat
open Go.ChangeShapes Go.WideShapes Go.ChangeAt Go.RowKit Go.Deep
theorem YL {a b:World} (h:a.grownBy b none):Below a.heap.size a b:=
 ⟨h.os,h.tape,h.output,h.size,fun i hi=>h.block i hi (by simp)⟩
theorem Zy:laidOutB Tryz.prog=true:=by kernel_rfl
theorem AEu:Tryz.prog.cellsOf 3=1:=by kernel_rfl
theorem ACM:Tryz.prog.cellsOf 2=1:=by kernel_rfl
theorem AAZ:Tryz.prog.cellsOf 58=33:=by kernel_rfl
theorem AFj:Tryz.prog.cellsOf 36=65:=by kernel_rfl
theorem AFk:Tryz.prog.cellsOf 34=1:=by kernel_rfl
def KOk (W:World) (x:VK):Prop:=Sl W 34 x.s x.l.length (E3 x.l)∧(∀k,Nw x.s k→k<W.heap.size)∧∀n∈x.l,YR n
theorem AFl {H:Type} {enc:TypeId×Value→H} {W:World} {b0:Nat}:∀fuel cs y,DataW.trod enc Tryz.prog W b0 (fun _=>true) true fuel 56 cs=some y→∃(ao:Option Addr) (cap:Nat) (l:List Nd),cs=[.slice ao l.length cap]∧Sl W 34 (.slice ao l.length cap) l.length (E3 l)∧(∀k,Nw (.slice ao l.length cap) k→k<W.heap.size)∧∀n∈l,YR n:=by
 intro fuel cs y h
 obtain⟨xs,k,_,_,hl,hxl,hf⟩:=DataW.trod_struct Tryz.underlying56 h
 rw[Zz] at hl
 match cs,hl with
 | [b],_ =>
  obtain⟨y1,t1⟩:=FP hxl hf 0 _ rfl 54 rfl 1 AEw
  obtain⟨v1,l1,e1,⟨⟨ao,cap,rfl,h1,h2,h3⟩,h4⟩,w1⟩:=KD Tryz.underlying54 Z8 (by decide) CW YR AIM t1
  have e1:[b]=[.slice ao l1.length cap]:=e1
  refine⟨ao,cap,l1,e1,?_,fun k hk=>(h4 hk.2).2 k hk.1,w1⟩
  rcases Nat.eq_zero_or_pos l1.length with h0|hp
  · obtain rfl:=List.eq_nil_of_length_eq_zero h0
    exact⟨rfl,ao,cap,rfl,h1,h2,h3,fun a ha=>⟨fun h=>absurd h (by simp),fun j u hu=>by simp[E3] at hu⟩⟩
  · exact(h4 hp).1
theorem AHb {H:Type} {enc:TypeId×Value→H} {W:World} {b0:Nat}:∀fuel cs y,DataW.trod enc Tryz.prog W b0 (fun _=>true) true fuel 58 cs=some y→∃x:VK,cs=Ax x∧(Ax x).length=33∧KOk W x:=by
 intro fuel cs y h
 obtain⟨xs,k,_,_,hl,hxl,hf⟩:=DataW.trod_struct Tryz.underlying58 h
 rw[AAZ] at hl
 obtain⟨y0,t0⟩:=FP hxl hf 0 _ rfl 23 rfl 32 KE
 obtain⟨y1,t1⟩:=FP hxl hf 1 _ rfl 56 rfl 1 Zz
 obtain⟨o,e0,a0,b0⟩:=M7 _ _ _ t0
 obtain⟨ao,cap,l,e1,w1,w2,w3⟩:=AFl _ _ _ t1
 have e0:cs.take 32=bv o:=e0
 have e1:(cs.drop 32).take 1=[.slice ao l.length cap]:=e1
 rw[List.take_of_length_le (by rw[List.length_drop];omega)] at e1
 refine⟨⟨o,⟨a0,b0⟩,ao,cap,l⟩,?_,Dc _,w1,w2,w3⟩
 rw[←List.take_append_drop 32 cs,e0,e1]
 rfl
theorem YK {H:Type} {enc:TypeId×Value→H} {W:World} {r:Reach} {base b0:Nat} {v:Value} {d:DataW H} {p:List MemPlace} (hv:Value.okWide Tryz.prog W r base 36 v) (h:DataW.Trod enc Tryz.prog W b0 (fun _=>true) true 36 v d p):∃(sa po:List Nat) (s:Value) (ks:List VK),v=A8 sa po s∧Dg sa∧Dg po∧SlB W 33 s ks.length (ks.flatMap Ax)∧∀x∈ks,KOk W x:=by
 obtain⟨cs,rfl,hcell⟩:=LU Tryz.underlying36 hv
 obtain⟨fuel,hf⟩:=h
 have hf':DataW.trod enc Tryz.prog W b0 (fun _=>true) true fuel 36 cs.toList=some (d,p):=hf
 obtain⟨xs,k,_,_,hl,hxl,hf⟩:=DataW.trod_struct Tryz.underlying36 hf'
 rw[AFj] at hl
 obtain⟨l⟩:=cs
 have hl:l.length=65:=hl
 obtain⟨y0,t0⟩:=FP hxl hf 0 _ rfl 23 rfl 32 KE
 obtain⟨y1,t1⟩:=FP hxl hf 1 _ rfl 23 rfl 32 KE
 obtain⟨y2,t2⟩:=FP hxl hf 2 _ rfl 34 rfl 1 AFk
 obtain⟨x0,e0,a0,c0⟩:=M7 _ _ _ t0
 obtain⟨x1,e1,a1,c1⟩:=M7 _ _ _ t1
 obtain⟨s,ks,e2,nn,w2⟩:=KD Tryz.underlying34 AAZ (by decide) Ax (KOk W) AHb t2
 have e0:l.take 32=bv x0:=e0
 have e1:(l.drop 32).take 32=bv x1:=e1
 have e2:(l.drop 64).take 1=[s]:=e2
 rw[List.take_of_length_le (by rw[List.length_drop];omega)] at e2
 obtain⟨u0,q0⟩:=hcell 64 s (by
  have h1:(l.drop 64)[0]?=some s:=by rw[e2];rfl
  rw[List.getElem?_drop] at h1
  simpa using h1)
 have ht:=nn.top (fun h=>by rw[List.eq_nil_of_length_eq_zero h];rfl) q0
 refine⟨x0,x1,s,ks,?_,⟨a0,c0⟩,⟨a1,c1⟩,ht,w2⟩
 have el:l=bv x0++(bv x1++[s]):=by
  rw[←List.take_append_drop 32 l,e0,←List.take_append_drop 32 (l.drop 32),e1,List.drop_drop,e2]
 rw[el]
 unfold A8
 simp
end Go.Proofs.YtbfjfnbcmojpiaaGreat
namespace Go.Proofs.YtbfjfnbcmojpiaaGreat
open Go.RowKit Go.Shelf
def Sp.vv (V:VV) (fp:Nat→Prop):Sp:=⟨fun w v=>∃ao cap ks,v=A8 V.2.1 V.2.2 (.slice ao (List.length ks) cap)∧ks.map VK.p=V.1∧RdK w (.slice ao (List.length ks) cap) ks∧∀k,TH (.slice ao (List.length ks) cap) ks k→fp k∨TagV w k,fun _ _ _ hg ⟨ao,cap,ks,h1,h2,h3,h4⟩=>⟨ao,cap,ks,h1,h2,h3.kn hg,WJ hg h4⟩⟩
theorem AEW {r:VV×Int} {fp:Nat→Prop} (w:World) (u:Value) (h:(Sp.vt r fp).on w u):∃vs v,u=.tuple vs∧vs[0]?=some v∧(Sp.vv r.1 fp).on w v:=by
 obtain⟨ao,cap,ks,h1,h2⟩:=h
 exact⟨_,_,h1,rfl,ao,cap,ks,rfl,h2⟩
theorem AH1 {r:VV×Int} {fp:Nat→Prop} (w:World) (u:Value) (h:(Sp.vt r fp).on w u):∃vs v,u=.tuple vs∧vs[1]?=some v∧(Sp.is (.int .i64 r.2)).on w v:=by
 obtain⟨ao,cap,ks,h1,h2⟩:=h
 exact⟨_,_,h1,rfl,rfl⟩
def AEX (a b c:Value) (k:Nat):Prop:=Ba a k∨Ba b k∨Ba c k
def SdF (w:World) (s:Sd) (own wr:List DD) (ao wo bo:Option Addr) (ac wc bc:Nat):Prop:=own.map DD.x=s.own∧wr.map DD.x=s.wr ∧
 Own w 23 32 (.slice ao own.length ac) own.length (own.flatMap J4)∧Own w 23 32 (.slice wo wr.length wc) wr.length (wr.flatMap J4)∧Own w 5 1 (.slice bo s.body.length bc) s.body.length (bv s.body) ∧
 (∀k,Ba (.slice ao own.length ac) k→¬Ba (.slice wo wr.length wc) k)∧Dg s.tag∧By s.body
section
variable {w w':World} {s:Sd} {own wr:List DD} {ao wo bo:Option Addr} {ac wc bc:Nat}
theorem SdF.kn (h:SdF w s own wr ao wo bo ac wc bc) (g:w.grownBy w' none):SdF w' s own wr ao wo bo ac wc bc:=by
 obtain⟨h1,h2,h3,h4,h5,h6⟩:=h
 exact⟨h1,h2,h3.kn g,h4.kn g,h5.kn g,h6⟩
theorem SdF.offR (h:SdF w s own wr ao wo bo ac wc bc) {row:Option Nat} (g:w.grownBy w' row) (hb:∀k,AEX (.slice ao own.length ac) (.slice wo wr.length wc) (.slice bo s.body.length bc) k→row≠some k):SdF w' s own wr ao wo bo ac wc bc:=by
 obtain⟨h1,h2,h3,h4,h5,h6⟩:=h
 exact⟨h1,h2,h3.offR g fun k hk=>hb k (.inl hk),h4.offR g fun k hk=>hb k (.inr (.inl hk)),h5.offR g fun k hk=>hb k (.inr (.inr hk)),h6⟩
theorem SdF.lt (h:SdF w s own wr ao wo bo ac wc bc):∀k,AEX (.slice ao own.length ac) (.slice wo wr.length wc) (.slice bo s.body.length bc) k→k<w.heap.size:=by
 obtain⟨h1,h2,h3,h4,h5,h6⟩:=h
 rintro k (hk|hk|hk)
 · exact Own.ltS h3 k hk
 · exact Own.ltS h4 k hk
 · exact Own.ltS h5 k hk
theorem SdF.ap (h:SdF w s own wr ao wo bo ac wc bc) {b:Nat} {c:Array Value} {T:TypeId} {fr:Nat×Nat} (hb:w.heap[b]?=some (.cells c T fr)) (hT:T≠23∧T≠5):∀k,AEX (.slice ao own.length ac) (.slice wo wr.length wc) (.slice bo s.body.length bc) k→k≠b:=by
 obtain⟨h1,h2,h3,h4,h5,h6⟩:=h
 rintro k (hk|hk|hk) rfl
 · exact Own.ne h3 hb (Ne.symm hT.1) hk
 · exact Own.ne h4 hb (Ne.symm hT.1) hk
 · exact Own.ne h5 hb (Ne.symm hT.2) hk
theorem SdF.ro (h:SdF w s own wr ao wo bo ac wc bc):RdD w (.slice ao own.length ac) own:=Own.sb h.2.2.1
theorem SdF.rw (h:SdF w s own wr ao wo bo ac wc bc):RdD w (.slice wo wr.length wc) wr:=Own.sb h.2.2.2.1
theorem SdF.rb (h:SdF w s own wr ao wo bo ac wc bc):SlB w 1 (.slice bo s.body.length bc) s.body.length (bv s.body):=Own.sb h.2.2.2.2.1
theorem SdF.tg (h:SdF w s own wr ao wo bo ac wc bc):Dg s.tag:=h.2.2.2.2.2.2.1
theorem SdF.by (h:SdF w s own wr ao wo bo ac wc bc):By s.body:=h.2.2.2.2.2.2.2
theorem SdF.sd (h:SdF w s own wr ao wo bo ac wc bc):(⟨s.addr,own.map DD.x,s.joint,wr.map DD.x,s.body,s.tag⟩:Sd)=s:=by rw[h.1,h.2.1]
end
def Sp.sr (B:Nat) (r:Sd×Int):Sp:=⟨fun w v=>∃own wr ao wo bo ac wc bc,v=.tuple #[BR r.1.addr (.slice ao (List.length own) ac) r.1.joint (.slice wo (List.length wr) wc) (.slice bo r.1.body.length bc) r.1.tag,.int .i64 r.2]∧SdF w r.1 own wr ao wo bo ac wc bc∧∀k,AEX (.slice ao (List.length own) ac) (.slice wo (List.length wr) wc) (.slice bo r.1.body.length bc) k→B≤k,
 fun _ _ _ hg ⟨own,wr,ao,wo,bo,ac,wc,bc,h1,h2,h3⟩=>⟨own,wr,ao,wo,bo,ac,wc,bc,h1,h2.kn hg,h3⟩⟩
def Sp.sl (B:Nat) (s:Sd):Sp:=⟨fun w v=>∃own wr ao wo bo ac wc bc,v=BR s.addr (.slice ao (List.length own) ac) s.joint (.slice wo (List.length wr) wc) (.slice bo s.body.length bc) s.tag∧SdF w s own wr ao wo bo ac wc bc∧∀k,AEX (.slice ao (List.length own) ac) (.slice wo (List.length wr) wc) (.slice bo s.body.length bc) k→B≤k,
 fun _ _ _ hg ⟨own,wr,ao,wo,bo,ac,wc,bc,h1,h2,h3⟩=>⟨own,wr,ao,wo,bo,ac,wc,bc,h1,h2.kn hg,h3⟩⟩
theorem AGw {B:Nat} {r:Sd×Int} (w:World) (u:Value) (h:(Sp.sr B r).on w u):∃vs v,u=.tuple vs∧vs[0]?=some v∧(Sp.sl B r.1).on w v:=by
 obtain⟨own,wr,ao,wo,bo,ac,wc,bc,h1,h2⟩:=h
 exact⟨_,_,h1,rfl,own,wr,ao,wo,bo,ac,wc,bc,rfl,h2⟩
theorem Ug {B:Nat} {r:Sd×Int} (w:World) (u:Value) (h:(Sp.sr B r).on w u):∃vs v,u=.tuple vs∧vs[1]?=some v∧(Sp.is (.int .i64 r.2)).on w v:=by
 obtain⟨own,wr,ao,wo,bo,ac,wc,bc,h1,h2⟩:=h
 exact⟨_,_,h1,rfl,rfl⟩
theorem SRes.sr {w w':World} {B:Nat} {r:Sd×Int} {e:Ending} (h:SRes w w' r e) (hB:B≤w.heap.size):∃v,e=.returned v∧w.grownBy w' none∧(Sp.sr B r).on w' v:=by
 obtain⟨own,wr,ao,wo,bo,ac,wc,bc,h1,h2,h3,h4,h5,h6,f1,f2,f3,f4,h7,h8,h9⟩:=h
 refine⟨_,h1,h9,own,wr,ao,wo,bo,ac,wc,bc,rfl,⟨h2,h3,h4,h5,h6,f4,h7,h8⟩,?_⟩
 rintro k (hk|hk|hk)
 · exact Nat.le_trans hB (f1 k hk)
 · exact Nat.le_trans hB (f2 k hk)
 · exact Nat.le_trans hB (f3 k hk)
theorem AEY {W:World} {B:Nat} {ks:List VK} {vo:Option Addr} {vc_:Nat} {sa po:List Nat} (hsa:Dg sa) (hpo:Dg po) {P:List VP} {ds:List DD} {v:Value} {joint ad:Int} {x:V} {r:Sd×Int} (hr:RdK W (.slice vo ks.length vc_) ks) (hP:ks.map VK.p=P) (ho:RdD W v ds) (hdl:ds.length≤1000) (hB:B≤W.heap.size) (hres:IL P (ds.map DD.x) joint ad x=r) :
  Calls Tryz.prog 20 #[A8 sa po (.slice vo ks.length vc_),v,.int .i64 joint,.int .i64 ad,B7 x] W fun e w'=>∃v,e=.returned v∧W.grownBy w' none∧(Sp.sr B r).on w' v:=by
 obtain⟨ao,cap,rfl⟩:=ho.shape
 subst hP hres
 exact(AB0 ks vo vc_ sa po hsa hpo ds ao cap joint ad x W hr ho hdl).mono fun e w' h=>h.sr hB
end Go.Proofs.YtbfjfnbcmojpiaaGreat
