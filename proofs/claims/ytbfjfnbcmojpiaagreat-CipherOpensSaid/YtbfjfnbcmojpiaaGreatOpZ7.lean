import Derived.Test.YtbfjfnbcmojpiaaGreatOpYN
import Derived.Test.YtbfjfnbcmojpiaaGreatOpYE
set_option linter.unusedSimpArgs false
set_option linter.unusedVariables false
set_option maxRecDepth 100000
set_option maxHeartbeats 4000000
namespace Go.Proofs.YtbfjfnbcmojpiaaGreat
open Go.RowKit Go.Shelf
theorem Zu (ks:List VK) (vo:Option Addr) (vc_:Nat) (sa po:List Nat) (hsa:Dg sa) (hpo:Dg po) (ad joint:Int) (od wd:List DD) (ao wo bo:Option Addr) (ac wc bc:Nat) (body tg:List Nat) (htg:Dg tg) (w:World) (hlong:70<ks.length∨20<od.length∨20<wd.length∨100<body.length) :
   Calls Tryz.prog 6 #[A8 sa po (.slice vo ks.length vc_),BR ad (.slice ao od.length ac) joint (.slice wo wd.length wc) (.slice bo body.length bc) tg] w fun e w'=>e=.returned (.bool true)∧w.grownBy w' none:=by
 refine BV Tryz.func6 rfl Tryz.ntmps6 rfl fun a0 sv0=>?_
 have HG:=World.grownBy.refl w none
 replace sv0:Sv 88 [] [(0,A8 sa po (.slice vo ks.length vc_)),(1,BR ad (.slice ao od.length ac) joint (.slice wo wd.length wc) (.slice bo body.length bc) tg)] a0:=sv0
 refine AKQ fun K1 k1=>?_
 refine AKP ?_
 refine Be sv0 r6 (CX hsa hpo (.slice vo ks.length vc_) rfl) fun a2 w2 CP DG g2 z2 AH sv2=>?_
 refine Be sv2 r6 (Df _ _ htg (.slice ao od.length ac) (.slice wo wd.length wc) (.slice bo body.length bc) rfl rfl rfl) fun a3 w3 BO Dw g3 z3 AG sv3=>?_
 replace AH:=AC g3 AH
 replace HG:=AA (AA HG g2) g3
 refine AR (v:=.bool false) sv3 r6 fun a4 sv4=>?_
 refine AE ?_
 refine k1 _ _ ?_
 refine AKQ fun K5 k5=>?_
 refine AKQ fun K6 k6=>?_
 rcases(show 70<ks.length∨(ks.length≤70∧20<od.length)∨(ks.length≤70∧od.length≤20∧20<wd.length)∨(ks.length≤70∧od.length≤20∧wd.length≤20∧100<body.length) by omega) with h1|⟨h1,h2⟩|⟨h1,h2,h3⟩|⟨h1,h2,h3,h4⟩
 · refine AKP ?_
   refine AJ sv4 22 [(10,pk CP 64),(11,.slice vo ks.length vc_),(12,.int .i64 ((ks.length:Nat))),(13,.bool true),(14,.bool true),(15,undef),(16,undef),(17,undef),(18,undef),(19,.bool true),(20,.bool true),(21,undef),(22,undef),(23,undef),(24,undef),(25,.bool true),(26,.bool true),(27,undef),(28,undef),(29,undef),(30,undef),(31,.bool true)]
    ⟨yf r6 (fun _=>by kernel_rfl),yp (i:=2) r6 (Dd (.slice vo ks.length vc_) rfl) AH rfl (by simp[AO,Ac,hsa.1,hpo.1]),Au (Tryz.underlying34) rfl rfl trivial (oy rfl rfl) (fun _=>rfl),Cp r6 (fun _=>Bl (decide_eq_true (by omega))),ym r5,AN r6,AN r6,AN r6,AN r6,A1 r7,ym r5,AN r6,AN r6,AN r6,AN r6,A1 r7,ym r5,AN r6,AN r6,AN r6,AN r6,A1 r7,AKW⟩ fun a7 w7 g7 sv7=>?_
   refine AE ?_
   refine k6 _ _ ?_
   refine Ar sv7 rfl rfl ?_
   refine AKQ fun K8 k8=>?_
   refine AKP ?_
   refine AJ sv7 1 [(32,.bool true)]
    ⟨Al [] Tryz.func13 (by kernel_rfl) rq4 trivial (A7 fun W g=>GO W),AKW⟩ fun a9 w9 g9 sv9=>?_
   refine AR (v:=.bool true) sv9 r6 fun a10 BF=>?_
   refine AE ?_
   refine k8 _ _ ?_
   replace AH:=AC g9 (AC g7 AH)
   replace AG:=AC g9 (AC g7 AG)
   replace HG:=AA (AA HG g7) g9
   refine AKT ?_
   repeat refine AK ?_
   refine Aw (fn:=Tryz.f6) BF (BC (p:=4) Tryz.results6 BF rfl rfl) ?_
   exact⟨rfl,HG⟩
 · refine AKP ?_
   refine AJ sv4 22 [(10,pk CP 64),(11,.slice vo ks.length vc_),(12,.int .i64 ((ks.length:Nat))),(13,.bool false),(14,.bool false),(15,pk BO 1),(16,.slice ao od.length ac),(17,.int .i64 ((od.length:Nat))),(18,.bool true),(19,.bool true),(20,.bool true),(21,undef),(22,undef),(23,undef),(24,undef),(25,.bool true),(26,.bool true),(27,undef),(28,undef),(29,undef),(30,undef),(31,.bool true)]
    ⟨yf r6 (fun _=>by kernel_rfl),yp (i:=2) r6 (Dd (.slice vo ks.length vc_) rfl) AH rfl (by simp[AO,Ac,hsa.1,hpo.1]),Au (Tryz.underlying34) rfl rfl trivial (oy rfl rfl) (fun _=>rfl),Cp r6 (fun _=>Bl (decide_eq_false (by omega))),ym r5,Aq rq9 (fun _=>by kernel_rfl),Ai rq9 (fun _ g=>AY (D4 (.slice ao od.length ac) rfl) (Ak (L:=[[.int .i64 ad],[.slice ao od.length ac],[.int .i64 joint],[.slice wo wd.length wc],[.slice bo body.length bc],bv tg]) (i:=1) (AF g AG (by simp)) rfl rfl)),Au (Tryz.underlying28) rfl rfl (gy rfl rfl rfl) (oy rfl rfl) (fun _=>rfl),Af rq9 (fun _=>Bl (decide_eq_true (by omega))),Aa rq9,ym r5,AN r6,AN r6,AN r6,AN r6,A1 r7,ym r5,AN r6,AN r6,AN r6,AN r6,A1 r7,AKW⟩ fun a11 w11 g11 Bv=>?_
   refine AE ?_
   refine k6 _ _ ?_
   refine Ar Bv rfl rfl ?_
   refine AKQ fun K12 k12=>?_
   refine AKP ?_
   refine AJ Bv 1 [(32,.bool true)]
    ⟨Al [] Tryz.func13 (by kernel_rfl) rq4 trivial (A7 fun W g=>GO W),AKW⟩ fun a13 w13 g13 Cg=>?_
   refine AR (v:=.bool true) Cg r6 fun a14 C6=>?_
   refine AE ?_
   refine k12 _ _ ?_
   replace AH:=AC g13 (AC g11 AH)
   replace AG:=AC g13 (AC g11 AG)
   replace HG:=AA (AA HG g11) g13
   refine AKT ?_
   repeat refine AK ?_
   refine Aw (fn:=Tryz.f6) C6 (BC (p:=4) Tryz.results6 C6 rfl rfl) ?_
   exact⟨rfl,HG⟩
 · refine AKP ?_
   refine AJ sv4 22 [(10,pk CP 64),(11,.slice vo ks.length vc_),(12,.int .i64 ((ks.length:Nat))),(13,.bool false),(14,.bool false),(15,pk BO 1),(16,.slice ao od.length ac),(17,.int .i64 ((od.length:Nat))),(18,.bool false),(19,.bool false),(20,.bool false),(21,pk BO 3),(22,.slice wo wd.length wc),(23,.int .i64 ((wd.length:Nat))),(24,.bool true),(25,.bool true),(26,.bool true),(27,undef),(28,undef),(29,undef),(30,undef),(31,.bool true)]
    ⟨yf r6 (fun _=>by kernel_rfl),yp (i:=2) r6 (Dd (.slice vo ks.length vc_) rfl) AH rfl (by simp[AO,Ac,hsa.1,hpo.1]),Au (Tryz.underlying34) rfl rfl trivial (oy rfl rfl) (fun _=>rfl),Cp r6 (fun _=>Bl (decide_eq_false (by omega))),ym r5,Aq rq9 (fun _=>by kernel_rfl),Ai rq9 (fun _ g=>AY (D4 (.slice ao od.length ac) rfl) (Ak (L:=[[.int .i64 ad],[.slice ao od.length ac],[.int .i64 joint],[.slice wo wd.length wc],[.slice bo body.length bc],bv tg]) (i:=1) (AF g AG (by simp)) rfl rfl)),Au (Tryz.underlying28) rfl rfl (gy rfl rfl rfl) (oy rfl rfl) (fun _=>rfl),Af rq9 (fun _=>Bl (decide_eq_false (by omega))),Aa rq9,ym r5,Aq rq9 (fun _=>by kernel_rfl),Ai rq9 (fun _ g=>AY (D4 (.slice wo wd.length wc) rfl) (Ak (L:=[[.int .i64 ad],[.slice ao od.length ac],[.int .i64 joint],[.slice wo wd.length wc],[.slice bo body.length bc],bv tg]) (i:=3) (AF g AG (by simp)) rfl rfl)),Au (Tryz.underlying28) rfl rfl (gy rfl rfl rfl) (oy rfl rfl) (fun _=>rfl),Af rq9 (fun _=>Bl (decide_eq_true (by omega))),Aa rq9,ym r5,AN r6,AN r6,AN r6,AN r6,A1 r7,AKW⟩ fun a15 w15 g15 EE=>?_
   refine AE ?_
   refine k6 _ _ ?_
   refine Ar EE rfl rfl ?_
   refine AKQ fun K16 k16=>?_
   refine AKP ?_
   refine AJ EE 1 [(32,.bool true)]
    ⟨Al [] Tryz.func13 (by kernel_rfl) rq4 trivial (A7 fun W g=>GO W),AKW⟩ fun a17 w17 g17 De=>?_
   refine AR (v:=.bool true) De r6 fun a18 CQ=>?_
   refine AE ?_
   refine k16 _ _ ?_
   replace AH:=AC g17 (AC g15 AH)
   replace AG:=AC g17 (AC g15 AG)
   replace HG:=AA (AA HG g15) g17
   refine AKT ?_
   repeat refine AK ?_
   refine Aw (fn:=Tryz.f6) CQ (BC (p:=4) Tryz.results6 CQ rfl rfl) ?_
   exact⟨rfl,HG⟩
 · refine AKP ?_
   refine AJ sv4 22 [(10,pk CP 64),(11,.slice vo ks.length vc_),(12,.int .i64 ((ks.length:Nat))),(13,.bool false),(14,.bool false),(15,pk BO 1),(16,.slice ao od.length ac),(17,.int .i64 ((od.length:Nat))),(18,.bool false),(19,.bool false),(20,.bool false),(21,pk BO 3),(22,.slice wo wd.length wc),(23,.int .i64 ((wd.length:Nat))),(24,.bool false),(25,.bool false),(26,.bool false),(27,pk BO 4),(28,.slice bo body.length bc),(29,.int .i64 ((body.length:Nat))),(30,.bool true),(31,.bool true)]
    ⟨yf r6 (fun _=>by kernel_rfl),yp (i:=2) r6 (Dd (.slice vo ks.length vc_) rfl) AH rfl (by simp[AO,Ac,hsa.1,hpo.1]),Au (Tryz.underlying34) rfl rfl trivial (oy rfl rfl) (fun _=>rfl),Cp r6 (fun _=>Bl (decide_eq_false (by omega))),ym r5,Aq rq9 (fun _=>by kernel_rfl),Ai rq9 (fun _ g=>AY (D4 (.slice ao od.length ac) rfl) (Ak (L:=[[.int .i64 ad],[.slice ao od.length ac],[.int .i64 joint],[.slice wo wd.length wc],[.slice bo body.length bc],bv tg]) (i:=1) (AF g AG (by simp)) rfl rfl)),Au (Tryz.underlying28) rfl rfl (gy rfl rfl rfl) (oy rfl rfl) (fun _=>rfl),Af rq9 (fun _=>Bl (decide_eq_false (by omega))),Aa rq9,ym r5,Aq rq9 (fun _=>by kernel_rfl),Ai rq9 (fun _ g=>AY (D4 (.slice wo wd.length wc) rfl) (Ak (L:=[[.int .i64 ad],[.slice ao od.length ac],[.int .i64 joint],[.slice wo wd.length wc],[.slice bo body.length bc],bv tg]) (i:=3) (AF g AG (by simp)) rfl rfl)),Au (Tryz.underlying28) rfl rfl (gy rfl rfl rfl) (oy rfl rfl) (fun _=>rfl),Af rq9 (fun _=>Bl (decide_eq_false (by omega))),Aa rq9,ym r5,Aq rq9 (fun _=>by kernel_rfl),Ai rq9 (fun _ g=>AY (Di (.slice bo body.length bc) rfl) (Ak (L:=[[.int .i64 ad],[.slice ao od.length ac],[.int .i64 joint],[.slice wo wd.length wc],[.slice bo body.length bc],bv tg]) (i:=4) (AF g AG (by simp)) rfl rfl)),Au (Tryz.underlying29) rfl rfl (gy rfl rfl rfl) (oy rfl rfl) (fun _=>rfl),Af rq9 (fun _=>Bl (decide_eq_true (by omega))),Aa rq9,AKW⟩ fun a19 w19 g19 Cs=>?_
   refine AE ?_
   refine k6 _ _ ?_
   refine Ar Cs rfl rfl ?_
   refine AKQ fun K20 k20=>?_
   refine AKP ?_
   refine AJ Cs 1 [(32,.bool true)]
    ⟨Al [] Tryz.func13 (by kernel_rfl) rq4 trivial (A7 fun W g=>GO W),AKW⟩ fun a21 w21 g21 CK=>?_
   refine AR (v:=.bool true) CK r6 fun a22 Bu=>?_
   refine AE ?_
   refine k20 _ _ ?_
   replace HG:=AA (AA HG g19) g21
   refine AKT ?_
   repeat refine AK ?_
   refine Aw (fn:=Tryz.f6) Bu (BC (p:=4) Tryz.results6 Bu rfl rfl) ?_
   exact⟨rfl,HG⟩
theorem ACF (ks:List VK) (vo:Option Addr) (vc_:Nat) (sa po:List Nat) (hsa:Dg sa) (hpo:Dg po) (ad joint:Int) (od wd:List DD) (ao wo bo:Option Addr) (ac wc bc:Nat) (body tg:List Nat) (htg:Dg tg) (w:World) (h70:ks.length≤70) (h20:od.length≤20) (h21:wd.length≤20) (h100:body.length≤100) (hr:SlB w 33 (.slice vo ks.length vc_) ks.length (ks.flatMap Ax)) (hbig:∃(j:Nat) (h:j<ks.length),30<(ks[j]'h).l.length) :
   Calls Tryz.prog 6 #[A8 sa po (.slice vo ks.length vc_),BR ad (.slice ao od.length ac) joint (.slice wo wd.length wc) (.slice bo body.length bc) tg] w fun e w'=>e=.returned (.bool true)∧w.grownBy w' none:=by
 refine BV Tryz.func6 rfl Tryz.ntmps6 rfl fun a0 sv0=>?_
 have HG:=World.grownBy.refl w none
 replace sv0:Sv 88 [] [(0,A8 sa po (.slice vo ks.length vc_)),(1,BR ad (.slice ao od.length ac) joint (.slice wo wd.length wc) (.slice bo body.length bc) tg)] a0:=sv0
 refine AKQ fun K1 k1=>?_
 refine AKP ?_
 refine Be sv0 r6 (CX hsa hpo (.slice vo ks.length vc_) rfl) fun a2 w2 CP DG g2 z2 AH sv2=>?_
 refine Be sv2 r6 (Df _ _ htg (.slice ao od.length ac) (.slice wo wd.length wc) (.slice bo body.length bc) rfl rfl rfl) fun a3 w3 BO Dw g3 z3 AG sv3=>?_
 replace AH:=AC g3 AH
 refine AR (v:=.bool false) sv3 r6 fun a4 sv4=>?_
 refine AE ?_
 refine k1 _ _ ?_
 refine AKQ fun K5 k5=>?_
 refine AKQ fun K6 k6=>?_
 refine AKP ?_
 refine AJ sv4 22 [(10,pk CP 64),(11,.slice vo ks.length vc_),(12,.int .i64 ((ks.length:Nat))),(13,.bool false),(14,.bool false),(15,pk BO 1),(16,.slice ao od.length ac),(17,.int .i64 ((od.length:Nat))),(18,.bool false),(19,.bool false),(20,.bool false),(21,pk BO 3),(22,.slice wo wd.length wc),(23,.int .i64 ((wd.length:Nat))),(24,.bool false),(25,.bool false),(26,.bool false),(27,pk BO 4),(28,.slice bo body.length bc),(29,.int .i64 ((body.length:Nat))),(30,.bool false),(31,.bool false)]
   ⟨yf r6 (fun _=>by kernel_rfl),yp (i:=2) r6 (Dd (.slice vo ks.length vc_) rfl) AH rfl (by simp[AO,Ac,hsa.1,hpo.1]),Au (Tryz.underlying34) rfl rfl trivial (oy rfl rfl) (fun _=>rfl),Cp r6 (fun _=>Bl (decide_eq_false (by omega))),ym r5,Aq rq9 (fun _=>by kernel_rfl),Ai rq9 (fun _ g=>AY (D4 (.slice ao od.length ac) rfl) (Ak (L:=[[.int .i64 ad],[.slice ao od.length ac],[.int .i64 joint],[.slice wo wd.length wc],[.slice bo body.length bc],bv tg]) (i:=1) (AF g AG (by simp)) rfl rfl)),Au (Tryz.underlying28) rfl rfl (gy rfl rfl rfl) (oy rfl rfl) (fun _=>rfl),Af rq9 (fun _=>Bl (decide_eq_false (by omega))),Aa rq9,ym r5,Aq rq9 (fun _=>by kernel_rfl),Ai rq9 (fun _ g=>AY (D4 (.slice wo wd.length wc) rfl) (Ak (L:=[[.int .i64 ad],[.slice ao od.length ac],[.int .i64 joint],[.slice wo wd.length wc],[.slice bo body.length bc],bv tg]) (i:=3) (AF g AG (by simp)) rfl rfl)),Au (Tryz.underlying28) rfl rfl (gy rfl rfl rfl) (oy rfl rfl) (fun _=>rfl),Af rq9 (fun _=>Bl (decide_eq_false (by omega))),Aa rq9,ym r5,Aq rq9 (fun _=>by kernel_rfl),Ai rq9 (fun _ g=>AY (Di (.slice bo body.length bc) rfl) (Ak (L:=[[.int .i64 ad],[.slice ao od.length ac],[.int .i64 joint],[.slice wo wd.length wc],[.slice bo body.length bc],bv tg]) (i:=4) (AF g AG (by simp)) rfl rfl)),Au (Tryz.underlying29) rfl rfl (gy rfl rfl rfl) (oy rfl rfl) (fun _=>rfl),Af rq9 (fun _=>Bl (decide_eq_false (by omega))),Aa rq9,AKW⟩ fun a7 w7 g7 sv7=>?_
 refine AE ?_
 refine k6 _ _ ?_
 refine A2 sv7 rfl rfl ?_
 refine AKU ?_
 refine k5 _ _ ?_
 refine AKQ fun K8 k8=>?_
 refine AKQ fun K9 k9=>?_
 refine AKP ?_
 refine AR (v:=.int .i64 0) sv7 r6 fun a10 BF=>?_
 refine AE ?_
 refine k9 _ _ ?_
 refine BI fun Q11 x11 y11 rt11 o11=>?_
 replace AH:=AC g7 AH
 replace AG:=AC g7 AG
 replace hr:=((hr.kn g2).kn g3).kn g7
 replace HG:=AA (AA (AA HG g2) g3) g7
 refine wp_loop (fun a w'=>∃(i:Nat),(i≤ks.length)∧(∀j (h:j<ks.length),j<i→¬30<(ks[j]'h).l.length)∧Sv 88 [] [(5,.int .i64 ((i:Int))),(10,pk CP 64),(11,.slice vo ks.length vc_),(12,.int .i64 ((ks.length:Nat))),(13,.bool false),(14,.bool false),(15,pk BO 1),(16,.slice ao od.length ac),(17,.int .i64 ((od.length:Nat))),(18,.bool false),(19,.bool false),(20,.bool false),(21,pk BO 3),(22,.slice wo wd.length wc),(23,.int .i64 ((wd.length:Nat))),(24,.bool false),(25,.bool false),(26,.bool false),(27,pk BO 4),(28,.slice bo body.length bc),(29,.int .i64 ((body.length:Nat))),(30,.bool false),(31,.bool false),(3,pt BO),(2,pt CP),(0,A8 sa po (.slice vo ks.length vc_)),(1,BR ad (.slice ao od.length ac) joint (.slice wo wd.length wc) (.slice bo body.length bc) tg)] a∧w.grownBy w' none∧w'.heap[CP]?=some (.cells ([bv sa,bv po,[.slice vo ks.length vc_]].flatten).toArray 36 (0,0))∧w'.heap[BO]?=some (.cells ([[.int .i64 ad],[.slice ao od.length ac],[.int .i64 joint],[.slice wo wd.length wc],[.slice bo body.length bc],bv tg].flatten).toArray 31 (0,0))∧SlB w' 33 (.slice vo ks.length vc_) ks.length (ks.flatMap Ax)) (fun a _=>(ks.length-intOf (a.tmps.getD 5 undef)).toNat) ⟨0,Nat.zero_le _,fun j h hj=>by omega,⟨BF.1,BF.2.1,BF.2.2.1,BF.2.2.2.1,BF.2.2.2.2.1,BF.2.2.2.2.2.1,BF.2.2.2.2.2.2.1,BF.2.2.2.2.2.2.2.1,(AL BF).1,(AL BF).2.1,(AL BF).2.2.1,(AL BF).2.2.2.1,(AL BF).2.2.2.2.1,(AL BF).2.2.2.2.2.1,(AL BF).2.2.2.2.2.2.1,(AL BF).2.2.2.2.2.2.2.1,(AL (AL BF)).1,(AL (AL BF)).2.1,(AL (AL BF)).2.2.1,(AL (AL BF)).2.2.2.1,(AL (AL BF)).2.2.2.2.1,(AL (AL BF)).2.2.2.2.2.1,(AL (AL BF)).2.2.2.2.2.2.1,(AL (AL BF)).2.2.2.2.2.2.2.1,(AL (AL (AL BF))).1,(AL (AL (AL BF))).2.2.1,(AL (AL (AL BF))).2.2.2.1,(AL (AL (AL BF))).2.2.2.2.1,(AL (AL (AL BF))).2.2.2.2.2.1,AKW⟩,HG,AH,AG,hr⟩ fun a12 w12 hI12=>?_
 clear AH
 clear AG
 clear hr
 clear HG
 obtain⟨i,hin,hno,Cq,HG,AH,AG,hr⟩:=hI12
 refine AKQ fun K13 k13=>?_
 refine AKQ fun K14 k14=>?_
 by_cases hi:i<ks.length
 · obtain⟨x,hx_x⟩:∃zx,ks[i]'hi=zx:=⟨_,rfl⟩
   refine AKP ?_
   refine AJ Cq 5 [(33,.int .i64 ((i:Int))),(34,pk CP 64),(35,.slice vo ks.length vc_),(36,.int .i64 ((ks.length:Nat))),(37,.bool true)]
     ⟨ym r5,yf r6 (fun _=>by kernel_rfl),yp (i:=2) r6 (Dd (.slice vo ks.length vc_) rfl) AH rfl (by simp[AO,Ac,hsa.1,hpo.1]),Au (Tryz.underlying34) rfl rfl trivial (oy rfl rfl) (fun _=>rfl),FG r7 (fun _=>BJ (decide_eq_true (by omega))),AKW⟩ fun a15 w15 g15 EE=>?_
   refine AE ?_
   refine k14 _ _ ?_
   refine Ar EE rfl rfl ?_
   refine AKU ?_
   refine k13 _ _ ?_
   refine AKQ fun K16 k16=>?_
   refine BI fun Q17 x17 y17 rt17 o17=>?_
   refine AKQ fun K18 k18=>?_
   replace AH:=AC g15 AH
   replace AG:=AC g15 AG
   replace hr:=hr.kn g15
   replace HG:=AA HG g15
   by_cases h30:30<(x.l.length:Int)
   · refine AKP ?_
     refine AJ EE 9 [(40,pk CP 64),(41,.slice vo ks.length vc_),(42,.int .i64 ((i:Int))),(43,pk ((bO vo)) (oO vo+i*33)),(44,pk ((bO vo)) (oO vo+i*33+32)),(45,pk ((bO vo)) (oO vo+i*33+32)),(46,VK.s x),(47,.int .i64 ((x.l.length:Nat))),(48,.bool true)]
      ⟨yf r6 (fun _=>by kernel_rfl),yp (i:=2) r6 (Dd (.slice vo ks.length vc_) rfl) AH rfl (by simp[AO,Ac,hsa.1,hpo.1]),ym r5,BH rq8 (fun w=>CU Tryz.underlying34 (by kernel_rfl) (hr.1) (by omega) (rfl) w),yf r6 (fun _=>by kernel_rfl),yf r6 (fun _=>by kernel_rfl),Bg r6 (fun _ g=>AY (AFB (VK.s x) rfl) (Kz (A:=bv x.o) (B:=[x.s]) (C:=[]) (ADP (hr.kn g).1 hi hx_x) (by rw[AO,x.ho.1]))),Au (Tryz.underlying54) rfl rfl trivial (oy rfl rfl) (fun _=>rfl),Cp r6 (fun _=>Bl (decide_eq_true h30)),AKW⟩ fun a19 w19 g19 Cs=>?_
     refine AE ?_
     refine k18 _ _ ?_
     refine Ar Cs rfl rfl ?_
     refine AKQ fun K20 k20=>?_
     refine AKP ?_
     refine AJ Cs 1 [(49,.bool true)]
      ⟨Al [] Tryz.func13 (by kernel_rfl) rq4 trivial (A7 fun W g=>GO W),AKW⟩ fun a21 w21 g21 CK=>?_
     refine AR (v:=.bool true) CK r6 fun a22 Bu=>?_
     refine AE ?_
     refine k20 _ _ ?_
     replace AH:=AC g21 (AC g19 AH)
     replace AG:=AC g21 (AC g19 AG)
     replace hr:=(hr.kn g19).kn g21
     replace HG:=AA (AA HG g19) g21
     refine AKT ?_
     repeat refine AK ?_
     refine rt17 _ _ ?_
     repeat refine AK ?_
     refine rt11 _ _ ?_
     repeat refine AK ?_
     refine Aw (fn:=Tryz.f6) Bu (BC (p:=4) Tryz.results6 Bu rfl rfl) ?_
     exact⟨rfl,HG⟩
   · refine AKP ?_
     refine AJ EE 9 [(40,pk CP 64),(41,.slice vo ks.length vc_),(42,.int .i64 ((i:Int))),(43,pk ((bO vo)) (oO vo+i*33)),(44,pk ((bO vo)) (oO vo+i*33+32)),(45,pk ((bO vo)) (oO vo+i*33+32)),(46,VK.s x),(47,.int .i64 ((x.l.length:Nat))),(48,.bool false)]
      ⟨yf r6 (fun _=>by kernel_rfl),yp (i:=2) r6 (Dd (.slice vo ks.length vc_) rfl) AH rfl (by simp[AO,Ac,hsa.1,hpo.1]),ym r5,BH rq8 (fun w=>CU Tryz.underlying34 (by kernel_rfl) (hr.1) (by omega) (rfl) w),yf r6 (fun _=>by kernel_rfl),yf r6 (fun _=>by kernel_rfl),Bg r6 (fun _ g=>AY (AFB (VK.s x) rfl) (Kz (A:=bv x.o) (B:=[x.s]) (C:=[]) (ADP (hr.kn g).1 hi hx_x) (by rw[AO,x.ho.1]))),Au (Tryz.underlying54) rfl rfl trivial (oy rfl rfl) (fun _=>rfl),Cp r6 (fun _=>Bl (decide_eq_false h30)),AKW⟩ fun a23 w23 g23 Cl=>?_
     refine AE ?_
     refine k18 _ _ ?_
     refine A2 Cl rfl rfl ?_
     refine AKU ?_
     refine y17 _ _ ?_
     refine k16 _ _ ?_
     refine AKP ?_
     refine AJ Cl 2 [(38,.int .i64 ((i:Int))),(39,.int .i64 (((i+1:Nat):Int)))]
      ⟨ym r5,Cp r6 (fun _=>DL (by rw[Bc (by omega) (by omega)];omega)),AKW⟩ fun a24 w24 g24 Du=>?_
     have AGO:=AA g23 g24
     refine AR (v:=.int .i64 (((i+1:Nat):Int))) Du r6 fun a25 Bz=>?_
     refine AE ?_
     replace AH:=AC AGO AH
     replace AG:=AC AGO AG
     replace hr:=hr.kn AGO
     replace HG:=AA HG AGO
     exact⟨⟨i+1,by omega,AEj hno hx_x h30,⟨Bz.1,Bz.2.1,Bz.2.2.1,(AL (AL Bz)).2.2.2.1,(AL (AL Bz)).2.2.2.2.1,(AL (AL Bz)).2.2.2.2.2.1,(AL (AL Bz)).2.2.2.2.2.2.1,(AL (AL Bz)).2.2.2.2.2.2.2.1,(AL (AL (AL Bz))).1,(AL (AL (AL Bz))).2.1,(AL (AL (AL Bz))).2.2.1,(AL (AL (AL Bz))).2.2.2.1,(AL (AL (AL Bz))).2.2.2.2.1,(AL (AL (AL Bz))).2.2.2.2.2.1,(AL (AL (AL Bz))).2.2.2.2.2.2.1,(AL (AL (AL Bz))).2.2.2.2.2.2.2.1,(AL (AL (AL (AL Bz)))).1,(AL (AL (AL (AL Bz)))).2.1,(AL (AL (AL (AL Bz)))).2.2.1,(AL (AL (AL (AL Bz)))).2.2.2.1,(AL (AL (AL (AL Bz)))).2.2.2.2.1,(AL (AL (AL (AL Bz)))).2.2.2.2.2.1,(AL (AL (AL (AL Bz)))).2.2.2.2.2.2.1,(AL (AL (AL (AL Bz)))).2.2.2.2.2.2.2.1,(AL (AL (AL (AL (AL Bz))))).1,(AL (AL (AL (AL (AL Bz))))).2.1,(AL (AL (AL (AL (AL Bz))))).2.2.1,(AL (AL (AL (AL (AL Bz))))).2.2.2.1,(AL (AL (AL (AL (AL Bz))))).2.2.2.2.1,AKW⟩,HG,AH,AG,hr⟩,by rw[show _=_ from Bz.2.2.1,show _=_ from Cq.2.2.1];simp[intOf];omega⟩
 · obtain⟨j,h,hb⟩:=hbig
   exact absurd hb (hno j h (by omega))
theorem Zv (ks:List VK) (vo:Option Addr) (vc_:Nat) (sa po:List Nat) (hsa:Dg sa) (hpo:Dg po) (ad joint:Int) (od wd:List DD) (ao wo bo:Option Addr) (ac wc bc:Nat) (body tg:List Nat) (htg:Dg tg) (hby:By body) (w:World) (h70:ks.length≤70) (h20:od.length≤20) (h21:wd.length≤20) (h100:body.length≤100) (hsml:∀j (h:j<ks.length),¬30<(ks[j]'h).l.length) (hr:RdK w (.slice vo ks.length vc_) ks) (ho:RdD w (.slice ao od.length ac) od) (hw:RdD w (.slice wo wd.length wc) wd) (hb:SlB w 1 (.slice bo body.length bc) body.length (bv body)) :
   Calls Tryz.prog 6 #[A8 sa po (.slice vo ks.length vc_),BR ad (.slice ao od.length ac) joint (.slice wo wd.length wc) (.slice bo body.length bc) tg] w fun e w'=>e=.returned (.bool true)∧w.grownBy w' none:=by
 obtain⟨q,hq⟩:∃q,Ei (ks.map VK.p) ⟨ad,od.map DD.x,joint,wd.map DD.x,body,tg⟩=q:=⟨_,rfl⟩
 have hqo:q.1.ok:=hq▸AGM _ _
 obtain⟨rd,hrd⟩:∃b,decide (q.2=0)=b:=⟨_,rfl⟩
 obtain⟨vs,hvs⟩:∃b,EX ⟨ad,od.map DD.x,joint,wd.map DD.x,body,tg⟩=b:=⟨_,rfl⟩
 refine BV Tryz.func6 rfl Tryz.ntmps6 rfl fun a0 sv0=>?_
 have HG:=World.grownBy.refl w none
 replace sv0:Sv 88 [] [(0,A8 sa po (.slice vo ks.length vc_)),(1,BR ad (.slice ao od.length ac) joint (.slice wo wd.length wc) (.slice bo body.length bc) tg)] a0:=sv0
 refine AKQ fun K1 k1=>?_
 refine AKP ?_
 refine Be sv0 r6 (CX hsa hpo (.slice vo ks.length vc_) rfl) fun a2 w2 CP DG g2 z2 AH sv2=>?_
 refine Be sv2 r6 (Df _ _ htg (.slice ao od.length ac) (.slice wo wd.length wc) (.slice bo body.length bc) rfl rfl rfl) fun a3 w3 BO Dw g3 z3 AG sv3=>?_
 replace AH:=AC g3 AH
 refine AR (v:=.bool false) sv3 r6 fun a4 sv4=>?_
 refine AE ?_
 refine k1 _ _ ?_
 refine AKQ fun K5 k5=>?_
 refine AKQ fun K6 k6=>?_
 refine AKP ?_
 refine AJ sv4 22 [(10,pk CP 64),(11,.slice vo ks.length vc_),(12,.int .i64 ((ks.length:Nat))),(13,.bool false),(14,.bool false),(15,pk BO 1),(16,.slice ao od.length ac),(17,.int .i64 ((od.length:Nat))),(18,.bool false),(19,.bool false),(20,.bool false),(21,pk BO 3),(22,.slice wo wd.length wc),(23,.int .i64 ((wd.length:Nat))),(24,.bool false),(25,.bool false),(26,.bool false),(27,pk BO 4),(28,.slice bo body.length bc),(29,.int .i64 ((body.length:Nat))),(30,.bool false),(31,.bool false)]
   ⟨yf r6 (fun _=>by kernel_rfl),yp (i:=2) r6 (Dd (.slice vo ks.length vc_) rfl) AH rfl (by simp[AO,Ac,hsa.1,hpo.1]),Au (Tryz.underlying34) rfl rfl trivial (oy rfl rfl) (fun _=>rfl),Cp r6 (fun _=>Bl (decide_eq_false (by omega))),ym r5,Aq rq9 (fun _=>by kernel_rfl),Ai rq9 (fun _ g=>AY (D4 (.slice ao od.length ac) rfl) (Ak (L:=[[.int .i64 ad],[.slice ao od.length ac],[.int .i64 joint],[.slice wo wd.length wc],[.slice bo body.length bc],bv tg]) (i:=1) (AF g AG (by simp)) rfl rfl)),Au (Tryz.underlying28) rfl rfl (gy rfl rfl rfl) (oy rfl rfl) (fun _=>rfl),Af rq9 (fun _=>Bl (decide_eq_false (by omega))),Aa rq9,ym r5,Aq rq9 (fun _=>by kernel_rfl),Ai rq9 (fun _ g=>AY (D4 (.slice wo wd.length wc) rfl) (Ak (L:=[[.int .i64 ad],[.slice ao od.length ac],[.int .i64 joint],[.slice wo wd.length wc],[.slice bo body.length bc],bv tg]) (i:=3) (AF g AG (by simp)) rfl rfl)),Au (Tryz.underlying28) rfl rfl (gy rfl rfl rfl) (oy rfl rfl) (fun _=>rfl),Af rq9 (fun _=>Bl (decide_eq_false (by omega))),Aa rq9,ym r5,Aq rq9 (fun _=>by kernel_rfl),Ai rq9 (fun _ g=>AY (Di (.slice bo body.length bc) rfl) (Ak (L:=[[.int .i64 ad],[.slice ao od.length ac],[.int .i64 joint],[.slice wo wd.length wc],[.slice bo body.length bc],bv tg]) (i:=4) (AF g AG (by simp)) rfl rfl)),Au (Tryz.underlying29) rfl rfl (gy rfl rfl rfl) (oy rfl rfl) (fun _=>rfl),Af rq9 (fun _=>Bl (decide_eq_false (by omega))),Aa rq9,AKW⟩ fun a7 w7 g7 sv7=>?_
 refine AE ?_
 refine k6 _ _ ?_
 refine A2 sv7 rfl rfl ?_
 refine AKU ?_
 refine k5 _ _ ?_
 refine AKQ fun K8 k8=>?_
 refine AKQ fun K9 k9=>?_
 refine AKP ?_
 refine AR (v:=.int .i64 0) sv7 r6 fun a10 BF=>?_
 refine AE ?_
 refine k9 _ _ ?_
 refine BI fun Q11 x11 y11 rt11 o11=>?_
 replace AH:=AC g7 AH
 replace AG:=AC g7 AG
 replace hr:=((hr.kn g2).kn g3).kn g7
 replace ho:=((ho.kn g2).kn g3).kn g7
 replace hw:=((hw.kn g2).kn g3).kn g7
 replace hb:=((hb.kn g2).kn g3).kn g7
 replace HG:=AA (AA (AA HG g2) g3) g7
 refine wp_loop (fun a w'=>∃(i:Nat),(i≤ks.length)∧Sv 88 [] [(5,.int .i64 ((i:Int))),(10,pk CP 64),(11,.slice vo ks.length vc_),(12,.int .i64 ((ks.length:Nat))),(13,.bool false),(14,.bool false),(15,pk BO 1),(16,.slice ao od.length ac),(17,.int .i64 ((od.length:Nat))),(18,.bool false),(19,.bool false),(20,.bool false),(21,pk BO 3),(22,.slice wo wd.length wc),(23,.int .i64 ((wd.length:Nat))),(24,.bool false),(25,.bool false),(26,.bool false),(27,pk BO 4),(28,.slice bo body.length bc),(29,.int .i64 ((body.length:Nat))),(30,.bool false),(31,.bool false),(3,pt BO),(2,pt CP),(0,A8 sa po (.slice vo ks.length vc_)),(1,BR ad (.slice ao od.length ac) joint (.slice wo wd.length wc) (.slice bo body.length bc) tg)] a∧w.grownBy w' none∧w'.heap[CP]?=some (.cells ([bv sa,bv po,[.slice vo ks.length vc_]].flatten).toArray 36 (0,0))∧w'.heap[BO]?=some (.cells ([[.int .i64 ad],[.slice ao od.length ac],[.int .i64 joint],[.slice wo wd.length wc],[.slice bo body.length bc],bv tg].flatten).toArray 31 (0,0))∧RdK w' (.slice vo ks.length vc_) ks∧RdD w' (.slice ao od.length ac) od∧RdD w' (.slice wo wd.length wc) wd∧SlB w' 1 (.slice bo body.length bc) body.length (bv body)) (fun a _=>(ks.length-intOf (a.tmps.getD 5 undef)).toNat) ⟨0,Nat.zero_le _,⟨BF.1,BF.2.1,BF.2.2.1,BF.2.2.2.1,BF.2.2.2.2.1,BF.2.2.2.2.2.1,BF.2.2.2.2.2.2.1,BF.2.2.2.2.2.2.2.1,(AL BF).1,(AL BF).2.1,(AL BF).2.2.1,(AL BF).2.2.2.1,(AL BF).2.2.2.2.1,(AL BF).2.2.2.2.2.1,(AL BF).2.2.2.2.2.2.1,(AL BF).2.2.2.2.2.2.2.1,(AL (AL BF)).1,(AL (AL BF)).2.1,(AL (AL BF)).2.2.1,(AL (AL BF)).2.2.2.1,(AL (AL BF)).2.2.2.2.1,(AL (AL BF)).2.2.2.2.2.1,(AL (AL BF)).2.2.2.2.2.2.1,(AL (AL BF)).2.2.2.2.2.2.2.1,(AL (AL (AL BF))).1,(AL (AL (AL BF))).2.2.1,(AL (AL (AL BF))).2.2.2.1,(AL (AL (AL BF))).2.2.2.2.1,(AL (AL (AL BF))).2.2.2.2.2.1,AKW⟩,HG,AH,AG,hr,ho,hw,hb⟩ fun a12 w12 hI12=>?_
 clear AH
 clear AG
 clear hr
 clear ho
 clear hw
 clear hb
 clear HG
 obtain⟨i,hin,Cq,HG,AH,AG,hr,ho,hw,hb⟩:=hI12
 refine AKQ fun K13 k13=>?_
 refine AKQ fun K14 k14=>?_
 by_cases hi:i<ks.length
 · obtain⟨x,hx_x⟩:∃zx,ks[i]'hi=zx:=⟨_,rfl⟩
   have h30:¬30<(x.l.length:Int):=by have:=hsml i hi;rw[hx_x] at this;omega
   refine AKP ?_
   refine AJ Cq 5 [(33,.int .i64 ((i:Int))),(34,pk CP 64),(35,.slice vo ks.length vc_),(36,.int .i64 ((ks.length:Nat))),(37,.bool true)]
    ⟨ym r5,yf r6 (fun _=>by kernel_rfl),yp (i:=2) r6 (Dd (.slice vo ks.length vc_) rfl) AH rfl (by simp[AO,Ac,hsa.1,hpo.1]),Au (Tryz.underlying34) rfl rfl trivial (oy rfl rfl) (fun _=>rfl),FG r7 (fun _=>BJ (decide_eq_true (by omega))),AKW⟩ fun a15 w15 g15 EE=>?_
   refine AE ?_
   refine k14 _ _ ?_
   refine Ar EE rfl rfl ?_
   refine AKU ?_
   refine k13 _ _ ?_
   refine AKQ fun K16 k16=>?_
   refine BI fun Q17 x17 y17 rt17 o17=>?_
   refine AKQ fun K18 k18=>?_
   refine AKP ?_
   replace AH:=AC g15 AH
   replace hr:=hr.kn g15
   refine AJ EE 9 [(40,pk CP 64),(41,.slice vo ks.length vc_),(42,.int .i64 ((i:Int))),(43,pk ((bO vo)) (oO vo+i*33)),(44,pk ((bO vo)) (oO vo+i*33+32)),(45,pk ((bO vo)) (oO vo+i*33+32)),(46,VK.s x),(47,.int .i64 ((x.l.length:Nat))),(48,.bool false)]
    ⟨yf r6 (fun _=>by kernel_rfl),yp (i:=2) r6 (Dd (.slice vo ks.length vc_) rfl) AH rfl (by simp[AO,Ac,hsa.1,hpo.1]),ym r5,BH rq8 (fun w=>CU Tryz.underlying34 (by kernel_rfl) (hr.1.1) (by omega) (rfl) w),yf r6 (fun _=>by kernel_rfl),yf r6 (fun _=>by kernel_rfl),Bg r6 (fun _ g=>AY (AFB (VK.s x) rfl) (RdK.treeX (hr.kn g) rfl hi hx_x)),Au (Tryz.underlying54) rfl rfl trivial (oy rfl rfl) (fun _=>rfl),Cp r6 (fun _=>Bl (decide_eq_false h30)),AKW⟩ fun a19 w19 g19 Cs=>?_
   refine AE ?_
   refine k18 _ _ ?_
   refine A2 Cs rfl rfl ?_
   refine AKU ?_
   refine y17 _ _ ?_
   refine k16 _ _ ?_
   refine AKP ?_
   refine AJ Cs 2 [(38,.int .i64 ((i:Int))),(39,.int .i64 (((i+1:Nat):Int)))]
    ⟨ym r5,Cp r6 (fun _=>DL (by rw[Bc (by omega) (by omega)];omega)),AKW⟩ fun a20 w20 g20 DH=>?_
   have PG:=AA g19 g20
   refine AR (v:=.int .i64 (((i+1:Nat):Int))) DH r6 fun a21 CK=>?_
   refine AE ?_
   replace AH:=AC PG AH
   replace AG:=AC PG (AC g15 AG)
   replace hr:=hr.kn PG
   replace ho:=(ho.kn g15).kn PG
   replace hw:=(hw.kn g15).kn PG
   replace hb:=(hb.kn g15).kn PG
   replace HG:=AA (AA HG g15) PG
   exact⟨⟨i+1,by omega,⟨CK.1,CK.2.1,CK.2.2.1,(AL (AL CK)).2.2.2.1,(AL (AL CK)).2.2.2.2.1,(AL (AL CK)).2.2.2.2.2.1,(AL (AL CK)).2.2.2.2.2.2.1,(AL (AL CK)).2.2.2.2.2.2.2.1,(AL (AL (AL CK))).1,(AL (AL (AL CK))).2.1,(AL (AL (AL CK))).2.2.1,(AL (AL (AL CK))).2.2.2.1,(AL (AL (AL CK))).2.2.2.2.1,(AL (AL (AL CK))).2.2.2.2.2.1,(AL (AL (AL CK))).2.2.2.2.2.2.1,(AL (AL (AL CK))).2.2.2.2.2.2.2.1,(AL (AL (AL (AL CK)))).1,(AL (AL (AL (AL CK)))).2.1,(AL (AL (AL (AL CK)))).2.2.1,(AL (AL (AL (AL CK)))).2.2.2.1,(AL (AL (AL (AL CK)))).2.2.2.2.1,(AL (AL (AL (AL CK)))).2.2.2.2.2.1,(AL (AL (AL (AL CK)))).2.2.2.2.2.2.1,(AL (AL (AL (AL CK)))).2.2.2.2.2.2.2.1,(AL (AL (AL (AL (AL CK))))).1,(AL (AL (AL (AL (AL CK))))).2.1,(AL (AL (AL (AL (AL CK))))).2.2.1,(AL (AL (AL (AL (AL CK))))).2.2.2.1,(AL (AL (AL (AL (AL CK))))).2.2.2.2.1,AKW⟩,HG,AH,AG,hr,ho,hw,hb⟩,by rw[show _=_ from CK.2.2.1,show _=_ from Cq.2.2.1];simp[intOf];omega⟩
 · refine AKP ?_
   refine AJ Cq 5 [(33,.int .i64 ((i:Int))),(34,pk CP 64),(35,.slice vo ks.length vc_),(36,.int .i64 ((ks.length:Nat))),(37,.bool false)]
    ⟨ym r5,yf r6 (fun _=>by kernel_rfl),yp (i:=2) r6 (Dd (.slice vo ks.length vc_) rfl) AH rfl (by simp[AO,Ac,hsa.1,hpo.1]),Au (Tryz.underlying34) rfl rfl trivial (oy rfl rfl) (fun _=>rfl),FG r7 (fun _=>BJ (decide_eq_false (by omega))),AKW⟩ fun a22 w22 g22 Bu=>?_
   refine AE ?_
   refine k14 _ _ ?_
   refine A2 Bu rfl rfl ?_
   refine wp_exit ?_
   repeat refine CT ?_
   refine x11 _ _ ?_
   refine k8 _ _ ?_
   refine AKQ fun K23 k23=>?_
   refine AKP ?_
   replace AH:=AC g22 AH
   replace AG:=AC g22 AG
   replace hr:=hr.kn g22
   replace ho:=ho.kn g22
   replace hw:=hw.kn g22
   replace hb:=hb.kn g22
   refine AJ Bu 6 [(51,A8 sa po (.slice vo ks.length vc_)),(52,BR ad (.slice ao od.length ac) joint (.slice wo wd.length wc) (.slice bo body.length bc) tg),(53,.tuple #[B7 q.1,.int .i64 q.2]),(50,.tuple #[B7 q.1,.int .i64 q.2]),(54,B7 q.1),(55,.int .i64 q.2)]
    ⟨yl r6 (CX hsa hpo (.slice vo ks.length vc_) rfl) AH,yl r6 (Df _ _ htg (.slice ao od.length ac) (.slice wo wd.length wc) (.slice bo body.length bc) rfl rfl rfl) AG,Al [A8 sa po (.slice vo ks.length vc_),BR ad (.slice ao od.length ac) joint (.slice wo wd.length wc) (.slice bo body.length bc) tg] Tryz.func22 (by kernel_rfl) rq4 ⟨(oy rfl rfl),(oy rfl rfl),AKW⟩ (A7 fun W g=>Zm hsa hpo htg hby (hr.kn g) (ho.kn g) (hw.kn g) (hb.kn g) hq),ym r5,BZ rq4 (fun _ _ h=>⟨_,_,h,rfl,rfl⟩),BZ rq4 (fun _ _ h=>⟨_,_,h,rfl,rfl⟩),AKW⟩ fun a24 w24 g24 Du=>?_
   replace AH:=AC g24 AH
   replace AG:=AC g24 AG
   replace hr:=hr.kn g24
   replace ho:=ho.kn g24
   replace hw:=hw.kn g24
   replace hb:=hb.kn g24
   replace HG:=AA (AA HG g22) g24
   refine BB (T:=25) (Z:=[.int .i64 0,.int .i64 0,.string ⟨#[]⟩]) Du rfl rfl rfl (fun a w=>by kernel_rfl) fun a25 w25 AKA IW g25 z25 Nc Bz=>?_
   have Rm:=As AH IW
   have Rn:=As AG IW
   have AEk:=Bq HG IW
   have Xv:=Ay (hr.lt) IW
   have Xw:=Ay (ho.lt) IW
   have Xx:=Ay (hw.lt) IW
   have Xy:=Ay (hb.lt) IW
   refine Av Bz r7 (Ck q.1) Nc rfl fun w26 g26 h26=>?_
   replace AH:=AZ g26 (AC g25 AH) (Ne.symm Rm)
   replace AG:=AZ g26 (AC g25 AG) (Ne.symm Rn)
   replace hr:=(hr.kn g25).offR g26 (AP Xv)
   replace ho:=(ho.kn g25).offR g26 (AP Xw)
   replace hw:=(hw.kn g25).offR g26 (AP Xx)
   replace hb:=(hb.kn g25).offR g26 (AP Xy)
   refine AR (v:=.int .i64 q.2) Bz r6 fun a27 F6=>?_
   have GI:Sv _ _ [_,_,_,_,_,_,_,_,_,_,_,_,_,_,_,_,_,_,_,_,_,_,_,_,_,_,_,_,_,_,_,_,_,_] _:=F6.dl [51,52,53,50,54,55]
   refine AE ?_
   refine k23 _ _ ?_
   refine AKQ fun K29 k29=>?_
   refine AKP ?_
   refine AJ GI 6 [(57,A8 sa po (.slice vo ks.length vc_)),(58,BR ad (.slice ao od.length ac) joint (.slice wo wd.length wc) (.slice bo body.length bc) tg),(59,.tuple #[B7 q.1,.int .i64 q.2]),(56,.tuple #[B7 q.1,.int .i64 q.2]),(60,B7 q.1),(61,.int .i64 q.2)]
    ⟨yl r6 (CX hsa hpo (.slice vo ks.length vc_) rfl) AH,yl r6 (Df _ _ htg (.slice ao od.length ac) (.slice wo wd.length wc) (.slice bo body.length bc) rfl rfl rfl) AG,Al [A8 sa po (.slice vo ks.length vc_),BR ad (.slice ao od.length ac) joint (.slice wo wd.length wc) (.slice bo body.length bc) tg] Tryz.func23 (by kernel_rfl) rq4 ⟨(oy rfl rfl),(oy rfl rfl),AKW⟩ (A7 fun W g=>AGN hsa hpo htg hby (hr.kn g) (ho.kn g) (hw.kn g) (hb.kn g) hq),ym r5,BZ rq4 (fun _ _ h=>⟨_,_,h,rfl,rfl⟩),BZ rq4 (fun _ _ h=>⟨_,_,h,rfl,rfl⟩),AKW⟩ fun a30 w30 g30 Dl=>?_
   replace AH:=AC g30 AH
   replace AG:=AC g30 AG
   replace Nc:=AC g30 h26
   replace hr:=hr.kn g30
   replace ho:=ho.kn g30
   replace hw:=hw.kn g30
   replace hb:=hb.kn g30
   replace HG:=AA (AD (AA HG g25) g26 AEk) g30
   refine BB (T:=25) (Z:=[.int .i64 0,.int .i64 0,.string ⟨#[]⟩]) Dl rfl rfl rfl (fun a w=>by kernel_rfl) fun a31 w31 AKB Gx g31 z31 Zw Fp=>?_
   have Ro:=As AH Gx
   have Rp:=As AG Gx
   have QI:=As Nc Gx
   have AEl:=Bq HG Gx
   have Xz:=Ay (hr.lt) Gx
   have X5:=Ay (ho.lt) Gx
   have X7:=Ay (hw.lt) Gx
   have X9:=Ay (hb.lt) Gx
   refine Av Fp r7 (Ck q.1) Zw rfl fun w32 g32 h32=>?_
   replace AH:=AZ g32 (AC g31 AH) (Ne.symm Ro)
   replace AG:=AZ g32 (AC g31 AG) (Ne.symm Rp)
   replace Nc:=AZ g32 (AC g31 Nc) (Ne.symm QI)
   replace hr:=(hr.kn g31).offR g32 (AP Xz)
   replace ho:=(ho.kn g31).offR g32 (AP X5)
   replace hw:=(hw.kn g31).offR g32 (AP X7)
   replace hb:=(hb.kn g31).offR g32 (AP X9)
   replace Zw:=h32
   refine AR (v:=.int .i64 q.2) Fp r6 fun a33 Eu=>?_
   have FI:Sv _ _ [_,_,_,_,_,_,_,_,_,_,_,_,_,_,_,_,_,_,_,_,_,_,_,_,_,_,_,_,_,_,_,_,_,_,_,_] _:=Eu.dl [57,58,59,56,60,61]
   refine AE ?_
   refine k29 _ _ ?_
   refine AKQ fun K35 k35=>?_
   refine DU FI [(62,B7 q.1),(63,B7 q.1),(64,.bool true),(65,.bool true),(66,.int .i64 q.2),(67,.int .i64 q.2),(68,.bool true),(69,.bool true),(70,.bool true),(71,A8 sa po (.slice vo ks.length vc_)),(72,BR ad (.slice ao od.length ac) joint (.slice wo wd.length wc) (.slice bo body.length bc) tg),(73,.bool rd),(74,.int .i64 q.2),(75,.bool rd),(76,.bool true),(77,.bool true),(78,.bool true),(79,BR ad (.slice ao od.length ac) joint (.slice wo wd.length wc) (.slice bo body.length bc) tg),(80,.bool vs),(81,BR ad (.slice ao od.length ac) joint (.slice wo wd.length wc) (.slice bo body.length bc) tg),(82,.bool vs),(83,.bool true),(84,.bool true),(85,.bool true),(86,.bool true),(87,.bool true),(4,.bool true)]
    ⟨yl r6 (Ck q.1) Nc,yl r6 (Ck q.1) Zw,FG r7 (fun _=>AAu hqo),ym r5,Ad rq8,Ad rq8,JY rfl rfl (gy rfl rfl rfl) (oy rfl rfl) (oy rfl rfl) (fun _=>BU (by simp)) (fun _=>rfl),Aa rq9,ym r5,Ai rq9 (fun _ g=>AY (CX hsa hpo (.slice vo ks.length vc_) rfl) (Aj (AF g AH (by simp)))),Ai rq9 (fun _ g=>AY (Df _ _ htg (.slice ao od.length ac) (.slice wo wd.length wc) (.slice bo body.length bc) rfl rfl rfl) (Aj (AF g AG (by simp)))),B8 [A8 sa po (.slice vo ks.length vc_),BR ad (.slice ao od.length ac) joint (.slice wo wd.length wc) (.slice bo body.length bc) tg] Tryz.func26 (by kernel_rfl) r7 ⟨(oy rfl rfl),(oy rfl rfl),AKW⟩ (A7 fun W g=>Zt hsa hpo htg hby (hr.kn g) (ho.kn g) (hw.kn g) (hb.kn g) hq hrd),Ad rq8,Af rq9 (fun _=>BU (by rw[←hrd];rfl)),JY rfl rfl (gy rfl rfl rfl) (oy rfl rfl) (oy rfl rfl) (fun _=>AAU (by simp)) (fun _=>rfl),Aa rq9,ym r5,Ai rq9 (fun _ g=>AY (Df _ _ htg (.slice ao od.length ac) (.slice wo wd.length wc) (.slice bo body.length bc) rfl rfl rfl) (Aj (AF g AG (by simp)))),B8 [BR ad (.slice ao od.length ac) joint (.slice wo wd.length wc) (.slice bo body.length bc) tg] Tryz.func27 (by kernel_rfl) r7 ⟨(oy rfl rfl),AKW⟩ (A7 fun W g=>M2 htg (ho.kn g) (hw.kn g) (hb.kn g) rfl hvs),Ai rq9 (fun _ g=>AY (Df _ _ htg (.slice ao od.length ac) (.slice wo wd.length wc) (.slice bo body.length bc) rfl rfl rfl) (Aj (AF g AG (by simp)))),B8 [BR ad (.slice ao od.length ac) joint (.slice wo wd.length wc) (.slice bo body.length bc) tg] Tryz.func28 (by kernel_rfl) r7 ⟨(oy rfl rfl),AKW⟩ (A7 fun W g=>P4 htg (ho.kn g) (hw.kn g) (hb.kn g) rfl hvs),JY rfl rfl (gy rfl rfl rfl) (oy rfl rfl) (oy rfl rfl) (fun _=>AAU (by simp)) (fun _=>rfl),Aa rq9,ym r5,B8 [] Tryz.func13 (by kernel_rfl) r7 trivial (A7 fun W g=>GO W),Aa rq9,GV 87 4 (.inr rfl) rfl rfl trivial (fun _ _ h=>h),AKW⟩ fun a36 w36 g36 Ep=>?_
   refine k35 _ _ ?_
   replace HG:=AA (AD (AA HG g31) g32 AEl) g36
   refine AKT ?_
   repeat refine AK ?_
   refine Aw (fn:=Tryz.f6) Ep (BC (p:=4) Tryz.results6 Ep rfl rfl) ?_
   exact⟨rfl,HG⟩
theorem AAx (sa po:List Nat) (hsa:Dg sa) (hpo:Dg po) (s:Value) (ks:List VK) (ad joint:Int) (od wd:List DD) (ao wo bo:Option Addr) (ac wc bc:Nat) (body tg:List Nat) (htg:Dg tg) (hby:By body) (w:World) (h1:SlB w 33 s ks.length (ks.flatMap Ax)) (h2:∀x∈ks,KOk w x)
   (ho:RdD w (.slice ao od.length ac) od) (hw:RdD w (.slice wo wd.length wc) wd) (hb:SlB w 1 (.slice bo body.length bc) body.length (bv body)) :
   Calls Tryz.prog 6 #[A8 sa po s,BR ad (.slice ao od.length ac) joint (.slice wo wd.length wc) (.slice bo body.length bc) tg] w fun e w'=>e=.returned (.bool true)∧w.grownBy w' none:=by
 obtain⟨vo,vc_,rfl,_⟩:=h1.1.shape
 by_cases hl:70<ks.length∨20<od.length∨20<wd.length∨100<body.length
 · exact Zu ks vo vc_ sa po hsa hpo ad joint od wd ao wo bo ac wc bc body tg htg w hl
 have h70:ks.length≤70:=by omega
 have h20:od.length≤20:=by omega
 have h21:wd.length≤20:=by omega
 have h100:body.length≤100:=by omega
 by_cases hbg:∃(j:Nat) (h:j<ks.length),30<(ks[j]'h).l.length
 · exact ACF ks vo vc_ sa po hsa hpo ad joint od wd ao wo bo ac wc bc body tg htg w h70 h20 h21 h100 h1 hbg
 · refine Zv ks vo vc_ sa po hsa hpo ad joint od wd ao wo bo ac wc bc body tg htg hby w h70 h20 h21 h100 (fun j h h30=>hbg ⟨j,h,h30⟩) ⟨h1,fun x hx=>⟨(h2 x hx).1,(h2 x hx).2.2,(h2 x hx).2.1,?_⟩⟩ ho hw hb
   obtain⟨j,hj,rfl⟩:=List.getElem_of_mem hx
   have h30:¬30<(ks[j]).l.length:=fun h=>hbg ⟨j,hj,h⟩
   omega
end Go.Proofs.YtbfjfnbcmojpiaaGreat
