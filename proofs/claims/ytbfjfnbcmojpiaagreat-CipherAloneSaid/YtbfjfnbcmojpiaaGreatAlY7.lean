import Derived.Test.YtbfjfnbcmojpiaaGreatAlY6
set_option linter.unusedSimpArgs false
set_option linter.unusedVariables false
set_option maxRecDepth 100000
set_option maxHeartbeats 4000000
namespace Go.Proofs.YtbfjfnbcmojpiaaGreat
open Go.RowKit Go.Shelf
theorem AFB  (w:World) :
  Calls Tryz.prog 52 #[.slice none 0 0] w fun e w'=>e=.returned (.slice none 0 0)∧w.grownBy w' none:=by
 refine BZ Tryz.func52 rfl Tryz.ntmps52 rfl fun a0 sv0=>?_
 have HG:=World.grownBy.refl w none
 replace sv0:Sv 8 [] [(0,.slice none 0 0)] a0:=sv0
 refine ALz fun K1 k1=>?_
 refine ALy ?_
 refine AY (v:=.slice none 0 0) sv0 r6 fun a2 sv2=>?_
 refine AE ?_
 refine k1 _ _ ?_
 refine ALz fun K3 k3=>?_
 refine ALz fun K4 k4=>?_
 refine ALy ?_
 refine AJ sv2 2 [(3,.slice none 0 0),(4,.bool true)]
  ⟨ym r5,Cz r6 (fun _=>U8 Tryz.underlying28 rfl),AL5⟩ fun a5 w5 g5 sv5=>?_
 refine AE ?_
 refine k4 _ _ ?_
 refine Aw sv5 rfl rfl ?_
 refine ALz fun K6 k6=>?_
 refine ALy ?_
 refine AY (v:=.slice none 0 0) sv5 r6 fun a7 sv7=>?_
 refine AE ?_
 refine k6 _ _ ?_
 replace HG:=AA HG g5
 refine AL2 ?_
 repeat refine AL ?_
 refine BI (fn:=Tryz.f52) sv7 (BC (p:=2) Tryz.results52 sv7 rfl rfl) ?_
 exact⟨rfl,HG⟩
theorem AC0 (ds:List DD) (hl:ds.length≤1000) (ad:Addr) (cap:Nat) (w:World) (hr:RdD w (.slice ((some ad)) ds.length cap) ds) :
  Calls Tryz.prog 52 #[.slice ((some ad)) ds.length cap] w fun e w'=>∃v,e=.returned v∧w.grownBy w' none∧(Sp.row w.heap.size 23 32 ds.length (ds.flatMap LM)).on w' v:=by
 refine BZ Tryz.func52 rfl Tryz.ntmps52 rfl fun a0 sv0=>?_
 have HG:=World.grownBy.refl w none
 replace sv0:Sv 8 [] [(0,.slice ((some ad)) ds.length cap)] a0:=sv0
 refine ALz fun K1 k1=>?_
 refine ALy ?_
 refine AY (v:=.slice none 0 0) sv0 r6 fun a2 sv2=>?_
 refine AE ?_
 refine k1 _ _ ?_
 refine ALz fun K3 k3=>?_
 refine ALz fun K4 k4=>?_
 refine ALy ?_
 refine AJ sv2 2 [(3,.slice ((some ad)) ds.length cap),(4,.bool false)]
  ⟨ym r5,Cz r6 (fun _=>U8 Tryz.underlying28 rfl),AL5⟩ fun a5 w5 g5 sv5=>?_
 refine AE ?_
 refine k4 _ _ ?_
 refine A1 sv5 rfl rfl ?_
 refine AL3 ?_
 refine k3 _ _ ?_
 refine ALz fun K6 k6=>?_
 refine ALy ?_
 replace hr:=hr.kn g5
 replace HG:=AA HG g5
 refine FH (sv5.st w5) 3 [(5,Sp.lit0 w5.heap.size 23),(6,Sp.is (.slice ((some ad)) ds.length cap)),(7,Sp.row w5.heap.size 23 32 ds.length (ds.flatMap LM))] rfl (by kernel_rfl) (by kernel_rfl) (by kernel_rfl)
  ⟨VF (t:=0) rfl trivial (Nat.le_refl _) (fun a w=>by kernel_rfl) (fun _ _ h=>h),ym r5,VG (news:=ds.flatMap LM) dsT rfl rfl trivial rfl (fun _ _ h=>h) (oy rfl rfl) (fun _ g=>(hr.kn g).1) (AHG ds) (by omega) (Nat.le_refl _) (fun _ _ h=>h),AL5⟩ fun a7 w7 g7 st7=>?_
 obtain⟨hn7,hd7,e7_5,e7_6,e7_7,e7_3,e7_4,e7_2,e7_0,-⟩:=st7
 obtain⟨ao8,cap8,e7_7q,ow8,fr8⟩:=e7_7
 have AAF:=KP HG fr8
 replace HG:=AA HG g7
 have sv7:Sv 8 [] [(3,_),(4,_),(2,_),(0,_),(7,_)] a7:=⟨hn7,hd7,e7_3,e7_4,e7_2,e7_0,e7_7q,AL5⟩
 refine AY (v:=.slice ao8 ds.length cap8) sv7 r6 fun a9 sv9=>?_
 refine AE ?_
 refine k6 _ _ ?_
 refine AL2 ?_
 repeat refine AL ?_
 refine BI (fn:=Tryz.f52) sv9 (BC (p:=2) Tryz.results52 sv9 rfl rfl) ?_
 exact⟨_,rfl,HG,_,_,rfl,ow8,AAF⟩
theorem AC1 {ds:List DD} {s:Value} {w:World} (hl:ds.length≤1000) (hr:RdD w s ds):Calls Tryz.prog 52 #[s] w fun e w'=>∃v,e=.returned v∧w.grownBy w' none∧(Sp.row w.heap.size 23 32 ds.length (ds.flatMap LM)).on w' v:=by
 obtain⟨ao,cap,rfl⟩:=hr.shape
 cases ao with
 | some ad=>exact AC0 ds hl ad cap w hr
 | none =>
  have h0:ds.length=0∧cap=0:=by
   obtain⟨⟨_,ao',cap',e,h1,_,h3,_⟩,_⟩:=hr
   simp only[Value.slice.injEq,true_and] at e
   obtain⟨rfl,rfl⟩:=e
   have:=h3 rfl
   omega
  obtain⟨h1,rfl⟩:=h0
  obtain rfl:ds=[]:=List.eq_nil_of_length_eq_zero h1
  exact(AFB w).mono fun e w' ⟨h1,h2⟩=>⟨_,h1,h2,none,0,rfl,Own.nil _ _ _,fun k hk=>by simp[Value.ownBlock] at hk⟩
theorem AJJ {ds:List DD} {s:Value} {w:World} (hl:ds.length≤1000) (hr:RdD w s ds):Calls Tryz.prog 52 #[s] w fun e w'=>∃v,e=.returned v∧(∃ao cap,v=.slice ao ds.length cap∧w.grownBy w' none∧Own w' 23 32 (.slice ao ds.length cap) ds.length (ds.flatMap LM)∧∀k,Bk (.slice ao ds.length cap) k→w.heap.size≤k):=
 (AC1 hl hr).mono fun e w' ⟨v,h1,h2,ao,cap,h3,h4,h5⟩=>⟨v,h1,ao,cap,h3,h2,h4,h5⟩
theorem QH {w:World} {ds:List DD} {ao:Option Addr} {cap:Nat} {joint addr:Int} {b:Bool} (hr:RdD w (.slice ao ds.length cap) ds) (hb:hd (ds.map DD.x) joint addr=b):Calls Tryz.prog 50 #[.slice ao ds.length cap,.int .i64 joint,.int .i64 addr] w fun e w'=>e=.returned (.bool b)∧w.grownBy w' none:=hb▸AAa ds ao cap joint addr w hr
theorem ABi {own:List (List Nat)} {joint addr:Int} (h:hd own joint addr=true):(0≤addr∧addr<17179869184)∧(joint=0∨joint=1)∧own.length≤16∧asc own=true:=by
 unfold hd at h
 simp only[Bool.and_eq_true,Bool.or_eq_true,decide_eq_true_eq] at h
 exact⟨AAA h.1.1.1,h.1.1.2,h.1.2,h.2⟩
theorem AHI {s:Sd} (h:hd s.own s.joint s.addr=false):FK s=false:=by unfold FK;rw[h];rfl
theorem AC2 {s:Sd} (h:64<s.body.length):FK s=false:=by
 have:decide (s.body.length≤64)=false:=decide_eq_false (by omega)
 unfold FK;rw[this];simp
theorem QI {s:Sd} (h1:hd s.own s.joint s.addr=true) (h2:s.body.length≤64) {b:Bool} (h3:(if s.joint=1 then decide (s.wr.length=s.own.length) else decide (s.wr.length=0))=b):FK s=b:=by
 unfold FK
 rw[h1,decide_eq_true h2,←h3]
 split<;>rfl
theorem AHJ (a joint:Int) (own wr:List DD) (ao wo bo:Option Addr) (ac wc bc:Nat) (body tg:List Nat) (htg:Dg tg) (w:World) (ho:RdD w (.slice ao own.length ac) own) (hw:RdD w (.slice wo wr.length wc) wr) (hb:SlB w 1 (.slice bo body.length bc) body.length (bv body)) :
   Calls Tryz.prog 27 #[B9 a (.slice ao own.length ac) joint (.slice wo wr.length wc) (.slice bo body.length bc) tg] w fun e w'=>e=.returned (.bool (FK ⟨a,own.map DD.x,joint,wr.map DD.x,body,tg⟩))∧w.grownBy w' none:=by
 refine Dm Tryz.func27 rfl Tryz.ntmps27 rfl fun a0 sv0=>?_
 have HG:=World.grownBy.refl w none
 replace sv0:Sv 31 [] [(0,B9 a (.slice ao own.length ac) joint (.slice wo wr.length wc) (.slice bo body.length bc) tg)] a0:=sv0
 refine ALz fun K1 k1=>?_
 refine ALy ?_
 refine Bj sv0 r6 (EJ _ _ htg (.slice ao own.length ac) (.slice wo wr.length wc) (.slice bo body.length bc) rfl rfl rfl) fun a2 w2 CI F8 g2 z2 Aa sv2=>?_
 replace ho:=ho.kn g2
 replace HG:=AA HG g2
 refine AY (v:=.bool false) sv2 r6 fun a3 sv3=>?_
 refine AE ?_
 refine k1 _ _ ?_
 refine ALz fun K4 k4=>?_
 refine ALy ?_
 refine Ef sv3 rfl (dd:={ target:=.fn (.func 69) #[],args:=#[] }) rfl (by simp[execOp,resolve,Deferred.ofValue];try rfl) fun a5 sv5=>?_
 refine AE ?_
 refine k4 _ _ ?_
 refine ALz fun K6 k6=>?_
 refine ALz fun K7 k7=>?_
 rcases(show hd (own.map DD.x) joint a=false∨(hd (own.map DD.x) joint a=true∧64<body.length)∨(hd (own.map DD.x) joint a=true∧body.length≤64) by cases hd (own.map DD.x) joint a<;>simp<;>omega) with hh|⟨hh,hbl⟩|⟨hh,hbl⟩
 · refine ALy ?_
   refine AJ sv5 14 [(3,pk CI 1),(4,.slice ao own.length ac),(5,pk CI 2),(6,.int .i64 joint),(7,pt CI),(8,.int .i64 a),(9,.bool false),(10,.bool true),(11,.bool true),(12,undef),(13,undef),(14,undef),(15,undef),(16,.bool true)]
     ⟨yf r6 (fun _=>by kernel_rfl),yp (i:=1) r6 (J3 (.slice ao own.length ac) rfl) Aa rfl rfl,yf r6 (fun _=>by kernel_rfl),yp (i:=2) r6 (E8 joint) Aa rfl rfl,yf r6 (fun _=>by kernel_rfl),yp (i:=0) r6 (Gu a) Aa rfl rfl,Ae [.slice ao own.length ac,.int .i64 joint,.int .i64 a] Tryz.func50 (by kernel_rfl) rq4 ⟨(oy rfl rfl),(oy rfl rfl),(oy rfl rfl),AL5⟩ (Ap fun W g=>QH (ho.kn g) hh),DG r6 (fun _=>Bf),ym r5,AZ r6,AZ r6,AZ r6,AZ r6,CL r7,AL5⟩ fun a8 w8 g8 sv8=>?_
   refine AE ?_
   refine k7 _ _ ?_
   refine Aw sv8 rfl rfl ?_
   refine ALz fun K9 k9=>?_
   refine ALy ?_
   refine AY (v:=.bool false) sv8 r6 fun a10 Cb=>?_
   refine AE ?_
   refine k9 _ _ ?_
   replace Aa:=AC g8 Aa
   replace ho:=ho.kn g8
   replace HG:=AA HG g8
   refine AL2 ?_
   repeat refine AL ?_
   refine BK (fn:=Tryz.f27) Cb (BC (p:=2) Tryz.results27 Cb rfl rfl) (Bn Tryz.func69 (by kernel_rfl) rfl _ _) (D8 _) ?_
   exact⟨Hd ((AHI (s:=⟨a,own.map DD.x,joint,wr.map DD.x,body,tg⟩) hh).symm),HG⟩
 · refine ALy ?_
   refine AJ sv5 14 [(3,pk CI 1),(4,.slice ao own.length ac),(5,pk CI 2),(6,.int .i64 joint),(7,pt CI),(8,.int .i64 a),(9,.bool true),(10,.bool false),(11,.bool false),(12,pk CI 4),(13,.slice bo body.length bc),(14,.int .i64 ((body.length:Nat))),(15,.bool true),(16,.bool true)]
     ⟨yf r6 (fun _=>by kernel_rfl),yp (i:=1) r6 (J3 (.slice ao own.length ac) rfl) Aa rfl rfl,yf r6 (fun _=>by kernel_rfl),yp (i:=2) r6 (E8 joint) Aa rfl rfl,yf r6 (fun _=>by kernel_rfl),yp (i:=0) r6 (Gu a) Aa rfl rfl,Ae [.slice ao own.length ac,.int .i64 joint,.int .i64 a] Tryz.func50 (by kernel_rfl) rq4 ⟨(oy rfl rfl),(oy rfl rfl),(oy rfl rfl),AL5⟩ (Ap fun W g=>QH (ho.kn g) hh),DG r6 (fun _=>Bf),ym r5,BX rq9 (fun _=>by kernel_rfl),Aq rq9 (fun _ g=>Ab (Ho (.slice bo body.length bc) rfl) (Bl (L:=[[.int .i64 a],[.slice ao own.length ac],[.int .i64 joint],[.slice wo wr.length wc],[.slice bo body.length bc],bv tg]) (i:=4) (AF g Aa (by simp)) rfl rfl)),Bv (Tryz.underlying29) rfl rfl (gy rfl rfl rfl) (oy rfl rfl) (fun _=>rfl),BJ rq9 (fun _=>DI (by simp;omega)),A2 rq9,AL5⟩ fun a11 w11 g11 Cc=>?_
   refine AE ?_
   refine k7 _ _ ?_
   refine Aw Cc rfl rfl ?_
   refine ALz fun K12 k12=>?_
   refine ALy ?_
   refine AY (v:=.bool false) Cc r6 fun a13 Dy=>?_
   refine AE ?_
   refine k12 _ _ ?_
   replace Aa:=AC g11 Aa
   replace ho:=ho.kn g11
   replace HG:=AA HG g11
   refine AL2 ?_
   repeat refine AL ?_
   refine BK (fn:=Tryz.f27) Dy (BC (p:=2) Tryz.results27 Dy rfl rfl) (Bn Tryz.func69 (by kernel_rfl) rfl _ _) (D8 _) ?_
   exact⟨Hd ((AC2 (s:=⟨a,own.map DD.x,joint,wr.map DD.x,body,tg⟩) hbl).symm),HG⟩
 · refine ALy ?_
   refine AJ sv5 14 [(3,pk CI 1),(4,.slice ao own.length ac),(5,pk CI 2),(6,.int .i64 joint),(7,pt CI),(8,.int .i64 a),(9,.bool true),(10,.bool false),(11,.bool false),(12,pk CI 4),(13,.slice bo body.length bc),(14,.int .i64 ((body.length:Nat))),(15,.bool false),(16,.bool false)]
     ⟨yf r6 (fun _=>by kernel_rfl),yp (i:=1) r6 (J3 (.slice ao own.length ac) rfl) Aa rfl rfl,yf r6 (fun _=>by kernel_rfl),yp (i:=2) r6 (E8 joint) Aa rfl rfl,yf r6 (fun _=>by kernel_rfl),yp (i:=0) r6 (Gu a) Aa rfl rfl,Ae [.slice ao own.length ac,.int .i64 joint,.int .i64 a] Tryz.func50 (by kernel_rfl) rq4 ⟨(oy rfl rfl),(oy rfl rfl),(oy rfl rfl),AL5⟩ (Ap fun W g=>QH (ho.kn g) hh),DG r6 (fun _=>Bf),ym r5,BX rq9 (fun _=>by kernel_rfl),Aq rq9 (fun _ g=>Ab (Ho (.slice bo body.length bc) rfl) (Bl (L:=[[.int .i64 a],[.slice ao own.length ac],[.int .i64 joint],[.slice wo wr.length wc],[.slice bo body.length bc],bv tg]) (i:=4) (AF g Aa (by simp)) rfl rfl)),Bv (Tryz.underlying29) rfl rfl (gy rfl rfl rfl) (oy rfl rfl) (fun _=>rfl),BJ rq9 (fun _=>DI (by simp;omega)),A2 rq9,AL5⟩ fun a14 w14 g14 Da=>?_
   refine AE ?_
   refine k7 _ _ ?_
   refine A1 Da rfl rfl ?_
   refine AL3 ?_
   refine k6 _ _ ?_
   refine ALz fun K15 k15=>?_
   refine ALz fun K16 k16=>?_
   replace Aa:=AC g14 Aa
   replace HG:=AA HG g14
   by_cases hj:joint=1
   · refine ALy ?_
     refine AJ Da 3 [(17,pk CI 2),(18,.int .i64 joint),(19,.bool true)]
       ⟨yf r6 (fun _=>by kernel_rfl),yp (i:=2) r6 (E8 joint) Aa rfl rfl,Cz r6 (fun _=>CV (by simpa using hj)),AL5⟩ fun a17 w17 g17 FY=>?_
     refine AE ?_
     refine k16 _ _ ?_
     refine Aw FY rfl rfl ?_
     refine ALz fun K18 k18=>?_
     replace Aa:=AC g17 Aa
     replace HG:=AA HG g17
     by_cases hwl:wr.length=own.length
     · refine ALy ?_
       refine AJ FY 7 [(20,pk CI 3),(21,.slice wo wr.length wc),(22,.int .i64 ((wr.length:Nat))),(23,pk CI 1),(24,.slice ao own.length ac),(25,.int .i64 ((own.length:Nat))),(26,.bool true)]
        ⟨yf r6 (fun _=>by kernel_rfl),yp (i:=3) r6 (J3 (.slice wo wr.length wc) rfl) Aa rfl rfl,Bv (Tryz.underlying28) rfl rfl trivial (oy rfl rfl) (fun _=>rfl),yf r6 (fun _=>by kernel_rfl),yp (i:=1) r6 (J3 (.slice ao own.length ac) rfl) Aa rfl rfl,Bv (Tryz.underlying28) rfl rfl trivial (oy rfl rfl) (fun _=>rfl),Il r7 (fun _=>CV (PT (by omega))),AL5⟩ fun a19 w19 g19 EQ=>?_
       refine AY (v:=.bool true) EQ r6 fun a20 Eu=>?_
       have Di:Sv _ _ [_,_,_,_,_,_,_,_,_,_,_,_,_,_,_,_,_,_,_,_] _:=Eu.dl [20,21,22,23,24,25,26]
       refine AE ?_
       refine k18 _ _ ?_
       replace Aa:=AC g19 Aa
       replace HG:=AA HG g19
       refine AL2 ?_
       repeat refine AL ?_
       refine BK (fn:=Tryz.f27) Di (BC (p:=2) Tryz.results27 Di rfl rfl) (Bn Tryz.func69 (by kernel_rfl) rfl _ _) (D8 _) ?_
       exact⟨Hd ((QI (s:=⟨a,own.map DD.x,joint,wr.map DD.x,body,tg⟩) hh hbl (b:=true) (by simp only[List.length_map];rw[if_pos hj];simp[hwl])).symm),HG⟩
     · refine ALy ?_
       refine AJ FY 7 [(20,pk CI 3),(21,.slice wo wr.length wc),(22,.int .i64 ((wr.length:Nat))),(23,pk CI 1),(24,.slice ao own.length ac),(25,.int .i64 ((own.length:Nat))),(26,.bool false)]
        ⟨yf r6 (fun _=>by kernel_rfl),yp (i:=3) r6 (J3 (.slice wo wr.length wc) rfl) Aa rfl rfl,Bv (Tryz.underlying28) rfl rfl trivial (oy rfl rfl) (fun _=>rfl),yf r6 (fun _=>by kernel_rfl),yp (i:=1) r6 (J3 (.slice ao own.length ac) rfl) Aa rfl rfl,Bv (Tryz.underlying28) rfl rfl trivial (oy rfl rfl) (fun _=>rfl),Il r7 (fun _=>CV (Mc (by omega))),AL5⟩ fun a22 w22 g22 Ct=>?_
       refine AY (v:=.bool false) Ct r6 fun a23 Cw=>?_
       have ER:Sv _ _ [_,_,_,_,_,_,_,_,_,_,_,_,_,_,_,_,_,_,_,_] _:=Cw.dl [20,21,22,23,24,25,26]
       refine AE ?_
       refine k18 _ _ ?_
       replace Aa:=AC g22 Aa
       replace HG:=AA HG g22
       refine AL2 ?_
       repeat refine AL ?_
       refine BK (fn:=Tryz.f27) ER (BC (p:=2) Tryz.results27 ER rfl rfl) (Bn Tryz.func69 (by kernel_rfl) rfl _ _) (D8 _) ?_
       exact⟨Hd ((QI (s:=⟨a,own.map DD.x,joint,wr.map DD.x,body,tg⟩) hh hbl (b:=false) (by simp only[List.length_map];rw[if_pos hj];simp[hwl])).symm),HG⟩
   · refine ALy ?_
     refine AJ Da 3 [(17,pk CI 2),(18,.int .i64 joint),(19,.bool false)]
       ⟨yf r6 (fun _=>by kernel_rfl),yp (i:=2) r6 (E8 joint) Aa rfl rfl,Cz r6 (fun _=>CV (by simpa using hj)),AL5⟩ fun a25 w25 g25 DV=>?_
     refine AE ?_
     refine k16 _ _ ?_
     refine A1 DV rfl rfl ?_
     refine AL3 ?_
     refine k15 _ _ ?_
     refine ALz fun K26 k26=>?_
     replace Aa:=AC g25 Aa
     replace HG:=AA HG g25
     by_cases hwl:wr.length=0
     · refine ALy ?_
       refine AJ DV 4 [(27,pk CI 3),(28,.slice wo wr.length wc),(29,.int .i64 ((wr.length:Nat))),(30,.bool true)]
        ⟨yf r6 (fun _=>by kernel_rfl),yp (i:=3) r6 (J3 (.slice wo wr.length wc) rfl) Aa rfl rfl,Bv (Tryz.underlying28) rfl rfl trivial (oy rfl rfl) (fun _=>rfl),Cz r6 (fun _=>CV (PT (by omega))),AL5⟩ fun a27 w27 g27 JG=>?_
       refine AY (v:=.bool true) JG r6 fun a28 Js=>?_
       have Cf:Sv _ _ [_,_,_,_,_,_,_,_,_,_,_,_,_,_,_,_,_,_,_,_] _:=Js.dl [27,28,29,30]
       refine AE ?_
       refine k26 _ _ ?_
       replace Aa:=AC g27 Aa
       replace HG:=AA HG g27
       refine AL2 ?_
       repeat refine AL ?_
       refine BK (fn:=Tryz.f27) Cf (BC (p:=2) Tryz.results27 Cf rfl rfl) (Bn Tryz.func69 (by kernel_rfl) rfl _ _) (D8 _) ?_
       exact⟨Hd ((QI (s:=⟨a,own.map DD.x,joint,wr.map DD.x,body,tg⟩) hh hbl (b:=true) (by simp only[List.length_map];rw[if_neg hj];simp[hwl])).symm),HG⟩
     · refine ALy ?_
       refine AJ DV 4 [(27,pk CI 3),(28,.slice wo wr.length wc),(29,.int .i64 ((wr.length:Nat))),(30,.bool false)]
        ⟨yf r6 (fun _=>by kernel_rfl),yp (i:=3) r6 (J3 (.slice wo wr.length wc) rfl) Aa rfl rfl,Bv (Tryz.underlying28) rfl rfl trivial (oy rfl rfl) (fun _=>rfl),Cz r6 (fun _=>CV (Mc (by omega))),AL5⟩ fun a30 w30 g30 E4=>?_
       refine AY (v:=.bool false) E4 r6 fun a31 He=>?_
       have Cl:Sv _ _ [_,_,_,_,_,_,_,_,_,_,_,_,_,_,_,_,_,_,_,_] _:=He.dl [27,28,29,30]
       refine AE ?_
       refine k26 _ _ ?_
       replace HG:=AA HG g30
       refine AL2 ?_
       repeat refine AL ?_
       refine BK (fn:=Tryz.f27) Cl (BC (p:=2) Tryz.results27 Cl rfl rfl) (Bn Tryz.func69 (by kernel_rfl) rfl _ _) (D8 _) ?_
       exact⟨Hd ((QI (s:=⟨a,own.map DD.x,joint,wr.map DD.x,body,tg⟩) hh hbl (b:=false) (by simp only[List.length_map];rw[if_neg hj];simp[hwl])).symm),HG⟩
end Go.Proofs.YtbfjfnbcmojpiaaGreat
