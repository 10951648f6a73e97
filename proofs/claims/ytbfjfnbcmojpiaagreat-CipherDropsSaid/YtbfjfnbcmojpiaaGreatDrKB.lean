import Derived.Test.YtbfjfnbcmojpiaaGreatDrV8
import Derived.OrdersHeld
import Derived.Test.YtbfjfnbcmojpiaaGreatDrSG
set_option linter.unusedSimpArgs false
set_option linter.unusedVariables false
set_option maxRecDepth 100000
set_option maxHeartbeats 4000000
namespace Go.Proofs.YtbfjfnbcmojpiaaGreat
open Go.RowKit Go.Shelf
theorem ADe {ms:List VK} {P:List VP} {o:List Nat} {i:Nat} (h:ms.map VK.p=P) (hi:pos P o=i):(ms.take i++ms.drop (i+1)).map VK.p=Gf P o:=by
 unfold Gf
 rw[hi,List.map_append,List.map_take,List.map_drop,h]
theorem KsT.del {w:World} {ms:List VK} (h:KsT w ms) (i:Nat):KsT w (ms.take i++ms.drop (i+1)):=by
 have hh:∀k,k∈ms.take i++ms.drop (i+1)→k∈ms:=fun k hk=>by
  rcases List.mem_append.1 hk with hk|hk
  · exact List.mem_of_mem_take hk
  · exact List.mem_of_mem_drop hk
 exact⟨fun k hk=>h.1 k (hh k hk),fun b ⟨k,hk,hb⟩=>h.2 b ⟨k,hh k hk,hb⟩⟩
theorem ABZ {ms:List VK} {i A n:Nat} {w:World} (hn:n=ms.length) (hown:Own w 58 33 (.slice (some ⟨A,0,none⟩) n n) n (ms.flatMap AZ)) (hi:i<n) (h64:n≤64) :
  Calls Tryz.prog 73 #[.slice (some ⟨A,0,none⟩) n n,.int .i64 (i:Int),.int .i64 ((i+1:Nat):Int)] w fun e w'=>∃v,e=.returned v∧∃ao cap,v=.slice ao (n-1) cap∧Own w' 58 33 (.slice ao (n-1) cap) (n-1) ((ms.take i++ms.drop (i+1)).flatMap AZ)∧w.grownBy w' (some A)∧∀k,BO (.slice ao (n-1) cap) k→k=A∨w.heap.size≤k:=by
 subst hn
 have e:((i+1:Nat):Int)=(i:Int)+1:=by omega
 have e2:(ms.take i++ms.drop (i+1)).length=ms.length-1:=by simp;omega
 rw[e]
 refine(UY ms i _ w hown hi (by omega)).mono fun e W' ⟨v,h1,h2,h3,h4⟩=>?_
 rw[e2] at h2
 obtain⟨ao,cap,rfl,_⟩:=(Sl.of_own h2).shape
 exact⟨_,h1,ao,cap,rfl,h2,h3,fun k hk=>(h4 k hk).elim (fun h=>.inl (Option.some.inj h).symm) .inr⟩
theorem ABa (ks:List VK) (ao:Option Addr) (cap:Nat) (sa po:List Nat) (hsa:Dg sa) (hpo:Dg po) (o:List Nat) (ho:Dg o) (w:World) (hr:RdK w (.slice ao ks.length cap) ks) :
   Calls Tryz.prog 29 #[Ao sa po (.slice ao ks.length cap),AO o] w fun e w'=>VRes w w' (WO (ks.map VK.p,sa,po) o) (fun _=>False) e:=by
 refine DX Tryz.func29 rfl Tryz.ntmps29 rfl fun a0 sv0=>?_
 have HG:=World.grownBy.refl w none
 replace sv0:Sv 32 [] [(0,Ao sa po (.slice ao ks.length cap)),(1,AO o)] a0:=sv0
 refine AIi fun K1 k1=>?_
 refine AIh ?_
 refine BT sv0 r6 (BX hsa hpo (.slice ao ks.length cap) rfl) fun a2 w2 CC Cq g2 z2 AG sv2=>?_
 have ED:=Bq HG Cq
 refine BT sv2 r6 (Bn o ho.1) fun a3 w3 Bo EC g3 z3 AJ sv3=>?_
 have FK:=Ar AG EC
 replace AG:=AC g3 AG
 replace hr:=(hr.kn g2).kn g3
 replace HG:=AA (AA HG g2) g3
 refine As (T:=36) (Z:=([bv AS,bv AS,[.slice none 0 0]].flatten)) sv3 rfl rfl rfl (fun a w=>by kernel_rfl) fun a4 w4 Eh Bi g4 z4 AN sv4=>?_
 have Aw:=Ar AG Bi
 have A9:=Ar AJ Bi
 have Br:=Bq HG Bi
 have Bb:=Ax (hr.lt) Bi
 replace AG:=AC g4 AG
 replace AJ:=AC g4 AJ
 replace hr:=hr.kn g4
 replace HG:=AA HG g4
 refine As (T:=38) (Z:=[.int .i64 0]) sv4 rfl rfl rfl (fun a w=>by kernel_rfl) fun a5 w5 Nj Cr g5 z5 Ag sv5=>?_
 have BZ:=Ar AG Cr
 have B7:=Ar AJ Cr
 have Am:=Ar AN Cr
 have DJ:=Bq HG Cr
 have C7:=Ax (hr.lt) Cr
 replace AG:=AC g5 AG
 replace AJ:=AC g5 AJ
 replace AN:=AC g5 AN
 replace hr:=hr.kn g5
 replace HG:=AA HG g5
 refine AE ?_
 refine k1 _ _ ?_
 refine AIi fun K6 k6=>?_
 refine AIh ?_
 refine Es sv5 rfl rfl rfl rfl rfl rfl fun a7 sv7=>?_
 refine EJ sv7 rfl (dd:={ target:=.fn (.func 70) #[pt Eh,pt Nj],args:=#[] }) rfl (by have e1:=sv7.ev (x:=.tmp 8) rfl rfl;simp[execOp,resolve,Deferred.ofValue,e1];try rfl) fun a8 sv8=>?_
 refine AE ?_
 refine k6 _ _ ?_
 refine AIi fun K9 k9=>?_
 refine AIi fun K10 k10=>?_
 cases hv:CE (ks.map VK.p)
 · refine AIh ?_
   refine AL sv8 3 [(9,Ao sa po (.slice ao ks.length cap)),(10,.bool false),(11,.bool true)]
     ⟨yl r6 (BX hsa hpo (.slice ao ks.length cap) rfl) AG,Ad [Ao sa po (.slice ao ks.length cap)] Tryz.func51 (by kernel_rfl) rq4 ⟨(oy rfl rfl),AIo⟩ (Aq fun W g=>Gj hsa hpo (hr.kn g) hv),Cn r6 (fun _=>BV),AIo⟩ fun a11 w11 g11 CH=>?_
   refine AE ?_
   refine k10 _ _ ?_
   refine Ap CH rfl rfl ?_
   refine AIi fun K12 k12=>?_
   refine AIh ?_
   replace AG:=AC g11 AG
   replace AJ:=AC g11 AJ
   replace AN:=AC g11 AN
   replace Ag:=AC g11 Ag
   refine AL CH 1 [(12,Ao AS AS (.slice none 0 0))]
     ⟨BI (vs:=[]) rfl rfl trivial trivial (fun _=>bV0 _) (fun _=>rfl),AIo⟩ fun a13 w13 g13 DI=>?_
   refine An DI r7 (BX AR AR (.slice none 0 0) rfl) (AC g13 AN) (by first|rfl|simp[AZ,AI,AQ,AR.1,AR.1]) fun w14 g14 h14=>?_
   replace Ag:=Ak g13 g14 Ag Am
   refine An DI r7 (Ed 1) Ag rfl fun w15 g15 h15=>?_
   replace AG:=Ab g15 (Ak g13 g14 AG (Ne.symm Aw)) (Ne.symm BZ)
   replace AJ:=Ab g15 (Ak g13 g14 AJ (Ne.symm A9)) (Ne.symm B7)
   replace AN:=Ab g15 h14 (Ne.symm Am)
   replace hr:=(((hr.kn g11).kn g13).offR g14 (AU Bb)).offR g15 (AU C7)
   replace HG:=AD (AD (AA (AA HG g11) g13) g14 Br) g15 DJ
   replace Ag:=h15
   refine AE ?_
   refine k12 _ _ ?_
   refine AIl ?_
   repeat refine AM ?_
   refine BK (fn:=Tryz.f29) DI (BQ (p:=4) (q:=5) Tryz.results29 DI rfl rfl rfl rfl (BX AR AR (.slice none 0 0) rfl) (Ed 1) AN Ag) (Bl Tryz.func70 (by kernel_rfl) rfl _ _) (Iq _ _ _) ?_
   exact VRes.zero (by unfold WO;rw[if_neg (by rw[hv];simp)]) HG
 · obtain⟨i,hi⟩:∃i,pos (ks.map VK.p) o=i:=⟨_,rfl⟩
   have h64:ks.length≤64:=by have:=(Dz.1 hv).1;simpa using this
   refine AIh ?_
   refine AL sv8 3 [(9,Ao sa po (.slice ao ks.length cap)),(10,.bool true),(11,.bool false)]
     ⟨yl r6 (BX hsa hpo (.slice ao ks.length cap) rfl) AG,Ad [Ao sa po (.slice ao ks.length cap)] Tryz.func51 (by kernel_rfl) rq4 ⟨(oy rfl rfl),AIo⟩ (Aq fun W g=>Gj hsa hpo (hr.kn g) hv),Cn r6 (fun _=>BV),AIo⟩ fun a16 w16 g16 Cj=>?_
   refine AE ?_
   refine k10 _ _ ?_
   refine Au Cj rfl rfl ?_
   refine AIm ?_
   refine k9 _ _ ?_
   refine AIi fun K17 k17=>?_
   replace AG:=AC g16 AG
   replace AJ:=AC g16 AJ
   replace AN:=AC g16 AN
   replace Ag:=AC g16 Ag
   replace hr:=hr.kn g16
   replace HG:=AA HG g16
   cases hf:Hd (ks.map VK.p) o
   · refine AIh ?_
     refine AL Cj 6 [(14,Ao sa po (.slice ao ks.length cap)),(15,AO o),(16,.tuple #[.int .i64 ((i:Int)),.bool false]),(13,.tuple #[.int .i64 ((i:Int)),.bool false]),(17,.int .i64 ((i:Int))),(18,.bool false)]
      ⟨yl r6 (BX hsa hpo (.slice ao ks.length cap) rfl) AG,yl r6 (Bn o ho.1) AJ,Ad [Ao sa po (.slice ao ks.length cap),AO o] Tryz.func71 (by kernel_rfl) rq4 ⟨(oy rfl rfl),(oy rfl rfl),AIo⟩ (Aq fun W g=>Ou hsa hpo ho (hr.kn g) hv hf hi),ym r5,BH rq4 (fun _ _ h=>⟨_,_,h,rfl,rfl⟩),BH rq4 (fun _ _ h=>⟨_,_,h,rfl,rfl⟩),AIo⟩ fun a18 w18 g18 CS=>?_
     refine Aa (v:=.int .i64 ((i:Int))) CS r6 fun a19 Dj=>?_
     refine Aa (v:=.bool false) Dj r6 fun a20 EL=>?_
     have DY:Sv _ _ [_,_,_,_,_,_,_,_,_,_,_] _:=EL.dl [14,15,16,13,17,18,3]
     refine AE ?_
     refine k17 _ _ ?_
     refine AIi fun K22 k22=>?_
     refine AIi fun K23 k23=>?_
     refine AIh ?_
     refine AL DY 2 [(19,.bool false),(20,.bool true)]
      ⟨ym r5,Cn r6 (fun _=>BV),AIo⟩ fun a24 w24 g24 DZ=>?_
     have Zh:=AA g18 g24
     refine AE ?_
     refine k23 _ _ ?_
     refine Ap DZ rfl rfl ?_
     refine AIi fun K25 k25=>?_
     refine AIh ?_
     replace AG:=AC Zh AG
     replace AJ:=AC Zh AJ
     replace AN:=AC Zh AN
     replace Ag:=AC Zh Ag
     refine AL DZ 1 [(21,Ao AS AS (.slice none 0 0))]
      ⟨BI (vs:=[]) rfl rfl trivial trivial (fun _=>bV0 _) (fun _=>rfl),AIo⟩ fun a26 w26 g26 CW=>?_
     refine An CW r7 (BX AR AR (.slice none 0 0) rfl) (AC g26 AN) (by first|rfl|simp[AZ,AI,AQ,AR.1,AR.1]) fun w27 g27 h27=>?_
     replace Ag:=Ak g26 g27 Ag Am
     refine An CW r7 (Ed 10) Ag rfl fun w28 g28 h28=>?_
     replace AG:=Ab g28 (Ak g26 g27 AG (Ne.symm Aw)) (Ne.symm BZ)
     replace AJ:=Ab g28 (Ak g26 g27 AJ (Ne.symm A9)) (Ne.symm B7)
     replace AN:=Ab g28 h27 (Ne.symm Am)
     replace hr:=(((hr.kn Zh).kn g26).offR g27 (AU Bb)).offR g28 (AU C7)
     replace HG:=AD (AD (AA (AA HG Zh) g26) g27 Br) g28 DJ
     replace Ag:=h28
     refine AE ?_
     refine k25 _ _ ?_
     refine AIl ?_
     repeat refine AM ?_
     refine BK (fn:=Tryz.f29) CW (BQ (p:=4) (q:=5) Tryz.results29 CW rfl rfl rfl rfl (BX AR AR (.slice none 0 0) rfl) (Ed 10) AN Ag) (Bl Tryz.func70 (by kernel_rfl) rfl _ _) (Iq _ _ _) ?_
     exact VRes.zero (by unfold WO;rw[if_pos hv,if_neg (by rw[hf];simp)]) HG
   · have hil:i<ks.length:=by have:=(Mo hf).1;rw[hi] at this;simpa using this
     obtain⟨x,hx_x⟩:∃x,ks[i]'hil=x:=⟨_,rfl⟩
     have htr:tr (ks.map VK.p) i=x.l:=by rw[Rz hil,hx_x]
     refine AIh ?_
     refine AL Cj 6 [(14,Ao sa po (.slice ao ks.length cap)),(15,AO o),(16,.tuple #[.int .i64 ((i:Int)),.bool true]),(13,.tuple #[.int .i64 ((i:Int)),.bool true]),(17,.int .i64 ((i:Int))),(18,.bool true)]
      ⟨yl r6 (BX hsa hpo (.slice ao ks.length cap) rfl) AG,yl r6 (Bn o ho.1) AJ,Ad [Ao sa po (.slice ao ks.length cap),AO o] Tryz.func71 (by kernel_rfl) rq4 ⟨(oy rfl rfl),(oy rfl rfl),AIo⟩ (Aq fun W g=>Ou hsa hpo ho (hr.kn g) hv hf hi),ym r5,BH rq4 (fun _ _ h=>⟨_,_,h,rfl,rfl⟩),BH rq4 (fun _ _ h=>⟨_,_,h,rfl,rfl⟩),AIo⟩ fun a29 w29 g29 CI=>?_
     refine Aa (v:=.int .i64 ((i:Int))) CI r6 fun a30 EQ=>?_
     refine Aa (v:=.bool true) EQ r6 fun a31 Gh=>?_
     have Bc:Sv _ _ [_,_,_,_,_,_,_,_,_,_,_] _:=Gh.dl [14,15,16,13,17,18,3]
     refine AE ?_
     refine k17 _ _ ?_
     refine AIi fun K33 k33=>?_
     refine AIi fun K34 k34=>?_
     refine AIh ?_
     refine AL Bc 2 [(19,.bool true),(20,.bool false)]
      ⟨ym r5,Cn r6 (fun _=>BV),AIo⟩ fun a35 w35 g35 Kh=>?_
     have UW:=AA g29 g35
     refine AE ?_
     refine k34 _ _ ?_
     refine Au Kh rfl rfl ?_
     refine AIm ?_
     refine k33 _ _ ?_
     refine AIi fun K36 k36=>?_
     refine AIh ?_
     replace AG:=AC UW AG
     replace AJ:=AC UW AJ
     replace AN:=AC UW AN
     replace Ag:=AC UW Ag
     replace hr:=hr.kn UW
     replace HG:=AA HG UW
     refine FE (Kh.st w35) 2 [(22,Sp.is (Ao sa po (.slice ao ks.length cap))),(23,Sp.cln w35.heap.size sa po ks.length (ks.map VK.p))] rfl (by kernel_rfl) (by kernel_rfl) (by kernel_rfl)
      ⟨yl r6 (BX hsa hpo (.slice ao ks.length cap) rfl) AG,Ad [Ao sa po (.slice ao ks.length cap)] Tryz.func72 (by kernel_rfl) rq4 ⟨(oy rfl rfl),AIo⟩ (RM hsa hpo hr h64),AIo⟩ fun a37 w37 g37 st37=>?_
     obtain⟨hn37,hd37,e37_22,e37_23,e37_19,e37_20,e37_7,e37_6,e37_9,e37_10,e37_11,e37_8,e37_5,e37_4,e37_2,e37_0,e37_1,-⟩:=st37
     obtain⟨A,ms,e37_23q,hmp,ow,kr,frA,frK⟩:=e37_23
     have fr_ow:∀k,BO (.slice ((some ⟨A,0,none⟩)) ks.length ks.length) k→w35.heap.size≤k:=fun k hk=>(Option.some.inj hk)▸frA
     have fr_kr:∀k,DF ms k→w35.heap.size≤k:=fun k hk=>(frK k hk).1
     have ap_kr_ow:∀k,DF ms k→¬BO (.slice ((some ⟨A,0,none⟩)) ks.length ks.length) k:=fun k hk e=>(frK k hk).2 (Option.some.inj e).symm
     have DR:=CF fr_ow AG
     have I1:=CF fr_ow AJ
     have Dp:=CF fr_ow AN
     have FZ:=CF fr_ow Ag
     have lo_ow:=JC HG fr_ow
     have DS:=CF fr_kr AG
     have C9:=CF fr_kr AN
     have Gm:=CF fr_kr Ag
     replace AG:=AC g37 AG
     have F6:Sv 32 [{ target:=.fn (.func 70) #[pt Eh,pt Nj],args:=#[] }] [(19,_),(20,_),(7,_),(6,_),(9,_),(10,_),(11,_),(8,_),(5,_),(4,_),(2,_),(0,_),(1,_),(23,_)] a37:=⟨hn37,hd37,e37_19,e37_20,e37_7,e37_6,e37_9,e37_10,e37_11,e37_8,e37_5,e37_4,e37_2,e37_0,e37_1,e37_23q,AIo⟩
     refine An F6 r7 (BX hsa hpo (.slice ((some ⟨A,0,none⟩)) ks.length ks.length) rfl) AG (by first|rfl|simp[AZ,AI,AQ,hsa.1,hpo.1,hsa.1,hpo.1]) fun w38 g38 h38=>?_
     replace AG:=h38
     refine AE ?_
     refine k36 _ _ ?_
     refine AIi fun K39 k39=>?_
     refine AIh ?_
     refine AL F6 5 [(24,pk CC 64),(25,.slice ((some ⟨A,0,none⟩)) ks.length ks.length),(26,.int .i64 ((i:Int))),(27,.int .i64 ((i:Int))),(28,.int .i64 (((i+1:Nat):Int)))]
      ⟨yf r6 (fun _=>by kernel_rfl),yp (i:=2) r6 (Dn (.slice ((some ⟨A,0,none⟩)) ks.length ks.length) rfl) AG rfl (by simp[AI,AQ,hsa.1,hpo.1]),ym r5,ym r5,Cm r6 (fun _=>C4 (by rw[A1 (by omega) (by omega)];omega)),AIo⟩ fun a40 w40 g40 Ji=>?_
     replace AG:=AC g40 AG
     replace AJ:=AC g40 (Ab g38 (AC g37 AJ) FK)
     replace AN:=AC g40 (Ab g38 (AC g37 AN) Aw)
     replace Ag:=AC g40 (Ab g38 (AC g37 Ag) BZ)
     replace ow:=(ow.offR g38 (AU DR)).kn g40
     replace HG:=AA (AD (AA HG g37) g38 ED) g40
     have hml:ks.length=ms.length:=Own.rdk ow
     refine BU Ji Tryz.func73 (by kernel_rfl) r6 (ABZ hml ow hil h64) fun a41 v41 w41 hD JP=>?_
     obtain⟨aoD,capD,rfl,od,gD,frD⟩:=hD
     have Wn:∀k,BO (.slice aoD (ks.length-1) capD) k→k≠CC:=fun k hk=>(frD k hk).elim (fun e=>e▸DR A rfl) (fun h=>Nat.ne_of_gt (Nat.lt_of_lt_of_le (Array.getElem?_eq_some_iff.1 AG).1 h))
     have AFh:∀k,BO (.slice aoD (ks.length-1) capD) k→k≠Bo:=fun k hk=>(frD k hk).elim (fun e=>e▸I1 A rfl) (fun h=>Nat.ne_of_gt (Nat.lt_of_lt_of_le (Array.getElem?_eq_some_iff.1 AJ).1 h))
     have Wo:∀k,BO (.slice aoD (ks.length-1) capD) k→k≠Eh:=fun k hk=>(frD k hk).elim (fun e=>e▸Dp A rfl) (fun h=>Nat.ne_of_gt (Nat.lt_of_lt_of_le (Array.getElem?_eq_some_iff.1 AN).1 h))
     have Wp:∀k,BO (.slice aoD (ks.length-1) capD) k→k≠Nj:=fun k hk=>(frD k hk).elim (fun e=>e▸FZ A rfl) (fun h=>Nat.ne_of_gt (Nat.lt_of_lt_of_le (Array.getElem?_eq_some_iff.1 Ag).1 h))
     have lo_od:∀k,BO (.slice aoD (ks.length-1) capD) k→w.heap.size≤k:=fun k hk=>(frD k hk).elim (fun e=>e▸lo_ow A rfl) (fun h=>Nat.le_trans HG.size h)
     replace AG:=AF gD AG (fun e=>DR _ (rfl) (Option.some.inj e).symm)
     replace AN:=AF gD AN (fun e=>Dp _ (rfl) (Option.some.inj e).symm)
     replace Ag:=AF gD Ag (fun e=>FZ _ (rfl) (Option.some.inj e).symm)
     replace kr:=((kr.offR g38 (AU DS)).kn g40).offR gD (fun k hk e=>ap_kr_ow k hk (e))
     replace HG:=CJ HG gD fun k e=>lo_ow k (e)
     have Gi:Sv _ _ [_,_,_,_,_,_,_,_,_,_,_,_,_,_] _:=JP.dl [24,25,26,27,28,6]
     refine AL Gi 1 [(30,pk CC 64)]
      ⟨yf r6 (fun _=>by kernel_rfl),AIo⟩ fun a43 w43 g43 Hf=>?_
     refine Jc (L:=[bv sa,bv po,[.slice ((some ⟨A,0,none⟩)) ks.length ks.length]]) (i:=2) Hf r7 (Dn (.slice aoD (ks.length-1) capD) rfl) (AC g43 AG) rfl (by simp[AI,AQ,hsa.1,hpo.1]) rfl fun w44 g44 h44=>?_
     replace AN:=Ak g43 g44 AN Aw
     replace AG:=h44
     refine AE ?_
     refine k39 _ _ ?_
     refine AIi fun K45 k45=>?_
     refine AIh ?_
     refine AL Hf 1 [(31,Ao sa po (.slice aoD (ks.length-1) capD))]
      ⟨yl r6 (BX hsa hpo (.slice aoD (ks.length-1) capD) rfl) AG,AIo⟩ fun a46 w46 g46 GM=>?_
     refine An GM r7 (BX hsa hpo (.slice aoD (ks.length-1) capD) rfl) (AC g46 AN) (by first|rfl|simp[AZ,AI,AQ,hsa.1,hpo.1]) fun w47 g47 h47=>?_
     replace Ag:=Ak g46 g47 (Ak g43 g44 Ag BZ) Am
     refine An GM r7 (Ed 0) Ag rfl fun w48 g48 h48=>?_
     replace AN:=Ab g48 h47 (Ne.symm Am)
     replace kr:=((((kr.kn g43).offR g44 (AU DS)).kn g46).offR g47 (AU C9)).offR g48 (AU Gm)
     replace od:=((((od.kn g43).offR g44 (AU Wn)).kn g46).offR g47 (AU Wo)).offR g48 (AU Wp)
     replace HG:=AD (AD (AA (AD (AA HG g43) g44 ED) g46) g47 Br) g48 DJ
     replace Ag:=h48
     refine AE ?_
     refine k45 _ _ ?_
     refine AIl ?_
     repeat refine AM ?_
     refine BK (fn:=Tryz.f29) GM (BQ (p:=4) (q:=5) Tryz.results29 GM rfl rfl rfl rfl (BX hsa hpo (.slice aoD (ks.length-1) capD) rfl) (Ed 0) AN Ag) (Bl Tryz.func70 (by kernel_rfl) rfl _ _) (Iq _ _ _) ?_
     exact VRes.mk (P:=Gf (ks.map VK.p) o) (by unfold WO;rw[if_pos hv,if_pos hf]) (ADe hmp hi) od (KsT.del kr i) HG
def Sp.lit1T (B:Nat) (o:List Nat) (l:List Nd):Sp:=⟨fun w v=>∃(A:Nat) (x:VK),v=.slice (some ⟨A,0,none⟩) 1 1∧w.heap[A]?=some (.cells (AZ x).toArray 58 (0,0))∧x.o=o∧x.l=l∧RdTg w x.s x.l∧(∀k,Lc x.s k→B≤k)∧B≤A,fun _ _ _ hg ⟨A,x,h1,h2,h3,h4,h5,h7,h8⟩=>⟨A,x,h1,AF hg h2 (by simp),h3,h4,h5.kn hg,h7,h8⟩⟩
theorem ABb {B:Nat} {o:List Nat} {l:List Nd} {w:World} {v:Value} (hB:B≤w.heap.size) (h:(Sp.ck B o l).on w v):∃cs:List Value,(Instr.buildSlice 34 1 #[(0,v)]).run Tryz.prog w=.ok (.slice (some ⟨w.heap.size,0,none⟩) 1 1) (w.alloc (.cells cs.toArray 58)) ∧
  ∀w',w.grownBy w' none→w'.heap[w.heap.size]?=some (.cells cs.toArray 58 (0,0))→(Sp.lit1T B o l).on w' (.slice (some ⟨w.heap.size,0,none⟩) 1 1):=by
 obtain⟨x,rfl,h2,h3,h4,h6⟩:=h
 exact⟨AZ x,AGj x w,fun w' g hb=>⟨_,x,rfl,hb,h2,h3,h4.kn g,h6,hB⟩⟩
theorem AGr {P:List VP} {ms:List VK} {k:Nat} {o:List Nat} {T:List Nd} (h:ms.map VK.p=Ft P k (o,T)) (hk:k≤P.length) (hm:k<ms.length) {z:VK} (hz:ms[k]=z):z.o=o:=by
 have h1:(ms.map VK.p)[k]?=some z.p:=by rw[List.getElem?_map,List.getElem?_eq_getElem hm,hz];rfl
 rw[h,Fa hk,if_neg (by omega),if_pos rfl] at h1
 exact(congrArg Prod.fst (Option.some.inj h1)).symm
theorem ABc {P:List VP} {ms:List VK} {k:Nat} {x:VP} (h:ms.map VK.p=Ft P k x) (hk:k≤P.length) (h0:0<k) (hm:k-1<ms.length) {z:VK} (hz:ms[k-1]=z):z.o=od P (k-1):=by
 have h1:(ms.map VK.p)[k-1]?=some z.p:=by rw[List.getElem?_map,List.getElem?_eq_getElem hm,hz];rfl
 rw[h,Fa hk,if_pos (by omega)] at h1
 rw[(KG h1).1]
 rfl
theorem ABd {P:List VP} {ms:List VK} {k:Nat} {x:VP} (h:ms.map VK.p=Ft P k x) (hk:k≤P.length) (h0:0<k) (hm:k<ms.length) (hm1:k-1<ms.length) {a b:VK} (ha:ms[k]=a) (hb:ms[k-1]=b):((ms.set (k-1) a).set k b).map VK.p=Ft P (k-1) x:=by
 rw[List.map_set,List.map_set,h]
 refine Wq h0 hk x _ _ ?_ ?_
 · rw[←h,List.getElem?_map,List.getElem?_eq_getElem hm,ha];rfl
 · rw[←h,List.getElem?_map,List.getElem?_eq_getElem hm1,hb];rfl
theorem KP {ms:List VK} {k:Nat} (hm:k<ms.length) (hm1:k-1<ms.length) {a b:VK} (ha:ms[k]=a) (hb:ms[k-1]=b) {x:VK} (hx:x∈(ms.set (k-1) a).set k b):x∈ms:=by
 rcases List.mem_or_eq_of_mem_set hx with h|h
 · rcases List.mem_or_eq_of_mem_set h with h|h
   · exact h
   · rw[h,←ha];exact List.getElem_mem hm
 · rw[h,←hb];exact List.getElem_mem hm1
theorem KsR.sub {w:World} {ms ns:List VK} (h:KsR w ms) (hs:∀x∈ns,x∈ms):KsR w ns:=fun k hk=>h k (hs k hk)
theorem Jm {ms ns:List VK} (hs:∀x∈ns,x∈ms) {b:Nat} (h:DF ns b):DF ms b:=by
 obtain⟨k,hk,hb⟩:=h
 exact⟨k,hs k hk,hb⟩
theorem KsR.snoc {w:World} {ms:List VK} (h:KsR w ms) {x:VK} (hx:RdT w x.s x.l):KsR w (ms++[x]):=fun k hk=>by
 rcases List.mem_append.1 hk with hk|hk
 · exact h k hk
 · obtain rfl:=List.mem_singleton.1 hk;exact hx
theorem IW {ms:List VK} {x:VK} {b:Nat} (h:DF (ms++[x]) b):DF ms b∨Lc x.s b:=by
 obtain⟨k,hk,hb⟩:=h
 rcases List.mem_append.1 hk with hk|hk
 · exact .inl ⟨k,hk,hb⟩
 · obtain rfl:=List.mem_singleton.1 hk;exact .inr hb
theorem ABe {x y:List Nat} {b:Bool} (hb:Dy x y=b) (hx:Dg x) (hy:Dg y) (w:World):Calls Tryz.prog 86 #[AO x,AO y] w fun e w'=>e=.returned (.bool b)∧w.grownBy w' none:=LP hb hx hy w
theorem ADf (ks:List VK) (y:VK):ks.flatMap AZ++AZ y=(ks++[y]).flatMap AZ:=by rw[List.flatMap_append];simp
theorem ADg {w:World} {A:Nat} {x:VK} (h:w.heap[A]?=some (.cells (AZ x).toArray 58 (0,0))):Sl w 33 (.slice (some ⟨A,0,none⟩) 1 1) 1 (AZ x):=ABQ h
theorem Zi (ks:List VK) (ao:Option Addr) (cap:Nat) (sa po:List Nat) (hsa:Dg sa) (hpo:Dg po) (o:List Nat) (ho:Dg o) (T:List Nd) (hT:tree (kd 275 po) []=T) (w:World) (hr:RdK w (.slice ao ks.length cap) ks) :
   Calls Tryz.prog 39 #[Ao sa po (.slice ao ks.length cap),AO o] w fun e w'=>VRes w w' (KZ (ks.map VK.p,sa,po) o T (kd 276 po)) (Je (.slice ao ks.length cap) ks) e:=by
 have hlt0:=hr.lt
 have hmap:(ks.map VK.p).length=ks.length:=List.length_map _
 refine BM Tryz.func39 rfl Tryz.ntmps39 rfl fun a0 sv0=>?_
 have HG:=World.grownBy.refl w none
 replace sv0:Sv 78 [] [(0,Ao sa po (.slice ao ks.length cap)),(1,AO o)] a0:=sv0
 refine AIi fun K1 k1=>?_
 refine AIh ?_
 refine BT sv0 r6 (BX hsa hpo (.slice ao ks.length cap) rfl) fun a2 w2 CC Cq g2 z2 AG sv2=>?_
 have Wr:=Ax (hr.lt) Cq
 replace hr:=hr.kn g2
 refine BT sv2 r6 (Bn o ho.1) fun a3 w3 Bo EC g3 z3 AJ sv3=>?_
 have Ws:=Ax (hr.lt) EC
 replace AG:=AC g3 AG
 replace hr:=hr.kn g3
 replace HG:=AA (AA HG g2) g3
 refine As (T:=36) (Z:=([bv AS,bv AS,[.slice none 0 0]].flatten)) sv3 rfl rfl rfl (fun a w=>by kernel_rfl) fun a4 w4 Eh Bi g4 z4 AN sv4=>?_
 have Aw:=Ar AG Bi
 have A9:=Ar AJ Bi
 have Br:=Bq HG Bi
 have Bb:=Ax (hr.lt) Bi
 replace AG:=AC g4 AG
 replace AJ:=AC g4 AJ
 replace hr:=hr.kn g4
 replace HG:=AA HG g4
 refine Aa (v:=.int .i64 0) sv4 r6 fun a5 sv5=>?_
 refine AE ?_
 refine k1 _ _ ?_
 refine AIi fun K6 k6=>?_
 refine AIi fun K7 k7=>?_
 cases hv:CE (ks.map VK.p)
 · refine AIh ?_
   refine AL sv5 3 [(8,Ao sa po (.slice ao ks.length cap)),(9,.bool false),(10,.bool true)]
     ⟨yl r6 (BX hsa hpo (.slice ao ks.length cap) rfl) AG,Ad [Ao sa po (.slice ao ks.length cap)] Tryz.func40 (by kernel_rfl) rq4 ⟨(oy rfl rfl),AIo⟩ (Aq fun W g=>RJ hsa hpo (hr.kn g) hv),Cn r6 (fun _=>BV),AIo⟩ fun a8 w8 g8 sv8=>?_
   refine AE ?_
   refine k7 _ _ ?_
   refine Ap sv8 rfl rfl ?_
   refine AIi fun K9 k9=>?_
   refine AIh ?_
   replace AG:=AC g8 AG
   replace AJ:=AC g8 AJ
   replace AN:=AC g8 AN
   refine AL sv8 1 [(11,Ao AS AS (.slice none 0 0))]
     ⟨BI (vs:=[]) rfl rfl trivial trivial (fun _=>bV0 _) (fun _=>rfl),AIo⟩ fun a10 w10 g10 CK=>?_
   refine An CK r7 (BX AR AR (.slice none 0 0) rfl) (AC g10 AN) (by first|rfl|simp[AZ,AI,AQ,AR.1,AR.1]) fun w11 g11 h11=>?_
   replace AG:=Ak g10 g11 AG (Ne.symm Aw)
   replace AJ:=Ak g10 g11 AJ (Ne.symm A9)
   replace hr:=((hr.kn g8).kn g10).offR g11 (AU Bb)
   replace HG:=AD (AA (AA HG g8) g10) g11 Br
   replace AN:=h11
   refine Aa (v:=.int .i64 1) CK r6 fun a12 C6=>?_
   refine AE ?_
   refine k9 _ _ ?_
   refine AIl ?_
   repeat refine AM ?_
   refine A8 (fn:=Tryz.f39) C6 (FV (p:=4) (q:=5) Tryz.results39 C6 rfl rfl rfl rfl (BX AR AR (.slice none 0 0) rfl) AN) ?_
   exact VRes.zero (by unfold KZ;rw[if_neg (by rw[hv];simp)]) HG
 · obtain⟨i,hi⟩:∃i,pos (ks.map VK.p) o=i:=⟨_,rfl⟩
   have h64:ks.length≤64:=by have:=(Dz.1 hv).1;simpa using this
   have hs:=Srt.of hv
   refine AIh ?_
   refine AL sv5 3 [(8,Ao sa po (.slice ao ks.length cap)),(9,.bool true),(10,.bool false)]
     ⟨yl r6 (BX hsa hpo (.slice ao ks.length cap) rfl) AG,Ad [Ao sa po (.slice ao ks.length cap)] Tryz.func40 (by kernel_rfl) rq4 ⟨(oy rfl rfl),AIo⟩ (Aq fun W g=>RJ hsa hpo (hr.kn g) hv),Cn r6 (fun _=>BV),AIo⟩ fun a13 w13 g13 DI=>?_
   refine AE ?_
   refine k7 _ _ ?_
   refine Au DI rfl rfl ?_
   refine AIm ?_
   refine k6 _ _ ?_
   refine AIi fun K14 k14=>?_
   refine AIi fun K15 k15=>?_
   replace AG:=AC g13 AG
   replace AJ:=AC g13 AJ
   replace AN:=AC g13 AN
   replace hr:=hr.kn g13
   replace HG:=AA HG g13
   cases hf:Hd (ks.map VK.p) o
   · refine AIh ?_
     refine AL DI 4 [(12,Ao sa po (.slice ao ks.length cap)),(13,AO o),(14,.int .i64 ((-1))),(15,.bool false)]
       ⟨yl r6 (BX hsa hpo (.slice ao ks.length cap) rfl) AG,yl r6 (Bn o ho.1) AJ,Ad [Ao sa po (.slice ao ks.length cap),AO o] Tryz.func84 (by kernel_rfl) rq4 ⟨(oy rfl rfl),(oy rfl rfl),AIo⟩ (Aq fun W g=>AGn hsa hpo ho (hr.kn g) hv (AGo hf)),Cm r6 (fun _=>Ea (by decide)),AIo⟩ fun a16 w16 g16 Cj=>?_
     refine AE ?_
     refine k15 _ _ ?_
     refine Au Cj rfl rfl ?_
     refine AIm ?_
     refine k14 _ _ ?_
     refine AIi fun K17 k17=>?_
     refine AIi fun K18 k18=>?_
     replace AG:=AC g16 AG
     replace AJ:=AC g16 AJ
     replace AN:=AC g16 AN
     replace hr:=hr.kn g16
     replace HG:=AA HG g16
     by_cases hfull:64≤ks.length
     · refine AIh ?_
       refine AL Cj 4 [(17,pk CC 64),(18,.slice ao ks.length cap),(19,.int .i64 ((ks.length:Nat))),(20,.bool true)]
         ⟨yf r6 (fun _=>by kernel_rfl),yp (i:=2) r6 (Dn (.slice ao ks.length cap) rfl) AG rfl (by simp[AI,AQ,hsa.1,hpo.1]),Bk (Tryz.underlying34) rfl rfl trivial (oy rfl rfl) (fun _=>rfl),Cm r6 (fun _=>Ea (decide_eq_true (by omega))),AIo⟩ fun a19 w19 g19 Dj=>?_
       refine AE ?_
       refine k18 _ _ ?_
       refine Ap Dj rfl rfl ?_
       refine AIi fun K20 k20=>?_
       refine AIh ?_
       replace AG:=AC g19 AG
       replace AJ:=AC g19 AJ
       replace AN:=AC g19 AN
       refine AL Dj 1 [(21,Ao AS AS (.slice none 0 0))]
         ⟨BI (vs:=[]) rfl rfl trivial trivial (fun _=>bV0 _) (fun _=>rfl),AIo⟩ fun a21 w21 g21 DY=>?_
       refine An DY r7 (BX AR AR (.slice none 0 0) rfl) (AC g21 AN) (by first|rfl|simp[AZ,AI,AQ,AR.1,AR.1]) fun w22 g22 h22=>?_
       replace AG:=Ak g21 g22 AG (Ne.symm Aw)
       replace AJ:=Ak g21 g22 AJ (Ne.symm A9)
       replace hr:=((hr.kn g19).kn g21).offR g22 (AU Bb)
       replace HG:=AD (AA (AA HG g19) g21) g22 Br
       replace AN:=h22
       refine Aa (v:=.int .i64 8) DY r6 fun a23 Cg=>?_
       refine AE ?_
       refine k20 _ _ ?_
       refine AIl ?_
       repeat refine AM ?_
       refine A8 (fn:=Tryz.f39) Cg (FV (p:=4) (q:=5) Tryz.results39 Cg rfl rfl rfl rfl (BX AR AR (.slice none 0 0) rfl) AN) ?_
       exact VRes.zero (by unfold KZ;rw[if_pos hv,if_neg (by rw[hf];simp),if_pos (by simpa using hfull)]) HG
     · refine AIh ?_
       refine AL Cj 4 [(17,pk CC 64),(18,.slice ao ks.length cap),(19,.int .i64 ((ks.length:Nat))),(20,.bool false)]
         ⟨yf r6 (fun _=>by kernel_rfl),yp (i:=2) r6 (Dn (.slice ao ks.length cap) rfl) AG rfl (by simp[AI,AQ,hsa.1,hpo.1]),Bk (Tryz.underlying34) rfl rfl trivial (oy rfl rfl) (fun _=>rfl),Cm r6 (fun _=>Ea (decide_eq_false (by omega))),AIo⟩ fun a24 w24 g24 DZ=>?_
       refine AE ?_
       refine k18 _ _ ?_
       refine Au DZ rfl rfl ?_
       refine AIm ?_
       refine k17 _ _ ?_
       refine AIi fun K25 k25=>?_
       replace AG:=AC g24 AG
       replace AJ:=AC g24 AJ
       replace AN:=AC g24 AN
       replace hr:=hr.kn g24
       replace HG:=AA HG g24
       refine DB (DZ.st w24) (by kernel_rfl) 11 [(22,Sp.lit0 w24.heap.size 58),(23,Sp.is (pk CC 64)),(24,Sp.is (.slice ao ks.length cap)),(25,Sp.row w24.heap.size 58 33 ks.length (ks.flatMap AZ)),(26,Sp.is (AO o)),(27,Sp.is (pk CC 32)),(28,Sp.is (AO po)),(29,Sp.is (AO ((kd 275 po)))),(30,Sp.ct w24.heap.size T),(31,Sp.ck w24.heap.size o T),(32,Sp.lit1T w24.heap.size o T)] rfl (by kernel_rfl) (by kernel_rfl) (by kernel_rfl) [] (by kernel_rfl)
         ⟨Rv (t:=0) rfl trivial (Nat.le_refl _) (fun a w=>by kernel_rfl) (fun _ _ h=>h),yf r6 (fun _=>by kernel_rfl),yp (i:=2) r6 (Dn (.slice ao ks.length cap) rfl) AG rfl (by simp[AI,AQ,hsa.1,hpo.1]),Rx (news:=ks.flatMap AZ) Oq rfl rfl trivial rfl (fun _ _ h=>h) (oy rfl rfl) (fun _ g=>(hr.kn g).1.1) (LN ks) (by omega) (Nat.le_refl _) (fun _ _ h=>h),yl r6 (Bn o ho.1) AJ,yf r6 (fun _=>by kernel_rfl),yp (i:=1) r6 (Bn po hpo.1) AG rfl (by simp[AI,AQ,hsa.1,hpo.1]),Ad [.int .u64 275,AO po,.slice none 0 0] Tryz.func35 (by kernel_rfl) rq4 ⟨rfl,(oy rfl rfl),rfl,AIo⟩ (Aq fun W g=>Jk (n:=275) (by decide) rfl hpo W),Ad [AO ((kd 275 po))] Tryz.func85 (by kernel_rfl) rq4 ⟨(oy rfl rfl),AIo⟩ (ABE (BF _ _) hT),KJ rfl rfl trivial rfl (fun W _ av h=>match av,h with|[u,t],⟨h1,h2,_⟩=>ABC ho h1 h2),N1 rfl rfl trivial (Nat.le_refl _) rfl (fun W hw v h=>ABb hw.size h.1),AIo⟩ trivial
         [] (by kernel_rfl) trivial ⟨.inl rfl,.inl rfl,.inl rfl,.inl rfl,.inl rfl,.inl rfl,.inl rfl,.inl rfl,.inl rfl,.inl rfl,.inl rfl,AIo⟩ (by kernel_rfl) fun a26 w26 g26 st26 nd26=>?_
       obtain⟨hn26,hd26,e26_22,e26_23,e26_24,e26_25,e26_26,e26_27,e26_28,e26_29,e26_30,e26_31,e26_32,e26_17,e26_18,e26_19,e26_20,e26_12,e26_13,e26_14,e26_15,e26_8,e26_9,e26_10,e26_5,e26_4,e26_3,e26_2,e26_0,e26_1,-⟩:=st26
       obtain⟨aoW,capW,e26_25q,ow,frW⟩:=e26_25
       obtain⟨V,y,e26_32q,HV,hyo,hyl,rt,frB,geV⟩:=e26_32
       have DR:=CF frW AG
       have I1:=CF frW AJ
       have Dp:=CF frW AN
       have ap_hr_ow:=AEe (hr.lt) frW
       have lo_ow:=JC HG frW
       have I0:=CF frB AG
       have Wt:=CF frB AJ
       have Gp:=CF frB AN
       have My:V≠CC:=Nat.ne_of_gt (Nat.lt_of_lt_of_le (Array.getElem?_eq_some_iff.1 AG).1 geV)
       have Zd:V≠Bo:=Nat.ne_of_gt (Nat.lt_of_lt_of_le (Array.getElem?_eq_some_iff.1 AJ).1 geV)
       have RN:V≠Eh:=Nat.ne_of_gt (Nat.lt_of_lt_of_le (Array.getElem?_eq_some_iff.1 AN).1 geV)
       have lo_V:w.heap.size≤V:=Nat.le_trans HG.size geV
       replace AG:=AC g26 AG
       replace AJ:=AC g26 AJ
       replace AN:=AC g26 AN
       replace hr:=hr.kn g26
       replace HG:=AA HG g26
       have ap_rt_ow:=rt.2.own ow (by decide)
       have CW:Sv 78 [] [(17,_),(18,_),(19,_),(20,_),(12,_),(13,_),(14,_),(15,_),(8,_),(9,_),(10,_),(5,_),(4,_),(3,_),(2,_),(0,_),(1,_),(25,_),(32,_)] a26:=⟨hn26,hd26,e26_17,e26_18,e26_19,e26_20,e26_12,e26_13,e26_14,e26_15,e26_8,e26_9,e26_10,e26_5,e26_4,e26_3,e26_2,e26_0,e26_1,e26_25q,e26_32q,AIo⟩
       refine LM Oq CW rfl rfl rfl rfl rfl rfl rfl rfl ow (ADg HV) (List.all_eq_true.2 (Gg y)) (by omega) fun a27 aoX capX w27 ox CR IC=>?_
       have Gq:∀k,BO (.slice aoX (ks.length+1) capX) k→k≠CC:=fun k hk=>(CR.2 k hk).elim (DR k) (fun h=>Nat.ne_of_gt (Nat.lt_of_lt_of_le (Array.getElem?_eq_some_iff.1 AG).1 h))
       have Gr:∀k,BO (.slice aoX (ks.length+1) capX) k→k≠Bo:=fun k hk=>(CR.2 k hk).elim (I1 k) (fun h=>Nat.ne_of_gt (Nat.lt_of_lt_of_le (Array.getElem?_eq_some_iff.1 AJ).1 h))
       have Eo:∀k,BO (.slice aoX (ks.length+1) capX) k→k≠Eh:=fun k hk=>(CR.2 k hk).elim (Dp k) (fun h=>Nat.ne_of_gt (Nat.lt_of_lt_of_le (Array.getElem?_eq_some_iff.1 AN).1 h))
       have ap_hr_ox:∀k,Je (.slice ao ks.length cap) ks k→¬BO (.slice aoX (ks.length+1) capX) k:=fun k hk hx=>(CR.2 k hx).elim (ap_hr_ow k hk) (fun h=>absurd (hr.lt k hk) (Nat.not_lt.2 h))
       have ap_rt_ox:∀k,Lc (VK.s y) k→¬BO (.slice aoX (ks.length+1) capX) k:=fun k hk hx=>(CR.2 k hx).elim (ap_rt_ow k hk) (fun h=>absurd (rt.lt k hk) (Nat.not_lt.2 h))
       have lo_ox:=WV CR.2 lo_ow HG
       replace AG:=AF CR.1 AG (fun e=>DR _ e.symm rfl)
       replace AJ:=AF CR.1 AJ (fun e=>I1 _ e.symm rfl)
       replace AN:=AF CR.1 AN (fun e=>Dp _ e.symm rfl)
       replace hr:=hr.offR CR.1 (fun k hk e=>ap_hr_ow k hk (e))
       replace rt:=rt.offR CR.1 (fun k hk e=>ap_rt_ow k hk (e))
       replace HG:=CJ HG CR.1 fun k e=>lo_ow k (e)
       rw[ADf] at ox
       refine Aa (v:=.slice aoX (ks.length+1) capX) IC r6 fun a28 Jg=>?_
       refine AE ?_
       have kr:=KsR.snoc hr.2 rt.1
       have DS:∀k,DF (ks++[y]) k→k≠CC:=fun k hk=>(IW hk).elim (fun h=>Wr k (.inr h)) (I0 k)
       have LQ:∀k,DF (ks++[y]) k→k≠Bo:=fun k hk=>(IW hk).elim (fun h=>Ws k (.inr h)) (Wt k)
       have C9:∀k,DF (ks++[y]) k→k≠Eh:=fun k hk=>(IW hk).elim (fun h=>Bb k (.inr h)) (Gp k)
       have ap_kr_ox:∀k,DF (ks++[y]) k→¬BO (.slice aoX (ks.length+1) capX) k:=fun k hk=>(IW hk).elim (fun h=>ap_hr_ox k (.inr h)) (ap_rt_ox k)
       refine k25 _ _ ?_
       refine AIi fun K29 k29=>?_
       refine AIi fun K30 k30=>?_
       refine AIh ?_
       refine AL Jg 3 [(34,.slice aoX (ks.length+1) capX),(35,.int .i64 (((ks.length+1):Nat))),(36,.int .i64 ((ks.length:Int)))]
         ⟨ym r5,Bk (Tryz.underlying34) rfl rfl trivial (oy rfl rfl) (fun _=>rfl),Cm r6 (fun _=>FG (by rw[A1 (by omega) (by omega)];omega)),AIo⟩ fun a31 w31 g31 Gh=>?_
       refine Aa (v:=.int .i64 ((ks.length:Int))) Gh r6 fun a32 Bc=>?_
       refine AE ?_
       refine k30 _ _ ?_
       refine BB fun Q33 x33 y33 r33 o33=>?_
       replace AG:=AC g31 AG
       replace AJ:=AC g31 AJ
       replace AN:=AC g31 AN
       replace hr:=hr.kn g31
       replace rt:=rt.kn g31
       replace ox:=ox.kn g31
       replace kr:=kr.kn g31
       replace HG:=AA HG g31
       have hput0:(ks++[y]).map VK.p=Ft (ks.map VK.p) ks.length (o,T):=by rw[show ks.length=(ks.map VK.p).length from hmap.symm,Zj,List.map_append];simp[VK.p,hyo,hyl]
       refine wp_loop (fun a w'=>∃(q:Nat) (ms:List VK),(q≤ks.length)∧(ms.map VK.p=Ft (ks.map VK.p) q (o,T))∧(ms.length=ks.length+1)∧(∀j,q≤j→j<ks.length→Dy o (od (ks.map VK.p) j)=true)∧(∀b,DF ms b→DF ks b∨Lc y.s b)∧Sv 78 [] [(7,.int .i64 ((q:Int))),(34,.slice aoX (ks.length+1) capX),(35,.int .i64 (((ks.length+1):Nat))),(36,.int .i64 ((ks.length:Int))),(6,.slice aoX (ks.length+1) capX),(33,.slice aoX (ks.length+1) capX),(17,pk CC 64),(18,.slice ao ks.length cap),(19,.int .i64 ((ks.length:Nat))),(20,.bool false),(12,Ao sa po (.slice ao ks.length cap)),(13,AO o),(14,.int .i64 ((-1))),(15,.bool false),(8,Ao sa po (.slice ao ks.length cap)),(9,.bool true),(10,.bool false),(5,.int .i64 0),(4,pt Eh),(3,pt Bo),(2,pt CC),(0,Ao sa po (.slice ao ks.length cap)),(1,AO o),(25,.slice aoW ks.length capW),(32,.slice ((some ⟨V,0,none⟩)) 1 1)] a∧w.grownBy w' none∧w'.heap[CC]?=some (.cells ([bv sa,bv po,[.slice ao ks.length cap]].flatten).toArray 36 (0,0))∧w'.heap[Bo]?=some (.cells (bv o).toArray 23 (0,0))∧w'.heap[Eh]?=some (.cells (([bv AS,bv AS,[.slice none 0 0]].flatten)).toArray 36 (0,0))∧RdK w' (.slice ao ks.length cap) ks∧RdTg w' (VK.s y) y.l∧Own w' 58 33 (.slice aoX (ks.length+1) capX) ((ks.length+1)) (ms.flatMap AZ)∧KsR w' ms∧(∀k,BO (.slice aoX (ks.length+1) capX) k→k≠CC)∧(∀k,BO (.slice aoX (ks.length+1) capX) k→k≠Bo)∧(∀k,BO (.slice aoX (ks.length+1) capX) k→k≠Eh)∧(∀k,Je (.slice ao ks.length cap) ks k→¬BO (.slice aoX (ks.length+1) capX) k)∧(∀k,Lc (VK.s y) k→¬BO (.slice aoX (ks.length+1) capX) k)∧(∀k,DF ms k→¬BO (.slice aoX (ks.length+1) capX) k)∧(∀k,BO (.slice aoX (ks.length+1) capX) k→w.heap.size≤k)∧(∀k,DF ms k→k≠CC)∧(∀k,DF ms k→k≠Bo)∧(∀k,DF ms k→k≠Eh)) (fun a _=>(intOf (a.tmps.getD 7 undef)).toNat) ⟨ks.length,ks++[y],Nat.le_refl _,hput0,by simp,fun j h1 h2=>by omega,fun b h=>IW h,⟨Bc.1,Bc.2.1,Bc.2.2.1,Bc.2.2.2.1,Bc.2.2.2.2.1,Bc.2.2.2.2.2.1,Bc.2.2.2.2.2.2.1,Bc.2.2.2.2.2.2.2.1,(AK Bc).1,(AK Bc).2.1,(AK Bc).2.2.1,(AK Bc).2.2.2.1,(AK Bc).2.2.2.2.1,(AK Bc).2.2.2.2.2.1,(AK Bc).2.2.2.2.2.2.1,(AK Bc).2.2.2.2.2.2.2.1,(AK (AK Bc)).1,(AK (AK Bc)).2.1,(AK (AK Bc)).2.2.1,(AK (AK Bc)).2.2.2.1,(AK (AK Bc)).2.2.2.2.1,(AK (AK Bc)).2.2.2.2.2.1,(AK (AK Bc)).2.2.2.2.2.2.1,(AK (AK Bc)).2.2.2.2.2.2.2.1,(AK (AK (AK Bc))).1,(AK (AK (AK Bc))).2.1,(AK (AK (AK Bc))).2.2.1,AIo⟩,HG,AG,AJ,AN,hr,rt,ox,kr,Gq,Gr,Eo,ap_hr_ox,ap_rt_ox,ap_kr_ox,lo_ox,DS,LQ,C9⟩ fun a34 w34 hI34=>?_
       clear AG
       clear AJ
       clear AN
       clear hr
       clear rt
       clear ox
       clear kr
       clear HG
       obtain⟨q,ms,hkn,hput,hml,haft,hfp,JO,HG,AG,AJ,AN,hr,rt,ox,kr,Gq,Gr,Eo,ap_hr_ox,ap_rt_ox,ap_kr_ox,lo_ox,DS,LQ,C9⟩:=hI34
       refine AIi fun K35 k35=>?_
       refine AIi fun K36 k36=>?_
       have hkm:q<ms.length:=by omega
       have hkm1:q-1<ms.length:=by omega
       obtain⟨a1,Jn⟩:∃x,ms[q]'hkm=x:=⟨_,rfl⟩
       obtain⟨b1,JD⟩:∃x,ms[(q-1)]'hkm1=x:=⟨_,rfl⟩
       have hao:=AGr hput (by omega) hkm Jn
       rcases(show q=0∨(0<q∧Dy a1.o b1.o=true)∨(0<q∧Dy a1.o b1.o=false) by rcases Nat.eq_zero_or_pos q with h|h<;>cases Dy a1.o b1.o<;>simp[h]) with hk0|⟨hk0,hc⟩|⟨hk0,hc⟩
       · have hpos:=Um hs hf (by omega) (fun j h1 h2=>haft j h1 (by omega)) (.inl hk0)
         refine Cv JO [(37,.int .i64 ((q:Int))),(38,.bool false),(39,.bool false),(40,undef),(41,undef),(42,undef),(43,undef),(44,undef),(45,undef),(46,undef),(47,undef),(48,undef),(49,undef),(50,undef),(51,undef),(52,.bool false)]
          ⟨ym r5,Cm r6 (fun _=>Cp (decide_eq_false (by omega))),ym r5,AX r6,AX r6,AX r6,AX r6,AX r6,AX r6,AX r6,AX r6,AX r6,AX r6,AX r6,AX r6,B6 r7,AIo⟩ fun a37 w37 g37 F6=>?_
         refine k36 _ _ ?_
         refine Au F6 rfl rfl ?_
         refine wp_exit ?_
         repeat refine CD ?_
         refine x33 _ _ ?_
         refine k29 _ _ ?_
         refine AIi fun K38 k38=>?_
         replace AG:=AC g37 AG
         replace AJ:=AC g37 AJ
         replace AN:=AC g37 AN
         refine DB (F6.st w37) (by kernel_rfl) 7 [(71,Sp.is (pt CC)),(72,Sp.is (AO sa)),(73,Sp.is (pk CC 32)),(74,Sp.is (AO po)),(75,Sp.is (AO ((kd 276 po)))),(76,Sp.is (.slice aoX (ks.length+1) capX)),(77,Sp.is (Ao sa ((kd 276 po)) (.slice aoX (ks.length+1) capX)))] rfl (by kernel_rfl) (by kernel_rfl) (by kernel_rfl) [] (by kernel_rfl)
          ⟨yf r6 (fun _=>by kernel_rfl),yp (i:=0) r6 (Bn sa hsa.1) AG rfl rfl,yf r6 (fun _=>by kernel_rfl),yp (i:=1) r6 (Bn po hpo.1) AG rfl (by simp[AI,AQ,hsa.1,hpo.1]),Ad [.int .u64 276,AO po,.slice none 0 0] Tryz.func35 (by kernel_rfl) rq4 ⟨rfl,(oy rfl rfl),rfl,AIo⟩ (Aq fun W g=>Jk (n:=276) (by decide) rfl hpo W),ym r5,BI (vs:=[AO sa,AO ((kd 276 po)),.slice aoX (ks.length+1) capX]) rfl rfl trivial ⟨(oy rfl rfl),(oy rfl rfl),(oy rfl rfl),AIo⟩ (fun _=>bV3 hsa (BF _ _) _ _ _ _) (fun _=>rfl),AIo⟩ trivial
          [] (by kernel_rfl) trivial ⟨.inl rfl,.inl rfl,.inl rfl,.inl rfl,.inl rfl,.inl rfl,.inl rfl,AIo⟩ (by kernel_rfl) fun a39 w39 g39 st39 nd39=>?_
         obtain⟨hn39,hd39,e39_71,e39_72,e39_73,e39_74,e39_75,e39_76,e39_77,e39_37,e39_38,e39_39,e39_40,e39_41,e39_42,e39_43,e39_44,e39_45,e39_46,e39_47,e39_48,e39_49,e39_50,e39_51,e39_52,e39_7,e39_34,e39_35,e39_36,e39_6,e39_33,e39_17,e39_18,e39_19,e39_20,e39_12,e39_13,e39_14,e39_15,e39_8,e39_9,e39_10,e39_5,e39_4,e39_3,e39_2,e39_0,e39_1,e39_25,e39_32,-⟩:=st39
         have Jh:Sv 78 [] [(37,_),(38,_),(39,_),(40,_),(41,_),(42,_),(43,_),(44,_),(45,_),(46,_),(47,_),(48,_),(49,_),(50,_),(51,_),(52,_),(7,_),(34,_),(35,_),(36,_),(6,_),(33,_),(17,_),(18,_),(19,_),(20,_),(12,_),(13,_),(14,_),(15,_),(8,_),(9,_),(10,_),(5,_),(4,_),(3,_),(2,_),(0,_),(1,_),(25,_),(32,_),(77,_)] a39:=⟨hn39,hd39,e39_37,e39_38,e39_39,e39_40,e39_41,e39_42,e39_43,e39_44,e39_45,e39_46,e39_47,e39_48,e39_49,e39_50,e39_51,e39_52,e39_7,e39_34,e39_35,e39_36,e39_6,e39_33,e39_17,e39_18,e39_19,e39_20,e39_12,e39_13,e39_14,e39_15,e39_8,e39_9,e39_10,e39_5,e39_4,e39_3,e39_2,e39_0,e39_1,e39_25,e39_32,e39_77,AIo⟩
         refine An Jh r7 (BX hsa (BF _ _) (.slice aoX (ks.length+1) capX) rfl) (AC g39 AN) (by first|rfl|simp[AZ,AI,AQ,hsa.1,(BF _ _).1]) fun w40 g40 h40=>?_
         replace AG:=Ak g39 g40 AG (Ne.symm Aw)
         replace AJ:=Ak g39 g40 AJ (Ne.symm A9)
         replace hr:=((hr.kn g37).kn g39).offR g40 (AU Bb)
         replace rt:=((rt.kn g37).kn g39).offR g40 (AU Gp)
         replace ox:=((ox.kn g37).kn g39).offR g40 (AU Eo)
         replace kr:=((kr.kn g37).kn g39).offR g40 (AU C9)
         replace HG:=AD (AA (AA HG g37) g39) g40 Br
         replace AN:=h40
         refine Aa (v:=.int .i64 0) Jh r6 fun a41 JP=>?_
         refine AE ?_
         refine k38 _ _ ?_
         refine AIl ?_
         repeat refine AM ?_
         refine A8 (fn:=Tryz.f39) JP (FV (p:=4) (q:=5) Tryz.results39 JP rfl rfl rfl rfl (BX hsa (BF _ _) (.slice aoX (ks.length+1) capX) rfl) AN) ?_
         exact VRes.mk2 (P:=LG (ks.map VK.p) o T) (by unfold KZ;rw[if_pos hv,if_neg (by rw[hf];simp),if_neg (by simpa using hfull)]) (by rw[Lp,hpos];exact hput) ox kr (fun k hk=>(hfp k hk).elim (fun h=>.inl (.inr h)) (fun h=>.inr (rt.2 k h))) HG
       · have hbo:=ABc hput (by omega) hk0 hkm1 JD
         have hc2:Dy o (od (ks.map VK.p) (q-1))=true:=by rw[←hao,←hbo];exact hc
         refine Cv JO [(37,.int .i64 ((q:Int))),(38,.bool true),(39,.bool true),(40,.slice aoX (ks.length+1) capX),(41,.int .i64 ((q:Int))),(42,pk ((bO aoX)) (oO aoX+q*33)),(43,pk ((bO aoX)) (oO aoX+q*33)),(44,AO a1.o),(45,.slice aoX (ks.length+1) capX),(46,.int .i64 ((q:Int))),(47,.int .i64 (((q-1:Nat):Int))),(48,pk ((bO aoX)) (oO aoX+(q-1)*33)),(49,pk ((bO aoX)) (oO aoX+(q-1)*33)),(50,AO b1.o),(51,.bool true),(52,.bool true)]
          ⟨ym r5,Cm r6 (fun _=>Cp (decide_eq_true (by omega))),ym r5,Av rq8,Av rq8,Ce rfl rfl (gy rfl rfl rfl) (oy rfl rfl) (oy rfl rfl) (fun w=>CM Tryz.underlying34 (by kernel_rfl) (Sl.of_own ox) (by omega) (rfl) w) (fun _=>rfl),BL rq9 (fun _=>by kernel_rfl),Az rq9 (fun _ g=>Ae (Bn a1.o a1.ho.1) (KO (Sl.of_own (ox.kn g)) hkm Jn)),Av rq8,Av rq8,BA rq9 (fun _=>FG (by rw[A1 (by omega) (by omega)];omega)),Ce rfl rfl (gy rfl rfl rfl) (oy rfl rfl) (oy rfl rfl) (fun w=>CM Tryz.underlying34 (by kernel_rfl) (Sl.of_own ox) (by omega) (rfl) w) (fun _=>rfl),BL rq9 (fun _=>by kernel_rfl),Az rq9 (fun _ g=>Ae (Bn b1.o b1.ho.1) (KO (Sl.of_own (ox.kn g)) hkm1 JD)),CG [AO a1.o,AO b1.o] Tryz.func86 (by kernel_rfl) r7 ⟨(oy rfl rfl),(oy rfl rfl),AIo⟩ (Aq fun W g=>ABe hc a1.ho b1.ho W),A3 rq9,AIo⟩ fun a42 w42 g42 Gi=>?_
         refine k36 _ _ ?_
         refine Ap Gi rfl rfl ?_
         refine AIm ?_
         refine k35 _ _ ?_
         refine AIi fun K43 k43=>?_
         refine BB fun Q44 x44 y44 r44 o44=>?_
         replace ox:=ox.kn g42
         refine DB (Gi.st w42) (by kernel_rfl) 15 [(55,Sp.is (.slice aoX (ks.length+1) capX)),(56,Sp.is (.int .i64 ((q:Int)))),(57,Sp.is (.int .i64 (((q-1:Nat):Int)))),(58,Sp.is (.slice aoX (ks.length+1) capX)),(59,Sp.is (.int .i64 ((q:Int)))),(60,Sp.is (.slice aoX (ks.length+1) capX)),(61,Sp.is (.int .i64 ((q:Int)))),(62,Sp.is (pk ((bO aoX)) (oO aoX+q*33))),(63,Sp.is (F4 a1)),(64,Sp.is (.slice aoX (ks.length+1) capX)),(65,Sp.is (.int .i64 ((q:Int)))),(66,Sp.is (.int .i64 (((q-1:Nat):Int)))),(67,Sp.is (pk ((bO aoX)) (oO aoX+(q-1)*33))),(68,Sp.is (F4 b1)),(69,Sp.is (pk ((bO aoX)) (oO aoX+(q-1)*33)))] rfl (by kernel_rfl) (by kernel_rfl) (by kernel_rfl) [3,4] (by kernel_rfl)
          ⟨ym r5,ym r5,Cm r6 (fun _=>FG (by rw[A1 (by omega) (by omega)];omega)),ym r5,ym r5,ym r5,ym r5,BD rq8 (fun w=>CM Tryz.underlying34 (by kernel_rfl) (Sl.of_own ox) (by omega) (rfl) w),Bv r6 (fun _ g=>Ae (Ry a1) (Wc (Sl.of_own (ox.kn g)) hkm Jn)),ym r5,ym r5,Cm r6 (fun _=>FG (by rw[A1 (by omega) (by omega)];omega)),BD rq8 (fun w=>CM Tryz.underlying34 (by kernel_rfl) (Sl.of_own ox) (by omega) (rfl) w),Bv r6 (fun _ g=>Ae (Ry b1) (Wc (Sl.of_own (ox.kn g)) hkm1 JD)),BD rq8 (fun w=>CM Tryz.underlying34 (by kernel_rfl) (Sl.of_own ox) (by omega) (rfl) w),AIo⟩ ⟨fun o ho=>by obtain rfl:=Option.some.inj ho;exact N3 6 58 (.inl rfl) rfl rfl trivial (fun _ _ h=>h),fun o ho=>by obtain rfl:=Option.some.inj ho;exact N3 7 59 (.inl rfl) rfl rfl trivial (fun _ _ h=>h),AIo⟩
          [] (by kernel_rfl) trivial ⟨.inl rfl,.inl rfl,.inl rfl,.inl rfl,.inl rfl,.inl rfl,.inl rfl,.inl rfl,.inl rfl,.inl rfl,.inl rfl,.inl rfl,.inl rfl,.inl rfl,.inl rfl,AIo⟩ (by kernel_rfl) fun a45 w45 g45 st45 nd45=>?_
         obtain⟨hn45,hd45,e45_55,e45_56,e45_57,e45_58,e45_59,e45_60,e45_61,e45_62,e45_63,e45_64,e45_65,e45_66,e45_67,e45_68,e45_69,e45_37,e45_38,e45_39,e45_40,e45_41,e45_42,e45_43,e45_44,e45_45,e45_46,e45_47,e45_48,e45_49,e45_50,e45_51,e45_52,e45_7,e45_34,e45_35,e45_36,e45_6,e45_33,e45_17,e45_18,e45_19,e45_20,e45_12,e45_13,e45_14,e45_15,e45_8,e45_9,e45_10,e45_5,e45_4,e45_3,e45_2,e45_0,e45_1,e45_25,e45_32,-⟩:=st45
         have Ec:Sv 78 [] [(37,_),(38,_),(39,_),(40,_),(41,_),(42,_),(43,_),(44,_),(45,_),(46,_),(47,_),(48,_),(49,_),(50,_),(51,_),(52,_),(7,_),(34,_),(35,_),(36,_),(6,_),(33,_),(17,_),(18,_),(19,_),(20,_),(12,_),(13,_),(14,_),(15,_),(8,_),(9,_),(10,_),(5,_),(4,_),(3,_),(2,_),(0,_),(1,_),(25,_),(32,_),(58,_),(59,_),(63,_),(68,_),(69,_)] a45:=⟨hn45,hd45,e45_37,e45_38,e45_39,e45_40,e45_41,e45_42,e45_43,e45_44,e45_45,e45_46,e45_47,e45_48,e45_49,e45_50,e45_51,e45_52,e45_7,e45_34,e45_35,e45_36,e45_6,e45_33,e45_17,e45_18,e45_19,e45_20,e45_12,e45_13,e45_14,e45_15,e45_8,e45_9,e45_10,e45_5,e45_4,e45_3,e45_2,e45_0,e45_1,e45_25,e45_32,e45_58,e45_59,e45_63,e45_68,e45_69,AIo⟩
         replace ox:=ox.kn g45
         refine Ik (c:=AZ) (el:=a1) Ec rfl rfl rfl rfl rfl rfl rfl (Ry a1) ox Ct (by decide) (by first|omega|(simp only[List.length_set];omega)) rfl fun w46 g46 h46=>?_
         replace AG:=AF g46 (AC g45 (AC g42 AG)) (fun e=>Gq _ (C3 (j:=(q-1)) ox (by omega) rfl) (Option.some.inj e).symm)
         replace AJ:=AF g46 (AC g45 (AC g42 AJ)) (fun e=>Gr _ (C3 (j:=(q-1)) ox (by omega) rfl) (Option.some.inj e).symm)
         replace AN:=AF g46 (AC g45 (AC g42 AN)) (fun e=>Eo _ (C3 (j:=(q-1)) ox (by omega) rfl) (Option.some.inj e).symm)
         replace hr:=((hr.kn g42).kn g45).offR g46 (fun k hk e=>ap_hr_ox k hk (C3 (j:=(q-1)) ox (by omega) e))
         replace rt:=((rt.kn g42).kn g45).offR g46 (fun k hk e=>ap_rt_ox k hk (C3 (j:=(q-1)) ox (by omega) e))
         replace kr:=((kr.kn g42).kn g45).offR g46 (fun k hk e=>ap_kr_ox k hk (C3 (j:=(q-1)) ox (by omega) e))
         replace HG:=CJ (AA (AA HG g42) g45) g46 fun k e=>lo_ox k (C3 (j:=(q-1)) ox (by omega) e)
         replace ox:=h46
         refine AL Ec 1 [(70,pk ((bO aoX)) (oO aoX+q*33))]
          ⟨BD rq8 (fun w=>CM Tryz.underlying34 (by kernel_rfl) (Sl.of_own ox) (by omega) (rfl) w),AIo⟩ fun a47 w47 g47 Jl=>?_
         replace ox:=ox.kn g47
         refine Ik (c:=AZ) (el:=b1) Jl rfl rfl rfl rfl rfl rfl rfl (Ry b1) ox Ct (by decide) (by first|omega|(simp only[List.length_set];omega)) rfl fun w48 g48 h48=>?_
         replace AG:=AF g48 (AC g47 AG) (fun e=>Gq _ (C3 (j:=q) ox (by omega) rfl) (Option.some.inj e).symm)
         replace AJ:=AF g48 (AC g47 AJ) (fun e=>Gr _ (C3 (j:=q) ox (by omega) rfl) (Option.some.inj e).symm)
         replace AN:=AF g48 (AC g47 AN) (fun e=>Eo _ (C3 (j:=q) ox (by omega) rfl) (Option.some.inj e).symm)
         replace hr:=(hr.kn g47).offR g48 (fun k hk e=>ap_hr_ox k hk (C3 (j:=q) ox (by omega) e))
         replace rt:=(rt.kn g47).offR g48 (fun k hk e=>ap_rt_ox k hk (C3 (j:=q) ox (by omega) e))
         replace kr:=(kr.kn g47).offR g48 (fun k hk e=>ap_kr_ox k hk (C3 (j:=q) ox (by omega) e))
         replace HG:=CJ (AA HG g47) g48 fun k e=>lo_ox k (C3 (j:=q) ox (by omega) e)
         have Ki:Sv _ _ [_,_,_,_,_,_,_,_,_,_,_,_,_,_,_,_,_,_,_,_,_,_,_,_,_,_,_,_,_,_,_,_,_,_,_,_,_,_,_,_,_] _:=Jl.dl [70,58,59,63,68,69]
         refine AE ?_
         have kr2:=kr.sub (ns:=(ms.set (q-1) a1).set q b1) fun x hx=>KP hkm hkm1 Jn JD hx
         have Un:∀k,DF ((ms.set (q-1) a1).set q b1) k→k≠CC:=fun k hk=>DS k (Jm (fun x hx=>KP hkm hkm1 Jn JD hx) hk)
         have Uo:∀k,DF ((ms.set (q-1) a1).set q b1) k→k≠Bo:=fun k hk=>LQ k (Jm (fun x hx=>KP hkm hkm1 Jn JD hx) hk)
         have Up:∀k,DF ((ms.set (q-1) a1).set q b1) k→k≠Eh:=fun k hk=>C9 k (Jm (fun x hx=>KP hkm hkm1 Jn JD hx) hk)
         have ap_kr2_ox:∀k,DF ((ms.set (q-1) a1).set q b1) k→¬BO (.slice aoX (ks.length+1) capX) k:=fun k hk=>ap_kr_ox k (Jm (fun x hx=>KP hkm hkm1 Jn JD hx) hk)
         refine y44 _ _ ?_
         refine k43 _ _ ?_
         refine AIh ?_
         refine AL Ki 2 [(53,.int .i64 ((q:Int))),(54,.int .i64 (((q-1:Nat):Int)))]
          ⟨ym r5,Cm r6 (fun _=>FG (by rw[A1 (by omega) (by omega)];omega)),AIo⟩ fun a50 w50 g50 Ox=>?_
         refine Aa (v:=.int .i64 (((q-1:Nat):Int))) Ox r6 fun a51 CT=>?_
         refine AE ?_
         replace AG:=AC g50 AG
         replace AJ:=AC g50 AJ
         replace AN:=AC g50 AN
         replace hr:=hr.kn g50
         replace rt:=rt.kn g50
         replace ox:=h48.kn g50
         replace kr2:=kr2.kn g50
         replace HG:=AA HG g50
         exact⟨⟨q-1,(ms.set (q-1) a1).set q b1,by omega,ABd hput (by omega) hk0 hkm hkm1 Jn JD,by rw[List.length_set,List.length_set];exact hml,fun j h1 h2=>if e:j=q-1 then e▸hc2 else haft j (by omega) h2,fun b h=>hfp b (Jm (fun x hx=>KP hkm hkm1 Jn JD hx) h),⟨CT.1,CT.2.1,CT.2.2.1,(AK (AK CT)).2.2.2.2.2.1,(AK (AK CT)).2.2.2.2.2.2.1,(AK (AK CT)).2.2.2.2.2.2.2.1,(AK (AK (AK CT))).1,(AK (AK (AK CT))).2.1,(AK (AK (AK CT))).2.2.1,(AK (AK (AK CT))).2.2.2.1,(AK (AK (AK CT))).2.2.2.2.1,(AK (AK (AK CT))).2.2.2.2.2.1,(AK (AK (AK CT))).2.2.2.2.2.2.1,(AK (AK (AK CT))).2.2.2.2.2.2.2.1,(AK (AK (AK (AK CT)))).1,(AK (AK (AK (AK CT)))).2.1,(AK (AK (AK (AK CT)))).2.2.1,(AK (AK (AK (AK CT)))).2.2.2.1,(AK (AK (AK (AK CT)))).2.2.2.2.1,(AK (AK (AK (AK CT)))).2.2.2.2.2.1,(AK (AK (AK (AK CT)))).2.2.2.2.2.2.1,(AK (AK (AK (AK CT)))).2.2.2.2.2.2.2.1,(AK (AK (AK (AK (AK CT))))).1,(AK (AK (AK (AK (AK CT))))).2.1,(AK (AK (AK (AK (AK CT))))).2.2.1,(AK (AK (AK (AK (AK CT))))).2.2.2.1,(AK (AK (AK (AK (AK CT))))).2.2.2.2.1,AIo⟩,HG,AG,AJ,AN,hr,rt,ox,kr2,Gq,Gr,Eo,ap_hr_ox,ap_rt_ox,ap_kr2_ox,lo_ox,Un,Uo,Up⟩,by rw[show _=_ from CT.2.2.1,show _=_ from JO.2.2.1];simp[intOf];omega⟩
       · have hbo:=ABc hput (by omega) hk0 hkm1 JD
         have hpos:=Um hs hf (by omega) (fun j h1 h2=>haft j h1 (by omega)) (.inr (by rw[←hao,←hbo];exact hc))
         refine Cv JO [(37,.int .i64 ((q:Int))),(38,.bool true),(39,.bool true),(40,.slice aoX (ks.length+1) capX),(41,.int .i64 ((q:Int))),(42,pk ((bO aoX)) (oO aoX+q*33)),(43,pk ((bO aoX)) (oO aoX+q*33)),(44,AO a1.o),(45,.slice aoX (ks.length+1) capX),(46,.int .i64 ((q:Int))),(47,.int .i64 (((q-1:Nat):Int))),(48,pk ((bO aoX)) (oO aoX+(q-1)*33)),(49,pk ((bO aoX)) (oO aoX+(q-1)*33)),(50,AO b1.o),(51,.bool false),(52,.bool false)]
          ⟨ym r5,Cm r6 (fun _=>Cp (decide_eq_true (by omega))),ym r5,Av rq8,Av rq8,Ce rfl rfl (gy rfl rfl rfl) (oy rfl rfl) (oy rfl rfl) (fun w=>CM Tryz.underlying34 (by kernel_rfl) (Sl.of_own ox) (by omega) (rfl) w) (fun _=>rfl),BL rq9 (fun _=>by kernel_rfl),Az rq9 (fun _ g=>Ae (Bn a1.o a1.ho.1) (KO (Sl.of_own (ox.kn g)) hkm Jn)),Av rq8,Av rq8,BA rq9 (fun _=>FG (by rw[A1 (by omega) (by omega)];omega)),Ce rfl rfl (gy rfl rfl rfl) (oy rfl rfl) (oy rfl rfl) (fun w=>CM Tryz.underlying34 (by kernel_rfl) (Sl.of_own ox) (by omega) (rfl) w) (fun _=>rfl),BL rq9 (fun _=>by kernel_rfl),Az rq9 (fun _ g=>Ae (Bn b1.o b1.ho.1) (KO (Sl.of_own (ox.kn g)) hkm1 JD)),CG [AO a1.o,AO b1.o] Tryz.func86 (by kernel_rfl) r7 ⟨(oy rfl rfl),(oy rfl rfl),AIo⟩ (Aq fun W g=>ABe hc a1.ho b1.ho W),A3 rq9,AIo⟩ fun a52 w52 g52 Nk=>?_
         refine k36 _ _ ?_
         refine Au Nk rfl rfl ?_
         refine wp_exit ?_
         repeat refine CD ?_
         refine x33 _ _ ?_
         refine k29 _ _ ?_
         refine AIi fun K53 k53=>?_
         replace AG:=AC g52 AG
         replace AJ:=AC g52 AJ
         replace AN:=AC g52 AN
         refine DB (Nk.st w52) (by kernel_rfl) 7 [(71,Sp.is (pt CC)),(72,Sp.is (AO sa)),(73,Sp.is (pk CC 32)),(74,Sp.is (AO po)),(75,Sp.is (AO ((kd 276 po)))),(76,Sp.is (.slice aoX (ks.length+1) capX)),(77,Sp.is (Ao sa ((kd 276 po)) (.slice aoX (ks.length+1) capX)))] rfl (by kernel_rfl) (by kernel_rfl) (by kernel_rfl) [] (by kernel_rfl)
          ⟨yf r6 (fun _=>by kernel_rfl),yp (i:=0) r6 (Bn sa hsa.1) AG rfl rfl,yf r6 (fun _=>by kernel_rfl),yp (i:=1) r6 (Bn po hpo.1) AG rfl (by simp[AI,AQ,hsa.1,hpo.1]),Ad [.int .u64 276,AO po,.slice none 0 0] Tryz.func35 (by kernel_rfl) rq4 ⟨rfl,(oy rfl rfl),rfl,AIo⟩ (Aq fun W g=>Jk (n:=276) (by decide) rfl hpo W),ym r5,BI (vs:=[AO sa,AO ((kd 276 po)),.slice aoX (ks.length+1) capX]) rfl rfl trivial ⟨(oy rfl rfl),(oy rfl rfl),(oy rfl rfl),AIo⟩ (fun _=>bV3 hsa (BF _ _) _ _ _ _) (fun _=>rfl),AIo⟩ trivial
          [] (by kernel_rfl) trivial ⟨.inl rfl,.inl rfl,.inl rfl,.inl rfl,.inl rfl,.inl rfl,.inl rfl,AIo⟩ (by kernel_rfl) fun a54 w54 g54 st54 nd54=>?_
         obtain⟨hn54,hd54,e54_71,e54_72,e54_73,e54_74,e54_75,e54_76,e54_77,e54_37,e54_38,e54_39,e54_40,e54_41,e54_42,e54_43,e54_44,e54_45,e54_46,e54_47,e54_48,e54_49,e54_50,e54_51,e54_52,e54_7,e54_34,e54_35,e54_36,e54_6,e54_33,e54_17,e54_18,e54_19,e54_20,e54_12,e54_13,e54_14,e54_15,e54_8,e54_9,e54_10,e54_5,e54_4,e54_3,e54_2,e54_0,e54_1,e54_25,e54_32,-⟩:=st54
         have Nl:Sv 78 [] [(37,_),(38,_),(39,_),(40,_),(41,_),(42,_),(43,_),(44,_),(45,_),(46,_),(47,_),(48,_),(49,_),(50,_),(51,_),(52,_),(7,_),(34,_),(35,_),(36,_),(6,_),(33,_),(17,_),(18,_),(19,_),(20,_),(12,_),(13,_),(14,_),(15,_),(8,_),(9,_),(10,_),(5,_),(4,_),(3,_),(2,_),(0,_),(1,_),(25,_),(32,_),(77,_)] a54:=⟨hn54,hd54,e54_37,e54_38,e54_39,e54_40,e54_41,e54_42,e54_43,e54_44,e54_45,e54_46,e54_47,e54_48,e54_49,e54_50,e54_51,e54_52,e54_7,e54_34,e54_35,e54_36,e54_6,e54_33,e54_17,e54_18,e54_19,e54_20,e54_12,e54_13,e54_14,e54_15,e54_8,e54_9,e54_10,e54_5,e54_4,e54_3,e54_2,e54_0,e54_1,e54_25,e54_32,e54_77,AIo⟩
         refine An Nl r7 (BX hsa (BF _ _) (.slice aoX (ks.length+1) capX) rfl) (AC g54 AN) (by first|rfl|simp[AZ,AI,AQ,hsa.1,(BF _ _).1]) fun w55 g55 h55=>?_
         replace AG:=Ak g54 g55 AG (Ne.symm Aw)
         replace AJ:=Ak g54 g55 AJ (Ne.symm A9)
         replace hr:=((hr.kn g52).kn g54).offR g55 (AU Bb)
         replace rt:=((rt.kn g52).kn g54).offR g55 (AU Gp)
         replace ox:=((ox.kn g52).kn g54).offR g55 (AU Eo)
         replace kr:=((kr.kn g52).kn g54).offR g55 (AU C9)
         replace HG:=AD (AA (AA HG g52) g54) g55 Br
         replace AN:=h55
         refine Aa (v:=.int .i64 0) Nl r6 fun a56 QG=>?_
         refine AE ?_
         refine k53 _ _ ?_
         refine AIl ?_
         repeat refine AM ?_
         refine A8 (fn:=Tryz.f39) QG (FV (p:=4) (q:=5) Tryz.results39 QG rfl rfl rfl rfl (BX hsa (BF _ _) (.slice aoX (ks.length+1) capX) rfl) AN) ?_
         exact VRes.mk2 (P:=LG (ks.map VK.p) o T) (by unfold KZ;rw[if_pos hv,if_neg (by rw[hf];simp),if_neg (by simpa using hfull)]) (by rw[Lp,hpos];exact hput) ox kr (fun k hk=>(hfp k hk).elim (fun h=>.inl (.inr h)) (fun h=>.inr (rt.2 k h))) HG
   · refine AIh ?_
     refine AL DI 4 [(12,Ao sa po (.slice ao ks.length cap)),(13,AO o),(14,.int .i64 ((i:Int))),(15,.bool true)]
       ⟨yl r6 (BX hsa hpo (.slice ao ks.length cap) rfl) AG,yl r6 (Bn o ho.1) AJ,Ad [Ao sa po (.slice ao ks.length cap),AO o] Tryz.func84 (by kernel_rfl) rq4 ⟨(oy rfl rfl),(oy rfl rfl),AIo⟩ (Aq fun W g=>AGn hsa hpo ho (hr.kn g) hv (AFe hf hi)),Cm r6 (fun _=>Ea (decide_eq_true (by omega))),AIo⟩ fun a57 w57 g57 Wu=>?_
     refine AE ?_
     refine k15 _ _ ?_
     refine Ap Wu rfl rfl ?_
     refine AIi fun K58 k58=>?_
     refine AIh ?_
     refine AL Wu 1 [(16,Ao sa po (.slice ao ks.length cap))]
       ⟨yl r6 (BX hsa hpo (.slice ao ks.length cap) rfl) (AC g57 AG),AIo⟩ fun a59 w59 g59 EE=>?_
     have L8:=AA g57 g59
     refine An EE r7 (BX hsa hpo (.slice ao ks.length cap) rfl) (AC L8 AN) (by first|rfl|simp[AZ,AI,AQ,hsa.1,hpo.1]) fun w60 g60 h60=>?_
     replace hr:=(hr.kn L8).offR g60 (AU Bb)
     replace HG:=AD (AA HG L8) g60 Br
     replace AN:=h60
     refine Aa (v:=.int .i64 0) EE r6 fun a61 Mz=>?_
     refine AE ?_
     refine k58 _ _ ?_
     refine AIl ?_
     repeat refine AM ?_
     refine A8 (fn:=Tryz.f39) Mz (FV (p:=4) (q:=5) Tryz.results39 Mz rfl rfl rfl rfl (BX hsa hpo (.slice ao ks.length cap) rfl) AN) ?_
     exact VRes.same (P:=ks.map VK.p) (by unfold KZ;rw[if_pos hv,if_pos hf]) rfl hr (fun k hk=>hk) HG
end Go.Proofs.YtbfjfnbcmojpiaaGreat
namespace Go.Proofs.YtbfjfnbcmojpiaaGreat
open Go.RowKit
section
variable {P:Program} {ops:Array Oper} {S:World→Prop} {Kt:Act→Prop} {o:Oper} {r:List Oper} {a:Act} {n:Nat} {D:List Deferred} {K:List (Nat×Value)}
theorem ADh (sv:Sv n D K a) (hgd:o.guard=none) {T:TypeId} {x:Operand} {d:Nat} {p v:Value} (ho:o.op=.load T x) (hd:o.dst=some d) (hdn:decide (d<n)=true) (hx:LK K x=true∧LL K x=p) (hr:∀w,S w→(Instr.loadAt T p).run P w=.ok v w)
  (h:∀a',Sv n D ((d,v)::IS d K) a'→Fy P ops S Kt r a'):Fy P ops S Kt (o::r) a:=
 ZD hgd T x ho (sv.ev hx.1 hx.2) hr (by rw[hd];exact h _ (sv.put (of_decide_eq_true hdn) v))
theorem AEj (w0:World) (sv:Sv n D K a) {v:Value} {d:Nat} (hd:o.dst=some d) (hc:(decide (d<n)&&!(o.looksAt ops).contains d)=true) (hp:PX P ops (Pl ((d,Sp.is v)::Og K)) n w0 o)
  (h:∀a',Sv n D ((d,v)::IS d K) a'→Fy P ops S Kt r a'):Fy P ops S Kt (o::r) a:=by
 simp only[Bool.and_eq_true,decide_eq_true_eq,Bool.not_eq_true'] at hc
 obtain⟨u,hy,hu⟩:=hp a w0 (World.grownBy.refl _ _) (fun t ht htn=>by
  have hne:(Nat.beq d t)=false:=by
   cases e:Nat.beq d t with
   | false=>rfl
   | true =>
    have:=Nat.eq_of_beq_eq_true e
    subst this
    have h2:=hc.2
    rw[←Bool.not_eq_true,List.contains_iff_mem] at h2
    exact absurd ht h2
  have h1:=(sv.st w0).2.2.at t
  unfold Pl
  rw[hne]
  exact h1) sv.1
 have e:u=v:=by
  have:=hu d hd
  unfold Pl at this
  have hb:Nat.beq d d=true:=Nat.beq_refl d
  rw[hb] at this
  exact this
 subst e
 exact⟨_,hy.yieldsIf,by rw[hd];exact h _ (sv.put hc.1 _)⟩
end
section
variable {w w':World} {s v:Value} {l:List Nd}
end
end Go.Proofs.YtbfjfnbcmojpiaaGreat
namespace Go.Proofs.YtbfjfnbcmojpiaaGreat
open Go.RowKit Go.Shelf
theorem AE8 (n:Nat):∀b∈Qw n,b<256:=by
 induction n using Nat.strongRecOn with
 | _ n ih =>
  by_cases h:n<128
  · rw[FS h];intro b hb;simp at hb;omega
  · rw[Ie h]
    intro b hb
    rcases List.mem_cons.1 hb with rfl|hb
    · omega
    · exact ih (n/128) (by omega) b hb
theorem OM (n:Int):∀b∈enc n,b<256:=AE8 _
theorem ACk (s:ByteArray):∀b∈Vu s,b<256:=fun b hb=>by
 rcases List.mem_append.1 hb with h|h
 · exact OM _ b h
 · exact AES s b h
theorem ACl (v:V):∀b∈Pp v,b<256:=fun b hb=>by
 unfold Pp at hb
 rcases List.mem_append.1 hb with h|h
 · exact OM _ b h
 · split at h
   · exact OM _ b h
   · split at h
     · exact ACk _ b h
     · cases h
def vc (v:V):List Value:=[.int .i64 v.kind,.int .i64 v.int,.string v.text]
theorem Dm (v:V):TY Tryz.prog 25 (vc v) (Bu v):=tyV v
theorem F9 (v:Value) (h:v.oneCell'=true):TY Tryz.prog 29 [v] v:=TY.one' Tryz.underlying29 rfl (by kernel_rfl) h
theorem Dx {w w':World} {v':Value} (h:Step w Mf w' v'):w.grownBy w' none∧∀k,BO v' k→w.heap.size≤k:=⟨Step.none h,fun k hk=>(h.2 k hk).elim (fun h=>by simp[Mf,Value.ownBlock] at h) id⟩
def NwR (w w':World) (xs:List Nat) (e:Ending):Prop:=∃v,e=.returned v∧w.grownBy w' none∧(Sp.row w.heap.size 5 1 xs.length (bv xs)).on w' v
end Go.Proofs.YtbfjfnbcmojpiaaGreat
