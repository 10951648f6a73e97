import Derived.Test.YtbfjfnbcmojpiaaGreatDaY8
set_option linter.unusedSimpArgs false
set_option linter.unusedVariables false
set_option maxRecDepth 100000
set_option maxHeartbeats 4000000
namespace Go.Proofs.YtbfjfnbcmojpiaaGreat
open Go.RowKit Go.Shelf
theorem ADZ {w:World} {ks:List VK} {vo:Option Addr} {vc:Nat} {sa po o:List Nat} {P:List VP} {a:Int} {q:List Nat×Int} (hsa:Dg sa) (hpo:Dg po) (ho:Dg o) (hk:RdK w (.slice vo ks.length vc) ks) (hm:ks.map VK.p=P) (hres:DI P o a=q) :
 Calls Tryz.prog 42 #[Ay sa po (.slice vo ks.length vc),AQ o,.int .i64 a] w fun e w'=>e=.returned (.tuple #[AQ q.1,.int .i64 q.2])∧w.grownBy w' none:=ALd hsa hpo ho hk hm hres
theorem ADa (ks:List VK) (vo:Option Addr) (vc_:Nat) (sa po:List Nat) (hsa:Dg sa) (hpo:Dg po) (ds:List DD) (ao:Option Addr) (ac:Nat) (joint ad:Int) (x:V) (w:World) (hr:RdK w (.slice vo ks.length vc_) ks) (ho:RdD w (.slice ao ds.length ac) ds) (hdl:ds.length≤1000) :
   Calls Tryz.prog 16 #[Ay sa po (.slice vo ks.length vc_),.slice ao ds.length ac,.int .i64 joint,.int .i64 ad,Br x] w fun e w'=>SRes w w' (Gk (ks.map VK.p) (ds.map DD.x) joint ad x) e:=by
 obtain⟨P,hP⟩:∃P,ks.map VK.p=P:=⟨_,rfl⟩
 obtain⟨own,hown⟩:∃own,ds.map DD.x=own:=⟨_,rfl⟩
 have hownl:own.length=ds.length:=by rw[←hown,List.length_map]
 have hnok:=hr.noks2
 rw[hP] at hnok
 rw[hP,hown]
 refine BV Tryz.func16 rfl Tryz.ntmps16 rfl fun a0 sv0=>?_
 have HG:=World.grownBy.refl w none
 replace sv0:Sv 108 [] [(0,Ay sa po (.slice vo ks.length vc_)),(1,.slice ao ds.length ac),(2,.int .i64 joint),(3,.int .i64 ad),(4,Br x)] a0:=sv0
 refine AOQ fun K1 k1=>?_
 refine AOP ?_
 refine Bi sv0 r6 (B6 hsa hpo (.slice vo ks.length vc_) rfl) fun a2 w2 KT AJ5 g2 z2 Aj sv2=>?_
 refine Bi sv2 r6 (C6 x) fun a3 w3 KU AJ6 g3 z3 As sv3=>?_
 replace Aj:=AC g3 Aj
 replace hr:=(hr.kn g2).kn g3
 replace ho:=(ho.kn g2).kn g3
 replace HG:=AA (AA HG g2) g3
 refine A9 (T:=31) (Z:=([[.int .i64 0],[.slice none 0 0],[.int .i64 0],[.slice none 0 0],[.slice none 0 0],bv AR].flatten)) sv3 rfl rfl rfl (fun a w=>by kernel_rfl) fun a4 w4 Ee Fz g4 z4 AV sv4=>?_
 have Cq:=Ao Aj Fz
 have Cr:=Ao As Fz
 have EO:=Bq HG Fz
 have DX:=Aw (hr.lt) Fz
 have DY:=Aw (ho.lt) Fz
 replace Aj:=AC g4 Aj
 replace As:=AC g4 As
 replace hr:=hr.kn g4
 replace ho:=ho.kn g4
 replace HG:=AA HG g4
 refine AS (v:=.int .i64 0) sv4 r6 fun a5 sv5=>?_
 refine AD ?_
 refine k1 _ _ ?_
 refine AOQ fun K6 k6=>?_
 refine AOQ fun K7 k7=>?_
 rcases(show(hd own joint ad=false∧Co P=false)∨(hd own joint ad=false∧Co P=true)∨(hd own joint ad=true∧Co P=false)∨(hd own joint ad=true∧Co P=true) by cases hd own joint ad<;>cases Co P<;>simp) with ⟨hh,hv⟩|⟨hh,hv⟩|⟨hh,hv⟩|⟨hh,hv⟩
 · refine AOP ?_
   refine AH sv5 10 [(20,Ay sa po (.slice vo ks.length vc_)),(21,.bool false),(22,.bool true),(23,.bool true),(24,undef),(25,undef),(26,undef),(27,undef),(28,undef),(29,.bool true)]
     ⟨yl r6 (B6 hsa hpo (.slice vo ks.length vc_) rfl) Aj,Ag [Ay sa po (.slice vo ks.length vc_)] Tryz.func40 (by kernel_rfl) rq4 ⟨(oy rfl rfl),AOW⟩ (A1 fun W g=>Hf hsa hpo (hr.kn g) hP hv),C7 r6 (fun _=>Bf),ym r5,AN r6,AN r6,AN r6,AN r6,AN r6,BF r7,AOW⟩ fun a8 w8 g8 sv8=>?_
   refine AD ?_
   refine k7 _ _ ?_
   refine Am sv8 rfl rfl ?_
   refine AOQ fun K9 k9=>?_
   refine AOP ?_
   replace AV:=AC g8 AV
   refine AH sv8 1 [(30,Bv 0 (.slice none 0 0) 0 (.slice none 0 0) (.slice none 0 0) AR)]
     ⟨BG (vs:=[]) rfl rfl trivial trivial (fun _=>AAu _) (fun _=>rfl),AOW⟩ fun a10 w10 g10 Bt=>?_
   refine Aq Bt r7 (Dh _ _ AU (.slice none 0 0) (.slice none 0 0) (.slice none 0 0) rfl rfl rfl) (AC g10 AV) (EG AU AU) fun w11 g11 h11=>?_
   replace Aj:=Ab g10 g11 (AC g8 Aj) (Ne.symm Cq)
   replace As:=Ab g10 g11 (AC g8 As) (Ne.symm Cr)
   replace hr:=((hr.kn g8).kn g10).offR g11 (AP DX)
   replace ho:=((ho.kn g8).kn g10).offR g11 (AP DY)
   replace HG:=AE (AA (AA HG g8) g10) g11 EO
   replace AV:=h11
   refine AS (v:=.int .i64 1) Bt r6 fun a12 DF=>?_
   refine AD ?_
   refine k9 _ _ ?_
   refine AOT ?_
   repeat refine AM ?_
   refine Ap (fn:=Tryz.f16) DF (Cb (p:=10) (q:=11) Tryz.results16 DF rfl rfl rfl rfl (Dh _ _ AU (.slice none 0 0) (.slice none 0 0) (.slice none 0 0) rfl rfl rfl) AV) ?_
   exact SRes.zero (Jh (.inl hh)) HG
 · refine AOP ?_
   refine AH sv5 10 [(20,Ay sa po (.slice vo ks.length vc_)),(21,.bool true),(22,.bool false),(23,.bool false),(24,.slice ao ds.length ac),(25,.int .i64 joint),(26,.int .i64 ad),(27,.bool false),(28,.bool true),(29,.bool true)]
     ⟨yl r6 (B6 hsa hpo (.slice vo ks.length vc_) rfl) Aj,Ag [Ay sa po (.slice vo ks.length vc_)] Tryz.func40 (by kernel_rfl) rq4 ⟨(oy rfl rfl),AOW⟩ (A1 fun W g=>Hf hsa hpo (hr.kn g) hP hv),C7 r6 (fun _=>Bf),ym r5,Ae rq8,Ae rq8,Ae rq8,CG [.slice ao ds.length ac,.int .i64 joint,.int .i64 ad] Tryz.func41 (by kernel_rfl) r7 ⟨(oy rfl rfl),(oy rfl rfl),(oy rfl rfl),AOW⟩ (A1 fun W g=>AEi (ho.kn g) hown hh),I3 rfl rfl (gy rfl rfl rfl) (oy rfl rfl) (fun _=>Bf) (fun _=>rfl),Ah rq9,AOW⟩ fun a13 w13 g13 Cx=>?_
   refine AD ?_
   refine k7 _ _ ?_
   refine Am Cx rfl rfl ?_
   refine AOQ fun K14 k14=>?_
   refine AOP ?_
   replace AV:=AC g13 AV
   refine AH Cx 1 [(30,Bv 0 (.slice none 0 0) 0 (.slice none 0 0) (.slice none 0 0) AR)]
     ⟨BG (vs:=[]) rfl rfl trivial trivial (fun _=>AAu _) (fun _=>rfl),AOW⟩ fun a15 w15 g15 Fp=>?_
   refine Aq Fp r7 (Dh _ _ AU (.slice none 0 0) (.slice none 0 0) (.slice none 0 0) rfl rfl rfl) (AC g15 AV) (EG AU AU) fun w16 g16 h16=>?_
   replace Aj:=Ab g15 g16 (AC g13 Aj) (Ne.symm Cq)
   replace As:=Ab g15 g16 (AC g13 As) (Ne.symm Cr)
   replace hr:=((hr.kn g13).kn g15).offR g16 (AP DX)
   replace ho:=((ho.kn g13).kn g15).offR g16 (AP DY)
   replace HG:=AE (AA (AA HG g13) g15) g16 EO
   replace AV:=h16
   refine AS (v:=.int .i64 1) Fp r6 fun a17 EK=>?_
   refine AD ?_
   refine k14 _ _ ?_
   refine AOT ?_
   repeat refine AM ?_
   refine Ap (fn:=Tryz.f16) EK (Cb (p:=10) (q:=11) Tryz.results16 EK rfl rfl rfl rfl (Dh _ _ AU (.slice none 0 0) (.slice none 0 0) (.slice none 0 0) rfl rfl rfl) AV) ?_
   exact SRes.zero (Jh (.inl hh)) HG
 · refine AOP ?_
   refine AH sv5 10 [(20,Ay sa po (.slice vo ks.length vc_)),(21,.bool false),(22,.bool true),(23,.bool true),(24,undef),(25,undef),(26,undef),(27,undef),(28,undef),(29,.bool true)]
     ⟨yl r6 (B6 hsa hpo (.slice vo ks.length vc_) rfl) Aj,Ag [Ay sa po (.slice vo ks.length vc_)] Tryz.func40 (by kernel_rfl) rq4 ⟨(oy rfl rfl),AOW⟩ (A1 fun W g=>Hf hsa hpo (hr.kn g) hP hv),C7 r6 (fun _=>Bf),ym r5,AN r6,AN r6,AN r6,AN r6,AN r6,BF r7,AOW⟩ fun a18 w18 g18 CY=>?_
   refine AD ?_
   refine k7 _ _ ?_
   refine Am CY rfl rfl ?_
   refine AOQ fun K19 k19=>?_
   refine AOP ?_
   replace AV:=AC g18 AV
   refine AH CY 1 [(30,Bv 0 (.slice none 0 0) 0 (.slice none 0 0) (.slice none 0 0) AR)]
     ⟨BG (vs:=[]) rfl rfl trivial trivial (fun _=>AAu _) (fun _=>rfl),AOW⟩ fun a20 w20 g20 Du=>?_
   refine Aq Du r7 (Dh _ _ AU (.slice none 0 0) (.slice none 0 0) (.slice none 0 0) rfl rfl rfl) (AC g20 AV) (EG AU AU) fun w21 g21 h21=>?_
   replace Aj:=Ab g20 g21 (AC g18 Aj) (Ne.symm Cq)
   replace As:=Ab g20 g21 (AC g18 As) (Ne.symm Cr)
   replace hr:=((hr.kn g18).kn g20).offR g21 (AP DX)
   replace ho:=((ho.kn g18).kn g20).offR g21 (AP DY)
   replace HG:=AE (AA (AA HG g18) g20) g21 EO
   replace AV:=h21
   refine AS (v:=.int .i64 1) Du r6 fun a22 B7=>?_
   refine AD ?_
   refine k19 _ _ ?_
   refine AOT ?_
   repeat refine AM ?_
   refine Ap (fn:=Tryz.f16) B7 (Cb (p:=10) (q:=11) Tryz.results16 B7 rfl rfl rfl rfl (Dh _ _ AU (.slice none 0 0) (.slice none 0 0) (.slice none 0 0) rfl rfl rfl) AV) ?_
   exact SRes.zero (Jh (.inr hv)) HG
 · obtain⟨haa,hjj,hol,hasc⟩:=Sz hh
   have hia:N6 ad:=⟨by omega,by omega⟩
   refine AOP ?_
   refine AH sv5 10 [(20,Ay sa po (.slice vo ks.length vc_)),(21,.bool true),(22,.bool false),(23,.bool false),(24,.slice ao ds.length ac),(25,.int .i64 joint),(26,.int .i64 ad),(27,.bool true),(28,.bool false),(29,.bool false)]
     ⟨yl r6 (B6 hsa hpo (.slice vo ks.length vc_) rfl) Aj,Ag [Ay sa po (.slice vo ks.length vc_)] Tryz.func40 (by kernel_rfl) rq4 ⟨(oy rfl rfl),AOW⟩ (A1 fun W g=>Hf hsa hpo (hr.kn g) hP hv),C7 r6 (fun _=>Bf),ym r5,Ae rq8,Ae rq8,Ae rq8,CG [.slice ao ds.length ac,.int .i64 joint,.int .i64 ad] Tryz.func41 (by kernel_rfl) r7 ⟨(oy rfl rfl),(oy rfl rfl),(oy rfl rfl),AOW⟩ (A1 fun W g=>AEi (ho.kn g) hown hh),I3 rfl rfl (gy rfl rfl rfl) (oy rfl rfl) (fun _=>Bf) (fun _=>rfl),Ah rq9,AOW⟩ fun a23 w23 g23 Cc=>?_
   refine AD ?_
   refine k7 _ _ ?_
   refine Au Cc rfl rfl ?_
   refine AOU ?_
   refine k6 _ _ ?_
   refine AOQ fun K24 k24=>?_
   refine AOP ?_
   refine AS (v:=.slice none 0 0) Cc r6 fun a25 DR=>?_
   refine AD ?_
   refine k24 _ _ ?_
   refine AOQ fun K26 k26=>?_
   refine AOQ fun K27 k27=>?_
   refine AOP ?_
   refine AS (v:=.int .i64 0) DR r6 fun a28 Dm=>?_
   refine AD ?_
   refine k27 _ _ ?_
   refine BH fun Q29 x29 y29 rt29 o29=>?_
   replace Aj:=AC g23 Aj
   replace As:=AC g23 As
   replace AV:=AC g23 AV
   replace hr:=hr.kn g23
   replace ho:=ho.kn g23
   replace HG:=AA HG g23
   have okk:=Own.nil w23 23 32
   have EY:=Gg KT
   have EZ:=Gg KU
   have CT:=Gg Ee
   have ap_hr_okk:=GV (KO (.slice vo ks.length vc_) ks)
   have ap_ho_okk:=GV (BC (.slice ao ds.length ac))
   have lo_okk:=UZ w
   refine wp_loop (fun a w'=>∃(i:Nat) (ko:Option Addr) (kc:Nat) (kl:List DD),(i≤ds.length)∧(kl.map DD.x=(own.take i).map fun z=>(DI P z ad).1)∧(∀j,j<i→(DI P (Lf own j) ad).2=0)∧Sv 108 [] [(13,.int .i64 ((i:Int))),(12,.slice ko i kc),(20,Ay sa po (.slice vo ks.length vc_)),(21,.bool true),(22,.bool false),(23,.bool false),(24,.slice ao ds.length ac),(25,.int .i64 joint),(26,.int .i64 ad),(27,.bool true),(28,.bool false),(29,.bool false),(10,pt Ee),(9,pt KU),(5,pt KT),(0,Ay sa po (.slice vo ks.length vc_)),(1,.slice ao ds.length ac),(2,.int .i64 joint),(3,.int .i64 ad),(4,Br x)] a∧w.grownBy w' none∧w'.heap[KT]?=some (.cells ([bv sa,bv po,[.slice vo ks.length vc_]].flatten).toArray 36 (0,0))∧w'.heap[KU]?=some (.cells (vc x).toArray 25 (0,0))∧w'.heap[Ee]?=some (.cells (([[.int .i64 0],[.slice none 0 0],[.int .i64 0],[.slice none 0 0],[.slice none 0 0],bv AR].flatten)).toArray 31 (0,0))∧RdK w' (.slice vo ks.length vc_) ks∧RdD w' (.slice ao ds.length ac) ds∧Own w' 23 32 (.slice ko i kc) i (kl.flatMap Ja)∧(∀k,BC (.slice ko i kc) k→k≠KT)∧(∀k,BC (.slice ko i kc) k→k≠KU)∧(∀k,BC (.slice ko i kc) k→k≠Ee)∧(∀k,KO (.slice vo ks.length vc_) ks k→¬BC (.slice ko i kc) k)∧(∀k,BC (.slice ao ds.length ac) k→¬BC (.slice ko i kc) k)∧(∀k,BC (.slice ko i kc) k→w.heap.size≤k)) (fun a _=>(ds.length-intOf (a.tmps.getD 13 undef)).toNat) ⟨0,none,0,[],Nat.zero_le _,rfl,fun j hj=>by omega,⟨Dm.1,Dm.2.1,Dm.2.2.1,Dm.2.2.2.1,Dm.2.2.2.2.1,Dm.2.2.2.2.2.1,Dm.2.2.2.2.2.2.1,Dm.2.2.2.2.2.2.2.1,(AG Dm).1,(AG Dm).2.1,(AG Dm).2.2.1,(AG Dm).2.2.2.1,(AG Dm).2.2.2.2.1,(AG Dm).2.2.2.2.2.1,(AG Dm).2.2.2.2.2.2.2.1,(AG (AG Dm)).1,(AG (AG Dm)).2.1,(AG (AG Dm)).2.2.1,(AG (AG Dm)).2.2.2.1,(AG (AG Dm)).2.2.2.2.1,(AG (AG Dm)).2.2.2.2.2.1,(AG (AG Dm)).2.2.2.2.2.2.1,AOW⟩,HG,Aj,As,AV,hr,ho,okk,EY,EZ,CT,ap_hr_okk,ap_ho_okk,lo_okk⟩ fun a30 w30 hI30=>?_
   clear Aj
   clear As
   clear AV
   clear hr
   clear ho
   clear okk
   clear HG
   obtain⟨i,ko,kc,kl,hin,hkl,hok,EF,HG,Aj,As,AV,hr,ho,okk,EY,EZ,CT,ap_hr_okk,ap_ho_okk,lo_okk⟩:=hI30
   refine AOQ fun K31 k31=>?_
   refine AOQ fun K32 k32=>?_
   by_cases hi:i<ds.length
   · obtain⟨y,hx_y⟩:∃zx,ds[i]'hi=zx:=⟨_,rfl⟩
     have hla:Lf own i=y.x:=by rw[←hown,Is hi,hx_y]
     obtain⟨kx,hkx⟩:∃q,DI P y.x ad=q:=⟨_,rfl⟩
     have hkd:Dg kx.1:=hkx▸Lh hnok
     refine AOP ?_
     refine AH EF 4 [(31,.int .i64 ((i:Int))),(32,.slice ao ds.length ac),(33,.int .i64 ((ds.length:Nat))),(34,.bool true)]
       ⟨ym r5,ym r5,BJ (Tryz.underlying28) rfl rfl trivial (oy rfl rfl) (fun _=>rfl),Fg r7 (fun _=>BR (by simp;omega)),AOW⟩ fun a33 w33 g33 FS=>?_
     refine AD ?_
     refine k32 _ _ ?_
     refine Am FS rfl rfl ?_
     refine AOU ?_
     refine k31 _ _ ?_
     refine AOQ fun K34 k34=>?_
     refine BH fun Q35 x35 y35 rt35 o35=>?_
     refine AOQ fun K36 k36=>?_
     replace Aj:=AC g33 Aj
     replace As:=AC g33 As
     replace AV:=AC g33 AV
     replace hr:=hr.kn g33
     replace ho:=ho.kn g33
     replace okk:=okk.kn g33
     replace HG:=AA HG g33
     refine DP (FS.st w33) (by kernel_rfl) 11 [(38,Sp.is (Ay sa po (.slice vo ks.length vc_))),(39,Sp.is (.slice ao ds.length ac)),(40,Sp.is (.int .i64 ((i:Int)))),(41,Sp.is (pk ((bO ao)) (oO ao+i*32))),(42,Sp.is (AQ y.x)),(43,Sp.is (.int .i64 ad)),(44,Sp.is (.tuple #[AQ kx.1,.int .i64 kx.2])),(37,Sp.is (.tuple #[AQ kx.1,.int .i64 kx.2])),(45,Sp.is (AQ kx.1)),(46,Sp.is (.int .i64 kx.2)),(14,Sp.new w33.heap.size ((bv AR)) 23)] rfl (by kernel_rfl) (by kernel_rfl) (by kernel_rfl) [9] (by kernel_rfl)
       ⟨yl r6 (B6 hsa hpo (.slice vo ks.length vc_) rfl) Aj,ym r5,ym r5,BD rq8 (fun w=>CF Tryz.underlying28 (by kernel_rfl) (ho.1) (by omega) (rfl) w),Bj r6 (fun _ g=>Ad (Bb y.x y.h.1) (by have:=CW (ho.kn g).1 Dj hi (by decide);rw[hx_y] at this;exact this)),ym r5,Ag [Ay sa po (.slice vo ks.length vc_),AQ y.x,.int .i64 ad] Tryz.func42 (by kernel_rfl) rq4 ⟨(oy rfl rfl),(oy rfl rfl),(oy rfl rfl),AOW⟩ (A1 fun W g=>ADZ hsa hpo y.h (hr.kn g) hP hkx),ym r5,Bh rq4 (fun _ _ h=>⟨_,_,h,rfl,rfl⟩),Bh rq4 (fun _ _ h=>⟨_,_,h,rfl,rfl⟩),Ju rfl trivial (Nat.le_refl _) (fun a w=>by kernel_rfl) (fun _ _ h=>h),AOW⟩ ⟨fun o ho=>by obtain rfl:=Option.some.inj ho;exact HH rfl rfl rfl trivial (fun _ _ h=>⟨_,_,h,rfl,rfl⟩),AOW⟩
       [14] (by kernel_rfl) ⟨Sp.new_lt,AOW⟩ ⟨.inl rfl,.inl rfl,.inl rfl,.inl rfl,.inl rfl,.inl rfl,.inl rfl,.inl rfl,.inl rfl,.inl rfl,.inr ⟨rfl,((bv AR)).toArray,23,fun a w=>by kernel_rfl⟩,AOW⟩ (by kernel_rfl) fun a37 w37 g37 st37 nd37=>?_
     obtain⟨hn37,hd37,e37_38,e37_39,e37_40,e37_41,e37_42,e37_43,e37_44,e37_37,e37_45,e37_46,e37_14,e37_31,e37_32,e37_33,e37_34,e37_13,e37_12,e37_20,e37_21,e37_22,e37_23,e37_24,e37_25,e37_26,e37_27,e37_28,e37_29,e37_10,e37_9,e37_5,e37_0,e37_1,e37_2,e37_3,e37_4,-⟩:=st37
     obtain⟨ANb,e37_14q,Ii,YM⟩:=e37_14
     have TR:=Fu Aj Ii
     have TS:=Fu As Ii
     have RF:=Fu AV Ii
     have AGB:=QR HG Ii
     have YO:=GO (hr.lt) Ii
     have YP:=GO (ho.lt) Ii
     have U1:=GO (Own.ltS okk) Ii
     have Gi:Sv 108 [] [(31,_),(32,_),(33,_),(34,_),(13,_),(12,_),(20,_),(21,_),(22,_),(23,_),(24,_),(25,_),(26,_),(27,_),(28,_),(29,_),(10,_),(9,_),(5,_),(0,_),(1,_),(2,_),(3,_),(4,_),(45,_),(46,_),(14,_)] a37:=⟨hn37,hd37,e37_31,e37_32,e37_33,e37_34,e37_13,e37_12,e37_20,e37_21,e37_22,e37_23,e37_24,e37_25,e37_26,e37_27,e37_28,e37_29,e37_10,e37_9,e37_5,e37_0,e37_1,e37_2,e37_3,e37_4,e37_45,e37_46,e37_14q,AOW⟩
     refine Aq Gi r7 (Bb kx.1 hkd.1) YM (EM hkd) fun w38 g38 h38=>?_
     replace Aj:=Aa g38 (AC g37 Aj) (Ne.symm TR)
     replace As:=Aa g38 (AC g37 As) (Ne.symm TS)
     replace AV:=Aa g38 (AC g37 AV) (Ne.symm RF)
     replace hr:=(hr.kn g37).offR g38 (AP YO)
     replace ho:=(ho.kn g37).offR g38 (AP YP)
     replace okk:=(okk.kn g37).offR g38 (AP U1)
     replace HG:=AE (AA HG g37) g38 AGB
     replace YM:=h38
     refine AS (v:=.int .i64 kx.2) Gi r6 fun a39 JY=>?_
     refine AD ?_
     refine k36 _ _ ?_
     refine AOQ fun K40 k40=>?_
     refine AOQ fun K41 k41=>?_
     by_cases he:kx.2=0
     · have hkl1:=NY hkl (by omega) hla hkx (hkd:=hkd)
       have hok1:∀j,j<i+1→(DI P (Lf own j) ad).2=0:=fun j hj=>if e:j=i then (by rw[e,hla,hkx];exact he) else hok j (by omega)
       refine AOP ?_
       refine AH JY 2 [(47,.int .i64 kx.2),(48,.bool false)]
         ⟨ym r5,Ce r6 (fun _=>Dy (by simpa using he)),AOW⟩ fun a42 w42 g42 Gj=>?_
       refine AD ?_
       refine k41 _ _ ?_
       refine Au Gj rfl rfl ?_
       refine AOU ?_
       refine k40 _ _ ?_
       refine AOP ?_
       refine AH Gj 2 [(51,.slice ko i kc),(52,AQ kx.1)]
         ⟨ym r5,yl r6 (Bb kx.1 hkd.1) (AC g42 YM),AOW⟩ fun a43 w43 g43 IK=>?_
       have Ul:=AA g42 g43
       refine Jc (cs:=bv kx.1) (e:=23) IK rfl rfl rfl rfl rfl rfl (Up hkd) fun a44 w44 ANc AL8 g44 z44 AKA Mv=>?_
       replace Aj:=AC g44 (AC Ul Aj)
       replace As:=AC g44 (AC Ul As)
       replace AV:=AC g44 (AC Ul AV)
       replace hr:=(hr.kn Ul).kn g44
       replace ho:=(ho.kn Ul).kn g44
       replace okk:=(okk.kn Ul).kn g44
       replace HG:=AA (AA HG Ul) g44
       refine GZ dsT Mv rfl rfl rfl rfl rfl rfl rfl rfl okk (Iv AKA hkd) (Dk _) (by omega) fun a45 ao45 cap45 w45 owx45 Bk FT=>?_
       have U2:=Fo Bk.2 EY Aj
       have U3:=Fo Bk.2 EZ As
       have TU:=Fo Bk.2 CT AV
       have AA7:=E4 Bk.2 ap_hr_okk (hr.lt)
       have AA8:=E4 Bk.2 ap_ho_okk (ho.lt)
       have AID:=Oq Bk.2 lo_okk HG
       replace Aj:=AF Bk.1 Aj (fun e=>EY _ e.symm rfl)
       replace As:=AF Bk.1 As (fun e=>EZ _ e.symm rfl)
       replace AV:=AF Bk.1 AV (fun e=>CT _ e.symm rfl)
       replace hr:=hr.offR Bk.1 (fun k hk e=>ap_hr_okk k hk (e))
       replace ho:=ho.offR Bk.1 (fun k hk e=>ap_ho_okk k hk (e))
       replace HG:=Bu HG Bk.1 fun k e=>lo_okk k (e)
       rw[OP kl ⟨kx.1,hkd⟩] at owx45
       refine AS (v:=.slice ao45 (i+1) cap45) FT r6 fun a46 JK=>?_
       have Kx:Sv _ _ [_,_,_,_,_,_,_,_,_,_,_,_,_,_,_,_,_,_,_,_,_,_,_,_,_,_,_,_,_,_] _:=JK.dl [54,53,51,52]
       refine AD ?_
       refine y35 _ _ ?_
       refine k34 _ _ ?_
       refine AOP ?_
       refine AH Kx 2 [(35,.int .i64 ((i:Int))),(36,.int .i64 (((i+1:Nat):Int)))]
         ⟨ym r5,Ce r6 (fun _=>Dd (by rw[BT (by omega) (by omega)];omega)),AOW⟩ fun a48 w48 g48 TV=>?_
       refine AS (v:=.int .i64 (((i+1:Nat):Int))) TV r6 fun a49 ER=>?_
       refine AD ?_
       replace Aj:=AC g48 Aj
       replace As:=AC g48 As
       replace AV:=AC g48 AV
       replace hr:=hr.kn g48
       replace ho:=ho.kn g48
       replace owx45:=owx45.kn g48
       replace HG:=AA HG g48
       exact⟨⟨i+1,ao45,cap45,(kl++[⟨kx.1,hkd⟩]),by omega,hkl1,hok1,⟨ER.1,ER.2.1,ER.2.2.1,ER.2.2.2.2.2.1,(AG ER).2.2.2.2.2.1,(AG ER).2.2.2.2.2.2.1,(AG ER).2.2.2.2.2.2.2.1,(AG (AG ER)).1,(AG (AG ER)).2.1,(AG (AG ER)).2.2.1,(AG (AG ER)).2.2.2.1,(AG (AG ER)).2.2.2.2.1,(AG (AG ER)).2.2.2.2.2.1,(AG (AG ER)).2.2.2.2.2.2.1,(AG (AG ER)).2.2.2.2.2.2.2.1,(AG (AG (AG ER))).1,(AG (AG (AG ER))).2.1,(AG (AG (AG ER))).2.2.1,(AG (AG (AG ER))).2.2.2.1,(AG (AG (AG ER))).2.2.2.2.1,(AG (AG (AG ER))).2.2.2.2.2.1,(AG (AG (AG ER))).2.2.2.2.2.2.1,AOW⟩,HG,Aj,As,AV,hr,ho,owx45,U2,U3,TU,AA7,AA8,AID⟩,by rw[show _=_ from ER.2.2.1,show _=_ from EF.2.2.1];simp[intOf];omega⟩
     · have hne:own≠[]:=fun h=>by rw[h] at hownl;simp at hownl;omega
       have hke:=Lg (P:=P) (a:=ad) (own:=own) (i:=i) (by omega) hok (by rw[hla,hkx];exact he)
       rw[hla,hkx] at hke
       refine AOP ?_
       refine AH JY 2 [(47,.int .i64 kx.2),(48,.bool true)]
         ⟨ym r5,Ce r6 (fun _=>Dy (by simpa using he)),AOW⟩ fun a50 w50 g50 Ky=>?_
       refine AD ?_
       refine k41 _ _ ?_
       refine Am Ky rfl rfl ?_
       refine AOQ fun K51 k51=>?_
       refine AOP ?_
       replace AV:=AC g50 AV
       refine AH Ky 2 [(49,Bv 0 (.slice none 0 0) 0 (.slice none 0 0) (.slice none 0 0) AR),(50,.int .i64 kx.2)]
         ⟨BG (vs:=[]) rfl rfl trivial trivial (fun _=>AAu _) (fun _=>rfl),ym r5,AOW⟩ fun a52 w52 g52 Mw=>?_
       refine Aq Mw r7 (Dh _ _ AU (.slice none 0 0) (.slice none 0 0) (.slice none 0 0) rfl rfl rfl) (AC g52 AV) (EG AU AU) fun w53 g53 h53=>?_
       replace Aj:=Ab g52 g53 (AC g50 Aj) (Ne.symm Cq)
       replace As:=Ab g52 g53 (AC g50 As) (Ne.symm Cr)
       replace hr:=((hr.kn g50).kn g52).offR g53 (AP DX)
       replace ho:=((ho.kn g50).kn g52).offR g53 (AP DY)
       replace okk:=((okk.kn g50).kn g52).offR g53 (AP CT)
       replace HG:=AE (AA (AA HG g50) g52) g53 EO
       replace AV:=h53
       refine AS (v:=.int .i64 kx.2) Mw r6 fun a54 JL=>?_
       refine AD ?_
       refine k51 _ _ ?_
       refine AOT ?_
       repeat refine AM ?_
       refine rt35 _ _ ?_
       repeat refine AM ?_
       refine rt29 _ _ ?_
       repeat refine AM ?_
       refine Ap (fn:=Tryz.f16) JL (Cb (p:=10) (q:=11) Tryz.results16 JL rfl rfl rfl rfl (Dh _ _ AU (.slice none 0 0) (.slice none 0 0) (.slice none 0 0) rfl rfl rfl) AV) ?_
       exact SRes.zero (Wb hh hv hne hke he) HG
   · obtain⟨hK1,hK2⟩:=J8 (P:=P) (a:=ad) (own:=own) fun j hj=>hok j (by omega)
     have hkm:kl.map DD.x=(Df P ad own).1:=by rw[hK1,hkl,List.take_of_length_le (by omega)]
     refine AOP ?_
     refine AH EF 4 [(31,.int .i64 ((i:Int))),(32,.slice ao ds.length ac),(33,.int .i64 ((ds.length:Nat))),(34,.bool false)]
       ⟨ym r5,ym r5,BJ (Tryz.underlying28) rfl rfl trivial (oy rfl rfl) (fun _=>rfl),Fg r7 (fun _=>BR (by simp;omega)),AOW⟩ fun a55 w55 g55 Uk=>?_
     refine AD ?_
     refine k32 _ _ ?_
     refine Au Uk rfl rfl ?_
     refine wp_exit ?_
     repeat refine CA ?_
     refine x29 _ _ ?_
     refine k26 _ _ ?_
     refine AOQ fun K56 k56=>?_
     refine AOP ?_
     refine AH Uk 1 [(55,.int .i64 ad)]
       ⟨ym r5,AOW⟩ fun a57 w57 g57 Qw=>?_
     have YQ:=AA g55 g57
     replace Aj:=AC YQ Aj
     replace As:=AC YQ As
     replace AV:=AC YQ AV
     replace hr:=hr.kn YQ
     replace ho:=ho.kn YQ
     replace okk:=okk.kn YQ
     replace HG:=AA HG YQ
     refine Xe (e:=23) Qw rfl rfl rfl rfl (fun W=>by kernel_rfl) fun a58 w58 OQ Ij g58 z58 AEn OL=>?_
     have TW:=Ao Aj Ij
     have TZ:=Ao As Ij
     have RG:=Ao AV Ij
     have AGC:=Bq HG Ij
     have YR:=Aw (hr.lt) Ij
     have YS:=Aw (ho.lt) Ij
     have U4:=Aw (Own.ltS okk) Ij
     have oc0:=Sk (sz:=32) AEn
     have Qb:∀k,BC (.slice ((some ⟨OQ,0,none⟩)) 0 0) k→k≠KT:=fun k hk e=>TW ((Option.some.inj hk).trans e)
     have Qc:∀k,BC (.slice ((some ⟨OQ,0,none⟩)) 0 0) k→k≠KU:=fun k hk e=>TZ ((Option.some.inj hk).trans e)
     have PO:∀k,BC (.slice ((some ⟨OQ,0,none⟩)) 0 0) k→k≠Ee:=fun k hk e=>RG ((Option.some.inj hk).trans e)
     have Wh:∀k,KO (.slice vo ks.length vc_) ks k→¬BC (.slice ((some ⟨OQ,0,none⟩)) 0 0) k:=fun k hk e=>YR k hk (Option.some.inj e).symm
     have Wi:∀k,BC (.slice ao ds.length ac) k→¬BC (.slice ((some ⟨OQ,0,none⟩)) 0 0) k:=fun k hk e=>YS k hk (Option.some.inj e).symm
     have Ta:∀k,BC (.slice ko i kc) k→¬BC (.slice ((some ⟨OQ,0,none⟩)) 0 0) k:=fun k hk e=>U4 k hk (Option.some.inj e).symm
     have AIE:∀k,BC (.slice ((some ⟨OQ,0,none⟩)) 0 0) k→w.heap.size≤k:=fun k hk=>(Option.some.inj hk)▸AGC
     clear AEn
     refine AH OL 1 [(57,.slice ao ds.length ac)]
       ⟨ym r5,AOW⟩ fun a59 w59 g59 Eh=>?_
     replace Aj:=AC g59 (AC g58 Aj)
     replace As:=AC g59 (AC g58 As)
     replace AV:=AC g59 (AC g58 AV)
     replace hr:=(hr.kn g58).kn g59
     replace ho:=(ho.kn g58).kn g59
     replace okk:=(okk.kn g58).kn g59
     replace oc0:=oc0.kn g59
     replace HG:=AA (AA HG g58) g59
     refine GZ dsT Eh rfl rfl rfl rfl rfl rfl rfl rfl oc0 (ho.1) (AEe ds) (by omega) fun a60 ao60 cap60 w60 oc60 Bk Qv=>?_
     have YT:=Fo Bk.2 Qb Aj
     have YU:=Fo Bk.2 Qc As
     have Iw:=Fo Bk.2 PO AV
     have ADb:=E4 Bk.2 Wh (hr.lt)
     have ADc:=E4 Bk.2 Wi (ho.lt)
     have Qd:=E4 Bk.2 Ta (Own.ltS okk)
     have ap_oc60_okk:=XJ Qd
     have Rf:=Oq Bk.2 AIE HG
     rw[List.nil_append] at oc60
     rw[Nat.zero_add] at oc60 Rf Qv
     rw[Nat.zero_add] at YT
     rw[Nat.zero_add] at YU
     rw[Nat.zero_add] at Iw
     rw[Nat.zero_add] at ADb
     rw[Nat.zero_add] at ADc
     rw[Nat.zero_add] at Qd
     rw[Nat.zero_add] at ap_oc60_okk
     refine AH Qv 2 [(59,.int .i64 joint),(60,Bv ad (.slice ao60 ds.length cap60) joint (.slice none 0 0) (.slice none 0 0) AR)]
       ⟨ym r5,BG (vs:=[.int .i64 ad,.slice ao60 ds.length cap60,.int .i64 joint]) rfl rfl trivial ⟨(oy rfl rfl),(oy rfl rfl),(oy rfl rfl),AOW⟩ (fun _=>AMm _ _ _ _ _ _) (fun _=>rfl),AOW⟩ fun a61 w61 g61 Nm=>?_
     replace Aj:=AC g61 (AF Bk.1 Aj (fun e=>Qb _ e.symm rfl))
     replace As:=AC g61 (AF Bk.1 As (fun e=>Qc _ e.symm rfl))
     replace AV:=AC g61 (AF Bk.1 AV (fun e=>PO _ e.symm rfl))
     replace hr:=(hr.offR Bk.1 (fun k hk e=>Wh k hk (e))).kn g61
     replace ho:=(ho.offR Bk.1 (fun k hk e=>Wi k hk (e))).kn g61
     replace okk:=(okk.offR Bk.1 (fun k hk e=>Ta k hk (e))).kn g61
     replace oc60:=oc60.kn g61
     replace HG:=AA (Bu HG Bk.1 fun k e=>AIE k (e)) g61
     refine A9 (T:=31) (Z:=([[.int .i64 0],[.slice none 0 0],[.int .i64 0],[.slice none 0 0],[.slice none 0 0],bv AR].flatten)) Nm rfl rfl rfl (fun a w=>by kernel_rfl) fun a62 w62 F6 Hk g62 z62 BL ADd=>?_
     have Er:=Ao Aj Hk
     have Es:=Ao As Hk
     have C4:=Ao AV Hk
     have Hl:=Bq HG Hk
     have GK:=Aw (hr.lt) Hk
     have GL:=Aw (ho.lt) Hk
     have EJ:=Aw (Own.ltS okk) Hk
     have D0:=Aw (Own.ltS oc60) Hk
     refine Aq ADd r7 (Dh _ _ AU (.slice ao60 ds.length cap60) (.slice none 0 0) (.slice none 0 0) rfl rfl rfl) BL (EG AU AU) fun w63 g63 h63=>?_
     replace As:=Aa g63 (AC g62 As) (Ne.symm Es)
     have U5:Sv _ _ [_,_,_,_,_,_,_,_,_,_,_,_,_,_,_,_,_,_,_,_,_,_,_,_,_] _:=ADd.dl [59,60,58,57,56,55]
     refine AD ?_
     refine k56 _ _ ?_
     refine AOQ fun K65 k65=>?_
     refine AOP ?_
     refine AH U5 1 [(61,Br x)]
       ⟨yl r6 (C6 x) As,AOW⟩ fun a66 w66 g66 Gq=>?_
     replace AV:=AC g66 (Aa g63 (AC g62 AV) (Ne.symm C4))
     replace BL:=AC g66 h63
     replace HG:=AA (AE (AA HG g62) g63 Hl) g66
     refine BA Gq Tryz.func43 (by kernel_rfl) r6 (UN x _) fun a67 v67 w67 hR67 Tc=>?_
     obtain⟨ao67,cap67,rfl,_⟩:=(Sl.of_own hR67.1).shape
     obtain⟨ow67,fr67⟩:=hR67
     replace fr67:=DT fr67
     have op:=ow67
     clear ow67
     have g67:=fr67.1
     replace fr67:=fr67.2
     have E0:=Cj fr67 AV
     have FK:=Cj fr67 BL
     have lo_op:=IM HG fr67
     replace Aj:=AC g67 (AC g66 (Aa g63 (AC g62 Aj) (Ne.symm Er)))
     replace As:=AC g67 (AC g66 As)
     replace AV:=AC g67 AV
     replace BL:=AC g67 BL
     replace hr:=(((hr.kn g62).offR g63 (AP GK)).kn g66).kn g67
     replace ho:=(((ho.kn g62).offR g63 (AP GL)).kn g66).kn g67
     replace okk:=(((okk.kn g62).offR g63 (AP EJ)).kn g66).kn g67
     replace oc60:=(((oc60.kn g62).offR g63 (AP D0)).kn g66).kn g67
     replace HG:=AA HG g67
     refine AS (v:=.slice ao67 ((BQ x)).length cap67) Tc r6 fun a68 Ih=>?_
     refine AD ?_
     refine k65 _ _ ?_
     refine AOQ fun K69 k69=>?_
     refine AOQ fun K70 k70=>?_
     rcases Nat.eq_zero_or_pos ds.length with hz|hz
     · obtain rfl:own=[]:=List.eq_nil_of_length_eq_zero (by omega)
       refine AOP ?_
       refine AH Ih 3 [(63,.slice ao ds.length ac),(64,.int .i64 ((ds.length:Nat))),(65,.bool true)]
         ⟨ym r5,BJ (Tryz.underlying28) rfl rfl trivial (oy rfl rfl) (fun _=>rfl),Ce r6 (fun _=>BM (Ks (by omega))),AOW⟩ fun a71 w71 g71 ADe=>?_
       refine AD ?_
       refine k70 _ _ ?_
       refine Am ADe rfl rfl ?_
       refine AOQ fun K72 k72=>?_
       refine AOP ?_
       refine AH ADe 2 [(66,.slice ao67 ((BQ x)).length cap67),(67,pk F6 4)]
         ⟨ym r5,yf r6 (fun _=>by kernel_rfl),AOW⟩ fun a73 w73 g73 Nn=>?_
       have RH:=AA g71 g73
       refine IL (L:=[[.int .i64 ad],[.slice ao60 ds.length cap60],[.int .i64 joint],[.slice none 0 0],[.slice none 0 0],bv AR]) (i:=4) Nn r7 (D5 (.slice ao67 ((BQ x)).length cap67) rfl) (AC RH BL) rfl rfl rfl fun w74 g74 h74=>?_
       refine AD ?_
       refine k72 _ _ ?_
       refine AOQ fun K75 k75=>?_
       refine AOP ?_
       refine AH Nn 2 [(68,.int .i64 ad),(69,.slice ao67 ((BQ x)).length cap67)]
         ⟨ym r5,ym r5,AOW⟩ fun a76 w76 g76 P1=>?_
       replace op:=((op.kn RH).offR g74 (AP FK)).kn g76
       refine BA P1 Tryz.func44 (by kernel_rfl) r6 (Jb (Sw ad hia (BQ x) (Ef x) (by have:=FN x;omega) _ _ _ (Own.sb op))) fun a77 v77 w77 hR77 U6=>?_
       obtain⟨rfl,g77⟩:=hR77
       replace BL:=AC g77 (AC g76 h74)
       refine AH U6 1 [(71,pk F6 5)]
         ⟨yf r6 (fun _=>by kernel_rfl),AOW⟩ fun a78 w78 g78 AA9=>?_
       refine IL (L:=[[.int .i64 ad],[.slice ao60 ds.length cap60],[.int .i64 joint],[.slice none 0 0],[.slice ao67 ((BQ x)).length cap67],bv AR]) (i:=5) AA9 r7 (Bb ((Nt ad (BQ x))) (DJ ad (BQ x)).1) (AC g78 BL) rfl rfl (QS AU (DJ ad (BQ x))) fun w79 g79 h79=>?_
       replace AV:=Ab g78 g79 (AC g77 (AC g76 (Ab RH g74 AV (Ne.symm C4)))) (Ne.symm C4)
       replace BL:=h79
       have Gn:Sv _ _ [_,_,_,_,_,_,_,_,_,_,_,_,_,_,_,_,_,_,_,_,_,_,_,_,_,_,_,_,_,_,_,_,_] _:=AA9.dl [71,70,68,69]
       refine AD ?_
       refine k75 _ _ ?_
       refine AOQ fun K81 k81=>?_
       refine AOP ?_
       refine AH Gn 1 [(72,Bv ad (.slice ao60 ds.length cap60) joint (.slice none 0 0) (.slice ao67 ((BQ x)).length cap67) ((Nt ad (BQ x))))]
         ⟨yl r6 (Dh _ _ (DJ ad (BQ x)) (.slice ao60 ds.length cap60) (.slice none 0 0) (.slice ao67 ((BQ x)).length cap67) rfl rfl rfl) BL,AOW⟩ fun a82 w82 g82 TB=>?_
       refine Aq TB r7 (Dh _ _ (DJ ad (BQ x)) (.slice ao60 ds.length cap60) (.slice none 0 0) (.slice ao67 ((BQ x)).length cap67) rfl rfl rfl) (AC g82 AV) (EG AU (DJ ad (BQ x))) fun w83 g83 h83=>?_
       replace Aj:=Ab g82 g83 (Ab g78 g79 (AC g77 (AC g76 (Ab RH g74 Aj (Ne.symm Er)))) (Ne.symm Er)) (Ne.symm Cq)
       replace As:=Ab g82 g83 (Ab g78 g79 (AC g77 (AC g76 (Ab RH g74 As (Ne.symm Es)))) (Ne.symm Es)) (Ne.symm Cr)
       replace BL:=Ab g82 g83 BL C4
       replace hr:=(((((((hr.kn RH).offR g74 (AP GK)).kn g76).kn g77).kn g78).offR g79 (AP GK)).kn g82).offR g83 (AP DX)
       replace ho:=(((((((ho.kn RH).offR g74 (AP GL)).kn g76).kn g77).kn g78).offR g79 (AP GL)).kn g82).offR g83 (AP DY)
       replace okk:=(((((((okk.kn RH).offR g74 (AP EJ)).kn g76).kn g77).kn g78).offR g79 (AP EJ)).kn g82).offR g83 (AP CT)
       replace oc60:=(((((((oc60.kn RH).offR g74 (AP D0)).kn g76).kn g77).kn g78).offR g79 (AP D0)).kn g82).offR g83 (AP Iw)
       replace op:=((((op.kn g77).kn g78).offR g79 (AP FK)).kn g82).offR g83 (AP E0)
       replace HG:=AE (AA (AE (AA (AA (AA (AE (AA HG RH) g74 Hl) g76) g77) g78) g79 Hl) g82) g83 EO
       replace AV:=h83
       refine AS (v:=.int .i64 0) TB r6 fun a84 M6=>?_
       refine AD ?_
       refine k81 _ _ ?_
       refine AOT ?_
       repeat refine AM ?_
       refine Ap (fn:=Tryz.f16) M6 (Cb (p:=10) (q:=11) Tryz.results16 M6 rfl rfl rfl rfl (Dh _ _ (DJ ad (BQ x)) (.slice ao60 ds.length cap60) (.slice none 0 0) (.slice ao67 ((BQ x)).length cap67) rfl rfl rfl) AV) ?_
       exact SRes.mk (own:=ds) (wr:=[]) (Ie hh hv) rfl rfl rfl hown rfl oc60 (Own.nil _ _ _) op Rf (fun k hk=>by simp[BC,Value.ownBlock] at hk) lo_op (fun k _ hk=>by simp[BC,Value.ownBlock] at hk) (DJ _ _) (Ef x) HG rfl
     · have hne:own≠[]:=fun h=>by rw[h] at hownl;simp at hownl;omega
       refine AOP ?_
       refine AH Ih 3 [(63,.slice ao ds.length ac),(64,.int .i64 ((ds.length:Nat))),(65,.bool false)]
         ⟨ym r5,BJ (Tryz.underlying28) rfl rfl trivial (oy rfl rfl) (fun _=>rfl),Ce r6 (fun _=>BM (I2 (by omega))),AOW⟩ fun a85 w85 g85 AA2=>?_
       refine AD ?_
       refine k70 _ _ ?_
       refine Au AA2 rfl rfl ?_
       refine AOU ?_
       refine k69 _ _ ?_
       refine AOQ fun K86 k86=>?_
       have hkll:kl.length=i:=by have:=congrArg List.length hkl;simpa using this.trans (by rw[List.length_map,List.length_take];omega)
       obtain⟨ck,hcke⟩:∃c,Qx (decide (joint=1)) (kl.map DD.x)=c:=⟨_,rfl⟩
       have hck:Dg ck:=hcke▸Hc _ _
       refine AOP ?_
       refine AH AA2 2 [(73,.int .i64 joint),(74,.slice ko i kc)]
         ⟨ym r5,ym r5,AOW⟩ fun a87 w87 g87 TG=>?_
       replace okk:=(okk.kn g85).kn g87
       refine BA TG Tryz.func45 (by kernel_rfl) r6 (Jb (Py hkll (Own.sb okk) (by omega) hjj hcke)) fun a88 v88 w88 hR88 ALs=>?_
       obtain⟨rfl,g88⟩:=hR88
       replace Aj:=AC g88 (AC g87 (AC g85 Aj))
       replace As:=AC g88 (AC g87 (AC g85 As))
       replace AV:=AC g88 (AC g87 (AC g85 AV))
       replace BL:=AC g88 (AC g87 (AC g85 BL))
       replace hr:=((hr.kn g85).kn g87).kn g88
       replace ho:=((ho.kn g85).kn g87).kn g88
       replace okk:=okk.kn g88
       replace oc60:=((oc60.kn g85).kn g87).kn g88
       replace op:=((op.kn g85).kn g87).kn g88
       replace HG:=AA (AA (AA HG g85) g87) g88
       refine A9 (T:=23) (Z:=(bv AR)) ALs rfl rfl rfl (fun a w=>by kernel_rfl) fun a89 w89 OS Fb g89 z89 Cn PG=>?_
       have Td:=Ao Aj Fb
       have Te:=Ao As Fb
       have Ma:=Ao AV Fb
       have Et:=Ao BL Fb
       have AGD:=Bq HG Fb
       have YV:=Aw (hr.lt) Fb
       have YW:=Aw (ho.lt) Fb
       have U7:=Aw (Own.ltS okk) Fb
       have Tf:=Aw (Own.ltS oc60) Fb
       have YX:=Aw (Own.ltS op) Fb
       refine Aq PG r7 (Bb ck hck.1) Cn (EM hck) fun w90 g90 h90=>?_
       replace Aj:=Aa g90 (AC g89 Aj) (Ne.symm Td)
       replace As:=Aa g90 (AC g89 As) (Ne.symm Te)
       replace AV:=Aa g90 (AC g89 AV) (Ne.symm Ma)
       replace BL:=Aa g90 (AC g89 BL) (Ne.symm Et)
       replace hr:=(hr.kn g89).offR g90 (AP YV)
       replace ho:=(ho.kn g89).offR g90 (AP YW)
       replace okk:=(okk.kn g89).offR g90 (AP U7)
       replace oc60:=(oc60.kn g89).offR g90 (AP Tf)
       replace op:=(op.kn g89).offR g90 (AP YX)
       replace HG:=AE (AA HG g89) g90 AGD
       replace Cn:=h90
       refine AD ?_
       refine k86 _ _ ?_
       refine AOQ fun K91 k91=>?_
       refine AOQ fun K92 k92=>?_
       rcases hjj with rfl|rfl
       · refine AOP ?_
         refine AS (v:=.int .i64 0) PG r6 fun a93 EQ=>?_
         refine AD ?_
         refine k92 _ _ ?_
         refine BH fun Q94 x94 y94 rt94 o94=>?_
         refine wp_loop (fun a w'=>Sv 108 [] [(19,.int .i64 0),(18,pt OS),(75,AQ ck),(73,.int .i64 0),(74,.slice ko i kc),(63,.slice ao ds.length ac),(64,.int .i64 ((ds.length:Nat))),(65,.bool false),(17,.slice ao67 ((BQ x)).length cap67),(62,.slice ao67 ((BQ x)).length cap67),(61,Br x),(16,pt F6),(31,.int .i64 ((i:Int))),(32,.slice ao ds.length ac),(33,.int .i64 ((ds.length:Nat))),(34,.bool false),(13,.int .i64 ((i:Int))),(12,.slice ko i kc),(20,Ay sa po (.slice vo ks.length vc_)),(21,.bool true),(22,.bool false),(23,.bool false),(24,.slice ao ds.length ac),(25,.int .i64 0),(26,.int .i64 ad),(27,.bool true),(28,.bool false),(29,.bool false),(10,pt Ee),(9,pt KU),(5,pt KT),(0,Ay sa po (.slice vo ks.length vc_)),(1,.slice ao ds.length ac),(2,.int .i64 0),(3,.int .i64 ad),(4,Br x)] a∧w.grownBy w' none∧w'.heap[KT]?=some (.cells ([bv sa,bv po,[.slice vo ks.length vc_]].flatten).toArray 36 (0,0))∧w'.heap[KU]?=some (.cells (vc x).toArray 25 (0,0))∧w'.heap[Ee]?=some (.cells (([[.int .i64 0],[.slice none 0 0],[.int .i64 0],[.slice none 0 0],[.slice none 0 0],bv AR].flatten)).toArray 31 (0,0))∧w'.heap[F6]?=some (.cells ([[.int .i64 ad],[.slice ao60 ds.length cap60],[.int .i64 0],[.slice none 0 0],[.slice none 0 0],bv AR].flatten).toArray 31 (0,0))∧w'.heap[OS]?=some (.cells (bv ck).toArray 23 (0,0))∧RdK w' (.slice vo ks.length vc_) ks∧RdD w' (.slice ao ds.length ac) ds∧Own w' 23 32 (.slice ko i kc) i (kl.flatMap Ja)∧Own w' 23 32 (.slice ao60 ds.length cap60) ds.length (ds.flatMap Ja)∧Own w' 5 1 (.slice ao67 ((BQ x)).length cap67) (((BQ x)).length) (bv ((BQ x)))) (fun a _=>0) ⟨⟨EQ.1,EQ.2.1,EQ.2.2.1,EQ.2.2.2.1,EQ.2.2.2.2.1,EQ.2.2.2.2.2.1,EQ.2.2.2.2.2.2.1,EQ.2.2.2.2.2.2.2.1,(AG EQ).1,(AG EQ).2.1,(AG EQ).2.2.1,(AG EQ).2.2.2.1,(AG EQ).2.2.2.2.1,(AG EQ).2.2.2.2.2.1,(AG EQ).2.2.2.2.2.2.1,(AG EQ).2.2.2.2.2.2.2.1,(AG (AG EQ)).1,(AG (AG EQ)).2.1,(AG (AG EQ)).2.2.1,(AG (AG EQ)).2.2.2.1,(AG (AG EQ)).2.2.2.2.1,(AG (AG EQ)).2.2.2.2.2.1,(AG (AG EQ)).2.2.2.2.2.2.1,(AG (AG EQ)).2.2.2.2.2.2.2.1,(AG (AG (AG EQ))).1,(AG (AG (AG EQ))).2.1,(AG (AG (AG EQ))).2.2.1,(AG (AG (AG EQ))).2.2.2.1,(AG (AG (AG EQ))).2.2.2.2.1,(AG (AG (AG EQ))).2.2.2.2.2.1,(AG (AG (AG EQ))).2.2.2.2.2.2.1,(AG (AG (AG EQ))).2.2.2.2.2.2.2.1,(AG (AG (AG (AG EQ)))).1,(AG (AG (AG (AG EQ)))).2.1,(AG (AG (AG (AG EQ)))).2.2.1,(AG (AG (AG (AG EQ)))).2.2.2.1,(AG (AG (AG (AG EQ)))).2.2.2.2.1,(AG (AG (AG (AG EQ)))).2.2.2.2.2.1,AOW⟩,HG,Aj,As,AV,BL,Cn,hr,ho,okk,oc60,op⟩ fun a95 w95 hI95=>?_
         clear Aj
         clear As
         clear AV
         clear BL
         clear Cn
         clear hr
         clear ho
         clear okk
         clear oc60
         clear op
         clear HG
         obtain⟨ADW,HG,Aj,As,AV,BL,Cn,hr,ho,okk,oc60,op⟩:=hI95
         refine AOQ fun K96 k96=>?_
         refine AOQ fun K97 k97=>?_
         have hi0:0<i:=by omega
         · skip
           refine AOP ?_
           refine AH ADW 8 [(76,.int .i64 0),(77,.slice ko i kc),(78,.int .i64 ((i:Nat))),(79,.bool true),(80,.bool true),(81,.int .i64 0),(82,.bool false),(83,.bool false)]
            ⟨ym r5,ym r5,BJ (Tryz.underlying28) rfl rfl trivial (oy rfl rfl) (fun _=>rfl),Fg r7 (fun _=>BR (by simp;omega)),ym r5,Ae rq8,Ai rq9 (fun _=>BM rfl),Ah rq9,AOW⟩ fun a98 w98 g98 YY=>?_
           refine AD ?_
           refine k97 _ _ ?_
           refine Au YY rfl rfl ?_
           refine wp_exit ?_
           repeat refine CA ?_
           refine x94 _ _ ?_
           refine k91 _ _ ?_
           refine AOQ fun K99 k99=>?_
           refine AOP ?_
           refine AH YY 2 [(97,AQ ck),(98,.slice ao67 ((BQ x)).length cap67)]
            ⟨yl r6 (Bb ck hck.1) (AC g98 Cn),ym r5,AOW⟩ fun a100 w100 g100 Wj=>?_
           have M7:=AA g98 g100
           replace AV:=AC M7 AV
           replace BL:=AC M7 BL
           replace op:=op.kn M7
           replace HG:=AA HG M7
           refine BA Wj Tryz.func47 (by kernel_rfl) r6 (Nu (OO (BQ x) (Ef x) (by have:=FN x;omega) _ _ ck hck _ (Own.sb op))) fun a101 v101 w101 hR101 PH=>?_
           obtain⟨ao101,cap101,rfl,_⟩:=(Sl.of_own hR101.1).shape
           obtain⟨ow101,fr101⟩:=hR101
           replace fr101:=DT fr101
           have oy_:=ow101
           clear ow101
           have g101:=fr101.1
           replace fr101:=fr101.2
           have FH:=Cj fr101 AV
           have Gr:=Cj fr101 BL
           have lo_oy_:=IM HG fr101
           replace BL:=AC g101 BL
           refine AH PH 1 [(100,pk F6 4)]
            ⟨yf r6 (fun _=>by kernel_rfl),AOW⟩ fun a102 w102 g102 Wk=>?_
           refine IL (L:=[[.int .i64 ad],[.slice ao60 ds.length cap60],[.int .i64 0],[.slice none 0 0],[.slice none 0 0],bv AR]) (i:=4) Wk r7 (D5 (.slice ao101 ((Fj (BQ x) ck)).length cap101) rfl) (AC g102 BL) rfl rfl rfl fun w103 g103 h103=>?_
           replace Cn:=Ab g102 g103 (AC g101 (AC M7 Cn)) Et
           replace BL:=h103
           have TK:Sv _ _ [_,_,_,_,_,_,_,_,_,_,_,_,_,_,_,_,_,_,_,_,_,_,_,_,_,_,_,_,_,_,_,_,_,_,_,_,_,_,_,_,_,_,_,_] _:=Wk.dl [100,99,97,98]
           refine AD ?_
           refine k99 _ _ ?_
           refine AOQ fun K105 k105=>?_
           refine AOP ?_
           refine AH TK 4 [(101,AQ ck),(102,.int .i64 ad),(103,pk F6 4),(104,.slice ao101 ((Fj (BQ x) ck)).length cap101)]
            ⟨yl r6 (Bb ck hck.1) Cn,ym r5,yf r6 (fun _=>by kernel_rfl),yp (i:=4) r6 (D5 (.slice ao101 ((Fj (BQ x) ck)).length cap101) rfl) BL rfl rfl,AOW⟩ fun a106 w106 g106 ABA=>?_
           replace oy_:=((oy_.kn g102).offR g103 (AP Gr)).kn g106
           refine BA ABA Tryz.func48 (by kernel_rfl) r6 (Jb (Sy ck hck ad hia (Fj (BQ x) ck) (Kz _ (Ef x)) (by have:=FN x;rw[Hy];omega) _ _ _ (Own.sb oy_))) fun a107 v107 w107 hR107 TL=>?_
           obtain⟨rfl,g107⟩:=hR107
           replace BL:=AC g107 (AC g106 BL)
           have AIF:Sv _ _ [_,_,_,_,_,_,_,_,_,_,_,_,_,_,_,_,_,_,_,_,_,_,_,_,_,_,_,_,_,_,_,_,_,_,_,_,_,_,_,_,_,_,_,_,_] _:=TL.dl [101,102,103,104]
           refine AH AIF 1 [(106,pk F6 5)]
            ⟨yf r6 (fun _=>by kernel_rfl),AOW⟩ fun a109 w109 g109 QY=>?_
           refine IL (L:=[[.int .i64 ad],[.slice ao60 ds.length cap60],[.int .i64 0],[.slice none 0 0],[.slice ao101 ((Fj (BQ x) ck)).length cap101],bv AR]) (i:=5) QY r7 (Bb ((MI ck ad (Fj (BQ x) ck))) (CE _ _ _).1) (AC g109 BL) rfl rfl (QS AU (CE _ _ _)) fun w110 g110 h110=>?_
           replace AV:=Ab g109 g110 (AC g107 (AC g106 (Ab g102 g103 (AC g101 AV) (Ne.symm C4)))) (Ne.symm C4)
           replace BL:=h110
           refine AD ?_
           refine k105 _ _ ?_
           refine AOQ fun K111 k111=>?_
           refine AOP ?_
           refine AH QY 1 [(107,Bv ad (.slice ao60 ds.length cap60) 0 (.slice none 0 0) (.slice ao101 ((Fj (BQ x) ck)).length cap101) ((MI ck ad (Fj (BQ x) ck))))]
            ⟨yl r6 (Dh _ _ (CE _ _ _) (.slice ao60 ds.length cap60) (.slice none 0 0) (.slice ao101 ((Fj (BQ x) ck)).length cap101) rfl rfl rfl) BL,AOW⟩ fun a112 w112 g112 AA4=>?_
           refine Aq AA4 r7 (Dh _ _ (CE _ _ _) (.slice ao60 ds.length cap60) (.slice none 0 0) (.slice ao101 ((Fj (BQ x) ck)).length cap101) rfl rfl rfl) (AC g112 AV) (EG AU (CE _ _ _)) fun w113 g113 h113=>?_
           replace Aj:=Ab g112 g113 (Ab g109 g110 (AC g107 (AC g106 (Ab g102 g103 (AC g101 (AC M7 Aj)) (Ne.symm Er)))) (Ne.symm Er)) (Ne.symm Cq)
           replace As:=Ab g112 g113 (Ab g109 g110 (AC g107 (AC g106 (Ab g102 g103 (AC g101 (AC M7 As)) (Ne.symm Es)))) (Ne.symm Es)) (Ne.symm Cr)
           replace BL:=Ab g112 g113 BL C4
           replace Cn:=Ab g112 g113 (Ab g109 g110 (AC g107 (AC g106 Cn)) Et) Ma
           replace hr:=(((((((((hr.kn M7).kn g101).kn g102).offR g103 (AP GK)).kn g106).kn g107).kn g109).offR g110 (AP GK)).kn g112).offR g113 (AP DX)
           replace ho:=(((((((((ho.kn M7).kn g101).kn g102).offR g103 (AP GL)).kn g106).kn g107).kn g109).offR g110 (AP GL)).kn g112).offR g113 (AP DY)
           replace okk:=(((((((((okk.kn M7).kn g101).kn g102).offR g103 (AP EJ)).kn g106).kn g107).kn g109).offR g110 (AP EJ)).kn g112).offR g113 (AP CT)
           replace oc60:=(((((((((oc60.kn M7).kn g101).kn g102).offR g103 (AP D0)).kn g106).kn g107).kn g109).offR g110 (AP D0)).kn g112).offR g113 (AP Iw)
           replace op:=((((((((op.kn g101).kn g102).offR g103 (AP FK)).kn g106).kn g107).kn g109).offR g110 (AP FK)).kn g112).offR g113 (AP E0)
           replace oy_:=((((oy_.kn g107).kn g109).offR g110 (AP Gr)).kn g112).offR g113 (AP FH)
           replace HG:=AE (AA (AE (AA (AA (AA (AE (AA (AA HG g101) g102) g103 Hl) g106) g107) g109) g110 Hl) g112) g113 EO
           replace AV:=h113
           refine AS (v:=.int .i64 0) AA4 r6 fun a114 AKs=>?_
           refine AD ?_
           refine k111 _ _ ?_
           refine AOT ?_
           repeat refine AM ?_
           refine Ap (fn:=Tryz.f16) AKs (Cb (p:=10) (q:=11) Tryz.results16 AKs rfl rfl rfl rfl (Dh _ _ (CE _ _ _) (.slice ao60 ds.length cap60) (.slice none 0 0) (.slice ao101 ((Fj (BQ x) ck)).length cap101) rfl rfl rfl) AV) ?_
           exact SRes.mk (own:=ds) (wr:=[]) (Gm hh hv hne hK2 hkm hcke) rfl rfl rfl hown rfl oc60 (Own.nil _ _ _) oy_ Rf (fun k hk=>by simp[BC,Value.ownBlock] at hk) lo_oy_ (fun k _ hk=>by simp[BC,Value.ownBlock] at hk) (CE _ _ _) (Kz _ (Ef x)) HG rfl
       · refine AOP ?_
         refine AS (v:=.int .i64 0) PG r6 fun a115 Cv=>?_
         refine AD ?_
         refine k92 _ _ ?_
         refine BH fun Q116 x116 y116 rt116 o116=>?_
         have ow:=Own.nil w90 23 32
         have FI:=Gg KT
         have FJ:=Gg KU
         have Dz:=Gg Ee
         have GM:=Gg F6
         have Je:=Gg OS
         have ap_hr_ow:=GV (KO (.slice vo ks.length vc_) ks)
         have ap_ho_ow:=GV (BC (.slice ao ds.length ac))
         have ap_okk_ow:=GV (BC (.slice ko i kc))
         have ap_ow_okk:=AAG (BC (.slice ko i kc))
         have ap_oc60_ow:=GV (BC (.slice ao60 ds.length cap60))
         have Tg:=AAG (BC (.slice ao60 ds.length cap60))
         have ap_op_ow:=GV (BC (.slice ao67 ((BQ x)).length cap67))
         have ap_ow_op:=AAG (BC (.slice ao67 ((BQ x)).length cap67))
         have lo_ow:=UZ w
         refine wp_loop (fun a w'=>∃(j:Nat) (wo:Option Addr) (wc:Nat),(j≤i)∧Sv 108 [] [(19,.int .i64 ((j:Int))),(18,pt OS),(75,AQ ck),(73,.int .i64 1),(74,.slice ko i kc),(63,.slice ao ds.length ac),(64,.int .i64 ((ds.length:Nat))),(65,.bool false),(17,.slice ao67 ((BQ x)).length cap67),(62,.slice ao67 ((BQ x)).length cap67),(61,Br x),(16,pt F6),(31,.int .i64 ((i:Int))),(32,.slice ao ds.length ac),(33,.int .i64 ((ds.length:Nat))),(34,.bool false),(13,.int .i64 ((i:Int))),(12,.slice ko i kc),(20,Ay sa po (.slice vo ks.length vc_)),(21,.bool true),(22,.bool false),(23,.bool false),(24,.slice ao ds.length ac),(25,.int .i64 1),(26,.int .i64 ad),(27,.bool true),(28,.bool false),(29,.bool false),(10,pt Ee),(9,pt KU),(5,pt KT),(0,Ay sa po (.slice vo ks.length vc_)),(1,.slice ao ds.length ac),(2,.int .i64 1),(3,.int .i64 ad),(4,Br x)] a∧w.grownBy w' none∧w'.heap[KT]?=some (.cells ([bv sa,bv po,[.slice vo ks.length vc_]].flatten).toArray 36 (0,0))∧w'.heap[KU]?=some (.cells (vc x).toArray 25 (0,0))∧w'.heap[Ee]?=some (.cells (([[.int .i64 0],[.slice none 0 0],[.int .i64 0],[.slice none 0 0],[.slice none 0 0],bv AR].flatten)).toArray 31 (0,0))∧w'.heap[F6]?=some (.cells ([[.int .i64 ad],[.slice ao60 ds.length cap60],[.int .i64 1],[.slice wo j wc],[.slice none 0 0],bv AR].flatten).toArray 31 (0,0))∧w'.heap[OS]?=some (.cells (bv ck).toArray 23 (0,0))∧RdK w' (.slice vo ks.length vc_) ks∧RdD w' (.slice ao ds.length ac) ds∧Own w' 23 32 (.slice ko i kc) i (kl.flatMap Ja)∧Own w' 23 32 (.slice ao60 ds.length cap60) ds.length (ds.flatMap Ja)∧Own w' 5 1 (.slice ao67 ((BQ x)).length cap67) (((BQ x)).length) (bv ((BQ x)))∧Own w' 23 32 (.slice wo j wc) j (((wrL ck hck kl j)).flatMap Ja)∧(∀k,BC (.slice wo j wc) k→k≠KT)∧(∀k,BC (.slice wo j wc) k→k≠KU)∧(∀k,BC (.slice wo j wc) k→k≠Ee)∧(∀k,BC (.slice wo j wc) k→k≠F6)∧(∀k,BC (.slice wo j wc) k→k≠OS)∧(∀k,KO (.slice vo ks.length vc_) ks k→¬BC (.slice wo j wc) k)∧(∀k,BC (.slice ao ds.length ac) k→¬BC (.slice wo j wc) k)∧(∀k,BC (.slice ko i kc) k→¬BC (.slice wo j wc) k)∧(∀k,BC (.slice wo j wc) k→¬BC (.slice ko i kc) k)∧(∀k,BC (.slice ao60 ds.length cap60) k→¬BC (.slice wo j wc) k)∧(∀k,BC (.slice wo j wc) k→¬BC (.slice ao60 ds.length cap60) k)∧(∀k,BC (.slice ao67 ((BQ x)).length cap67) k→¬BC (.slice wo j wc) k)∧(∀k,BC (.slice wo j wc) k→¬BC (.slice ao67 ((BQ x)).length cap67) k)∧(∀k,BC (.slice wo j wc) k→w.heap.size≤k)) (fun a _=>(i-intOf (a.tmps.getD 19 undef)).toNat) ⟨0,none,0,Nat.zero_le _,⟨Cv.1,Cv.2.1,Cv.2.2.1,Cv.2.2.2.1,Cv.2.2.2.2.1,Cv.2.2.2.2.2.1,Cv.2.2.2.2.2.2.1,Cv.2.2.2.2.2.2.2.1,(AG Cv).1,(AG Cv).2.1,(AG Cv).2.2.1,(AG Cv).2.2.2.1,(AG Cv).2.2.2.2.1,(AG Cv).2.2.2.2.2.1,(AG Cv).2.2.2.2.2.2.1,(AG Cv).2.2.2.2.2.2.2.1,(AG (AG Cv)).1,(AG (AG Cv)).2.1,(AG (AG Cv)).2.2.1,(AG (AG Cv)).2.2.2.1,(AG (AG Cv)).2.2.2.2.1,(AG (AG Cv)).2.2.2.2.2.1,(AG (AG Cv)).2.2.2.2.2.2.1,(AG (AG Cv)).2.2.2.2.2.2.2.1,(AG (AG (AG Cv))).1,(AG (AG (AG Cv))).2.1,(AG (AG (AG Cv))).2.2.1,(AG (AG (AG Cv))).2.2.2.1,(AG (AG (AG Cv))).2.2.2.2.1,(AG (AG (AG Cv))).2.2.2.2.2.1,(AG (AG (AG Cv))).2.2.2.2.2.2.1,(AG (AG (AG Cv))).2.2.2.2.2.2.2.1,(AG (AG (AG (AG Cv)))).1,(AG (AG (AG (AG Cv)))).2.1,(AG (AG (AG (AG Cv)))).2.2.1,(AG (AG (AG (AG Cv)))).2.2.2.1,(AG (AG (AG (AG Cv)))).2.2.2.2.1,(AG (AG (AG (AG Cv)))).2.2.2.2.2.1,AOW⟩,HG,Aj,As,AV,BL,Cn,hr,ho,okk,oc60,op,ow,FI,FJ,Dz,GM,Je,ap_hr_ow,ap_ho_ow,ap_okk_ow,ap_ow_okk,ap_oc60_ow,Tg,ap_op_ow,ap_ow_op,lo_ow⟩ fun a117 w117 hI117=>?_
         clear Aj
         clear As
         clear AV
         clear BL
         clear Cn
         clear hr
         clear ho
         clear okk
         clear oc60
         clear op
         clear ow
         clear HG
         obtain⟨j,wo,wc,hjn,PQ,HG,Aj,As,AV,BL,Cn,hr,ho,okk,oc60,op,ow,FI,FJ,Dz,GM,Je,ap_hr_ow,ap_ho_ow,ap_okk_ow,ap_ow_okk,ap_oc60_ow,Tg,ap_op_ow,ap_ow_op,lo_ow⟩:=hI117
         refine AOQ fun K118 k118=>?_
         refine AOQ fun K119 k119=>?_
         by_cases hjl:j<i
         · have hjk:j<kl.length:=by omega
           obtain⟨ky,hx_ky⟩:∃zx,kl[j]'hjk=zx:=⟨_,rfl⟩
           refine AOP ?_
           refine AH PQ 8 [(76,.int .i64 ((j:Int))),(77,.slice ko i kc),(78,.int .i64 ((i:Nat))),(79,.bool true),(80,.bool true),(81,.int .i64 1),(82,.bool true),(83,.bool true)]
            ⟨ym r5,ym r5,BJ (Tryz.underlying28) rfl rfl trivial (oy rfl rfl) (fun _=>rfl),Fg r7 (fun _=>BR (by simp;omega)),ym r5,Ae rq8,Ai rq9 (fun _=>BM rfl),Ah rq9,AOW⟩ fun a120 w120 g120 Cw=>?_
           refine AD ?_
           refine k119 _ _ ?_
           refine Am Cw rfl rfl ?_
           refine AOU ?_
           refine k118 _ _ ?_
           refine AOQ fun K121 k121=>?_
           refine BH fun Q122 x122 y122 rt122 o122=>?_
           replace Aj:=AC g120 Aj
           replace As:=AC g120 As
           replace AV:=AC g120 AV
           replace BL:=AC g120 BL
           replace Cn:=AC g120 Cn
           replace okk:=okk.kn g120
           replace ow:=ow.kn g120
           replace HG:=AA HG g120
           refine DP (Cw.st w120) (by kernel_rfl) 9 [(86,Sp.is (pk F6 3)),(87,Sp.is (.slice wo j wc)),(88,Sp.is (AQ ck)),(89,Sp.is (.slice ko i kc)),(90,Sp.is (.int .i64 ((j:Int)))),(91,Sp.is (pk ((bO ko)) (oO ko+j*32))),(92,Sp.is (AQ ky.x)),(93,Sp.is (AQ ((Mg ck ky.x)))),(94,Sp.lit1 w120.heap.size 23 (bv (Mg ck ky.x)))] rfl (by kernel_rfl) (by kernel_rfl) (by kernel_rfl) [] (by kernel_rfl)
            ⟨yf r6 (fun _=>by kernel_rfl),yp (i:=3) r6 (Fe (.slice wo j wc) rfl) BL rfl rfl,yl r6 (Bb ck hck.1) Cn,ym r5,ym r5,BD rq8 (fun w=>CF Tryz.underlying28 (by kernel_rfl) ((Sl.of_own okk)) (by omega) (rfl) w),Bj r6 (fun _ g=>Ad (Bb ky.x ky.h.1) (by have:=CW (Sl.of_own (okk.kn g)) Dj hjk (by decide);rw[hx_ky] at this;exact this)),Ag [AQ ck,AQ ky.x] Tryz.func46 (by kernel_rfl) rq4 ⟨(oy rfl rfl),(oy rfl rfl),AOW⟩ (A1 fun W g=>WY ck ky.x hck ky.h W),Ot rfl rfl trivial (Nat.le_refl _) rfl (fun W hw v h=>match v,h with|_,⟨rfl,_⟩=>⟨bv (Mg ck ky.x),Up (Ig hck ky.h) W,fun w' _ hh=>⟨_,rfl,hw.size,hh⟩⟩),AOW⟩ trivial
            [] (by kernel_rfl) trivial ⟨.inl rfl,.inl rfl,.inl rfl,.inl rfl,.inl rfl,.inl rfl,.inl rfl,.inl rfl,.inl rfl,AOW⟩ (by kernel_rfl) fun a123 w123 g123 st123 nd123=>?_
           obtain⟨hn123,hd123,e123_86,e123_87,e123_88,e123_89,e123_90,e123_91,e123_92,e123_93,e123_94,e123_76,e123_77,e123_78,e123_79,e123_80,e123_81,e123_82,e123_83,e123_19,e123_18,e123_75,e123_73,e123_74,e123_63,e123_64,e123_65,e123_17,e123_62,e123_61,e123_16,e123_31,e123_32,e123_33,e123_34,e123_13,e123_12,e123_20,e123_21,e123_22,e123_23,e123_24,e123_25,e123_26,e123_27,e123_28,e123_29,e123_10,e123_9,e123_5,e123_0,e123_1,e123_2,e123_3,e123_4,-⟩:=st123
           obtain⟨V,e123_94q,geV,HV⟩:=e123_94
           have AF8:V≠KT:=Nat.ne_of_gt (Nat.lt_of_lt_of_le (Array.getElem?_eq_some_iff.1 Aj).1 geV)
           have AF9:V≠KU:=Nat.ne_of_gt (Nat.lt_of_lt_of_le (Array.getElem?_eq_some_iff.1 As).1 geV)
           have ADY:V≠Ee:=Nat.ne_of_gt (Nat.lt_of_lt_of_le (Array.getElem?_eq_some_iff.1 AV).1 geV)
           have ABB:V≠F6:=Nat.ne_of_gt (Nat.lt_of_lt_of_le (Array.getElem?_eq_some_iff.1 BL).1 geV)
           have AKt:V≠OS:=Nat.ne_of_gt (Nat.lt_of_lt_of_le (Array.getElem?_eq_some_iff.1 Cn).1 geV)
           have lo_V:w.heap.size≤V:=Nat.le_trans HG.size geV
           have ap_ow_V:=GO (Own.ltS ow) geV
           replace Aj:=AC g123 Aj
           replace As:=AC g123 As
           replace AV:=AC g123 AV
           replace BL:=AC g123 BL
           replace Cn:=AC g123 Cn
           replace hr:=(hr.kn g120).kn g123
           replace ho:=(ho.kn g120).kn g123
           replace okk:=okk.kn g123
           replace oc60:=(oc60.kn g120).kn g123
           replace op:=(op.kn g120).kn g123
           replace ow:=ow.kn g123
           replace HG:=AA HG g123
           have AMu:Sv 108 [] [(76,_),(77,_),(78,_),(79,_),(80,_),(81,_),(82,_),(83,_),(19,_),(18,_),(75,_),(73,_),(74,_),(63,_),(64,_),(65,_),(17,_),(62,_),(61,_),(16,_),(31,_),(32,_),(33,_),(34,_),(13,_),(12,_),(20,_),(21,_),(22,_),(23,_),(24,_),(25,_),(26,_),(27,_),(28,_),(29,_),(10,_),(9,_),(5,_),(0,_),(1,_),(2,_),(3,_),(4,_),(87,_),(94,_)] a123:=⟨hn123,hd123,e123_76,e123_77,e123_78,e123_79,e123_80,e123_81,e123_82,e123_83,e123_19,e123_18,e123_75,e123_73,e123_74,e123_63,e123_64,e123_65,e123_17,e123_62,e123_61,e123_16,e123_31,e123_32,e123_33,e123_34,e123_13,e123_12,e123_20,e123_21,e123_22,e123_23,e123_24,e123_25,e123_26,e123_27,e123_28,e123_29,e123_10,e123_9,e123_5,e123_0,e123_1,e123_2,e123_3,e123_4,e123_87,e123_94q,AOW⟩
           refine GZ dsT AMu rfl rfl rfl rfl rfl rfl rfl rfl ow (Iv HV (Ig hck ky.h)) (Dk _) (by omega) fun a124 ao124 cap124 w124 owx124 Bk TM=>?_
           have Th:=Fo Bk.2 FI Aj
           have Ti:=Fo Bk.2 FJ As
           have RI:=Fo Bk.2 Dz AV
           have Ll:=Fo Bk.2 GM BL
           have P8:=Fo Bk.2 Je Cn
           have YZ:=E4 Bk.2 ap_hr_ow (hr.lt)
           have Ya:=E4 Bk.2 ap_ho_ow (ho.lt)
           have Nx:=E4 Bk.2 ap_okk_ow (Own.ltS okk)
           have M8:=E4 Bk.2 ap_oc60_ow (Own.ltS oc60)
           have PR:=E4 Bk.2 ap_op_ow (Own.ltS op)
           have ap_owx124_okk:=XJ Nx
           have Tj:=XJ M8
           have ap_owx124_op:=XJ PR
           have AGE:=Oq Bk.2 lo_ow HG
           replace BL:=AF Bk.1 BL (fun e=>GM _ e.symm rfl)
           rw[AAz hck hjk hx_ky] at owx124
           refine AH TM 1 [(96,pk F6 3)]
            ⟨yf r6 (fun _=>by kernel_rfl),AOW⟩ fun a125 w125 g125 ABC=>?_
           refine IL (L:=[[.int .i64 ad],[.slice ao60 ds.length cap60],[.int .i64 1],[.slice wo j wc],[.slice none 0 0],bv AR]) (i:=3) ABC r7 (Fe (.slice ao124 (j+1) cap124) rfl) (AC g125 BL) rfl rfl rfl fun w126 g126 h126=>?_
           replace Aj:=Ab g125 g126 (AF Bk.1 Aj (fun e=>FI _ e.symm rfl)) (Ne.symm Er)
           replace As:=Ab g125 g126 (AF Bk.1 As (fun e=>FJ _ e.symm rfl)) (Ne.symm Es)
           replace AV:=Ab g125 g126 (AF Bk.1 AV (fun e=>Dz _ e.symm rfl)) (Ne.symm C4)
           replace Cn:=Ab g125 g126 (AF Bk.1 Cn (fun e=>Je _ e.symm rfl)) Et
           replace HV:=Ab g125 g126 (AF Bk.1 HV (fun e=>ap_ow_V _ e.symm rfl)) ABB
           replace hr:=((hr.offR Bk.1 (fun k hk e=>ap_hr_ow k hk (e))).kn g125).offR g126 (AP GK)
           replace ho:=((ho.offR Bk.1 (fun k hk e=>ap_ho_ow k hk (e))).kn g125).offR g126 (AP GL)
           replace okk:=((okk.offR Bk.1 (fun k hk e=>ap_okk_ow k hk (e))).kn g125).offR g126 (AP EJ)
           replace oc60:=((oc60.offR Bk.1 (fun k hk e=>ap_oc60_ow k hk (e))).kn g125).offR g126 (AP D0)
           replace op:=((op.offR Bk.1 (fun k hk e=>ap_op_ow k hk (e))).kn g125).offR g126 (AP FK)
           replace HG:=AE (AA (Bu HG Bk.1 fun k e=>lo_ow k (e)) g125) g126 Hl
           have AEo:Sv _ _ [_,_,_,_,_,_,_,_,_,_,_,_,_,_,_,_,_,_,_,_,_,_,_,_,_,_,_,_,_,_,_,_,_,_,_,_,_,_,_,_,_,_,_,_] _:=ABC.dl [96,95,87,94]
           refine AD ?_
           refine y122 _ _ ?_
           refine k121 _ _ ?_
           refine AOP ?_
           refine AH AEo 2 [(84,.int .i64 ((j:Int))),(85,.int .i64 (((j+1:Nat):Int)))]
            ⟨ym r5,Ce r6 (fun _=>Dd (by rw[BT (by omega) (by omega)];omega)),AOW⟩ fun a128 w128 g128 AMv=>?_
           refine AS (v:=.int .i64 (((j+1:Nat):Int))) AMv r6 fun a129 DQ=>?_
           refine AD ?_
           replace Aj:=AC g128 Aj
           replace As:=AC g128 As
           replace AV:=AC g128 AV
           replace BL:=AC g128 h126
           replace Cn:=AC g128 Cn
           replace HV:=AC g128 HV
           replace hr:=hr.kn g128
           replace ho:=ho.kn g128
           replace okk:=okk.kn g128
           replace oc60:=oc60.kn g128
           replace op:=op.kn g128
           replace owx124:=((owx124.kn g125).offR g126 (AP Ll)).kn g128
           replace HG:=AA HG g128
           exact⟨⟨j+1,ao124,cap124,by omega,⟨DQ.1,DQ.2.1,DQ.2.2.1,(AG DQ).2.2.2.2.2.1,(AG DQ).2.2.2.2.2.2.1,(AG DQ).2.2.2.2.2.2.2.1,(AG (AG DQ)).1,(AG (AG DQ)).2.1,(AG (AG DQ)).2.2.1,(AG (AG DQ)).2.2.2.1,(AG (AG DQ)).2.2.2.2.1,(AG (AG DQ)).2.2.2.2.2.1,(AG (AG DQ)).2.2.2.2.2.2.1,(AG (AG DQ)).2.2.2.2.2.2.2.1,(AG (AG (AG DQ))).1,(AG (AG (AG DQ))).2.1,(AG (AG (AG DQ))).2.2.1,(AG (AG (AG DQ))).2.2.2.1,(AG (AG (AG DQ))).2.2.2.2.1,(AG (AG (AG DQ))).2.2.2.2.2.1,(AG (AG (AG DQ))).2.2.2.2.2.2.1,(AG (AG (AG DQ))).2.2.2.2.2.2.2.1,(AG (AG (AG (AG DQ)))).1,(AG (AG (AG (AG DQ)))).2.1,(AG (AG (AG (AG DQ)))).2.2.1,(AG (AG (AG (AG DQ)))).2.2.2.1,(AG (AG (AG (AG DQ)))).2.2.2.2.1,(AG (AG (AG (AG DQ)))).2.2.2.2.2.1,(AG (AG (AG (AG DQ)))).2.2.2.2.2.2.1,(AG (AG (AG (AG DQ)))).2.2.2.2.2.2.2.1,(AG (AG (AG (AG (AG DQ))))).1,(AG (AG (AG (AG (AG DQ))))).2.1,(AG (AG (AG (AG (AG DQ))))).2.2.1,(AG (AG (AG (AG (AG DQ))))).2.2.2.1,(AG (AG (AG (AG (AG DQ))))).2.2.2.2.1,(AG (AG (AG (AG (AG DQ))))).2.2.2.2.2.1,(AG (AG (AG (AG (AG DQ))))).2.2.2.2.2.2.1,(AG (AG (AG (AG (AG DQ))))).2.2.2.2.2.2.2.1,AOW⟩,HG,Aj,As,AV,BL,Cn,hr,ho,okk,oc60,op,owx124,Th,Ti,RI,Ll,P8,YZ,Ya,Nx,ap_owx124_okk,M8,Tj,PR,ap_owx124_op,AGE⟩,by rw[show _=_ from DQ.2.2.1,show _=_ from PQ.2.2.1];simp[intOf];omega⟩
         · have hwr:(wrL ck hck kl j).map DD.x=kl.map fun z=>Mg ck z.x:=AEg (by omega)
           refine AOP ?_
           refine AH PQ 8 [(76,.int .i64 ((j:Int))),(77,.slice ko i kc),(78,.int .i64 ((i:Nat))),(79,.bool false),(80,.bool false),(81,undef),(82,undef),(83,.bool false)]
            ⟨ym r5,ym r5,BJ (Tryz.underlying28) rfl rfl trivial (oy rfl rfl) (fun _=>rfl),Fg r7 (fun _=>BR (by simp;omega)),ym r5,AN r6,AN r6,BF r7,AOW⟩ fun a130 w130 g130 QZ=>?_
           refine AD ?_
           refine k119 _ _ ?_
           refine Au QZ rfl rfl ?_
           refine wp_exit ?_
           repeat refine CA ?_
           refine x116 _ _ ?_
           refine k91 _ _ ?_
           refine AOQ fun K131 k131=>?_
           refine AOP ?_
           refine AH QZ 2 [(97,AQ ck),(98,.slice ao67 ((BQ x)).length cap67)]
            ⟨yl r6 (Bb ck hck.1) (AC g130 Cn),ym r5,AOW⟩ fun a132 w132 g132 Wg=>?_
           have Qe:=AA g130 g132
           replace AV:=AC Qe AV
           replace BL:=AC Qe BL
           replace op:=op.kn Qe
           replace HG:=AA HG Qe
           refine BA Wg Tryz.func47 (by kernel_rfl) r6 (Nu (OO (BQ x) (Ef x) (by have:=FN x;omega) _ _ ck hck _ (Own.sb op))) fun a133 v133 w133 hR133 AIB=>?_
           obtain⟨ao133,cap133,rfl,_⟩:=(Sl.of_own hR133.1).shape
           obtain⟨ow133,fr133⟩:=hR133
           replace fr133:=DT fr133
           have oy_:=ow133
           clear ow133
           have g133:=fr133.1
           replace fr133:=fr133.2
           have FH:=Cj fr133 AV
           have Gr:=Cj fr133 BL
           have lo_oy_:=IM HG fr133
           replace BL:=AC g133 BL
           refine AH AIB 1 [(100,pk F6 4)]
            ⟨yf r6 (fun _=>by kernel_rfl),AOW⟩ fun a134 w134 g134 Qa=>?_
           refine IL (L:=[[.int .i64 ad],[.slice ao60 ds.length cap60],[.int .i64 1],[.slice wo j wc],[.slice none 0 0],bv AR]) (i:=4) Qa r7 (D5 (.slice ao133 ((Fj (BQ x) ck)).length cap133) rfl) (AC g134 BL) rfl rfl rfl fun w135 g135 h135=>?_
           replace Cn:=Ab g134 g135 (AC g133 (AC Qe Cn)) Et
           replace BL:=h135
           have AIC:Sv _ _ [_,_,_,_,_,_,_,_,_,_,_,_,_,_,_,_,_,_,_,_,_,_,_,_,_,_,_,_,_,_,_,_,_,_,_,_,_,_,_,_,_,_,_,_] _:=Qa.dl [100,99,97,98]
           refine AD ?_
           refine k131 _ _ ?_
           refine AOQ fun K137 k137=>?_
           refine AOP ?_
           refine AH AIC 4 [(101,AQ ck),(102,.int .i64 ad),(103,pk F6 4),(104,.slice ao133 ((Fj (BQ x) ck)).length cap133)]
            ⟨yl r6 (Bb ck hck.1) Cn,ym r5,yf r6 (fun _=>by kernel_rfl),yp (i:=4) r6 (D5 (.slice ao133 ((Fj (BQ x) ck)).length cap133) rfl) BL rfl rfl,AOW⟩ fun a138 w138 g138 C9=>?_
           replace oy_:=((oy_.kn g134).offR g135 (AP Gr)).kn g138
           refine BA C9 Tryz.func48 (by kernel_rfl) r6 (Jb (Sy ck hck ad hia (Fj (BQ x) ck) (Kz _ (Ef x)) (by have:=FN x;rw[Hy];omega) _ _ _ (Own.sb oy_))) fun a139 v139 w139 hR139 AEk=>?_
           obtain⟨rfl,g139⟩:=hR139
           replace BL:=AC g139 (AC g138 BL)
           have AMw:Sv _ _ [_,_,_,_,_,_,_,_,_,_,_,_,_,_,_,_,_,_,_,_,_,_,_,_,_,_,_,_,_,_,_,_,_,_,_,_,_,_,_,_,_,_,_,_,_] _:=AEk.dl [101,102,103,104]
           refine AH AMw 1 [(106,pk F6 5)]
            ⟨yf r6 (fun _=>by kernel_rfl),AOW⟩ fun a141 w141 g141 AKu=>?_
           refine IL (L:=[[.int .i64 ad],[.slice ao60 ds.length cap60],[.int .i64 1],[.slice wo j wc],[.slice ao133 ((Fj (BQ x) ck)).length cap133],bv AR]) (i:=5) AKu r7 (Bb ((MI ck ad (Fj (BQ x) ck))) (CE _ _ _).1) (AC g141 BL) rfl rfl (QS AU (CE _ _ _)) fun w142 g142 h142=>?_
           replace AV:=Ab g141 g142 (AC g139 (AC g138 (Ab g134 g135 (AC g133 AV) (Ne.symm C4)))) (Ne.symm C4)
           replace BL:=h142
           refine AD ?_
           refine k137 _ _ ?_
           refine AOQ fun K143 k143=>?_
           refine AOP ?_
           refine AH AKu 1 [(107,Bv ad (.slice ao60 ds.length cap60) 1 (.slice wo j wc) (.slice ao133 ((Fj (BQ x) ck)).length cap133) ((MI ck ad (Fj (BQ x) ck))))]
            ⟨yl r6 (Dh _ _ (CE _ _ _) (.slice ao60 ds.length cap60) (.slice wo j wc) (.slice ao133 ((Fj (BQ x) ck)).length cap133) rfl rfl rfl) BL,AOW⟩ fun a144 w144 g144 AA6=>?_
           refine Aq AA6 r7 (Dh _ _ (CE _ _ _) (.slice ao60 ds.length cap60) (.slice wo j wc) (.slice ao133 ((Fj (BQ x) ck)).length cap133) rfl rfl rfl) (AC g144 AV) (EG AU (CE _ _ _)) fun w145 g145 h145=>?_
           replace okk:=(((((((((okk.kn Qe).kn g133).kn g134).offR g135 (AP EJ)).kn g138).kn g139).kn g141).offR g142 (AP EJ)).kn g144).offR g145 (AP CT)
           replace oc60:=(((((((((oc60.kn Qe).kn g133).kn g134).offR g135 (AP D0)).kn g138).kn g139).kn g141).offR g142 (AP D0)).kn g144).offR g145 (AP Iw)
           replace op:=((((((((op.kn g133).kn g134).offR g135 (AP FK)).kn g138).kn g139).kn g141).offR g142 (AP FK)).kn g144).offR g145 (AP E0)
           replace ow:=(((((((((ow.kn Qe).kn g133).kn g134).offR g135 (AP GM)).kn g138).kn g139).kn g141).offR g142 (AP GM)).kn g144).offR g145 (AP Dz)
           replace oy_:=((((oy_.kn g139).kn g141).offR g142 (AP Gr)).kn g144).offR g145 (AP FH)
           replace HG:=AE (AA (AE (AA (AA (AA (AE (AA (AA HG g133) g134) g135 Hl) g138) g139) g141) g142 Hl) g144) g145 EO
           replace AV:=h145
           refine AS (v:=.int .i64 0) AA6 r6 fun a146 AEl=>?_
           refine AD ?_
           refine k143 _ _ ?_
           refine AOT ?_
           repeat refine AM ?_
           refine Ap (fn:=Tryz.f16) AEl (Cb (p:=10) (q:=11) Tryz.results16 AEl rfl rfl rfl rfl (Dh _ _ (CE _ _ _) (.slice ao60 ds.length cap60) (.slice wo j wc) (.slice ao133 ((Fj (BQ x) ck)).length cap133) rfl rfl rfl) AV) ?_
           exact SRes.mk (own:=ds) (wr:=(wrL ck hck kl j)) (Gm hh hv hne hK2 hkm hcke) rfl (AEh (by omega)) rfl hown (hwr.trans (Wc kl ck)) oc60 ow oy_ Rf lo_ow lo_oy_ ap_oc60_ow (CE _ _ _) (Kz _ (Ef x)) HG rfl
end Go.Proofs.YtbfjfnbcmojpiaaGreat
