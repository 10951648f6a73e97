import Derived.Test.YtbfjfnbcmojpiaaGreatSeY8
set_option linter.unusedSimpArgs false
set_option linter.unusedVariables false
set_option maxRecDepth 100000
set_option maxHeartbeats 4000000
namespace Go.Proofs.YtbfjfnbcmojpiaaGreat
open Go.RowKit Go.Shelf
theorem AI5 {w:World} {ks:List VK} {vo:Option Addr} {vc:Nat} {sa po o:List Nat} {P:List VP} {a:Int} {q:List Nat×Int} (hsa:Dg sa) (hpo:Dg po) (ho:Dg o) (hk:RdK w (.slice vo ks.length vc) ks) (hm:ks.map VK.p=P) (hres:DI P o a=q) :
 Calls Tryz.prog 42 #[Aw sa po (.slice vo ks.length vc),AO o,.int .i64 a] w fun e w'=>e=.returned (.tuple #[AO q.1,.int .i64 q.2])∧w.grownBy w' none:=AIm hsa hpo ho hk hm hres
theorem AAf (ks:List VK) (vo:Option Addr) (vc_:Nat) (sa po:List Nat) (hsa:Dg sa) (hpo:Dg po) (ds:List DD) (ao:Option Addr) (ac:Nat) (joint ad:Int) (x:V) (w:World) (hr:RdK w (.slice vo ks.length vc_) ks) (ho:RdD w (.slice ao ds.length ac) ds) (hdl:ds.length≤1000) :
   Calls Tryz.prog 16 #[Aw sa po (.slice vo ks.length vc_),.slice ao ds.length ac,.int .i64 joint,.int .i64 ad,Bp x] w fun e w'=>SRes w w' (Fg (ks.map VK.p) (ds.map DD.x) joint ad x) e:=by
 obtain⟨P,hP⟩:∃P,ks.map VK.p=P:=⟨_,rfl⟩
 obtain⟨own,hown⟩:∃own,ds.map DD.x=own:=⟨_,rfl⟩
 have hownl:own.length=ds.length:=by rw[←hown,List.length_map]
 have hnok:=hr.noks2
 rw[hP] at hnok
 rw[hP,hown]
 refine BF Tryz.func16 rfl Tryz.ntmps16 rfl fun a0 sv0=>?_
 have HG:=World.grownBy.refl w none
 replace sv0:Sv 108 [] [(0,Aw sa po (.slice vo ks.length vc_)),(1,.slice ao ds.length ac),(2,.int .i64 joint),(3,.int .i64 ad),(4,Bp x)] a0:=sv0
 refine ALa fun K1 k1=>?_
 refine ALZ ?_
 refine BZ sv0 r6 (Bq hsa hpo (.slice vo ks.length vc_) rfl) fun a2 w2 I6 AHA g2 z2 Ah sv2=>?_
 refine BZ sv2 r6 (ED x) fun a3 w3 I7 AHB g3 z3 Al sv3=>?_
 replace Ah:=AC g3 Ah
 replace hr:=(hr.kn g2).kn g3
 replace ho:=(ho.kn g2).kn g3
 replace HG:=AA (AA HG g2) g3
 refine Az (T:=31) (Z:=([[.int .i64 0],[.slice none 0 0],[.int .i64 0],[.slice none 0 0],[.slice none 0 0],bv AM].flatten)) sv3 rfl rfl rfl (fun a w=>by kernel_rfl) fun a4 w4 EC FK g4 z4 AQ sv4=>?_
 have CQ:=Ax Ah FK
 have CR:=Ax Al FK
 have Dm:=Bk HG FK
 have Ct:=Ay (hr.lt) FK
 have Cu:=Ay (ho.lt) FK
 replace Ah:=AC g4 Ah
 replace Al:=AC g4 Al
 replace hr:=hr.kn g4
 replace ho:=ho.kn g4
 replace HG:=AA HG g4
 refine AX (v:=.int .i64 0) sv4 r6 fun a5 sv5=>?_
 refine AE ?_
 refine k1 _ _ ?_
 refine ALa fun K6 k6=>?_
 refine ALa fun K7 k7=>?_
 rcases(show(hd own joint ad=false∧CZ P=false)∨(hd own joint ad=false∧CZ P=true)∨(hd own joint ad=true∧CZ P=false)∨(hd own joint ad=true∧CZ P=true) by cases hd own joint ad<;>cases CZ P<;>simp) with ⟨hh,hv⟩|⟨hh,hv⟩|⟨hh,hv⟩|⟨hh,hv⟩
 · refine ALZ ?_
   refine AH sv5 10 [(20,Aw sa po (.slice vo ks.length vc_)),(21,.bool false),(22,.bool true),(23,.bool true),(24,undef),(25,undef),(26,undef),(27,undef),(28,undef),(29,.bool true)]
     ⟨yl r6 (Bq hsa hpo (.slice vo ks.length vc_) rfl) Ah,Ae [Aw sa po (.slice vo ks.length vc_)] Tryz.func40 (by kernel_rfl) rq4 ⟨(oy rfl rfl),ALg⟩ (Au fun W g=>Ly hsa hpo (hr.kn g) hP hv),Cr r6 (fun _=>Ba),ym r5,AS r6,AS r6,AS r6,AS r6,AS r6,BQ r7,ALg⟩ fun a8 w8 g8 sv8=>?_
   refine AE ?_
   refine k7 _ _ ?_
   refine Av sv8 rfl rfl ?_
   refine ALa fun K9 k9=>?_
   refine ALZ ?_
   replace AQ:=AC g8 AQ
   refine AH sv8 1 [(30,Bm 0 (.slice none 0 0) 0 (.slice none 0 0) (.slice none 0 0) AM)]
     ⟨BR (vs:=[]) rfl rfl trivial trivial (fun _=>YM _) (fun _=>rfl),ALg⟩ fun a10 w10 g10 Bj=>?_
   refine As Bj r7 (Cy _ _ AP (.slice none 0 0) (.slice none 0 0) (.slice none 0 0) rfl rfl rfl) (AC g10 AQ) (C7 AP AP) fun w11 g11 h11=>?_
   replace Ah:=Af g10 g11 (AC g8 Ah) (Ne.symm CQ)
   replace Al:=Af g10 g11 (AC g8 Al) (Ne.symm CR)
   replace hr:=((hr.kn g8).kn g10).offR g11 (AR Ct)
   replace ho:=((ho.kn g8).kn g10).offR g11 (AR Cu)
   replace HG:=AD (AA (AA HG g8) g10) g11 Dm
   replace AQ:=h11
   refine AX (v:=.int .i64 1) Bj r6 fun a12 Cx=>?_
   refine AE ?_
   refine k9 _ _ ?_
   refine ALd ?_
   repeat refine AJ ?_
   refine Ar (fn:=Tryz.f16) Cx (DY (p:=10) (q:=11) Tryz.results16 Cx rfl rfl rfl rfl (Cy _ _ AP (.slice none 0 0) (.slice none 0 0) (.slice none 0 0) rfl rfl rfl) AQ) ?_
   exact SRes.zero (IY (.inl hh)) HG
 · refine ALZ ?_
   refine AH sv5 10 [(20,Aw sa po (.slice vo ks.length vc_)),(21,.bool true),(22,.bool false),(23,.bool false),(24,.slice ao ds.length ac),(25,.int .i64 joint),(26,.int .i64 ad),(27,.bool false),(28,.bool true),(29,.bool true)]
     ⟨yl r6 (Bq hsa hpo (.slice vo ks.length vc_) rfl) Ah,Ae [Aw sa po (.slice vo ks.length vc_)] Tryz.func40 (by kernel_rfl) rq4 ⟨(oy rfl rfl),ALg⟩ (Au fun W g=>Ly hsa hpo (hr.kn g) hP hv),Cr r6 (fun _=>Ba),ym r5,Aa rq8,Aa rq8,Aa rq8,Bn [.slice ao ds.length ac,.int .i64 joint,.int .i64 ad] Tryz.func41 (by kernel_rfl) r7 ⟨(oy rfl rfl),(oy rfl rfl),(oy rfl rfl),ALg⟩ (Au fun W g=>ABf (ho.kn g) hown hh),Ik rfl rfl (gy rfl rfl rfl) (oy rfl rfl) (fun _=>Ba) (fun _=>rfl),Ag rq9,ALg⟩ fun a13 w13 g13 Cl=>?_
   refine AE ?_
   refine k7 _ _ ?_
   refine Av Cl rfl rfl ?_
   refine ALa fun K14 k14=>?_
   refine ALZ ?_
   replace AQ:=AC g13 AQ
   refine AH Cl 1 [(30,Bm 0 (.slice none 0 0) 0 (.slice none 0 0) (.slice none 0 0) AM)]
     ⟨BR (vs:=[]) rfl rfl trivial trivial (fun _=>YM _) (fun _=>rfl),ALg⟩ fun a15 w15 g15 Gh=>?_
   refine As Gh r7 (Cy _ _ AP (.slice none 0 0) (.slice none 0 0) (.slice none 0 0) rfl rfl rfl) (AC g15 AQ) (C7 AP AP) fun w16 g16 h16=>?_
   replace Ah:=Af g15 g16 (AC g13 Ah) (Ne.symm CQ)
   replace Al:=Af g15 g16 (AC g13 Al) (Ne.symm CR)
   replace hr:=((hr.kn g13).kn g15).offR g16 (AR Ct)
   replace ho:=((ho.kn g13).kn g15).offR g16 (AR Cu)
   replace HG:=AD (AA (AA HG g13) g15) g16 Dm
   replace AQ:=h16
   refine AX (v:=.int .i64 1) Gh r6 fun a17 Dq=>?_
   refine AE ?_
   refine k14 _ _ ?_
   refine ALd ?_
   repeat refine AJ ?_
   refine Ar (fn:=Tryz.f16) Dq (DY (p:=10) (q:=11) Tryz.results16 Dq rfl rfl rfl rfl (Cy _ _ AP (.slice none 0 0) (.slice none 0 0) (.slice none 0 0) rfl rfl rfl) AQ) ?_
   exact SRes.zero (IY (.inl hh)) HG
 · refine ALZ ?_
   refine AH sv5 10 [(20,Aw sa po (.slice vo ks.length vc_)),(21,.bool false),(22,.bool true),(23,.bool true),(24,undef),(25,undef),(26,undef),(27,undef),(28,undef),(29,.bool true)]
     ⟨yl r6 (Bq hsa hpo (.slice vo ks.length vc_) rfl) Ah,Ae [Aw sa po (.slice vo ks.length vc_)] Tryz.func40 (by kernel_rfl) rq4 ⟨(oy rfl rfl),ALg⟩ (Au fun W g=>Ly hsa hpo (hr.kn g) hP hv),Cr r6 (fun _=>Ba),ym r5,AS r6,AS r6,AS r6,AS r6,AS r6,BQ r7,ALg⟩ fun a18 w18 g18 CD=>?_
   refine AE ?_
   refine k7 _ _ ?_
   refine Av CD rfl rfl ?_
   refine ALa fun K19 k19=>?_
   refine ALZ ?_
   replace AQ:=AC g18 AQ
   refine AH CD 1 [(30,Bm 0 (.slice none 0 0) 0 (.slice none 0 0) (.slice none 0 0) AM)]
     ⟨BR (vs:=[]) rfl rfl trivial trivial (fun _=>YM _) (fun _=>rfl),ALg⟩ fun a20 w20 g20 DR=>?_
   refine As DR r7 (Cy _ _ AP (.slice none 0 0) (.slice none 0 0) (.slice none 0 0) rfl rfl rfl) (AC g20 AQ) (C7 AP AP) fun w21 g21 h21=>?_
   replace Ah:=Af g20 g21 (AC g18 Ah) (Ne.symm CQ)
   replace Al:=Af g20 g21 (AC g18 Al) (Ne.symm CR)
   replace hr:=((hr.kn g18).kn g20).offR g21 (AR Ct)
   replace ho:=((ho.kn g18).kn g20).offR g21 (AR Cu)
   replace HG:=AD (AA (AA HG g18) g20) g21 Dm
   replace AQ:=h21
   refine AX (v:=.int .i64 1) DR r6 fun a22 Bl=>?_
   refine AE ?_
   refine k19 _ _ ?_
   refine ALd ?_
   repeat refine AJ ?_
   refine Ar (fn:=Tryz.f16) Bl (DY (p:=10) (q:=11) Tryz.results16 Bl rfl rfl rfl rfl (Cy _ _ AP (.slice none 0 0) (.slice none 0 0) (.slice none 0 0) rfl rfl rfl) AQ) ?_
   exact SRes.zero (IY (.inr hv)) HG
 · obtain⟨haa,hjj,hol,hasc⟩:=ABc hh
   have hia:Mw ad:=⟨by omega,by omega⟩
   refine ALZ ?_
   refine AH sv5 10 [(20,Aw sa po (.slice vo ks.length vc_)),(21,.bool true),(22,.bool false),(23,.bool false),(24,.slice ao ds.length ac),(25,.int .i64 joint),(26,.int .i64 ad),(27,.bool true),(28,.bool false),(29,.bool false)]
     ⟨yl r6 (Bq hsa hpo (.slice vo ks.length vc_) rfl) Ah,Ae [Aw sa po (.slice vo ks.length vc_)] Tryz.func40 (by kernel_rfl) rq4 ⟨(oy rfl rfl),ALg⟩ (Au fun W g=>Ly hsa hpo (hr.kn g) hP hv),Cr r6 (fun _=>Ba),ym r5,Aa rq8,Aa rq8,Aa rq8,Bn [.slice ao ds.length ac,.int .i64 joint,.int .i64 ad] Tryz.func41 (by kernel_rfl) r7 ⟨(oy rfl rfl),(oy rfl rfl),(oy rfl rfl),ALg⟩ (Au fun W g=>ABf (ho.kn g) hown hh),Ik rfl rfl (gy rfl rfl rfl) (oy rfl rfl) (fun _=>Ba) (fun _=>rfl),Ag rq9,ALg⟩ fun a23 w23 g23 CS=>?_
   refine AE ?_
   refine k7 _ _ ?_
   refine A1 CS rfl rfl ?_
   refine ALe ?_
   refine k6 _ _ ?_
   refine ALa fun K24 k24=>?_
   refine ALZ ?_
   refine AX (v:=.slice none 0 0) CS r6 fun a25 Co=>?_
   refine AE ?_
   refine k24 _ _ ?_
   refine ALa fun K26 k26=>?_
   refine ALa fun K27 k27=>?_
   refine ALZ ?_
   refine AX (v:=.int .i64 0) Co r6 fun a28 Dp=>?_
   refine AE ?_
   refine k27 _ _ ?_
   refine A8 fun Q29 x29 y29 rt29 o29=>?_
   replace Ah:=AC g23 Ah
   replace Al:=AC g23 Al
   replace AQ:=AC g23 AQ
   replace hr:=hr.kn g23
   replace ho:=ho.kn g23
   replace HG:=AA HG g23
   have okk:=Own.nil w23 23 32
   have Dy:=Hr I6
   have Dz:=Hr I7
   have B9:=Hr EC
   have ap_hr_okk:=IC (Kv (.slice vo ks.length vc_) ks)
   have ap_ho_okk:=IC (BM (.slice ao ds.length ac))
   have lo_okk:=XT w
   refine wp_loop (fun a w'=>∃(i:Nat) (ko:Option Addr) (kc:Nat) (kl:List DD),(i≤ds.length)∧(kl.map DD.x=(own.take i).map fun z=>(DI P z ad).1)∧(∀j,j<i→(DI P (No own j) ad).2=0)∧Sv 108 [] [(13,.int .i64 ((i:Int))),(12,.slice ko i kc),(20,Aw sa po (.slice vo ks.length vc_)),(21,.bool true),(22,.bool false),(23,.bool false),(24,.slice ao ds.length ac),(25,.int .i64 joint),(26,.int .i64 ad),(27,.bool true),(28,.bool false),(29,.bool false),(10,pt EC),(9,pt I7),(5,pt I6),(0,Aw sa po (.slice vo ks.length vc_)),(1,.slice ao ds.length ac),(2,.int .i64 joint),(3,.int .i64 ad),(4,Bp x)] a∧w.grownBy w' none∧w'.heap[I6]?=some (.cells ([bv sa,bv po,[.slice vo ks.length vc_]].flatten).toArray 36 (0,0))∧w'.heap[I7]?=some (.cells (vc x).toArray 25 (0,0))∧w'.heap[EC]?=some (.cells (([[.int .i64 0],[.slice none 0 0],[.int .i64 0],[.slice none 0 0],[.slice none 0 0],bv AM].flatten)).toArray 31 (0,0))∧RdK w' (.slice vo ks.length vc_) ks∧RdD w' (.slice ao ds.length ac) ds∧Own w' 23 32 (.slice ko i kc) i (kl.flatMap Ic)∧(∀k,BM (.slice ko i kc) k→k≠I6)∧(∀k,BM (.slice ko i kc) k→k≠I7)∧(∀k,BM (.slice ko i kc) k→k≠EC)∧(∀k,Kv (.slice vo ks.length vc_) ks k→¬BM (.slice ko i kc) k)∧(∀k,BM (.slice ao ds.length ac) k→¬BM (.slice ko i kc) k)∧(∀k,BM (.slice ko i kc) k→w.heap.size≤k)) (fun a _=>(ds.length-intOf (a.tmps.getD 13 undef)).toNat) ⟨0,none,0,[],Nat.zero_le _,rfl,fun j hj=>by omega,⟨Dp.1,Dp.2.1,Dp.2.2.1,Dp.2.2.2.1,Dp.2.2.2.2.1,Dp.2.2.2.2.2.1,Dp.2.2.2.2.2.2.1,Dp.2.2.2.2.2.2.2.1,(AG Dp).1,(AG Dp).2.1,(AG Dp).2.2.1,(AG Dp).2.2.2.1,(AG Dp).2.2.2.2.1,(AG Dp).2.2.2.2.2.1,(AG Dp).2.2.2.2.2.2.2.1,(AG (AG Dp)).1,(AG (AG Dp)).2.1,(AG (AG Dp)).2.2.1,(AG (AG Dp)).2.2.2.1,(AG (AG Dp)).2.2.2.2.1,(AG (AG Dp)).2.2.2.2.2.1,(AG (AG Dp)).2.2.2.2.2.2.1,ALg⟩,HG,Ah,Al,AQ,hr,ho,okk,Dy,Dz,B9,ap_hr_okk,ap_ho_okk,lo_okk⟩ fun a30 w30 hI30=>?_
   clear Ah
   clear Al
   clear AQ
   clear hr
   clear ho
   clear okk
   clear HG
   obtain⟨i,ko,kc,kl,hin,hkl,hok,Ds,HG,Ah,Al,AQ,hr,ho,okk,Dy,Dz,B9,ap_hr_okk,ap_ho_okk,lo_okk⟩:=hI30
   refine ALa fun K31 k31=>?_
   refine ALa fun K32 k32=>?_
   by_cases hi:i<ds.length
   · obtain⟨y,hx_y⟩:∃zx,ds[i]'hi=zx:=⟨_,rfl⟩
     have hla:No own i=y.x:=by rw[←hown,IT hi,hx_y]
     obtain⟨kx,hkx⟩:∃q,DI P y.x ad=q:=⟨_,rfl⟩
     have hkd:Dg kx.1:=hkx▸NV hnok
     refine ALZ ?_
     refine AH Ds 4 [(31,.int .i64 ((i:Int))),(32,.slice ao ds.length ac),(33,.int .i64 ((ds.length:Nat))),(34,.bool true)]
       ⟨ym r5,ym r5,BI (Tryz.underlying28) rfl rfl trivial (oy rfl rfl) (fun _=>rfl),GC r7 (fun _=>BE (by simp;omega)),ALg⟩ fun a33 w33 g33 Fb=>?_
     refine AE ?_
     refine k32 _ _ ?_
     refine Av Fb rfl rfl ?_
     refine ALe ?_
     refine k31 _ _ ?_
     refine ALa fun K34 k34=>?_
     refine A8 fun Q35 x35 y35 rt35 o35=>?_
     refine ALa fun K36 k36=>?_
     replace Ah:=AC g33 Ah
     replace Al:=AC g33 Al
     replace AQ:=AC g33 AQ
     replace hr:=hr.kn g33
     replace ho:=ho.kn g33
     replace okk:=okk.kn g33
     replace HG:=AA HG g33
     refine DM (Fb.st w33) (by kernel_rfl) 11 [(38,Sp.is (Aw sa po (.slice vo ks.length vc_))),(39,Sp.is (.slice ao ds.length ac)),(40,Sp.is (.int .i64 ((i:Int)))),(41,Sp.is (pk ((bO ao)) (oO ao+i*32))),(42,Sp.is (AO y.x)),(43,Sp.is (.int .i64 ad)),(44,Sp.is (.tuple #[AO kx.1,.int .i64 kx.2])),(37,Sp.is (.tuple #[AO kx.1,.int .i64 kx.2])),(45,Sp.is (AO kx.1)),(46,Sp.is (.int .i64 kx.2)),(14,Sp.new w33.heap.size ((bv AM)) 23)] rfl (by kernel_rfl) (by kernel_rfl) (by kernel_rfl) [9] (by kernel_rfl)
       ⟨yl r6 (Bq hsa hpo (.slice vo ks.length vc_) rfl) Ah,ym r5,ym r5,BA rq8 (fun w=>B8 Tryz.underlying28 (by kernel_rfl) (ho.1) (by omega) (rfl) w),Bc r6 (fun _ g=>Ab (BV y.x y.h.1) (by have:=CT (ho.kn g).1 DW hi (by decide);rw[hx_y] at this;exact this)),ym r5,Ae [Aw sa po (.slice vo ks.length vc_),AO y.x,.int .i64 ad] Tryz.func42 (by kernel_rfl) rq4 ⟨(oy rfl rfl),(oy rfl rfl),(oy rfl rfl),ALg⟩ (Au fun W g=>AI5 hsa hpo y.h (hr.kn g) hP hkx),ym r5,BX rq4 (fun _ _ h=>⟨_,_,h,rfl,rfl⟩),BX rq4 (fun _ _ h=>⟨_,_,h,rfl,rfl⟩),LJ rfl trivial (Nat.le_refl _) (fun a w=>by kernel_rfl) (fun _ _ h=>h),ALg⟩ ⟨fun o ho=>by obtain rfl:=Option.some.inj ho;exact Il rfl rfl rfl trivial (fun _ _ h=>⟨_,_,h,rfl,rfl⟩),ALg⟩
       [14] (by kernel_rfl) ⟨Sp.new_lt,ALg⟩ ⟨.inl rfl,.inl rfl,.inl rfl,.inl rfl,.inl rfl,.inl rfl,.inl rfl,.inl rfl,.inl rfl,.inl rfl,.inr ⟨rfl,((bv AM)).toArray,23,fun a w=>by kernel_rfl⟩,ALg⟩ (by kernel_rfl) fun a37 w37 g37 st37 nd37=>?_
     obtain⟨hn37,hd37,e37_38,e37_39,e37_40,e37_41,e37_42,e37_43,e37_44,e37_37,e37_45,e37_46,e37_14,e37_31,e37_32,e37_33,e37_34,e37_13,e37_12,e37_20,e37_21,e37_22,e37_23,e37_24,e37_25,e37_26,e37_27,e37_28,e37_29,e37_10,e37_9,e37_5,e37_0,e37_1,e37_2,e37_3,e37_4,-⟩:=st37
     obtain⟨AKs,e37_14q,HU,Vk⟩:=e37_14
     have Q2:=Hp Ah HU
     have Q3:=Hp Al HU
     have PM:=Hp AQ HU
     have ADG:=To HG HU
     have Vl:=JC (hr.lt) HU
     have Vm:=JC (ho.lt) HU
     have Sa:=JC (Own.ltS okk) HU
     have Gx:Sv 108 [] [(31,_),(32,_),(33,_),(34,_),(13,_),(12,_),(20,_),(21,_),(22,_),(23,_),(24,_),(25,_),(26,_),(27,_),(28,_),(29,_),(10,_),(9,_),(5,_),(0,_),(1,_),(2,_),(3,_),(4,_),(45,_),(46,_),(14,_)] a37:=⟨hn37,hd37,e37_31,e37_32,e37_33,e37_34,e37_13,e37_12,e37_20,e37_21,e37_22,e37_23,e37_24,e37_25,e37_26,e37_27,e37_28,e37_29,e37_10,e37_9,e37_5,e37_0,e37_1,e37_2,e37_3,e37_4,e37_45,e37_46,e37_14q,ALg⟩
     refine As Gx r7 (BV kx.1 hkd.1) Vk (En hkd) fun w38 g38 h38=>?_
     replace Ah:=Ac g38 (AC g37 Ah) (Ne.symm Q2)
     replace Al:=Ac g38 (AC g37 Al) (Ne.symm Q3)
     replace AQ:=Ac g38 (AC g37 AQ) (Ne.symm PM)
     replace hr:=(hr.kn g37).offR g38 (AR Vl)
     replace ho:=(ho.kn g37).offR g38 (AR Vm)
     replace okk:=(okk.kn g37).offR g38 (AR Sa)
     replace HG:=AD (AA HG g37) g38 ADG
     replace Vk:=h38
     refine AX (v:=.int .i64 kx.2) Gx r6 fun a39 Jl=>?_
     refine AE ?_
     refine k36 _ _ ?_
     refine ALa fun K40 k40=>?_
     refine ALa fun K41 k41=>?_
     by_cases he:kx.2=0
     · have hkl1:=OH hkl (by omega) hla hkx (hkd:=hkd)
       have hok1:∀j,j<i+1→(DI P (No own j) ad).2=0:=fun j hj=>if e:j=i then (by rw[e,hla,hkx];exact he) else hok j (by omega)
       refine ALZ ?_
       refine AH Jl 2 [(47,.int .i64 kx.2),(48,.bool false)]
         ⟨ym r5,Cm r6 (fun _=>FB (by simpa using he)),ALg⟩ fun a42 w42 g42 GH=>?_
       refine AE ?_
       refine k41 _ _ ?_
       refine A1 GH rfl rfl ?_
       refine ALe ?_
       refine k40 _ _ ?_
       refine ALZ ?_
       refine AH GH 2 [(51,.slice ko i kc),(52,AO kx.1)]
         ⟨ym r5,yl r6 (BV kx.1 hkd.1) (AC g42 Vk),ALg⟩ fun a43 w43 g43 JX=>?_
       have SD:=AA g42 g43
       refine KQ (cs:=bv kx.1) (e:=23) JX rfl rfl rfl rfl rfl rfl (YR hkd) fun a44 w44 AKt AJO g44 z44 AHJ R3=>?_
       replace Ah:=AC g44 (AC SD Ah)
       replace Al:=AC g44 (AC SD Al)
       replace AQ:=AC g44 (AC SD AQ)
       replace hr:=(hr.kn SD).kn g44
       replace ho:=(ho.kn SD).kn g44
       replace okk:=(okk.kn SD).kn g44
       replace HG:=AA (AA HG SD) g44
       refine GV dsT R3 rfl rfl rfl rfl rfl rfl rfl rfl okk (JK AHJ hkd) (Dj _) (by omega) fun a45 ao45 cap45 w45 owx45 Bh Ep=>?_
       have Sb:=GD Bh.2 Dy Ah
       have Sc:=GD Bh.2 Dz Al
       have Q4:=GD Bh.2 B9 AQ
       have Ye:=Fo Bh.2 ap_hr_okk (hr.lt)
       have Yf:=Fo Bh.2 ap_ho_okk (ho.lt)
       have AFH:=Oz Bh.2 lo_okk HG
       replace Ah:=AF Bh.1 Ah (fun e=>Dy _ e.symm rfl)
       replace Al:=AF Bh.1 Al (fun e=>Dz _ e.symm rfl)
       replace AQ:=AF Bh.1 AQ (fun e=>B9 _ e.symm rfl)
       replace hr:=hr.offR Bh.1 (fun k hk e=>ap_hr_okk k hk (e))
       replace ho:=ho.offR Bh.1 (fun k hk e=>ap_ho_okk k hk (e))
       replace HG:=Br HG Bh.1 fun k e=>lo_okk k (e)
       rw[Ql kl ⟨kx.1,hkd⟩] at owx45
       refine AX (v:=.slice ao45 (i+1) cap45) Ep r6 fun a46 Iq=>?_
       have Kq:Sv _ _ [_,_,_,_,_,_,_,_,_,_,_,_,_,_,_,_,_,_,_,_,_,_,_,_,_,_,_,_,_,_] _:=Iq.dl [54,53,51,52]
       refine AE ?_
       refine y35 _ _ ?_
       refine k34 _ _ ?_
       refine ALZ ?_
       refine AH Kq 2 [(35,.int .i64 ((i:Int))),(36,.int .i64 (((i+1:Nat):Int)))]
         ⟨ym r5,Cm r6 (fun _=>DB (by rw[BG (by omega) (by omega)];omega)),ALg⟩ fun a48 w48 g48 Vn=>?_
       refine AX (v:=.int .i64 (((i+1:Nat):Int))) Vn r6 fun a49 ES=>?_
       refine AE ?_
       replace Ah:=AC g48 Ah
       replace Al:=AC g48 Al
       replace AQ:=AC g48 AQ
       replace hr:=hr.kn g48
       replace ho:=ho.kn g48
       replace owx45:=owx45.kn g48
       replace HG:=AA HG g48
       exact⟨⟨i+1,ao45,cap45,(kl++[⟨kx.1,hkd⟩]),by omega,hkl1,hok1,⟨ES.1,ES.2.1,ES.2.2.1,ES.2.2.2.2.2.1,(AG ES).2.2.2.2.2.1,(AG ES).2.2.2.2.2.2.1,(AG ES).2.2.2.2.2.2.2.1,(AG (AG ES)).1,(AG (AG ES)).2.1,(AG (AG ES)).2.2.1,(AG (AG ES)).2.2.2.1,(AG (AG ES)).2.2.2.2.1,(AG (AG ES)).2.2.2.2.2.1,(AG (AG ES)).2.2.2.2.2.2.1,(AG (AG ES)).2.2.2.2.2.2.2.1,(AG (AG (AG ES))).1,(AG (AG (AG ES))).2.1,(AG (AG (AG ES))).2.2.1,(AG (AG (AG ES))).2.2.2.1,(AG (AG (AG ES))).2.2.2.2.1,(AG (AG (AG ES))).2.2.2.2.2.1,(AG (AG (AG ES))).2.2.2.2.2.2.1,ALg⟩,HG,Ah,Al,AQ,hr,ho,owx45,Sb,Sc,Q4,Ye,Yf,AFH⟩,by rw[show _=_ from ES.2.2.1,show _=_ from Ds.2.2.1];simp[intOf];omega⟩
     · have hne:own≠[]:=fun h=>by rw[h] at hownl;simp at hownl;omega
       have hke:=L5 (P:=P) (a:=ad) (own:=own) (i:=i) (by omega) hok (by rw[hla,hkx];exact he)
       rw[hla,hkx] at hke
       refine ALZ ?_
       refine AH Jl 2 [(47,.int .i64 kx.2),(48,.bool true)]
         ⟨ym r5,Cm r6 (fun _=>FB (by simpa using he)),ALg⟩ fun a50 w50 g50 PA=>?_
       refine AE ?_
       refine k41 _ _ ?_
       refine Av PA rfl rfl ?_
       refine ALa fun K51 k51=>?_
       refine ALZ ?_
       replace AQ:=AC g50 AQ
       refine AH PA 2 [(49,Bm 0 (.slice none 0 0) 0 (.slice none 0 0) (.slice none 0 0) AM),(50,.int .i64 kx.2)]
         ⟨BR (vs:=[]) rfl rfl trivial trivial (fun _=>YM _) (fun _=>rfl),ym r5,ALg⟩ fun a52 w52 g52 O9=>?_
       refine As O9 r7 (Cy _ _ AP (.slice none 0 0) (.slice none 0 0) (.slice none 0 0) rfl rfl rfl) (AC g52 AQ) (C7 AP AP) fun w53 g53 h53=>?_
       replace Ah:=Af g52 g53 (AC g50 Ah) (Ne.symm CQ)
       replace Al:=Af g52 g53 (AC g50 Al) (Ne.symm CR)
       replace hr:=((hr.kn g50).kn g52).offR g53 (AR Ct)
       replace ho:=((ho.kn g50).kn g52).offR g53 (AR Cu)
       replace okk:=((okk.kn g50).kn g52).offR g53 (AR B9)
       replace HG:=AD (AA (AA HG g50) g52) g53 Dm
       replace AQ:=h53
       refine AX (v:=.int .i64 kx.2) O9 r6 fun a54 N9=>?_
       refine AE ?_
       refine k51 _ _ ?_
       refine ALd ?_
       repeat refine AJ ?_
       refine rt35 _ _ ?_
       repeat refine AJ ?_
       refine rt29 _ _ ?_
       repeat refine AJ ?_
       refine Ar (fn:=Tryz.f16) N9 (DY (p:=10) (q:=11) Tryz.results16 N9 rfl rfl rfl rfl (Cy _ _ AP (.slice none 0 0) (.slice none 0 0) (.slice none 0 0) rfl rfl rfl) AQ) ?_
       exact SRes.zero (T5 hh hv hne hke he) HG
   · obtain⟨hK1,hK2⟩:=NU (P:=P) (a:=ad) (own:=own) fun j hj=>hok j (by omega)
     have hkm:kl.map DD.x=(Df P ad own).1:=by rw[hK1,hkl,List.take_of_length_le (by omega)]
     refine ALZ ?_
     refine AH Ds 4 [(31,.int .i64 ((i:Int))),(32,.slice ao ds.length ac),(33,.int .i64 ((ds.length:Nat))),(34,.bool false)]
       ⟨ym r5,ym r5,BI (Tryz.underlying28) rfl rfl trivial (oy rfl rfl) (fun _=>rfl),GC r7 (fun _=>BE (by simp;omega)),ALg⟩ fun a55 w55 g55 AGm=>?_
     refine AE ?_
     refine k32 _ _ ?_
     refine A1 AGm rfl rfl ?_
     refine wp_exit ?_
     repeat refine Bo ?_
     refine x29 _ _ ?_
     refine k26 _ _ ?_
     refine ALa fun K56 k56=>?_
     refine ALZ ?_
     refine AH AGm 1 [(55,.int .i64 ad)]
       ⟨ym r5,ALg⟩ fun a57 w57 g57 AAP=>?_
     have AAg:=AA g55 g57
     replace Ah:=AC AAg Ah
     replace Al:=AC AAg Al
     replace AQ:=AC AAg AQ
     replace hr:=hr.kn AAg
     replace ho:=ho.kn AAg
     replace okk:=okk.kn AAg
     replace HG:=AA HG AAg
     refine U7 (e:=23) AAP rfl rfl rfl rfl (fun W=>by kernel_rfl) fun a58 w58 Mq Ha g58 z58 ABn Uz=>?_
     have Q7:=Ax Ah Ha
     have RA:=Ax Al Ha
     have PN:=Ax AQ Ha
     have ADH:=Bk HG Ha
     have Vo:=Ay (hr.lt) Ha
     have Vp:=Ay (ho.lt) Ha
     have Se:=Ay (Own.ltS okk) Ha
     have oc0:=Qc (sz:=32) ABn
     have Om:∀k,BM (.slice ((some ⟨Mq,0,none⟩)) 0 0) k→k≠I6:=fun k hk e=>Q7 ((Option.some.inj hk).trans e)
     have On:∀k,BM (.slice ((some ⟨Mq,0,none⟩)) 0 0) k→k≠I7:=fun k hk e=>RA ((Option.some.inj hk).trans e)
     have Nc:∀k,BM (.slice ((some ⟨Mq,0,none⟩)) 0 0) k→k≠EC:=fun k hk e=>PN ((Option.some.inj hk).trans e)
     have T9:∀k,Kv (.slice vo ks.length vc_) ks k→¬BM (.slice ((some ⟨Mq,0,none⟩)) 0 0) k:=fun k hk e=>Vo k hk (Option.some.inj e).symm
     have UA:∀k,BM (.slice ao ds.length ac) k→¬BM (.slice ((some ⟨Mq,0,none⟩)) 0 0) k:=fun k hk e=>Vp k hk (Option.some.inj e).symm
     have RB:∀k,BM (.slice ko i kc) k→¬BM (.slice ((some ⟨Mq,0,none⟩)) 0 0) k:=fun k hk e=>Se k hk (Option.some.inj e).symm
     have AFI:∀k,BM (.slice ((some ⟨Mq,0,none⟩)) 0 0) k→w.heap.size≤k:=fun k hk=>(Option.some.inj hk)▸ADH
     clear ABn
     refine AH Uz 1 [(57,.slice ao ds.length ac)]
       ⟨ym r5,ALg⟩ fun a59 w59 g59 Er=>?_
     replace Ah:=AC g59 (AC g58 Ah)
     replace Al:=AC g59 (AC g58 Al)
     replace AQ:=AC g59 (AC g58 AQ)
     replace hr:=(hr.kn g58).kn g59
     replace ho:=(ho.kn g58).kn g59
     replace okk:=(okk.kn g58).kn g59
     replace oc0:=oc0.kn g59
     replace HG:=AA (AA HG g58) g59
     refine GV dsT Er rfl rfl rfl rfl rfl rfl rfl rfl oc0 (ho.1) (ABb ds) (by omega) fun a60 ao60 cap60 w60 oc60 Bh AAK=>?_
     have Vq:=GD Bh.2 Om Ah
     have Vr:=GD Bh.2 On Al
     have Hi:=GD Bh.2 Nc AQ
     have AAh:=Fo Bh.2 T9 (hr.lt)
     have AAi:=Fo Bh.2 UA (ho.lt)
     have Oo:=Fo Bh.2 RB (Own.ltS okk)
     have ap_oc60_okk:=Uj Oo
     have Pm:=Oz Bh.2 AFI HG
     rw[List.nil_append] at oc60
     rw[Nat.zero_add] at oc60 Pm AAK
     rw[Nat.zero_add] at Vq
     rw[Nat.zero_add] at Vr
     rw[Nat.zero_add] at Hi
     rw[Nat.zero_add] at AAh
     rw[Nat.zero_add] at AAi
     rw[Nat.zero_add] at Oo
     rw[Nat.zero_add] at ap_oc60_okk
     refine AH AAK 2 [(59,.int .i64 joint),(60,Bm ad (.slice ao60 ds.length cap60) joint (.slice none 0 0) (.slice none 0 0) AM)]
       ⟨ym r5,BR (vs:=[.int .i64 ad,.slice ao60 ds.length cap60,.int .i64 joint]) rfl rfl trivial ⟨(oy rfl rfl),(oy rfl rfl),(oy rfl rfl),ALg⟩ (fun _=>AJ4 _ _ _ _ _ _) (fun _=>rfl),ALg⟩ fun a61 w61 g61 OA=>?_
     replace Ah:=AC g61 (AF Bh.1 Ah (fun e=>Om _ e.symm rfl))
     replace Al:=AC g61 (AF Bh.1 Al (fun e=>On _ e.symm rfl))
     replace AQ:=AC g61 (AF Bh.1 AQ (fun e=>Nc _ e.symm rfl))
     replace hr:=(hr.offR Bh.1 (fun k hk e=>T9 k hk (e))).kn g61
     replace ho:=(ho.offR Bh.1 (fun k hk e=>UA k hk (e))).kn g61
     replace okk:=(okk.offR Bh.1 (fun k hk e=>RB k hk (e))).kn g61
     replace oc60:=oc60.kn g61
     replace HG:=AA (Br HG Bh.1 fun k e=>AFI k (e)) g61
     refine Az (T:=31) (Z:=([[.int .i64 0],[.slice none 0 0],[.int .i64 0],[.slice none 0 0],[.slice none 0 0],bv AM].flatten)) OA rfl rfl rfl (fun a w=>by kernel_rfl) fun a62 w62 FL F6 g62 z62 A3 AHK=>?_
     have EN:=Ax Ah F6
     have EO:=Ax Al F6
     have CY:=Ax AQ F6
     have F7:=Bk HG F6
     have FU:=Ay (hr.lt) F6
     have FV:=Ay (ho.lt) F6
     have Dh:=Ay (Own.ltS okk) F6
     have DV:=Ay (Own.ltS oc60) F6
     refine As AHK r7 (Cy _ _ AP (.slice ao60 ds.length cap60) (.slice none 0 0) (.slice none 0 0) rfl rfl rfl) A3 (C7 AP AP) fun w63 g63 h63=>?_
     replace Al:=Ac g63 (AC g62 Al) (Ne.symm EO)
     have AAj:Sv _ _ [_,_,_,_,_,_,_,_,_,_,_,_,_,_,_,_,_,_,_,_,_,_,_,_,_] _:=AHK.dl [59,60,58,57,56,55]
     refine AE ?_
     refine k56 _ _ ?_
     refine ALa fun K65 k65=>?_
     refine ALZ ?_
     refine AH AAj 1 [(61,Bp x)]
       ⟨yl r6 (ED x) Al,ALg⟩ fun a66 w66 g66 AFJ=>?_
     replace AQ:=AC g66 (Ac g63 (AC g62 AQ) (Ne.symm CY))
     replace A3:=AC g66 h63
     replace HG:=AA (AD (AA HG g62) g63 F7) g66
     refine BB AFJ Tryz.func43 (by kernel_rfl) r6 (Rl x _) fun a67 v67 w67 hR67 ADI=>?_
     obtain⟨ao67,cap67,rfl,_⟩:=(Sl.of_own hR67.1).shape
     obtain⟨ow67,fr67⟩:=hR67
     replace fr67:=Cq fr67
     have op:=ow67
     clear ow67
     have g67:=fr67.1
     replace fr67:=fr67.2
     have EW:=Ca fr67 AQ
     have Ej:=Ca fr67 A3
     have lo_op:=Gk HG fr67
     replace Ah:=AC g67 (AC g66 (Ac g63 (AC g62 Ah) (Ne.symm EN)))
     replace Al:=AC g67 (AC g66 Al)
     replace AQ:=AC g67 AQ
     replace A3:=AC g67 A3
     replace hr:=(((hr.kn g62).offR g63 (AR FU)).kn g66).kn g67
     replace ho:=(((ho.kn g62).offR g63 (AR FV)).kn g66).kn g67
     replace okk:=(((okk.kn g62).offR g63 (AR Dh)).kn g66).kn g67
     replace oc60:=(((oc60.kn g62).offR g63 (AR DV)).kn g66).kn g67
     replace HG:=AA HG g67
     refine AX (v:=.slice ao67 ((BD x)).length cap67) ADI r6 fun a68 La=>?_
     refine AE ?_
     refine k65 _ _ ?_
     refine ALa fun K69 k69=>?_
     refine ALa fun K70 k70=>?_
     rcases Nat.eq_zero_or_pos ds.length with hz|hz
     · obtain rfl:own=[]:=List.eq_nil_of_length_eq_zero (by omega)
       refine ALZ ?_
       refine AH La 3 [(63,.slice ao ds.length ac),(64,.int .i64 ((ds.length:Nat))),(65,.bool true)]
         ⟨ym r5,BI (Tryz.underlying28) rfl rfl trivial (oy rfl rfl) (fun _=>rfl),Cm r6 (fun _=>Bd (Ny (by omega))),ALg⟩ fun a71 w71 g71 AKC=>?_
       refine AE ?_
       refine k70 _ _ ?_
       refine Av AKC rfl rfl ?_
       refine ALa fun K72 k72=>?_
       refine ALZ ?_
       refine AH AKC 2 [(66,.slice ao67 ((BD x)).length cap67),(67,pk FL 4)]
         ⟨ym r5,yf r6 (fun _=>by kernel_rfl),ALg⟩ fun a73 w73 g73 YT=>?_
       have Sf:=AA g71 g73
       refine Hq (L:=[[.int .i64 ad],[.slice ao60 ds.length cap60],[.int .i64 joint],[.slice none 0 0],[.slice none 0 0],bv AM]) (i:=4) YT r7 (E8 (.slice ao67 ((BD x)).length cap67) rfl) (AC Sf A3) rfl rfl rfl fun w74 g74 h74=>?_
       refine AE ?_
       refine k72 _ _ ?_
       refine ALa fun K75 k75=>?_
       refine ALZ ?_
       refine AH YT 2 [(68,.int .i64 ad),(69,.slice ao67 ((BD x)).length cap67)]
         ⟨ym r5,ym r5,ALg⟩ fun a76 w76 g76 ADA=>?_
       replace op:=((op.kn Sf).offR g74 (AR Ej)).kn g76
       refine BB ADA Tryz.func44 (by kernel_rfl) r6 (Jq (AAa ad hia (BD x) (EE x) (by have:=Em x;omega) _ _ _ (Own.sb op))) fun a77 v77 w77 hR77 AFK=>?_
       obtain⟨rfl,g77⟩:=hR77
       replace A3:=AC g77 (AC g76 h74)
       refine AH AFK 1 [(71,pk FL 5)]
         ⟨yf r6 (fun _=>by kernel_rfl),ALg⟩ fun a78 w78 g78 ADJ=>?_
       refine Hq (L:=[[.int .i64 ad],[.slice ao60 ds.length cap60],[.int .i64 joint],[.slice none 0 0],[.slice ao67 ((BD x)).length cap67],bv AM]) (i:=5) ADJ r7 (BV ((Wf ad (BD x))) (Dr ad (BD x)).1) (AC g78 A3) rfl rfl (QI AP (Dr ad (BD x))) fun w79 g79 h79=>?_
       replace AQ:=Af g78 g79 (AC g77 (AC g76 (Af Sf g74 AQ (Ne.symm CY)))) (Ne.symm CY)
       replace A3:=h79
       have AI2:Sv _ _ [_,_,_,_,_,_,_,_,_,_,_,_,_,_,_,_,_,_,_,_,_,_,_,_,_,_,_,_,_,_,_,_,_] _:=ADJ.dl [71,70,68,69]
       refine AE ?_
       refine k75 _ _ ?_
       refine ALa fun K81 k81=>?_
       refine ALZ ?_
       refine AH AI2 1 [(72,Bm ad (.slice ao60 ds.length cap60) joint (.slice none 0 0) (.slice ao67 ((BD x)).length cap67) ((Wf ad (BD x))))]
         ⟨yl r6 (Cy _ _ (Dr ad (BD x)) (.slice ao60 ds.length cap60) (.slice none 0 0) (.slice ao67 ((BD x)).length cap67) rfl rfl rfl) A3,ALg⟩ fun a82 w82 g82 Vc=>?_
       refine As Vc r7 (Cy _ _ (Dr ad (BD x)) (.slice ao60 ds.length cap60) (.slice none 0 0) (.slice ao67 ((BD x)).length cap67) rfl rfl rfl) (AC g82 AQ) (C7 AP (Dr ad (BD x))) fun w83 g83 h83=>?_
       replace Ah:=Af g82 g83 (Af g78 g79 (AC g77 (AC g76 (Af Sf g74 Ah (Ne.symm EN)))) (Ne.symm EN)) (Ne.symm CQ)
       replace Al:=Af g82 g83 (Af g78 g79 (AC g77 (AC g76 (Af Sf g74 Al (Ne.symm EO)))) (Ne.symm EO)) (Ne.symm CR)
       replace A3:=Af g82 g83 A3 CY
       replace hr:=(((((((hr.kn Sf).offR g74 (AR FU)).kn g76).kn g77).kn g78).offR g79 (AR FU)).kn g82).offR g83 (AR Ct)
       replace ho:=(((((((ho.kn Sf).offR g74 (AR FV)).kn g76).kn g77).kn g78).offR g79 (AR FV)).kn g82).offR g83 (AR Cu)
       replace okk:=(((((((okk.kn Sf).offR g74 (AR Dh)).kn g76).kn g77).kn g78).offR g79 (AR Dh)).kn g82).offR g83 (AR B9)
       replace oc60:=(((((((oc60.kn Sf).offR g74 (AR DV)).kn g76).kn g77).kn g78).offR g79 (AR DV)).kn g82).offR g83 (AR Hi)
       replace op:=((((op.kn g77).kn g78).offR g79 (AR Ej)).kn g82).offR g83 (AR EW)
       replace HG:=AD (AA (AD (AA (AA (AA (AD (AA HG Sf) g74 F7) g76) g77) g78) g79 F7) g82) g83 Dm
       replace AQ:=h83
       refine AX (v:=.int .i64 0) Vc r6 fun a84 Vd=>?_
       refine AE ?_
       refine k81 _ _ ?_
       refine ALd ?_
       repeat refine AJ ?_
       refine Ar (fn:=Tryz.f16) Vd (DY (p:=10) (q:=11) Tryz.results16 Vd rfl rfl rfl rfl (Cy _ _ (Dr ad (BD x)) (.slice ao60 ds.length cap60) (.slice none 0 0) (.slice ao67 ((BD x)).length cap67) rfl rfl rfl) AQ) ?_
       exact SRes.mk (own:=ds) (wr:=[]) (L3 hh hv) rfl rfl rfl hown rfl oc60 (Own.nil _ _ _) op Pm (fun k hk=>by simp[BM,Value.ownBlock] at hk) lo_op (fun k _ hk=>by simp[BM,Value.ownBlock] at hk) (Dr _ _) (EE x) HG rfl
     · have hne:own≠[]:=fun h=>by rw[h] at hownl;simp at hownl;omega
       refine ALZ ?_
       refine AH La 3 [(63,.slice ao ds.length ac),(64,.int .i64 ((ds.length:Nat))),(65,.bool false)]
         ⟨ym r5,BI (Tryz.underlying28) rfl rfl trivial (oy rfl rfl) (fun _=>rfl),Cm r6 (fun _=>Bd (MG (by omega))),ALg⟩ fun a85 w85 g85 ADB=>?_
       refine AE ?_
       refine k70 _ _ ?_
       refine A1 ADB rfl rfl ?_
       refine ALe ?_
       refine k69 _ _ ?_
       refine ALa fun K86 k86=>?_
       have hkll:kl.length=i:=by have:=congrArg List.length hkl;simpa using this.trans (by rw[List.length_map,List.length_take];omega)
       obtain⟨ck,hcke⟩:∃c,Tx (decide (joint=1)) (kl.map DD.x)=c:=⟨_,rfl⟩
       have hck:Dg ck:=hcke▸OE _ _
       refine ALZ ?_
       refine AH ADB 2 [(73,.int .i64 joint),(74,.slice ko i kc)]
         ⟨ym r5,ym r5,ALg⟩ fun a87 w87 g87 AHF=>?_
       replace okk:=(okk.kn g85).kn g87
       refine BB AHF Tryz.func45 (by kernel_rfl) r6 (Jq (AC5 hkll (Own.sb okk) (by omega) hjj hcke)) fun a88 v88 w88 hR88 AKu=>?_
       obtain⟨rfl,g88⟩:=hR88
       replace Ah:=AC g88 (AC g87 (AC g85 Ah))
       replace Al:=AC g88 (AC g87 (AC g85 Al))
       replace AQ:=AC g88 (AC g87 (AC g85 AQ))
       replace A3:=AC g88 (AC g87 (AC g85 A3))
       replace hr:=((hr.kn g85).kn g87).kn g88
       replace ho:=((ho.kn g85).kn g87).kn g88
       replace okk:=okk.kn g88
       replace oc60:=((oc60.kn g85).kn g87).kn g88
       replace op:=((op.kn g85).kn g87).kn g88
       replace HG:=AA (AA (AA HG g85) g87) g88
       refine Az (T:=23) (Z:=(bv AM)) AKu rfl rfl rfl (fun a w=>by kernel_rfl) fun a89 w89 Mr Ey g89 z89 CM YW=>?_
       have RC:=Ax Ah Ey
       have RD:=Ax Al Ey
       have Ko:=Ax AQ Ey
       have EP:=Ax A3 Ey
       have ADK:=Bk HG Ey
       have Vs:=Ay (hr.lt) Ey
       have Vt:=Ay (ho.lt) Ey
       have Sg:=Ay (Own.ltS okk) Ey
       have RE:=Ay (Own.ltS oc60) Ey
       have Vu:=Ay (Own.ltS op) Ey
       refine As YW r7 (BV ck hck.1) CM (En hck) fun w90 g90 h90=>?_
       replace Ah:=Ac g90 (AC g89 Ah) (Ne.symm RC)
       replace Al:=Ac g90 (AC g89 Al) (Ne.symm RD)
       replace AQ:=Ac g90 (AC g89 AQ) (Ne.symm Ko)
       replace A3:=Ac g90 (AC g89 A3) (Ne.symm EP)
       replace hr:=(hr.kn g89).offR g90 (AR Vs)
       replace ho:=(ho.kn g89).offR g90 (AR Vt)
       replace okk:=(okk.kn g89).offR g90 (AR Sg)
       replace oc60:=(oc60.kn g89).offR g90 (AR RE)
       replace op:=(op.kn g89).offR g90 (AR Vu)
       replace HG:=AD (AA HG g89) g90 ADK
       replace CM:=h90
       refine AE ?_
       refine k86 _ _ ?_
       refine ALa fun K91 k91=>?_
       refine ALa fun K92 k92=>?_
       rcases hjj with rfl|rfl
       · refine ALZ ?_
         refine AX (v:=.int .i64 0) YW r6 fun a93 Es=>?_
         refine AE ?_
         refine k92 _ _ ?_
         refine A8 fun Q94 x94 y94 rt94 o94=>?_
         refine wp_loop (fun a w'=>Sv 108 [] [(19,.int .i64 0),(18,pt Mr),(75,AO ck),(73,.int .i64 0),(74,.slice ko i kc),(63,.slice ao ds.length ac),(64,.int .i64 ((ds.length:Nat))),(65,.bool false),(17,.slice ao67 ((BD x)).length cap67),(62,.slice ao67 ((BD x)).length cap67),(61,Bp x),(16,pt FL),(31,.int .i64 ((i:Int))),(32,.slice ao ds.length ac),(33,.int .i64 ((ds.length:Nat))),(34,.bool false),(13,.int .i64 ((i:Int))),(12,.slice ko i kc),(20,Aw sa po (.slice vo ks.length vc_)),(21,.bool true),(22,.bool false),(23,.bool false),(24,.slice ao ds.length ac),(25,.int .i64 0),(26,.int .i64 ad),(27,.bool true),(28,.bool false),(29,.bool false),(10,pt EC),(9,pt I7),(5,pt I6),(0,Aw sa po (.slice vo ks.length vc_)),(1,.slice ao ds.length ac),(2,.int .i64 0),(3,.int .i64 ad),(4,Bp x)] a∧w.grownBy w' none∧w'.heap[I6]?=some (.cells ([bv sa,bv po,[.slice vo ks.length vc_]].flatten).toArray 36 (0,0))∧w'.heap[I7]?=some (.cells (vc x).toArray 25 (0,0))∧w'.heap[EC]?=some (.cells (([[.int .i64 0],[.slice none 0 0],[.int .i64 0],[.slice none 0 0],[.slice none 0 0],bv AM].flatten)).toArray 31 (0,0))∧w'.heap[FL]?=some (.cells ([[.int .i64 ad],[.slice ao60 ds.length cap60],[.int .i64 0],[.slice none 0 0],[.slice none 0 0],bv AM].flatten).toArray 31 (0,0))∧w'.heap[Mr]?=some (.cells (bv ck).toArray 23 (0,0))∧RdK w' (.slice vo ks.length vc_) ks∧RdD w' (.slice ao ds.length ac) ds∧Own w' 23 32 (.slice ko i kc) i (kl.flatMap Ic)∧Own w' 23 32 (.slice ao60 ds.length cap60) ds.length (ds.flatMap Ic)∧Own w' 5 1 (.slice ao67 ((BD x)).length cap67) (((BD x)).length) (bv ((BD x)))) (fun a _=>0) ⟨⟨Es.1,Es.2.1,Es.2.2.1,Es.2.2.2.1,Es.2.2.2.2.1,Es.2.2.2.2.2.1,Es.2.2.2.2.2.2.1,Es.2.2.2.2.2.2.2.1,(AG Es).1,(AG Es).2.1,(AG Es).2.2.1,(AG Es).2.2.2.1,(AG Es).2.2.2.2.1,(AG Es).2.2.2.2.2.1,(AG Es).2.2.2.2.2.2.1,(AG Es).2.2.2.2.2.2.2.1,(AG (AG Es)).1,(AG (AG Es)).2.1,(AG (AG Es)).2.2.1,(AG (AG Es)).2.2.2.1,(AG (AG Es)).2.2.2.2.1,(AG (AG Es)).2.2.2.2.2.1,(AG (AG Es)).2.2.2.2.2.2.1,(AG (AG Es)).2.2.2.2.2.2.2.1,(AG (AG (AG Es))).1,(AG (AG (AG Es))).2.1,(AG (AG (AG Es))).2.2.1,(AG (AG (AG Es))).2.2.2.1,(AG (AG (AG Es))).2.2.2.2.1,(AG (AG (AG Es))).2.2.2.2.2.1,(AG (AG (AG Es))).2.2.2.2.2.2.1,(AG (AG (AG Es))).2.2.2.2.2.2.2.1,(AG (AG (AG (AG Es)))).1,(AG (AG (AG (AG Es)))).2.1,(AG (AG (AG (AG Es)))).2.2.1,(AG (AG (AG (AG Es)))).2.2.2.1,(AG (AG (AG (AG Es)))).2.2.2.2.1,(AG (AG (AG (AG Es)))).2.2.2.2.2.1,ALg⟩,HG,Ah,Al,AQ,A3,CM,hr,ho,okk,oc60,op⟩ fun a95 w95 hI95=>?_
         clear Ah
         clear Al
         clear AQ
         clear A3
         clear CM
         clear hr
         clear ho
         clear okk
         clear oc60
         clear op
         clear HG
         obtain⟨AI3,HG,Ah,Al,AQ,A3,CM,hr,ho,okk,oc60,op⟩:=hI95
         refine ALa fun K96 k96=>?_
         refine ALa fun K97 k97=>?_
         have hi0:0<i:=by omega
         · skip
           refine ALZ ?_
           refine AH AI3 8 [(76,.int .i64 0),(77,.slice ko i kc),(78,.int .i64 ((i:Nat))),(79,.bool true),(80,.bool true),(81,.int .i64 0),(82,.bool false),(83,.bool false)]
            ⟨ym r5,ym r5,BI (Tryz.underlying28) rfl rfl trivial (oy rfl rfl) (fun _=>rfl),GC r7 (fun _=>BE (by simp;omega)),ym r5,Aa rq8,Ap rq9 (fun _=>Bd rfl),Ag rq9,ALg⟩ fun a98 w98 g98 AHL=>?_
           refine AE ?_
           refine k97 _ _ ?_
           refine A1 AHL rfl rfl ?_
           refine wp_exit ?_
           repeat refine Bo ?_
           refine x94 _ _ ?_
           refine k91 _ _ ?_
           refine ALa fun K99 k99=>?_
           refine ALZ ?_
           refine AH AHL 2 [(97,AO ck),(98,.slice ao67 ((BD x)).length cap67)]
            ⟨yl r6 (BV ck hck.1) (AC g98 CM),ym r5,ALg⟩ fun a100 w100 g100 AKD=>?_
           have Lb:=AA g98 g100
           replace AQ:=AC Lb AQ
           replace A3:=AC Lb A3
           replace op:=op.kn Lb
           replace HG:=AA HG Lb
           refine BB AKD Tryz.func47 (by kernel_rfl) r6 (NN (Qk (BD x) (EE x) (by have:=Em x;omega) _ _ ck hck _ (Own.sb op))) fun a101 v101 w101 hR101 T7=>?_
           obtain⟨ao101,cap101,rfl,_⟩:=(Sl.of_own hR101.1).shape
           obtain⟨ow101,fr101⟩:=hR101
           replace fr101:=Cq fr101
           have oy_:=ow101
           clear ow101
           have g101:=fr101.1
           replace fr101:=fr101.2
           have Eg:=Ca fr101 AQ
           have Fj:=Ca fr101 A3
           have lo_oy_:=Gk HG fr101
           replace A3:=AC g101 A3
           refine AH T7 1 [(100,pk FL 4)]
            ⟨yf r6 (fun _=>by kernel_rfl),ALg⟩ fun a102 w102 g102 ABo=>?_
           refine Hq (L:=[[.int .i64 ad],[.slice ao60 ds.length cap60],[.int .i64 0],[.slice none 0 0],[.slice none 0 0],bv AM]) (i:=4) ABo r7 (E8 (.slice ao101 ((Fv (BD x) ck)).length cap101) rfl) (AC g102 A3) rfl rfl rfl fun w103 g103 h103=>?_
           replace CM:=Af g102 g103 (AC g101 (AC Lb CM)) EP
           replace A3:=h103
           have YX:Sv _ _ [_,_,_,_,_,_,_,_,_,_,_,_,_,_,_,_,_,_,_,_,_,_,_,_,_,_,_,_,_,_,_,_,_,_,_,_,_,_,_,_,_,_,_,_] _:=ABo.dl [100,99,97,98]
           refine AE ?_
           refine k99 _ _ ?_
           refine ALa fun K105 k105=>?_
           refine ALZ ?_
           refine AH YX 4 [(101,AO ck),(102,.int .i64 ad),(103,pk FL 4),(104,.slice ao101 ((Fv (BD x) ck)).length cap101)]
            ⟨yl r6 (BV ck hck.1) CM,ym r5,yf r6 (fun _=>by kernel_rfl),yp (i:=4) r6 (E8 (.slice ao101 ((Fv (BD x) ck)).length cap101) rfl) A3 rfl rfl,ALg⟩ fun a106 w106 g106 AFL=>?_
           replace oy_:=((oy_.kn g102).offR g103 (AR Fj)).kn g106
           refine BB AFL Tryz.func48 (by kernel_rfl) r6 (Jq (YJ ck hck ad hia (Fv (BD x) ck) (KS _ (EE x)) (by have:=Em x;rw[KR];omega) _ _ _ (Own.sb oy_))) fun a107 v107 w107 hR107 YY=>?_
           obtain⟨rfl,g107⟩:=hR107
           replace A3:=AC g107 (AC g106 A3)
           have AFM:Sv _ _ [_,_,_,_,_,_,_,_,_,_,_,_,_,_,_,_,_,_,_,_,_,_,_,_,_,_,_,_,_,_,_,_,_,_,_,_,_,_,_,_,_,_,_,_,_] _:=YY.dl [101,102,103,104]
           refine AH AFM 1 [(106,pk FL 5)]
            ⟨yf r6 (fun _=>by kernel_rfl),ALg⟩ fun a109 w109 g109 T8=>?_
           refine Hq (L:=[[.int .i64 ad],[.slice ao60 ds.length cap60],[.int .i64 0],[.slice none 0 0],[.slice ao101 ((Fv (BD x) ck)).length cap101],bv AM]) (i:=5) T8 r7 (BV ((QZ ck ad (Fv (BD x) ck))) (CV _ _ _).1) (AC g109 A3) rfl rfl (QI AP (CV _ _ _)) fun w110 g110 h110=>?_
           replace AQ:=Af g109 g110 (AC g107 (AC g106 (Af g102 g103 (AC g101 AQ) (Ne.symm CY)))) (Ne.symm CY)
           replace A3:=h110
           refine AE ?_
           refine k105 _ _ ?_
           refine ALa fun K111 k111=>?_
           refine ALZ ?_
           refine AH T8 1 [(107,Bm ad (.slice ao60 ds.length cap60) 0 (.slice none 0 0) (.slice ao101 ((Fv (BD x) ck)).length cap101) ((QZ ck ad (Fv (BD x) ck))))]
            ⟨yl r6 (Cy _ _ (CV _ _ _) (.slice ao60 ds.length cap60) (.slice none 0 0) (.slice ao101 ((Fv (BD x) ck)).length cap101) rfl rfl rfl) A3,ALg⟩ fun a112 w112 g112 YZ=>?_
           refine As YZ r7 (Cy _ _ (CV _ _ _) (.slice ao60 ds.length cap60) (.slice none 0 0) (.slice ao101 ((Fv (BD x) ck)).length cap101) rfl rfl rfl) (AC g112 AQ) (C7 AP (CV _ _ _)) fun w113 g113 h113=>?_
           replace Ah:=Af g112 g113 (Af g109 g110 (AC g107 (AC g106 (Af g102 g103 (AC g101 (AC Lb Ah)) (Ne.symm EN)))) (Ne.symm EN)) (Ne.symm CQ)
           replace Al:=Af g112 g113 (Af g109 g110 (AC g107 (AC g106 (Af g102 g103 (AC g101 (AC Lb Al)) (Ne.symm EO)))) (Ne.symm EO)) (Ne.symm CR)
           replace A3:=Af g112 g113 A3 CY
           replace CM:=Af g112 g113 (Af g109 g110 (AC g107 (AC g106 CM)) EP) Ko
           replace hr:=(((((((((hr.kn Lb).kn g101).kn g102).offR g103 (AR FU)).kn g106).kn g107).kn g109).offR g110 (AR FU)).kn g112).offR g113 (AR Ct)
           replace ho:=(((((((((ho.kn Lb).kn g101).kn g102).offR g103 (AR FV)).kn g106).kn g107).kn g109).offR g110 (AR FV)).kn g112).offR g113 (AR Cu)
           replace okk:=(((((((((okk.kn Lb).kn g101).kn g102).offR g103 (AR Dh)).kn g106).kn g107).kn g109).offR g110 (AR Dh)).kn g112).offR g113 (AR B9)
           replace oc60:=(((((((((oc60.kn Lb).kn g101).kn g102).offR g103 (AR DV)).kn g106).kn g107).kn g109).offR g110 (AR DV)).kn g112).offR g113 (AR Hi)
           replace op:=((((((((op.kn g101).kn g102).offR g103 (AR Ej)).kn g106).kn g107).kn g109).offR g110 (AR Ej)).kn g112).offR g113 (AR EW)
           replace oy_:=((((oy_.kn g107).kn g109).offR g110 (AR Fj)).kn g112).offR g113 (AR Eg)
           replace HG:=AD (AA (AD (AA (AA (AA (AD (AA (AA HG g101) g102) g103 F7) g106) g107) g109) g110 F7) g112) g113 Dm
           replace AQ:=h113
           refine AX (v:=.int .i64 0) YZ r6 fun a114 AHy=>?_
           refine AE ?_
           refine k111 _ _ ?_
           refine ALd ?_
           repeat refine AJ ?_
           refine Ar (fn:=Tryz.f16) AHy (DY (p:=10) (q:=11) Tryz.results16 AHy rfl rfl rfl rfl (Cy _ _ (CV _ _ _) (.slice ao60 ds.length cap60) (.slice none 0 0) (.slice ao101 ((Fv (BD x) ck)).length cap101) rfl rfl rfl) AQ) ?_
           exact SRes.mk (own:=ds) (wr:=[]) (Jr hh hv hne hK2 hkm hcke) rfl rfl rfl hown rfl oc60 (Own.nil _ _ _) oy_ Pm (fun k hk=>by simp[BM,Value.ownBlock] at hk) lo_oy_ (fun k _ hk=>by simp[BM,Value.ownBlock] at hk) (CV _ _ _) (KS _ (EE x)) HG rfl
       · refine ALZ ?_
         refine AX (v:=.int .i64 0) YW r6 fun a115 Cb=>?_
         refine AE ?_
         refine k92 _ _ ?_
         refine A8 fun Q116 x116 y116 rt116 o116=>?_
         have ow:=Own.nil w90 23 32
         have Eh:=Hr I6
         have Ei:=Hr I7
         have DU:=Hr EC
         have FX:=Hr FL
         have IV:=Hr Mr
         have ap_hr_ow:=IC (Kv (.slice vo ks.length vc_) ks)
         have ap_ho_ow:=IC (BM (.slice ao ds.length ac))
         have ap_okk_ow:=IC (BM (.slice ko i kc))
         have ap_ow_okk:=XS (BM (.slice ko i kc))
         have ap_oc60_ow:=IC (BM (.slice ao60 ds.length cap60))
         have RF:=XS (BM (.slice ao60 ds.length cap60))
         have ap_op_ow:=IC (BM (.slice ao67 ((BD x)).length cap67))
         have ap_ow_op:=XS (BM (.slice ao67 ((BD x)).length cap67))
         have lo_ow:=XT w
         refine wp_loop (fun a w'=>∃(j:Nat) (wo:Option Addr) (wc:Nat),(j≤i)∧Sv 108 [] [(19,.int .i64 ((j:Int))),(18,pt Mr),(75,AO ck),(73,.int .i64 1),(74,.slice ko i kc),(63,.slice ao ds.length ac),(64,.int .i64 ((ds.length:Nat))),(65,.bool false),(17,.slice ao67 ((BD x)).length cap67),(62,.slice ao67 ((BD x)).length cap67),(61,Bp x),(16,pt FL),(31,.int .i64 ((i:Int))),(32,.slice ao ds.length ac),(33,.int .i64 ((ds.length:Nat))),(34,.bool false),(13,.int .i64 ((i:Int))),(12,.slice ko i kc),(20,Aw sa po (.slice vo ks.length vc_)),(21,.bool true),(22,.bool false),(23,.bool false),(24,.slice ao ds.length ac),(25,.int .i64 1),(26,.int .i64 ad),(27,.bool true),(28,.bool false),(29,.bool false),(10,pt EC),(9,pt I7),(5,pt I6),(0,Aw sa po (.slice vo ks.length vc_)),(1,.slice ao ds.length ac),(2,.int .i64 1),(3,.int .i64 ad),(4,Bp x)] a∧w.grownBy w' none∧w'.heap[I6]?=some (.cells ([bv sa,bv po,[.slice vo ks.length vc_]].flatten).toArray 36 (0,0))∧w'.heap[I7]?=some (.cells (vc x).toArray 25 (0,0))∧w'.heap[EC]?=some (.cells (([[.int .i64 0],[.slice none 0 0],[.int .i64 0],[.slice none 0 0],[.slice none 0 0],bv AM].flatten)).toArray 31 (0,0))∧w'.heap[FL]?=some (.cells ([[.int .i64 ad],[.slice ao60 ds.length cap60],[.int .i64 1],[.slice wo j wc],[.slice none 0 0],bv AM].flatten).toArray 31 (0,0))∧w'.heap[Mr]?=some (.cells (bv ck).toArray 23 (0,0))∧RdK w' (.slice vo ks.length vc_) ks∧RdD w' (.slice ao ds.length ac) ds∧Own w' 23 32 (.slice ko i kc) i (kl.flatMap Ic)∧Own w' 23 32 (.slice ao60 ds.length cap60) ds.length (ds.flatMap Ic)∧Own w' 5 1 (.slice ao67 ((BD x)).length cap67) (((BD x)).length) (bv ((BD x)))∧Own w' 23 32 (.slice wo j wc) j (((wrL ck hck kl j)).flatMap Ic)∧(∀k,BM (.slice wo j wc) k→k≠I6)∧(∀k,BM (.slice wo j wc) k→k≠I7)∧(∀k,BM (.slice wo j wc) k→k≠EC)∧(∀k,BM (.slice wo j wc) k→k≠FL)∧(∀k,BM (.slice wo j wc) k→k≠Mr)∧(∀k,Kv (.slice vo ks.length vc_) ks k→¬BM (.slice wo j wc) k)∧(∀k,BM (.slice ao ds.length ac) k→¬BM (.slice wo j wc) k)∧(∀k,BM (.slice ko i kc) k→¬BM (.slice wo j wc) k)∧(∀k,BM (.slice wo j wc) k→¬BM (.slice ko i kc) k)∧(∀k,BM (.slice ao60 ds.length cap60) k→¬BM (.slice wo j wc) k)∧(∀k,BM (.slice wo j wc) k→¬BM (.slice ao60 ds.length cap60) k)∧(∀k,BM (.slice ao67 ((BD x)).length cap67) k→¬BM (.slice wo j wc) k)∧(∀k,BM (.slice wo j wc) k→¬BM (.slice ao67 ((BD x)).length cap67) k)∧(∀k,BM (.slice wo j wc) k→w.heap.size≤k)) (fun a _=>(i-intOf (a.tmps.getD 19 undef)).toNat) ⟨0,none,0,Nat.zero_le _,⟨Cb.1,Cb.2.1,Cb.2.2.1,Cb.2.2.2.1,Cb.2.2.2.2.1,Cb.2.2.2.2.2.1,Cb.2.2.2.2.2.2.1,Cb.2.2.2.2.2.2.2.1,(AG Cb).1,(AG Cb).2.1,(AG Cb).2.2.1,(AG Cb).2.2.2.1,(AG Cb).2.2.2.2.1,(AG Cb).2.2.2.2.2.1,(AG Cb).2.2.2.2.2.2.1,(AG Cb).2.2.2.2.2.2.2.1,(AG (AG Cb)).1,(AG (AG Cb)).2.1,(AG (AG Cb)).2.2.1,(AG (AG Cb)).2.2.2.1,(AG (AG Cb)).2.2.2.2.1,(AG (AG Cb)).2.2.2.2.2.1,(AG (AG Cb)).2.2.2.2.2.2.1,(AG (AG Cb)).2.2.2.2.2.2.2.1,(AG (AG (AG Cb))).1,(AG (AG (AG Cb))).2.1,(AG (AG (AG Cb))).2.2.1,(AG (AG (AG Cb))).2.2.2.1,(AG (AG (AG Cb))).2.2.2.2.1,(AG (AG (AG Cb))).2.2.2.2.2.1,(AG (AG (AG Cb))).2.2.2.2.2.2.1,(AG (AG (AG Cb))).2.2.2.2.2.2.2.1,(AG (AG (AG (AG Cb)))).1,(AG (AG (AG (AG Cb)))).2.1,(AG (AG (AG (AG Cb)))).2.2.1,(AG (AG (AG (AG Cb)))).2.2.2.1,(AG (AG (AG (AG Cb)))).2.2.2.2.1,(AG (AG (AG (AG Cb)))).2.2.2.2.2.1,ALg⟩,HG,Ah,Al,AQ,A3,CM,hr,ho,okk,oc60,op,ow,Eh,Ei,DU,FX,IV,ap_hr_ow,ap_ho_ow,ap_okk_ow,ap_ow_okk,ap_oc60_ow,RF,ap_op_ow,ap_ow_op,lo_ow⟩ fun a117 w117 hI117=>?_
         clear Ah
         clear Al
         clear AQ
         clear A3
         clear CM
         clear hr
         clear ho
         clear okk
         clear oc60
         clear op
         clear ow
         clear HG
         obtain⟨j,wo,wc,hjn,UB,HG,Ah,Al,AQ,A3,CM,hr,ho,okk,oc60,op,ow,Eh,Ei,DU,FX,IV,ap_hr_ow,ap_ho_ow,ap_okk_ow,ap_ow_okk,ap_oc60_ow,RF,ap_op_ow,ap_ow_op,lo_ow⟩:=hI117
         refine ALa fun K118 k118=>?_
         refine ALa fun K119 k119=>?_
         by_cases hjl:j<i
         · have hjk:j<kl.length:=by omega
           obtain⟨ky,hx_ky⟩:∃zx,kl[j]'hjk=zx:=⟨_,rfl⟩
           refine ALZ ?_
           refine AH UB 8 [(76,.int .i64 ((j:Int))),(77,.slice ko i kc),(78,.int .i64 ((i:Nat))),(79,.bool true),(80,.bool true),(81,.int .i64 1),(82,.bool true),(83,.bool true)]
            ⟨ym r5,ym r5,BI (Tryz.underlying28) rfl rfl trivial (oy rfl rfl) (fun _=>rfl),GC r7 (fun _=>BE (by simp;omega)),ym r5,Aa rq8,Ap rq9 (fun _=>Bd rfl),Ag rq9,ALg⟩ fun a120 w120 g120 Cc=>?_
           refine AE ?_
           refine k119 _ _ ?_
           refine Av Cc rfl rfl ?_
           refine ALe ?_
           refine k118 _ _ ?_
           refine ALa fun K121 k121=>?_
           refine A8 fun Q122 x122 y122 rt122 o122=>?_
           replace Ah:=AC g120 Ah
           replace Al:=AC g120 Al
           replace AQ:=AC g120 AQ
           replace A3:=AC g120 A3
           replace CM:=AC g120 CM
           replace okk:=okk.kn g120
           replace ow:=ow.kn g120
           replace HG:=AA HG g120
           refine DM (Cc.st w120) (by kernel_rfl) 9 [(86,Sp.is (pk FL 3)),(87,Sp.is (.slice wo j wc)),(88,Sp.is (AO ck)),(89,Sp.is (.slice ko i kc)),(90,Sp.is (.int .i64 ((j:Int)))),(91,Sp.is (pk ((bO ko)) (oO ko+j*32))),(92,Sp.is (AO ky.x)),(93,Sp.is (AO ((OD ck ky.x)))),(94,Sp.lit1 w120.heap.size 23 (bv (OD ck ky.x)))] rfl (by kernel_rfl) (by kernel_rfl) (by kernel_rfl) [] (by kernel_rfl)
            ⟨yf r6 (fun _=>by kernel_rfl),yp (i:=3) r6 (Hz (.slice wo j wc) rfl) A3 rfl rfl,yl r6 (BV ck hck.1) CM,ym r5,ym r5,BA rq8 (fun w=>B8 Tryz.underlying28 (by kernel_rfl) ((Sl.of_own okk)) (by omega) (rfl) w),Bc r6 (fun _ g=>Ab (BV ky.x ky.h.1) (by have:=CT (Sl.of_own (okk.kn g)) DW hjk (by decide);rw[hx_ky] at this;exact this)),Ae [AO ck,AO ky.x] Tryz.func46 (by kernel_rfl) rq4 ⟨(oy rfl rfl),(oy rfl rfl),ALg⟩ (Au fun W g=>ACu ck ky.x hck ky.h W),NB rfl rfl trivial (Nat.le_refl _) rfl (fun W hw v h=>match v,h with|_,⟨rfl,_⟩=>⟨bv (OD ck ky.x),YR (KX hck ky.h) W,fun w' _ hh=>⟨_,rfl,hw.size,hh⟩⟩),ALg⟩ trivial
            [] (by kernel_rfl) trivial ⟨.inl rfl,.inl rfl,.inl rfl,.inl rfl,.inl rfl,.inl rfl,.inl rfl,.inl rfl,.inl rfl,ALg⟩ (by kernel_rfl) fun a123 w123 g123 st123 nd123=>?_
           obtain⟨hn123,hd123,e123_86,e123_87,e123_88,e123_89,e123_90,e123_91,e123_92,e123_93,e123_94,e123_76,e123_77,e123_78,e123_79,e123_80,e123_81,e123_82,e123_83,e123_19,e123_18,e123_75,e123_73,e123_74,e123_63,e123_64,e123_65,e123_17,e123_62,e123_61,e123_16,e123_31,e123_32,e123_33,e123_34,e123_13,e123_12,e123_20,e123_21,e123_22,e123_23,e123_24,e123_25,e123_26,e123_27,e123_28,e123_29,e123_10,e123_9,e123_5,e123_0,e123_1,e123_2,e123_3,e123_4,-⟩:=st123
           obtain⟨V,e123_94q,geV,HV⟩:=e123_94
           have ADD:V≠I6:=Nat.ne_of_gt (Nat.lt_of_lt_of_le (Array.getElem?_eq_some_iff.1 Ah).1 geV)
           have ADE:V≠I7:=Nat.ne_of_gt (Nat.lt_of_lt_of_le (Array.getElem?_eq_some_iff.1 Al).1 geV)
           have AAe:V≠EC:=Nat.ne_of_gt (Nat.lt_of_lt_of_le (Array.getElem?_eq_some_iff.1 AQ).1 geV)
           have Yg:V≠FL:=Nat.ne_of_gt (Nat.lt_of_lt_of_le (Array.getElem?_eq_some_iff.1 A3).1 geV)
           have AHz:V≠Mr:=Nat.ne_of_gt (Nat.lt_of_lt_of_le (Array.getElem?_eq_some_iff.1 CM).1 geV)
           have lo_V:w.heap.size≤V:=Nat.le_trans HG.size geV
           have ap_ow_V:=JC (Own.ltS ow) geV
           replace Ah:=AC g123 Ah
           replace Al:=AC g123 Al
           replace AQ:=AC g123 AQ
           replace A3:=AC g123 A3
           replace CM:=AC g123 CM
           replace hr:=(hr.kn g120).kn g123
           replace ho:=(ho.kn g120).kn g123
           replace okk:=okk.kn g123
           replace oc60:=(oc60.kn g120).kn g123
           replace op:=(op.kn g120).kn g123
           replace ow:=ow.kn g123
           replace HG:=AA HG g123
           have AKE:Sv 108 [] [(76,_),(77,_),(78,_),(79,_),(80,_),(81,_),(82,_),(83,_),(19,_),(18,_),(75,_),(73,_),(74,_),(63,_),(64,_),(65,_),(17,_),(62,_),(61,_),(16,_),(31,_),(32,_),(33,_),(34,_),(13,_),(12,_),(20,_),(21,_),(22,_),(23,_),(24,_),(25,_),(26,_),(27,_),(28,_),(29,_),(10,_),(9,_),(5,_),(0,_),(1,_),(2,_),(3,_),(4,_),(87,_),(94,_)] a123:=⟨hn123,hd123,e123_76,e123_77,e123_78,e123_79,e123_80,e123_81,e123_82,e123_83,e123_19,e123_18,e123_75,e123_73,e123_74,e123_63,e123_64,e123_65,e123_17,e123_62,e123_61,e123_16,e123_31,e123_32,e123_33,e123_34,e123_13,e123_12,e123_20,e123_21,e123_22,e123_23,e123_24,e123_25,e123_26,e123_27,e123_28,e123_29,e123_10,e123_9,e123_5,e123_0,e123_1,e123_2,e123_3,e123_4,e123_87,e123_94q,ALg⟩
           refine GV dsT AKE rfl rfl rfl rfl rfl rfl rfl rfl ow (JK HV (KX hck ky.h)) (Dj _) (by omega) fun a124 ao124 cap124 w124 owx124 Bh ABj=>?_
           have RG:=GD Bh.2 Eh Ah
           have RH:=GD Bh.2 Ei Al
           have PO:=GD Bh.2 DU AQ
           have Ju:=GD Bh.2 FX A3
           have ON:=GD Bh.2 IV CM
           have Vv:=Fo Bh.2 ap_hr_ow (hr.lt)
           have Vw:=Fo Bh.2 ap_ho_ow (ho.lt)
           have MP:=Fo Bh.2 ap_okk_ow (Own.ltS okk)
           have Lc:=Fo Bh.2 ap_oc60_ow (Own.ltS oc60)
           have Nf:=Fo Bh.2 ap_op_ow (Own.ltS op)
           have ap_owx124_okk:=Uj MP
           have RI:=Uj Lc
           have ap_owx124_op:=Uj Nf
           have ADL:=Oz Bh.2 lo_ow HG
           replace A3:=AF Bh.1 A3 (fun e=>FX _ e.symm rfl)
           rw[YS hck hjk hx_ky] at owx124
           refine AH ABj 1 [(96,pk FL 3)]
            ⟨yf r6 (fun _=>by kernel_rfl),ALg⟩ fun a125 w125 g125 AH0=>?_
           refine Hq (L:=[[.int .i64 ad],[.slice ao60 ds.length cap60],[.int .i64 1],[.slice wo j wc],[.slice none 0 0],bv AM]) (i:=3) AH0 r7 (Hz (.slice ao124 (j+1) cap124) rfl) (AC g125 A3) rfl rfl rfl fun w126 g126 h126=>?_
           replace Ah:=Af g125 g126 (AF Bh.1 Ah (fun e=>Eh _ e.symm rfl)) (Ne.symm EN)
           replace Al:=Af g125 g126 (AF Bh.1 Al (fun e=>Ei _ e.symm rfl)) (Ne.symm EO)
           replace AQ:=Af g125 g126 (AF Bh.1 AQ (fun e=>DU _ e.symm rfl)) (Ne.symm CY)
           replace CM:=Af g125 g126 (AF Bh.1 CM (fun e=>IV _ e.symm rfl)) EP
           replace HV:=Af g125 g126 (AF Bh.1 HV (fun e=>ap_ow_V _ e.symm rfl)) Yg
           replace hr:=((hr.offR Bh.1 (fun k hk e=>ap_hr_ow k hk (e))).kn g125).offR g126 (AR FU)
           replace ho:=((ho.offR Bh.1 (fun k hk e=>ap_ho_ow k hk (e))).kn g125).offR g126 (AR FV)
           replace okk:=((okk.offR Bh.1 (fun k hk e=>ap_okk_ow k hk (e))).kn g125).offR g126 (AR Dh)
           replace oc60:=((oc60.offR Bh.1 (fun k hk e=>ap_oc60_ow k hk (e))).kn g125).offR g126 (AR DV)
           replace op:=((op.offR Bh.1 (fun k hk e=>ap_op_ow k hk (e))).kn g125).offR g126 (AR Ej)
           replace HG:=AD (AA (Br HG Bh.1 fun k e=>lo_ow k (e)) g125) g126 F7
           have AKF:Sv _ _ [_,_,_,_,_,_,_,_,_,_,_,_,_,_,_,_,_,_,_,_,_,_,_,_,_,_,_,_,_,_,_,_,_,_,_,_,_,_,_,_,_,_,_,_] _:=AH0.dl [96,95,87,94]
           refine AE ?_
           refine y122 _ _ ?_
           refine k121 _ _ ?_
           refine ALZ ?_
           refine AH AKF 2 [(84,.int .i64 ((j:Int))),(85,.int .i64 (((j+1:Nat):Int)))]
            ⟨ym r5,Cm r6 (fun _=>DB (by rw[BG (by omega) (by omega)];omega)),ALg⟩ fun a128 w128 g128 AKG=>?_
           refine AX (v:=.int .i64 (((j+1:Nat):Int))) AKG r6 fun a129 Cv=>?_
           refine AE ?_
           replace Ah:=AC g128 Ah
           replace Al:=AC g128 Al
           replace AQ:=AC g128 AQ
           replace A3:=AC g128 h126
           replace CM:=AC g128 CM
           replace HV:=AC g128 HV
           replace hr:=hr.kn g128
           replace ho:=ho.kn g128
           replace okk:=okk.kn g128
           replace oc60:=oc60.kn g128
           replace op:=op.kn g128
           replace owx124:=((owx124.kn g125).offR g126 (AR Ju)).kn g128
           replace HG:=AA HG g128
           exact⟨⟨j+1,ao124,cap124,by omega,⟨Cv.1,Cv.2.1,Cv.2.2.1,(AG Cv).2.2.2.2.2.1,(AG Cv).2.2.2.2.2.2.1,(AG Cv).2.2.2.2.2.2.2.1,(AG (AG Cv)).1,(AG (AG Cv)).2.1,(AG (AG Cv)).2.2.1,(AG (AG Cv)).2.2.2.1,(AG (AG Cv)).2.2.2.2.1,(AG (AG Cv)).2.2.2.2.2.1,(AG (AG Cv)).2.2.2.2.2.2.1,(AG (AG Cv)).2.2.2.2.2.2.2.1,(AG (AG (AG Cv))).1,(AG (AG (AG Cv))).2.1,(AG (AG (AG Cv))).2.2.1,(AG (AG (AG Cv))).2.2.2.1,(AG (AG (AG Cv))).2.2.2.2.1,(AG (AG (AG Cv))).2.2.2.2.2.1,(AG (AG (AG Cv))).2.2.2.2.2.2.1,(AG (AG (AG Cv))).2.2.2.2.2.2.2.1,(AG (AG (AG (AG Cv)))).1,(AG (AG (AG (AG Cv)))).2.1,(AG (AG (AG (AG Cv)))).2.2.1,(AG (AG (AG (AG Cv)))).2.2.2.1,(AG (AG (AG (AG Cv)))).2.2.2.2.1,(AG (AG (AG (AG Cv)))).2.2.2.2.2.1,(AG (AG (AG (AG Cv)))).2.2.2.2.2.2.1,(AG (AG (AG (AG Cv)))).2.2.2.2.2.2.2.1,(AG (AG (AG (AG (AG Cv))))).1,(AG (AG (AG (AG (AG Cv))))).2.1,(AG (AG (AG (AG (AG Cv))))).2.2.1,(AG (AG (AG (AG (AG Cv))))).2.2.2.1,(AG (AG (AG (AG (AG Cv))))).2.2.2.2.1,(AG (AG (AG (AG (AG Cv))))).2.2.2.2.2.1,(AG (AG (AG (AG (AG Cv))))).2.2.2.2.2.2.1,(AG (AG (AG (AG (AG Cv))))).2.2.2.2.2.2.2.1,ALg⟩,HG,Ah,Al,AQ,A3,CM,hr,ho,okk,oc60,op,owx124,RG,RH,PO,Ju,ON,Vv,Vw,MP,ap_owx124_okk,Lc,RI,Nf,ap_owx124_op,ADL⟩,by rw[show _=_ from Cv.2.2.1,show _=_ from UB.2.2.1];simp[intOf];omega⟩
         · have hwr:(wrL ck hck kl j).map DD.x=kl.map fun z=>OD ck z.x:=ABd (by omega)
           refine ALZ ?_
           refine AH UB 8 [(76,.int .i64 ((j:Int))),(77,.slice ko i kc),(78,.int .i64 ((i:Nat))),(79,.bool false),(80,.bool false),(81,undef),(82,undef),(83,.bool false)]
            ⟨ym r5,ym r5,BI (Tryz.underlying28) rfl rfl trivial (oy rfl rfl) (fun _=>rfl),GC r7 (fun _=>BE (by simp;omega)),ym r5,AS r6,AS r6,BQ r7,ALg⟩ fun a130 w130 g130 Ya=>?_
           refine AE ?_
           refine k119 _ _ ?_
           refine A1 Ya rfl rfl ?_
           refine wp_exit ?_
           repeat refine Bo ?_
           refine x116 _ _ ?_
           refine k91 _ _ ?_
           refine ALa fun K131 k131=>?_
           refine ALZ ?_
           refine AH Ya 2 [(97,AO ck),(98,.slice ao67 ((BD x)).length cap67)]
            ⟨yl r6 (BV ck hck.1) (AC g130 CM),ym r5,ALg⟩ fun a132 w132 g132 AFE=>?_
           have Oq:=AA g130 g132
           replace AQ:=AC Oq AQ
           replace A3:=AC Oq A3
           replace op:=op.kn Oq
           replace HG:=AA HG Oq
           refine BB AFE Tryz.func47 (by kernel_rfl) r6 (NN (Qk (BD x) (EE x) (by have:=Em x;omega) _ _ ck hck _ (Own.sb op))) fun a133 v133 w133 hR133 AFF=>?_
           obtain⟨ao133,cap133,rfl,_⟩:=(Sl.of_own hR133.1).shape
           obtain⟨ow133,fr133⟩:=hR133
           replace fr133:=Cq fr133
           have oy_:=ow133
           clear ow133
           have g133:=fr133.1
           replace fr133:=fr133.2
           have Eg:=Ca fr133 AQ
           have Fj:=Ca fr133 A3
           have lo_oy_:=Gk HG fr133
           replace A3:=AC g133 A3
           refine AH AFF 1 [(100,pk FL 4)]
            ⟨yf r6 (fun _=>by kernel_rfl),ALg⟩ fun a134 w134 g134 Yc=>?_
           refine Hq (L:=[[.int .i64 ad],[.slice ao60 ds.length cap60],[.int .i64 1],[.slice wo j wc],[.slice none 0 0],bv AM]) (i:=4) Yc r7 (E8 (.slice ao133 ((Fv (BD x) ck)).length cap133) rfl) (AC g134 A3) rfl rfl rfl fun w135 g135 h135=>?_
           replace CM:=Af g134 g135 (AC g133 (AC Oq CM)) EP
           replace A3:=h135
           have AFG:Sv _ _ [_,_,_,_,_,_,_,_,_,_,_,_,_,_,_,_,_,_,_,_,_,_,_,_,_,_,_,_,_,_,_,_,_,_,_,_,_,_,_,_,_,_,_,_] _:=Yc.dl [100,99,97,98]
           refine AE ?_
           refine k131 _ _ ?_
           refine ALa fun K137 k137=>?_
           refine ALZ ?_
           refine AH AFG 4 [(101,AO ck),(102,.int .i64 ad),(103,pk FL 4),(104,.slice ao133 ((Fv (BD x) ck)).length cap133)]
            ⟨yl r6 (BV ck hck.1) CM,ym r5,yf r6 (fun _=>by kernel_rfl),yp (i:=4) r6 (E8 (.slice ao133 ((Fv (BD x) ck)).length cap133) rfl) A3 rfl rfl,ALg⟩ fun a138 w138 g138 Ce=>?_
           replace oy_:=((oy_.kn g134).offR g135 (AR Fj)).kn g138
           refine BB Ce Tryz.func48 (by kernel_rfl) r6 (Jq (YJ ck hck ad hia (Fv (BD x) ck) (KS _ (EE x)) (by have:=Em x;rw[KR];omega) _ _ _ (Own.sb oy_))) fun a139 v139 w139 hR139 ABk=>?_
           obtain⟨rfl,g139⟩:=hR139
           replace A3:=AC g139 (AC g138 A3)
           have AKH:Sv _ _ [_,_,_,_,_,_,_,_,_,_,_,_,_,_,_,_,_,_,_,_,_,_,_,_,_,_,_,_,_,_,_,_,_,_,_,_,_,_,_,_,_,_,_,_,_] _:=ABk.dl [101,102,103,104]
           refine AH AKH 1 [(106,pk FL 5)]
            ⟨yf r6 (fun _=>by kernel_rfl),ALg⟩ fun a141 w141 g141 AH1=>?_
           refine Hq (L:=[[.int .i64 ad],[.slice ao60 ds.length cap60],[.int .i64 1],[.slice wo j wc],[.slice ao133 ((Fv (BD x) ck)).length cap133],bv AM]) (i:=5) AH1 r7 (BV ((QZ ck ad (Fv (BD x) ck))) (CV _ _ _).1) (AC g141 A3) rfl rfl (QI AP (CV _ _ _)) fun w142 g142 h142=>?_
           replace AQ:=Af g141 g142 (AC g139 (AC g138 (Af g134 g135 (AC g133 AQ) (Ne.symm CY)))) (Ne.symm CY)
           replace A3:=h142
           refine AE ?_
           refine k137 _ _ ?_
           refine ALa fun K143 k143=>?_
           refine ALZ ?_
           refine AH AH1 1 [(107,Bm ad (.slice ao60 ds.length cap60) 1 (.slice wo j wc) (.slice ao133 ((Fv (BD x) ck)).length cap133) ((QZ ck ad (Fv (BD x) ck))))]
            ⟨yl r6 (Cy _ _ (CV _ _ _) (.slice ao60 ds.length cap60) (.slice wo j wc) (.slice ao133 ((Fv (BD x) ck)).length cap133) rfl rfl rfl) A3,ALg⟩ fun a144 w144 g144 Yd=>?_
           refine As Yd r7 (Cy _ _ (CV _ _ _) (.slice ao60 ds.length cap60) (.slice wo j wc) (.slice ao133 ((Fv (BD x) ck)).length cap133) rfl rfl rfl) (AC g144 AQ) (C7 AP (CV _ _ _)) fun w145 g145 h145=>?_
           replace okk:=(((((((((okk.kn Oq).kn g133).kn g134).offR g135 (AR Dh)).kn g138).kn g139).kn g141).offR g142 (AR Dh)).kn g144).offR g145 (AR B9)
           replace oc60:=(((((((((oc60.kn Oq).kn g133).kn g134).offR g135 (AR DV)).kn g138).kn g139).kn g141).offR g142 (AR DV)).kn g144).offR g145 (AR Hi)
           replace op:=((((((((op.kn g133).kn g134).offR g135 (AR Ej)).kn g138).kn g139).kn g141).offR g142 (AR Ej)).kn g144).offR g145 (AR EW)
           replace ow:=(((((((((ow.kn Oq).kn g133).kn g134).offR g135 (AR FX)).kn g138).kn g139).kn g141).offR g142 (AR FX)).kn g144).offR g145 (AR DU)
           replace oy_:=((((oy_.kn g139).kn g141).offR g142 (AR Fj)).kn g144).offR g145 (AR Eg)
           replace HG:=AD (AA (AD (AA (AA (AA (AD (AA (AA HG g133) g134) g135 F7) g138) g139) g141) g142 F7) g144) g145 Dm
           replace AQ:=h145
           refine AX (v:=.int .i64 0) Yd r6 fun a146 ABl=>?_
           refine AE ?_
           refine k143 _ _ ?_
           refine ALd ?_
           repeat refine AJ ?_
           refine Ar (fn:=Tryz.f16) ABl (DY (p:=10) (q:=11) Tryz.results16 ABl rfl rfl rfl rfl (Cy _ _ (CV _ _ _) (.slice ao60 ds.length cap60) (.slice wo j wc) (.slice ao133 ((Fv (BD x) ck)).length cap133) rfl rfl rfl) AQ) ?_
           exact SRes.mk (own:=ds) (wr:=(wrL ck hck kl j)) (Jr hh hv hne hK2 hkm hcke) rfl (ABe (by omega)) rfl hown (hwr.trans (T6 kl ck)) oc60 ow oy_ Pm lo_ow lo_oy_ ap_oc60_ow (CV _ _ _) (KS _ (EE x)) HG rfl
end Go.Proofs.YtbfjfnbcmojpiaaGreat
