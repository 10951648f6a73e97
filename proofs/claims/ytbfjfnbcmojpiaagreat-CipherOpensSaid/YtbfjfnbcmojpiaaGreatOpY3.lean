import Derived.Test.YtbfjfnbcmojpiaaGreatOpY2
set_option linter.unusedSimpArgs false
set_option linter.unusedVariables false
set_option maxRecDepth 100000
set_option maxHeartbeats 4000000
namespace Go.Proofs.YtbfjfnbcmojpiaaGreat
open Go.RowKit Go.Shelf
theorem PW {x y sl:List Nat} {j a b:Nat} (hj:j<sl.length) (ha:x[j]?=some a) (hb:y[j]?=some b) (h:∀k,k<j→sl[k]?=(Gq x y)[k]?):∀k,k<j+1→(sl.set j (a ^^^ b))[k]?=(Gq x y)[k]?:=by
 intro k hk
 rw[List.getElem?_set]
 by_cases e:j=k
 · subst e
   rw[if_pos rfl,if_pos hj]
   unfold Gq
   rw[List.getElem?_zipWith,ha,hb]
 · rw[if_neg e]
   exact h k (by omega)
theorem TW {x y sl:List Nat} {n j:Nat} (hx:x.length=n) (hy:n≤y.length) (hs:sl.length=n) (hj:n≤j) (h:∀k,k<j→sl[k]?=(Gq x y)[k]?):sl=Gq x y:=by
 have hl:=KX (a:=x) (b:=y) (by omega)
 refine List.ext_getElem? fun k=>?_
 by_cases hk:k<n
 · exact h k (by omega)
 · rw[List.getElem?_eq_none (by omega),List.getElem?_eq_none (by omega)]
theorem AFn {P:Program} {a b c:Int} {t:TypeId} {x y:Operand} {w:World} (h:bits .xor .u8 a b=c):(do eqGuard .xor t x y (.int .u8 a) (.int .u8 b);binOp .xor t (.int .u8 a) (.int .u8 b):Sem Value).run P w=.ok (.int .u8 c) w:=by
 subst h
 simp[eqGuard,binOp_xor]
 rfl
theorem Oc {P:Program} {a b:Nat} {t:TypeId} {x y:Operand} {w:World} (ha:a<256) (hb:b<256):(do eqGuard .xor t x y (.int .u8 (a:Int)) (.int .u8 (b:Int));binOp .xor t (.int .u8 (a:Int)) (.int .u8 (b:Int)):Sem Value).run P w=.ok (.int .u8 ((a ^^^ b:Nat):Int)) w:=AFn (u8_xor_nat a b ha hb)
section
variable {P:Program} {Q:Exit→Act→World→Prop} {ops:Array Oper} {rest:List Oper} {o:Oper} {a:Act} {w:World} {n:Nat} {D:List Deferred} {K:List (Nat×Value)}
theorem AHf {l:List Nat} {j x:Nat} (hj:j<l.length):bv (l.set j x)=bv (l.take j)++([.int .u8 (x:Int)]++bv (l.drop (j+1))):=by
 rw[Mh,Mh,Mh,AC5 hj]
 rfl
theorem ADc {l:List Nat} {j:Nat} (hj:j<l.length):bv l=bv (l.take j)++([.int .u8 (l[j]:Int)]++bv (l.drop (j+1))):=by
 rw[Mh,Mh,Mh,KM hj]
 rfl
theorem SR (sv:Sv n D K a) (hgd:o.guard=none) {T:TypeId} {x y:Operand} (ho:o.op=.store T x y) (hd:o.dst=none) {b j v:Nat} {l:List Nat} {t:TypeId} (hx:Ly K x=true) (hxv:Lz K x=.pointer (some ⟨b,j,none⟩)) (hy:Ly K y=true) (hyv:Lz K y=.int .u8 (v:Int)) (ty:TY P T [.int .u8 (v:Int)] (.int .u8 (v:Int)))
  (hb:w.heap[b]?=some (.cells (bv l).toArray t (0,0))) (hj:j<l.length)
  (h:∀w',w.grownBy w' (some b)→w'.heap[b]?=some (.cells (bv (l.set j v)).toArray t (0,0))→wpList P ops Q rest a w'):wpList P ops Q (o::rest) a w:=by
 rw[ADc hj] at hb
 refine O8 sv hgd ho hd hx hxv hy hyv ty hb (by rw[AO,List.length_take];omega) rfl fun w' g' hb'=>h w' g' ?_
 rw[hb',AHf hj]
end
theorem ABm (x y s0:List Nat) (hbx:By x) (hby:By y) (n:Nat) (hn63:n≤1000000) (hnx:x.length=n) (m:Nat) (hym:y.length=m) (hny:n≤m) (so ao bo:Option Addr) (sc ac bc:Nat) (w w1:World) (HG:w.grownBy w1 none) (hs:Own w1 5 1 (.slice so n sc) n (s0.flatMap cb)) (ha:SlB w1 1 (.slice ao n ac) n (bv x)) (hb:SlB w1 1 (.slice bo m bc) m (bv y)) (lo_hs:∀k,Ba (.slice so n sc) k→w.heap.size≤k) (ap_ha_hs:∀k,Ba (.slice ao n ac) k→¬Ba (.slice so n sc) k) (ap_hb_hs:∀k,Ba (.slice bo m bc) k→¬Ba (.slice so n sc) k) :
   Calls Tryz.prog 106 #[.slice so n sc,.slice ao n ac,.slice bo m bc] w1 fun e w'=>e=.returned (.slice so n sc)∧w.grownBy w' none∧Own w' 5 1 (.slice so n sc) n (bv (Gq x y)):=by
 refine BV Tryz.func106 rfl Tryz.ntmps106 rfl fun a0 sv0=>?_
 have hs0:s0.length=n:=(AHJ (Sl.of_own hs) ZN (by decide)).symm
 replace sv0:Sv 27 [] [(0,.slice so n sc),(1,.slice ao n ac),(2,.slice bo m bc)] a0:=sv0
 refine AKQ fun K1 k1=>?_
 refine AKP ?_
 refine AR (v:=.slice none 0 0) sv0 r6 fun a2 sv2=>?_
 refine AE ?_
 refine k1 _ _ ?_
 refine AKQ fun K3 k3=>?_
 refine AKQ fun K4 k4=>?_
 refine AKP ?_
 refine AJ sv2 3 [(8,.slice so n sc),(9,.int .i64 ((n:Nat))),(10,.int .i64 0)]
   ⟨ym r5,Au (Tryz.underlying29) rfl rfl trivial (oy rfl rfl) (fun _=>rfl),En (.inl rfl) rfl trivial (fun _=>rfl),AKW⟩ fun a5 w5 g5 sv5=>?_
 refine AE ?_
 refine k4 _ _ ?_
 refine BI fun Q6 x6 y6 rt6 o6=>?_
 replace ha:=ha.kn g5
 replace hb:=hb.kn g5
 replace hs:=hs.kn g5
 replace HG:=AA HG g5
 refine wp_loop (fun a w'=>∃(i:Nat) (sl:List Nat),(i≤n)∧(sl.length=n)∧(∀k,k<i→sl[k]?=(Gq x y)[k]?)∧Sv 27 [] [(10,.int .i64 ((i:Int))),(8,.slice so n sc),(9,.int .i64 ((n:Nat))),(6,.slice none 0 0),(0,.slice so n sc),(1,.slice ao n ac),(2,.slice bo m bc)] a∧w.grownBy w' none∧SlB w' 1 (.slice ao n ac) n (bv x)∧SlB w' 1 (.slice bo m bc) m (bv y)∧Own w' 5 1 (.slice so n sc) n (sl.flatMap cb)∧(∀k,Ba (.slice ao n ac) k→¬Ba (.slice so n sc) k)∧(∀k,Ba (.slice bo m bc) k→¬Ba (.slice so n sc) k)∧(∀k,Ba (.slice so n sc) k→w.heap.size≤k)) (fun a _=>(n-intOf (a.tmps.getD 10 undef)).toNat) ⟨0,s0,Nat.zero_le _,hs0,fun k hk=>by omega,⟨sv5.1,sv5.2.1,sv5.2.2.2.2.1,sv5.2.2.1,sv5.2.2.2.1,sv5.2.2.2.2.2.1,sv5.2.2.2.2.2.2.1,sv5.2.2.2.2.2.2.2.1,(AL sv5).1,AKW⟩,HG,ha,hb,hs,ap_ha_hs,ap_hb_hs,lo_hs⟩ fun a7 w7 hI7=>?_
 clear ha
 clear hb
 clear hs
 clear HG
 obtain⟨i,sl,hin,hsl,hq,sv7,HG,ha,hb,hs,ap_ha_hs,ap_hb_hs,lo_hs⟩:=hI7
 refine AKQ fun K8 k8=>?_
 by_cases hi:i<n
 · have hix:i<x.length:=by omega
   have hiy:i<y.length:=by omega
   have his:i<sl.length:=by omega
   obtain⟨xa,hx_xa⟩:∃zx,x[i]'hix=zx:=⟨_,rfl⟩
   obtain⟨xb,hx_xb⟩:∃zx,y[i]'hiy=zx:=⟨_,rfl⟩
   obtain⟨xs,hx_xs⟩:∃zx,sl[i]'his=zx:=⟨_,rfl⟩
   have hxa:x[i]?=some xa:=by rw[←hx_xa];exact List.getElem?_eq_getElem _
   have hxb:y[i]?=some xb:=by rw[←hx_xb];exact List.getElem?_eq_getElem _
   have ba:xa<256:=hbx _ (List.mem_of_getElem? hxa)
   have bb:xb<256:=hby _ (List.mem_of_getElem? hxb)
   refine AKP ?_
   refine AJ sv7 1 [(11,.bool true)]
    ⟨FG r7 (fun _=>BJ (by simp;omega)),AKW⟩ fun a9 w9 g9 sv9=>?_
   refine AE ?_
   refine k8 _ _ ?_
   refine AKQ fun K10 k10=>?_
   refine Ar sv9 rfl rfl ?_
   refine AKU ?_
   refine k10 _ _ ?_
   refine AKQ fun K11 k11=>?_
   refine BI fun Q12 x12 y12 rt12 o12=>?_
   refine AKQ fun K13 k13=>?_
   refine AKP ?_
   refine AJ sv9 1 [(12,.int .i64 ((i:Int)))]
    ⟨ym r5,AKW⟩ fun a14 w14 g14 C6=>?_
   have Vt:=AA g9 g14
   refine AR (v:=.int .i64 ((i:Int))) C6 r6 fun a15 EE=>?_
   refine AE ?_
   refine k13 _ _ ?_
   replace ha:=ha.kn Vt
   replace hb:=hb.kn Vt
   replace hs:=hs.kn Vt
   refine Eg (EE.st w14) (by kernel_rfl) 12 [(13,Sp.is (.slice so n sc)),(14,Sp.is (.int .i64 ((i:Int)))),(15,Sp.is (.slice ao n ac)),(16,Sp.is (.int .i64 ((i:Int)))),(17,Sp.is (pk ((bO ao)) (oO ao+i*1))),(18,Sp.is (.int .u8 ((xa:Int)))),(19,Sp.is (.slice bo m bc)),(20,Sp.is (.int .i64 ((i:Int)))),(21,Sp.is (pk ((bO bo)) (oO bo+i*1))),(22,Sp.is (.int .u8 ((xb:Int)))),(23,Sp.is (.int .u8 (((xa ^^^ xb:Nat):Int)))),(24,Sp.is (pk ((bO so)) (oO so+i*1)))] rfl (by kernel_rfl) (by kernel_rfl) (by kernel_rfl) [] (by kernel_rfl)
    ⟨ym r5,ym r5,ym r5,ym r5,BH rq8 (fun w=>CU Tryz.underlying29 (by kernel_rfl) (ha.1) (by omega) (rfl) w),Bg r6 (fun _ g=>AY (tyB ((xa:Int))) (by have:=FK (ha.kn g).1 hix;rw[hx_xa] at this;exact this)),ym r5,ym r5,BH rq8 (fun w=>CU Tryz.underlying29 (by kernel_rfl) (hb.1) (by omega) (rfl) w),Bg r6 (fun _ g=>AY (tyB ((xb:Int))) (by have:=FK (hb.kn g).1 hiy;rw[hx_xb] at this;exact this)),FG r7 (fun _=>Oc ba bb),BH rq8 (fun w=>CU Tryz.underlying29 (by kernel_rfl) ((Sl.of_own hs)) (by omega) (rfl) w),AKW⟩ trivial
    [] (by kernel_rfl) trivial ⟨.inl rfl,.inl rfl,.inl rfl,.inl rfl,.inl rfl,.inl rfl,.inl rfl,.inl rfl,.inl rfl,.inl rfl,.inl rfl,.inl rfl,AKW⟩ (by kernel_rfl) fun a16 w16 g16 st16 nd16=>?_
   obtain⟨hn16,hd16,e16_13,e16_14,e16_15,e16_16,e16_17,e16_18,e16_19,e16_20,e16_21,e16_22,e16_23,e16_24,e16_7,e16_12,e16_11,e16_10,e16_8,e16_9,e16_6,e16_0,e16_1,e16_2,-⟩:=st16
   have Cr:Sv 27 [] [(7,_),(12,_),(11,_),(10,_),(8,_),(9,_),(6,_),(0,_),(1,_),(2,_),(23,_),(24,_)] a16:=⟨hn16,hd16,e16_7,e16_12,e16_11,e16_10,e16_8,e16_9,e16_6,e16_0,e16_1,e16_2,e16_23,e16_24,AKW⟩
   replace hs:=hs.kn g16
   refine PA (c:=cb) (el:=(xa ^^^ xb)) Cr rfl rfl rfl rfl rfl rfl rfl (tyB (((xa ^^^ xb:Nat):Int))) hs ZN (by decide) (by first|omega|(simp only[List.length_set];omega)) rfl fun w17 g17 h17=>?_
   replace ha:=(ha.kn g16).offR g17 (fun k hk e=>ap_ha_hs k hk (JX (j:=i) hs (by omega) e))
   replace hb:=(hb.kn g16).offR g17 (fun k hk e=>ap_hb_hs k hk (JX (j:=i) hs (by omega) e))
   replace HG:=Ca (AA (AA HG Vt) g16) g17 fun k e=>lo_hs k (JX (j:=i) hs (by omega) e)
   refine AE ?_
   refine y12 _ _ ?_
   refine k11 _ _ ?_
   refine AKP ?_
   refine AJ Cr 1 [(25,.int .i64 (((i+1:Nat):Int)))]
    ⟨Cp r6 (fun _=>DL (by rw[Bc (by omega) (by omega)];omega)),AKW⟩ fun a18 w18 g18 CQ=>?_
   refine AJ (CQ.dl [10]) 1 [(10,.int .i64 (((i+1:Nat):Int)))]
    ⟨ym r5,AKW⟩ fun a19 w19 g19 Cs=>?_
   have AFo:=AA g18 g19
   refine AE ?_
   replace ha:=ha.kn AFo
   replace hb:=hb.kn AFo
   replace hs:=h17.kn AFo
   replace HG:=AA HG AFo
   exact⟨⟨i+1,sl.set i (xa ^^^ xb),by omega,by rw[List.length_set];exact hsl,PW (by omega) hxa hxb hq,⟨Cs.1,Cs.2.1,Cs.2.2.1,Cs.2.2.2.2.2.2.2.1,(AL Cs).1,(AL Cs).2.1,(AL Cs).2.2.1,(AL Cs).2.2.2.1,(AL Cs).2.2.2.2.1,AKW⟩,HG,ha,hb,hs,ap_ha_hs,ap_hb_hs,lo_hs⟩,by rw[show _=_ from Cs.2.2.1,show _=_ from sv7.2.2.1];simp[intOf];omega⟩
 · have hfin:=TW hnx (by omega) hsl (by omega) hq
   refine AKP ?_
   refine AJ sv7 1 [(11,.bool false)]
    ⟨FG r7 (fun _=>BJ (by simp;omega)),AKW⟩ fun a20 w20 g20 DH=>?_
   refine AE ?_
   refine k8 _ _ ?_
   refine AKQ fun K21 k21=>?_
   refine A2 DH rfl rfl ?_
   refine wp_exit ?_
   repeat refine CT ?_
   refine x6 _ _ ?_
   refine k3 _ _ ?_
   refine AKQ fun K22 k22=>?_
   refine AKP ?_
   refine AJ DH 1 [(26,.slice so n sc)]
    ⟨ym r5,AKW⟩ fun a23 w23 g23 Cl=>?_
   have AIm:=AA g20 g23
   refine AR (v:=.slice so n sc) Cl r6 fun a24 Du=>?_
   refine AE ?_
   refine k22 _ _ ?_
   replace hs:=hs.kn AIm
   replace HG:=AA HG AIm
   refine AKT ?_
   repeat refine AK ?_
   rw[hfin,←Mh] at hs
   refine Aw (fn:=Tryz.f106) Du (BC (p:=6) Tryz.results106 Du rfl rfl) ?_
   exact⟨rfl,HG,hs⟩
theorem ABn {x y:List Nat} (hx:Dg x) (hy:Dg y):Dg (Gq x y):=⟨by rw[KX (by rw[hx.1,hy.1];omega),hx.1],AAa hx.2 hy.2⟩
theorem ABo (z0 x y:List Nat) (hz:Dg z0) (hx:Dg x) (hy:Dg y) (w:World) :
   Calls Tryz.prog 104 #[AQ z0,AQ x,AQ y] w fun e w'=>e=.returned (AQ (Gq x y))∧w.grownBy w' none:=by
 have hz0:z0.length=32:=hz.1
 refine BV Tryz.func104 rfl Tryz.ntmps104 rfl fun a0 sv0=>?_
 have HG:=World.grownBy.refl w none
 replace sv0:Sv 24 [] [(0,AQ z0),(1,AQ x),(2,AQ y)] a0:=sv0
 refine AKQ fun K1 k1=>?_
 refine AKP ?_
 refine Be sv0 r6 (Bb z0 hz.1) fun a2 w2 Me Jh g2 z2 Az sv2=>?_
 have AFp:=Bq HG Jh
 refine Be sv2 r6 (Bb x hx.1) fun a3 w3 ADO TQ g3 z3 Ch sv3=>?_
 have TZ:=As Az TQ
 replace Az:=AC g3 Az
 refine Be sv3 r6 (Bb y hy.1) fun a4 w4 AHg AFq g4 z4 KY sv4=>?_
 have Ta:=As Az AFq
 replace Az:=AC g4 Az
 replace HG:=AA (AA (AA HG g2) g3) g4
 refine BB (T:=23) (Z:=(bv AS)) sv4 rfl rfl rfl (fun a w=>by kernel_rfl) fun a5 w5 AIn AAe g5 z5 KZ sv5=>?_
 have Tc:=As Az AAe
 have AFr:=Bq HG AAe
 replace Az:=AC g5 Az
 refine AE ?_
 refine k1 _ _ ?_
 refine AKQ fun K6 k6=>?_
 refine AKQ fun K7 k7=>?_
 refine AKP ?_
 refine AJ sv5 3 [(8,AQ z0),(9,.int .i64 32),(10,.int .i64 0)]
   ⟨yl r6 (Bb z0 hz.1) Az,En (.inl rfl) rfl trivial (fun _=>rfl),En (.inl rfl) rfl trivial (fun _=>rfl),AKW⟩ fun a8 w8 g8 sv8=>?_
 refine AE ?_
 refine k7 _ _ ?_
 refine BI fun Q9 x9 y9 rt9 o9=>?_
 replace Az:=AC g8 Az
 replace Ch:=AC g8 (AC g5 (AC g4 Ch))
 replace KY:=AC g8 (AC g5 KY)
 replace KZ:=AC g8 KZ
 replace HG:=AA (AA HG g5) g8
 refine wp_loop (fun a w'=>∃(j:Nat) (sl:List Nat),(j≤32)∧(sl.length=32)∧(∀k,j≤k→sl[k]?=z0[k]?)∧(∀k,k<j→sl[k]?=(Gq x y)[k]?)∧Sv 24 [] [(10,.int .i64 ((j:Int))),(8,AQ z0),(9,.int .i64 32),(6,pt AIn),(5,pt AHg),(4,pt ADO),(3,pt Me),(0,AQ z0),(1,AQ x),(2,AQ y)] a∧w.grownBy w' none∧w'.heap[Me]?=some (.cells (bv sl).toArray 23 (0,0))∧w'.heap[ADO]?=some (.cells (bv x).toArray 23 (0,0))∧w'.heap[AHg]?=some (.cells (bv y).toArray 23 (0,0))∧w'.heap[AIn]?=some (.cells ((bv AS)).toArray 23 (0,0))) (fun a _=>(32-intOf (a.tmps.getD 10 undef)).toNat) ⟨0,z0,by omega,hz0,fun k hk=>rfl,fun k hk=>by omega,⟨sv8.1,sv8.2.1,sv8.2.2.2.2.1,sv8.2.2.1,sv8.2.2.2.1,sv8.2.2.2.2.2.1,sv8.2.2.2.2.2.2.1,sv8.2.2.2.2.2.2.2.1,(AL sv8).1,(AL sv8).2.1,(AL sv8).2.2.1,(AL sv8).2.2.2.1,AKW⟩,HG,Az,Ch,KY,KZ⟩ fun a10 w10 hI10=>?_
 clear Az
 clear Ch
 clear KY
 clear KZ
 clear HG
 obtain⟨j,sl,hj32,hsl,hkeep,hq,BF,HG,Az,Ch,KY,KZ⟩:=hI10
 refine AKQ fun K11 k11=>?_
 by_cases hj:j<32
 · obtain⟨xa,hxa⟩:∃a,x[j]?=some a:=⟨_,List.getElem?_eq_getElem (by rw[hx.1];exact hj)⟩
   obtain⟨xb,hxb⟩:∃b,y[j]?=some b:=⟨_,List.getElem?_eq_getElem (by rw[hy.1];exact hj)⟩
   have ba:xa<256:=hx.2 _ (List.mem_of_getElem? hxa)
   have bb:xb<256:=hy.2 _ (List.mem_of_getElem? hxb)
   refine AKP ?_
   refine AJ BF 1 [(11,.bool true)]
    ⟨FG r7 (fun _=>BJ (by simp;omega)),AKW⟩ fun a12 w12 g12 Cq=>?_
   refine AE ?_
   refine k11 _ _ ?_
   refine AKQ fun K13 k13=>?_
   refine Ar Cq rfl rfl ?_
   refine AKU ?_
   refine k13 _ _ ?_
   refine AKQ fun K14 k14=>?_
   refine BI fun Q15 x15 y15 rt15 o15=>?_
   refine AKQ fun K16 k16=>?_
   refine AKP ?_
   refine AJ Cq 1 [(12,.int .i64 ((j:Int)))]
    ⟨ym r5,AKW⟩ fun a17 w17 g17 De=>?_
   have TJ:=AA g12 g17
   refine AR (v:=.int .i64 ((j:Int))) De r6 fun a18 CQ=>?_
   refine AE ?_
   refine k16 _ _ ?_
   replace Ch:=AC TJ Ch
   replace KY:=AC TJ KY
   refine Eg (CQ.st w17) (by kernel_rfl) 9 [(13,Sp.is (.int .i64 ((j:Int)))),(14,Sp.is (.int .i64 ((j:Int)))),(15,Sp.is (pk ADO j)),(16,Sp.is (.int .u8 ((xa:Int)))),(17,Sp.is (.int .i64 ((j:Int)))),(18,Sp.is (pk AHg j)),(19,Sp.is (.int .u8 ((xb:Int)))),(20,Sp.is (.int .u8 (((xa ^^^ xb:Nat):Int)))),(21,Sp.is (pk Me j))] rfl (by kernel_rfl) (by kernel_rfl) (by kernel_rfl) [] (by kernel_rfl)
    ⟨ym r5,ym r5,BH rq8 (fun w=>Hc hj w),Bg r6 (fun _ g=>AY (N3 (xa:Int)) (by simpa using FH (o:=0) (Aj (AF g Ch (by simp))) hxa)),ym r5,BH rq8 (fun w=>Hc hj w),Bg r6 (fun _ g=>AY (N3 (xb:Int)) (by simpa using FH (o:=0) (Aj (AF g KY (by simp))) hxb)),FG r7 (fun _=>Oc ba bb),BH rq8 (fun w=>Hc hj w),AKW⟩ trivial
    [] (by kernel_rfl) trivial ⟨.inl rfl,.inl rfl,.inl rfl,.inl rfl,.inl rfl,.inl rfl,.inl rfl,.inl rfl,.inl rfl,AKW⟩ (by kernel_rfl) fun a19 w19 g19 st19 nd19=>?_
   obtain⟨hn19,hd19,e19_13,e19_14,e19_15,e19_16,e19_17,e19_18,e19_19,e19_20,e19_21,e19_7,e19_12,e19_11,e19_10,e19_8,e19_9,e19_6,e19_5,e19_4,e19_3,e19_0,e19_1,e19_2,-⟩:=st19
   have Cs:Sv 24 [] [(7,_),(12,_),(11,_),(10,_),(8,_),(9,_),(6,_),(5,_),(4,_),(3,_),(0,_),(1,_),(2,_),(20,_),(21,_)] a19:=⟨hn19,hd19,e19_7,e19_12,e19_11,e19_10,e19_8,e19_9,e19_6,e19_5,e19_4,e19_3,e19_0,e19_1,e19_2,e19_20,e19_21,AKW⟩
   replace Az:=AC g19 (AC TJ Az)
   refine SR Cs rfl rfl rfl rfl rfl rfl rfl (N3 _) Az (by omega) fun w20 g20 h20=>?_
   refine AE ?_
   refine y15 _ _ ?_
   refine k14 _ _ ?_
   refine AKP ?_
   refine AJ Cs 1 [(22,.int .i64 (((j+1:Nat):Int)))]
    ⟨Cp r6 (fun _=>DL (by rw[Bc (by omega) (by omega)];omega)),AKW⟩ fun a21 w21 g21 CK=>?_
   refine AJ (CK.dl [10]) 1 [(10,.int .i64 (((j+1:Nat):Int)))]
    ⟨ym r5,AKW⟩ fun a22 w22 g22 Bu=>?_
   have N5:=AA g21 g22
   refine AE ?_
   replace Az:=AC N5 h20
   replace Ch:=AC N5 (AZ g20 (AC g19 Ch) TZ)
   replace KY:=AC N5 (AZ g20 (AC g19 KY) Ta)
   replace KZ:=AC N5 (AZ g20 (AC g19 (AC TJ KZ)) Tc)
   replace HG:=AA (AD (AA (AA HG TJ) g19) g20 AFp) N5
   exact⟨⟨j+1,sl.set j (xa ^^^ xb),by omega,by rw[List.length_set];exact hsl,fun k hk=>by rw[List.getElem?_set_ne (by omega)];exact hkeep k (by omega),PW (by omega) hxa hxb hq,⟨Bu.1,Bu.2.1,Bu.2.2.1,Bu.2.2.2.2.2.2.2.1,(AL Bu).1,(AL Bu).2.1,(AL Bu).2.2.1,(AL Bu).2.2.2.1,(AL Bu).2.2.2.2.1,(AL Bu).2.2.2.2.2.1,(AL Bu).2.2.2.2.2.2.1,(AL Bu).2.2.2.2.2.2.2.1,AKW⟩,HG,Az,Ch,KY,KZ⟩,by rw[show _=_ from Bu.2.2.1,show _=_ from BF.2.2.1];simp[intOf];omega⟩
 · have hfin:=TW hx.1 (by rw[hy.1];omega) hsl (by omega) hq
   have hsn:Dg sl:=hfin▸ABn hx hy
   refine AKP ?_
   refine AJ BF 1 [(11,.bool false)]
    ⟨FG r7 (fun _=>BJ (by simp;omega)),AKW⟩ fun a23 w23 g23 Cl=>?_
   refine AE ?_
   refine k11 _ _ ?_
   refine AKQ fun K24 k24=>?_
   refine A2 Cl rfl rfl ?_
   refine wp_exit ?_
   repeat refine CT ?_
   refine x9 _ _ ?_
   refine k6 _ _ ?_
   refine AKQ fun K25 k25=>?_
   refine AKP ?_
   refine AJ Cl 1 [(23,AQ sl)]
    ⟨yl r6 (Bb sl hsn.1) (AC g23 Az),AKW⟩ fun a26 w26 g26 Cy=>?_
   have AIo:=AA g23 g26
   refine Av Cy r7 (Bb sl hsn.1) (AC AIo KZ) (Dk hsn) fun w27 g27 h27=>?_
   replace HG:=AD (AA HG AIo) g27 AFr
   replace KZ:=h27
   refine AE ?_
   refine k25 _ _ ?_
   refine AKT ?_
   repeat refine AK ?_
   refine Aw (fn:=Tryz.f104) Cy (Dz (p:=6) Tryz.results104 Cy rfl rfl (Bb sl hsn.1) KZ) ?_
   exact⟨by rw[hfin],HG⟩
theorem ABp (x k:List Nat) (hx:Dg x) (hk:Dg k) (w:World) :
   Calls Tryz.prog 46 #[AQ x,AQ k] w fun e w'=>e=.returned (AQ (Nr x k))∧w.grownBy w' none:=by
 obtain⟨y,hye⟩:∃y,msk k=y:=⟨_,rfl⟩
 have hy:Dg y:=hye▸Ct 283 k
 obtain⟨z0,hz⟩:∃z,z=x:=⟨_,rfl⟩
 have hz0:z0.length=32:=by rw[hz];exact hx.1
 refine BV Tryz.func46 rfl Tryz.ntmps46 rfl fun a0 sv0=>?_
 have HG:=World.grownBy.refl w none
 replace sv0:Sv 23 [] [(0,AQ x),(1,AQ k)] a0:=sv0
 refine AKQ fun K1 k1=>?_
 refine AKP ?_
 refine Be sv0 r6 (Bb x hx.1) fun a2 w2 CP DG g2 z2 AH sv2=>?_
 have Fq:=Bq HG DG
 refine Be sv2 r6 (Bb k hk.1) fun a3 w3 BO Dw g3 z3 AG sv3=>?_
 have Fs:=As AH Dw
 replace AH:=AC g3 AH
 replace HG:=AA (AA HG g2) g3
 refine BB (T:=23) (Z:=(bv AS)) sv3 rfl rfl rfl (fun a w=>by kernel_rfl) fun a4 w4 FS Bk g4 z4 AM sv4=>?_
 have A9:=As AH Bk
 have Bn:=Bq HG Bk
 replace AG:=AC g4 AG
 refine AE ?_
 refine k1 _ _ ?_
 refine AKQ fun K5 k5=>?_
 refine AKP ?_
 refine AJ sv4 2 [(7,AQ k),(8,AQ y)]
   ⟨yl r6 (Bb k hk.1) AG,Al [.int .u64 283,AQ k,.slice none 0 0] Tryz.func35 (by kernel_rfl) rq4 ⟨rfl,(oy rfl rfl),rfl,AKW⟩ (A7 fun W g=>by rw[←hye];exact ADM (n:=283) (by decide) rfl hk W),AKW⟩ fun a6 w6 g6 sv6=>?_
 replace AH:=AC g6 (AC g4 AH)
 replace AG:=AC g6 AG
 replace AM:=AC g6 AM
 replace HG:=AA (AA HG g4) g6
 refine BB (T:=23) (Z:=(bv AS)) sv6 rfl rfl rfl (fun a w=>by kernel_rfl) fun a7 w7 AHh Od g7 z7 Kg sv7=>?_
 have Mi:=As AH Od
 have Td:=As AG Od
 have Te:=As AM Od
 have AFs:=Bq HG Od
 refine Av sv7 r7 (Bb y hy.1) Kg (Dk hy) fun w8 g8 h8=>?_
 replace AH:=AZ g8 (AC g7 AH) (Ne.symm Mi)
 replace AG:=AZ g8 (AC g7 AG) (Ne.symm Td)
 replace AM:=AZ g8 (AC g7 AM) (Ne.symm Te)
 replace HG:=AD (AA HG g7) g8 AFs
 replace Kg:=h8
 refine AE ?_
 refine k5 _ _ ?_
 refine AKQ fun K9 k9=>?_
 refine AKQ fun K10 k10=>?_
 refine AKP ?_
 refine AR (v:=.int .i64 0) sv7 r6 fun a11 Bv=>?_
 refine AE ?_
 refine k10 _ _ ?_
 refine BI fun Q12 x12 y12 rt12 o12=>?_
 rw[←hz] at AH
 refine wp_loop (fun a w'=>∃(j:Nat) (sl:List Nat),(j≤32)∧(sl.length=32)∧(∀k,j≤k→sl[k]?=z0[k]?)∧(∀k,k<j→sl[k]?=(Gq x y)[k]?)∧Sv 23 [] [(6,.int .i64 ((j:Int))),(5,pt AHh),(7,AQ k),(8,AQ y),(4,pt FS),(3,pt BO),(2,pt CP),(0,AQ x),(1,AQ k)] a∧w.grownBy w' none∧w'.heap[CP]?=some (.cells (bv sl).toArray 23 (0,0))∧w'.heap[BO]?=some (.cells (bv k).toArray 23 (0,0))∧w'.heap[FS]?=some (.cells ((bv AS)).toArray 23 (0,0))∧w'.heap[AHh]?=some (.cells (bv y).toArray 23 (0,0))) (fun a _=>(32-intOf (a.tmps.getD 6 undef)).toNat) ⟨0,z0,by omega,hz0,fun k hk=>rfl,fun k hk=>by omega,⟨Bv.1,Bv.2.1,Bv.2.2.1,Bv.2.2.2.1,Bv.2.2.2.2.1,Bv.2.2.2.2.2.1,Bv.2.2.2.2.2.2.1,Bv.2.2.2.2.2.2.2.1,(AL Bv).1,(AL Bv).2.1,(AL Bv).2.2.1,AKW⟩,HG,AH,AG,AM,Kg⟩ fun a13 w13 hI13=>?_
 clear AH
 clear AG
 clear AM
 clear Kg
 clear HG
 obtain⟨j,sl,hj32,hsl,hkeep,hq,Cg,HG,AH,AG,AM,Kg⟩:=hI13
 refine AKQ fun K14 k14=>?_
 refine AKQ fun K15 k15=>?_
 by_cases hj:j<32
 · obtain⟨xa,hxa⟩:∃a,x[j]?=some a:=⟨_,List.getElem?_eq_getElem (by rw[hx.1];exact hj)⟩
   obtain⟨xb,hxb⟩:∃b,y[j]?=some b:=⟨_,List.getElem?_eq_getElem (by rw[hy.1];exact hj)⟩
   have ba:xa<256:=hx.2 _ (List.mem_of_getElem? hxa)
   have bb:xb<256:=hy.2 _ (List.mem_of_getElem? hxb)
   have hxs:sl[j]?=some xa:=(hkeep j (Nat.le_refl _)).trans (hz.symm▸hxa)
   refine AKP ?_
   refine AJ Cg 2 [(9,.int .i64 ((j:Int))),(10,.bool true)]
    ⟨ym r5,Cp r6 (fun _=>BJ (by simp;omega)),AKW⟩ fun a16 w16 g16 Cr=>?_
   refine AE ?_
   refine k15 _ _ ?_
   refine Ar Cr rfl rfl ?_
   refine AKU ?_
   refine k14 _ _ ?_
   refine AKQ fun K17 k17=>?_
   refine BI fun Q18 x18 y18 rt18 o18=>?_
   replace AH:=AC g16 AH
   replace Kg:=AC g16 Kg
   refine Eg (Cr.st w16) (by kernel_rfl) 9 [(13,Sp.is (.int .i64 ((j:Int)))),(14,Sp.is (.int .i64 ((j:Int)))),(15,Sp.is (pk CP j)),(16,Sp.is (.int .u8 ((xa:Int)))),(17,Sp.is (.int .i64 ((j:Int)))),(18,Sp.is (pk AHh j)),(19,Sp.is (.int .u8 ((xb:Int)))),(20,Sp.is (.int .u8 (((xa ^^^ xb:Nat):Int)))),(21,Sp.is (pk CP j))] rfl (by kernel_rfl) (by kernel_rfl) (by kernel_rfl) [] (by kernel_rfl)
    ⟨ym r5,ym r5,BH rq8 (fun w=>Hc hj w),Bg r6 (fun _ g=>AY (N3 (xa:Int)) (by simpa using FH (o:=0) (Aj (AF g AH (by simp))) hxs)),ym r5,BH rq8 (fun w=>Hc hj w),Bg r6 (fun _ g=>AY (N3 (xb:Int)) (by simpa using FH (o:=0) (Aj (AF g Kg (by simp))) hxb)),FG r7 (fun _=>Oc ba bb),BH rq8 (fun w=>Hc hj w),AKW⟩ trivial
    [] (by kernel_rfl) trivial ⟨.inl rfl,.inl rfl,.inl rfl,.inl rfl,.inl rfl,.inl rfl,.inl rfl,.inl rfl,.inl rfl,AKW⟩ (by kernel_rfl) fun a19 w19 g19 st19 nd19=>?_
   obtain⟨hn19,hd19,e19_13,e19_14,e19_15,e19_16,e19_17,e19_18,e19_19,e19_20,e19_21,e19_9,e19_10,e19_6,e19_5,e19_7,e19_8,e19_4,e19_3,e19_2,e19_0,e19_1,-⟩:=st19
   have Cs:Sv 23 [] [(9,_),(10,_),(6,_),(5,_),(7,_),(8,_),(4,_),(3,_),(2,_),(0,_),(1,_),(20,_),(21,_)] a19:=⟨hn19,hd19,e19_9,e19_10,e19_6,e19_5,e19_7,e19_8,e19_4,e19_3,e19_2,e19_0,e19_1,e19_20,e19_21,AKW⟩
   replace AH:=AC g19 AH
   refine SR Cs rfl rfl rfl rfl rfl rfl rfl (N3 _) AH (by omega) fun w20 g20 h20=>?_
   refine AE ?_
   refine y18 _ _ ?_
   refine k17 _ _ ?_
   refine AKP ?_
   refine AJ Cs 2 [(11,.int .i64 ((j:Int))),(12,.int .i64 (((j+1:Nat):Int)))]
    ⟨ym r5,Cp r6 (fun _=>DL (by rw[Bc (by omega) (by omega)];omega)),AKW⟩ fun a21 w21 g21 CK=>?_
   refine AR (v:=.int .i64 (((j+1:Nat):Int))) CK r6 fun a22 Bu=>?_
   refine AE ?_
   replace AH:=AC g21 h20
   replace AG:=AC g21 (AZ g20 (AC g19 (AC g16 AG)) Fs)
   replace AM:=AC g21 (AZ g20 (AC g19 (AC g16 AM)) A9)
   replace Kg:=AC g21 (AZ g20 (AC g19 Kg) Mi)
   replace HG:=AA (AD (AA (AA HG g16) g19) g20 Fq) g21
   exact⟨⟨j+1,sl.set j (xa ^^^ xb),by omega,by rw[List.length_set];exact hsl,fun k hk=>by rw[List.getElem?_set_ne (by omega)];exact hkeep k (by omega),PW (by omega) hxa hxb hq,⟨Bu.1,Bu.2.1,Bu.2.2.1,Bu.2.2.2.2.2.2.2.1,(AL Bu).1,(AL Bu).2.1,(AL Bu).2.2.1,(AL Bu).2.2.2.1,(AL Bu).2.2.2.2.1,(AL Bu).2.2.2.2.2.1,(AL Bu).2.2.2.2.2.2.1,AKW⟩,HG,AH,AG,AM,Kg⟩,by rw[show _=_ from Bu.2.2.1,show _=_ from Cg.2.2.1];simp[intOf];omega⟩
 · have hfin:=TW hx.1 (by rw[hy.1];omega) hsl (by omega) hq
   have hsn:Dg sl:=hfin▸ABn hx hy
   refine AKP ?_
   refine AJ Cg 2 [(9,.int .i64 ((j:Int))),(10,.bool false)]
    ⟨ym r5,Cp r6 (fun _=>BJ (by simp;omega)),AKW⟩ fun a23 w23 g23 Cl=>?_
   refine AE ?_
   refine k15 _ _ ?_
   refine A2 Cl rfl rfl ?_
   refine wp_exit ?_
   repeat refine CT ?_
   refine x12 _ _ ?_
   refine k9 _ _ ?_
   refine AKQ fun K24 k24=>?_
   refine AKP ?_
   refine AJ Cl 1 [(22,AQ sl)]
    ⟨yl r6 (Bb sl hsn.1) (AC g23 AH),AKW⟩ fun a25 w25 g25 Bz=>?_
   have KQ:=AA g23 g25
   refine Av Bz r7 (Bb sl hsn.1) (AC KQ AM) (Dk hsn) fun w26 g26 h26=>?_
   replace HG:=AD (AA HG KQ) g26 Bn
   replace AM:=h26
   refine AE ?_
   refine k24 _ _ ?_
   refine AKT ?_
   repeat refine AK ?_
   refine Aw (fn:=Tryz.f46) Bz (Dz (p:=4) Tryz.results46 Bz rfl rfl (Bb sl hsn.1) AM) ?_
   exact⟨by rw[hfin,←hye];rfl,HG⟩
theorem Mj (x k:List Nat) (hx:Dg x) (hk:Dg k) (w:World) :
  Calls Tryz.prog 56 #[AQ x,AQ k] w fun e w'=>e=.returned (AQ (Nr x k))∧w.grownBy w' none:=by
 refine BV Tryz.func56 rfl Tryz.ntmps56 rfl fun a0 sv0=>?_
 have HG:=World.grownBy.refl w none
 replace sv0:Sv 10 [] [(0,AQ x),(1,AQ k)] a0:=sv0
 refine AKQ fun K1 k1=>?_
 refine AKP ?_
 refine Be sv0 r6 (Bb x hx.1) fun a2 w2 CP DG g2 z2 AH sv2=>?_
 refine Be sv2 r6 (Bb k hk.1) fun a3 w3 BO Dw g3 z3 AG sv3=>?_
 replace HG:=AA (AA HG g2) g3
 refine BB (T:=23) (Z:=(bv AS)) sv3 rfl rfl rfl (fun a w=>by kernel_rfl) fun a4 w4 FS Bk g4 z4 AM sv4=>?_
 have Bn:=Bq HG Bk
 replace AH:=AC g4 (AC g3 AH)
 replace AG:=AC g4 AG
 refine AE ?_
 refine k1 _ _ ?_
 refine AKQ fun K5 k5=>?_
 refine Eg (sv4.st w4) (by kernel_rfl) 5 [(5,Sp.is (AQ AS)),(6,Sp.is (AQ x)),(7,Sp.is (AQ k)),(8,Sp.is (AQ ((msk k)))),(9,Sp.is (AQ ((Nr x k))))] rfl (by kernel_rfl) (by kernel_rfl) (by kernel_rfl) [] (by kernel_rfl)
  ⟨BM (vs:=[]) rfl rfl trivial trivial (fun _=>Ur _) (fun _=>rfl),yl r6 (Bb x hx.1) AH,yl r6 (Bb k hk.1) AG,Al [.int .u64 283,AQ k,.slice none 0 0] Tryz.func66 (by kernel_rfl) rq4 ⟨rfl,(oy rfl rfl),rfl,AKW⟩ (A7 fun W g=>Md (n:=283) (by decide) rfl hk W),Al [AQ AS,AQ x,AQ ((msk k))] Tryz.func104 (by kernel_rfl) rq4 ⟨(oy rfl rfl),(oy rfl rfl),(oy rfl rfl),AKW⟩ (A7 fun W g=>ABo AS x (msk k) Ab hx (Ct 283 k) W),AKW⟩ trivial
  [] (by kernel_rfl) trivial ⟨.inl rfl,.inl rfl,.inl rfl,.inl rfl,.inl rfl,AKW⟩ (by kernel_rfl) fun a6 w6 g6 st6 nd6=>?_
 obtain⟨hn6,hd6,e6_5,e6_6,e6_7,e6_8,e6_9,e6_4,e6_3,e6_2,e6_0,e6_1,-⟩:=st6
 have sv6:Sv 10 [] [(4,_),(3,_),(2,_),(0,_),(1,_),(9,_)] a6:=⟨hn6,hd6,e6_4,e6_3,e6_2,e6_0,e6_1,e6_9,AKW⟩
 refine Av sv6 r7 (Bb ((Nr x k)) (ABn hx (Ct 283 k)).1) (AC g6 AM) (Dk (ABn hx (Ct 283 k))) fun w7 g7 h7=>?_
 replace HG:=AD (AA (AA HG g4) g6) g7 Bn
 replace AM:=h7
 refine AE ?_
 refine k5 _ _ ?_
 refine AKT ?_
 repeat refine AK ?_
 refine Aw (fn:=Tryz.f56) sv6 (Dz (p:=4) Tryz.results56 sv6 rfl rfl (Bb ((Nr x k)) (ABn hx (Ct 283 k)).1) AM) ?_
 exact⟨rfl,HG⟩
end Go.Proofs.YtbfjfnbcmojpiaaGreat
