import Derived.Test.YtbfjfnbcmojpiaaGreatSeY2
set_option linter.unusedSimpArgs false
set_option linter.unusedVariables false
set_option maxRecDepth 100000
set_option maxHeartbeats 4000000
namespace Go.Proofs.YtbfjfnbcmojpiaaGreat
open Go.RowKit Go.Shelf
theorem Qb {x y sl:List Nat} {j a b:Nat} (hj:j<sl.length) (ha:x[j]?=some a) (hb:y[j]?=some b) (h:∀k,k<j→sl[k]?=(Hy x y)[k]?):∀k,k<j+1→(sl.set j (a ^^^ b))[k]?=(Hy x y)[k]?:=by
 intro k hk
 rw[List.getElem?_set]
 by_cases e:j=k
 · subst e
   rw[if_pos rfl,if_pos hj]
   unfold Hy
   rw[List.getElem?_zipWith,ha,hb]
 · rw[if_neg e]
   exact h k (by omega)
theorem U1 {x y sl:List Nat} {n j:Nat} (hx:x.length=n) (hy:n≤y.length) (hs:sl.length=n) (hj:n≤j) (h:∀k,k<j→sl[k]?=(Hy x y)[k]?):sl=Hy x y:=by
 have hl:=LS (a:=x) (b:=y) (by omega)
 refine List.ext_getElem? fun k=>?_
 by_cases hk:k<n
 · exact h k (by omega)
 · rw[List.getElem?_eq_none (by omega),List.getElem?_eq_none (by omega)]
theorem AGt {P:Program} {a b c:Int} {t:TypeId} {x y:Operand} {w:World} (h:bits .xor .u8 a b=c):(do eqGuard .xor t x y (.int .u8 a) (.int .u8 b);binOp .xor t (.int .u8 a) (.int .u8 b):Sem Value).run P w=.ok (.int .u8 c) w:=by
 subst h
 simp[eqGuard,binOp_xor]
 rfl
theorem Pf {P:Program} {a b:Nat} {t:TypeId} {x y:Operand} {w:World} (ha:a<256) (hb:b<256):(do eqGuard .xor t x y (.int .u8 (a:Int)) (.int .u8 (b:Int));binOp .xor t (.int .u8 (a:Int)) (.int .u8 (b:Int)):Sem Value).run P w=.ok (.int .u8 ((a ^^^ b:Nat):Int)) w:=AGt (u8_xor_nat a b ha hb)
section
variable {P:Program} {Q:Exit→Act→World→Prop} {ops:Array Oper} {rest:List Oper} {o:Oper} {a:Act} {w:World} {n:Nat} {D:List Deferred} {K:List (Nat×Value)}
theorem AIp {l:List Nat} {j x:Nat} (hj:j<l.length):bv (l.set j x)=bv (l.take j)++([.int .u8 (x:Int)]++bv (l.drop (j+1))):=by
 rw[NJ,NJ,NJ,AEJ hj]
 rfl
theorem AEr {l:List Nat} {j:Nat} (hj:j<l.length):bv l=bv (l.take j)++([.int .u8 (l[j]:Int)]++bv (l.drop (j+1))):=by
 rw[NJ,NJ,NJ,LG hj]
 rfl
theorem Ty (sv:Sv n D K a) (hgd:o.guard=none) {T:TypeId} {x y:Operand} (ho:o.op=.store T x y) (hd:o.dst=none) {b j v:Nat} {l:List Nat} {t:TypeId} (hx:Mg K x=true) (hxv:Mh K x=.pointer (some ⟨b,j,none⟩)) (hy:Mg K y=true) (hyv:Mh K y=.int .u8 (v:Int)) (ty:TY P T [.int .u8 (v:Int)] (.int .u8 (v:Int)))
  (hb:w.heap[b]?=some (.cells (bv l).toArray t (0,0))) (hj:j<l.length)
  (h:∀w',w.grownBy w' (some b)→w'.heap[b]?=some (.cells (bv (l.set j v)).toArray t (0,0))→wpList P ops Q rest a w'):wpList P ops Q (o::rest) a w:=by
 rw[AEr hj] at hb
 refine QD sv hgd ho hd hx hxv hy hyv ty hb (by rw[AL,List.length_take];omega) rfl fun w' g' hb'=>h w' g' ?_
 rw[hb',AIp hj]
end
theorem ACr (x y s0:List Nat) (hbx:By x) (hby:By y) (n:Nat) (hn63:n≤1000000) (hnx:x.length=n) (m:Nat) (hym:y.length=m) (hny:n≤m) (so ao bo:Option Addr) (sc ac bc:Nat) (w w1:World) (HG:w.grownBy w1 none) (hs:Own w1 5 1 (.slice so n sc) n (s0.flatMap cb)) (ha:SlB w1 1 (.slice ao n ac) n (bv x)) (hb:SlB w1 1 (.slice bo m bc) m (bv y)) (lo_hs:∀k,BM (.slice so n sc) k→w.heap.size≤k) (ap_ha_hs:∀k,BM (.slice ao n ac) k→¬BM (.slice so n sc) k) (ap_hb_hs:∀k,BM (.slice bo m bc) k→¬BM (.slice so n sc) k) :
   Calls Tryz.prog 106 #[.slice so n sc,.slice ao n ac,.slice bo m bc] w1 fun e w'=>e=.returned (.slice so n sc)∧w.grownBy w' none∧Own w' 5 1 (.slice so n sc) n (bv (Hy x y)):=by
 refine BF Tryz.func106 rfl Tryz.ntmps106 rfl fun a0 sv0=>?_
 have hs0:s0.length=n:=(AIV (Sl.of_own hs) AAQ (by decide)).symm
 replace sv0:Sv 27 [] [(0,.slice so n sc),(1,.slice ao n ac),(2,.slice bo m bc)] a0:=sv0
 refine ALa fun K1 k1=>?_
 refine ALZ ?_
 refine AX (v:=.slice none 0 0) sv0 r6 fun a2 sv2=>?_
 refine AE ?_
 refine k1 _ _ ?_
 refine ALa fun K3 k3=>?_
 refine ALa fun K4 k4=>?_
 refine ALZ ?_
 refine AH sv2 3 [(8,.slice so n sc),(9,.int .i64 ((n:Nat))),(10,.int .i64 0)]
   ⟨ym r5,BI (Tryz.underlying29) rfl rfl trivial (oy rfl rfl) (fun _=>rfl),FA (.inl rfl) rfl trivial (fun _=>rfl),ALg⟩ fun a5 w5 g5 sv5=>?_
 refine AE ?_
 refine k4 _ _ ?_
 refine A8 fun Q6 x6 y6 rt6 o6=>?_
 replace ha:=ha.kn g5
 replace hb:=hb.kn g5
 replace hs:=hs.kn g5
 replace HG:=AA HG g5
 refine wp_loop (fun a w'=>∃(i:Nat) (sl:List Nat),(i≤n)∧(sl.length=n)∧(∀k,k<i→sl[k]?=(Hy x y)[k]?)∧Sv 27 [] [(10,.int .i64 ((i:Int))),(8,.slice so n sc),(9,.int .i64 ((n:Nat))),(6,.slice none 0 0),(0,.slice so n sc),(1,.slice ao n ac),(2,.slice bo m bc)] a∧w.grownBy w' none∧SlB w' 1 (.slice ao n ac) n (bv x)∧SlB w' 1 (.slice bo m bc) m (bv y)∧Own w' 5 1 (.slice so n sc) n (sl.flatMap cb)∧(∀k,BM (.slice ao n ac) k→¬BM (.slice so n sc) k)∧(∀k,BM (.slice bo m bc) k→¬BM (.slice so n sc) k)∧(∀k,BM (.slice so n sc) k→w.heap.size≤k)) (fun a _=>(n-intOf (a.tmps.getD 10 undef)).toNat) ⟨0,s0,Nat.zero_le _,hs0,fun k hk=>by omega,⟨sv5.1,sv5.2.1,sv5.2.2.2.2.1,sv5.2.2.1,sv5.2.2.2.1,sv5.2.2.2.2.2.1,sv5.2.2.2.2.2.2.1,sv5.2.2.2.2.2.2.2.1,(AG sv5).1,ALg⟩,HG,ha,hb,hs,ap_ha_hs,ap_hb_hs,lo_hs⟩ fun a7 w7 hI7=>?_
 clear ha
 clear hb
 clear hs
 clear HG
 obtain⟨i,sl,hin,hsl,hq,sv7,HG,ha,hb,hs,ap_ha_hs,ap_hb_hs,lo_hs⟩:=hI7
 refine ALa fun K8 k8=>?_
 by_cases hi:i<n
 · have hix:i<x.length:=by omega
   have hiy:i<y.length:=by omega
   have his:i<sl.length:=by omega
   obtain⟨xa,hx_xa⟩:∃zx,x[i]'hix=zx:=⟨_,rfl⟩
   obtain⟨xb,hx_xb⟩:∃zx,y[i]'hiy=zx:=⟨_,rfl⟩
   obtain⟨xs,hx_xs⟩:∃zx,sl[i]'his=zx:=⟨_,rfl⟩
   have hxa:x[i]?=some xa:=by rw[←hx_xa];exact List.getElem?_eq_getElem _
   have hxb:y[i]?=some xb:=by rw[←hx_xb];exact List.getElem?_eq_getElem _
   have ba:xa<256:=hbx _ (List.mem_of_getElem? hxa)
   have bb:xb<256:=hby _ (List.mem_of_getElem? hxb)
   refine ALZ ?_
   refine AH sv7 1 [(11,.bool true)]
    ⟨GC r7 (fun _=>BE (by simp;omega)),ALg⟩ fun a9 w9 g9 sv9=>?_
   refine AE ?_
   refine k8 _ _ ?_
   refine ALa fun K10 k10=>?_
   refine Av sv9 rfl rfl ?_
   refine ALe ?_
   refine k10 _ _ ?_
   refine ALa fun K11 k11=>?_
   refine A8 fun Q12 x12 y12 rt12 o12=>?_
   refine ALa fun K13 k13=>?_
   refine ALZ ?_
   refine AH sv9 1 [(12,.int .i64 ((i:Int)))]
    ⟨ym r5,ALg⟩ fun a14 w14 g14 DQ=>?_
   have Xa:=AA g9 g14
   refine AX (v:=.int .i64 ((i:Int))) DQ r6 fun a15 Gh=>?_
   refine AE ?_
   refine k13 _ _ ?_
   replace ha:=ha.kn Xa
   replace hb:=hb.kn Xa
   replace hs:=hs.kn Xa
   refine DM (Gh.st w14) (by kernel_rfl) 12 [(13,Sp.is (.slice so n sc)),(14,Sp.is (.int .i64 ((i:Int)))),(15,Sp.is (.slice ao n ac)),(16,Sp.is (.int .i64 ((i:Int)))),(17,Sp.is (pk ((bO ao)) (oO ao+i*1))),(18,Sp.is (.int .u8 ((xa:Int)))),(19,Sp.is (.slice bo m bc)),(20,Sp.is (.int .i64 ((i:Int)))),(21,Sp.is (pk ((bO bo)) (oO bo+i*1))),(22,Sp.is (.int .u8 ((xb:Int)))),(23,Sp.is (.int .u8 (((xa ^^^ xb:Nat):Int)))),(24,Sp.is (pk ((bO so)) (oO so+i*1)))] rfl (by kernel_rfl) (by kernel_rfl) (by kernel_rfl) [] (by kernel_rfl)
    ⟨ym r5,ym r5,ym r5,ym r5,BA rq8 (fun w=>B8 Tryz.underlying29 (by kernel_rfl) (ha.1) (by omega) (rfl) w),Bc r6 (fun _ g=>Ab (tyB ((xa:Int))) (by have:=Fh (ha.kn g).1 hix;rw[hx_xa] at this;exact this)),ym r5,ym r5,BA rq8 (fun w=>B8 Tryz.underlying29 (by kernel_rfl) (hb.1) (by omega) (rfl) w),Bc r6 (fun _ g=>Ab (tyB ((xb:Int))) (by have:=Fh (hb.kn g).1 hiy;rw[hx_xb] at this;exact this)),GC r7 (fun _=>Pf ba bb),BA rq8 (fun w=>B8 Tryz.underlying29 (by kernel_rfl) ((Sl.of_own hs)) (by omega) (rfl) w),ALg⟩ trivial
    [] (by kernel_rfl) trivial ⟨.inl rfl,.inl rfl,.inl rfl,.inl rfl,.inl rfl,.inl rfl,.inl rfl,.inl rfl,.inl rfl,.inl rfl,.inl rfl,.inl rfl,ALg⟩ (by kernel_rfl) fun a16 w16 g16 st16 nd16=>?_
   obtain⟨hn16,hd16,e16_13,e16_14,e16_15,e16_16,e16_17,e16_18,e16_19,e16_20,e16_21,e16_22,e16_23,e16_24,e16_7,e16_12,e16_11,e16_10,e16_8,e16_9,e16_6,e16_0,e16_1,e16_2,-⟩:=st16
   have Ch:Sv 27 [] [(7,_),(12,_),(11,_),(10,_),(8,_),(9,_),(6,_),(0,_),(1,_),(2,_),(23,_),(24,_)] a16:=⟨hn16,hd16,e16_7,e16_12,e16_11,e16_10,e16_8,e16_9,e16_6,e16_0,e16_1,e16_2,e16_23,e16_24,ALg⟩
   replace hs:=hs.kn g16
   refine J9 (c:=cb) (el:=(xa ^^^ xb)) Ch rfl rfl rfl rfl rfl rfl rfl (tyB (((xa ^^^ xb:Nat):Int))) hs AAQ (by decide) (by first|omega|(simp only[List.length_set];omega)) rfl fun w17 g17 h17=>?_
   replace ha:=(ha.kn g16).offR g17 (fun k hk e=>ap_ha_hs k hk (Dl (j:=i) hs (by omega) e))
   replace hb:=(hb.kn g16).offR g17 (fun k hk e=>ap_hb_hs k hk (Dl (j:=i) hs (by omega) e))
   replace HG:=Br (AA (AA HG Xa) g16) g17 fun k e=>lo_hs k (Dl (j:=i) hs (by omega) e)
   refine AE ?_
   refine y12 _ _ ?_
   refine k11 _ _ ?_
   refine ALZ ?_
   refine AH Ch 1 [(25,.int .i64 (((i+1:Nat):Int)))]
    ⟨Cm r6 (fun _=>DB (by rw[BG (by omega) (by omega)];omega)),ALg⟩ fun a18 w18 g18 CD=>?_
   refine AH (CD.dl [10]) 1 [(10,.int .i64 (((i+1:Nat):Int)))]
    ⟨ym r5,ALg⟩ fun a19 w19 g19 Cs=>?_
   have AGu:=AA g18 g19
   refine AE ?_
   replace ha:=ha.kn AGu
   replace hb:=hb.kn AGu
   replace hs:=h17.kn AGu
   replace HG:=AA HG AGu
   exact⟨⟨i+1,sl.set i (xa ^^^ xb),by omega,by rw[List.length_set];exact hsl,Qb (by omega) hxa hxb hq,⟨Cs.1,Cs.2.1,Cs.2.2.1,Cs.2.2.2.2.2.2.2.1,(AG Cs).1,(AG Cs).2.1,(AG Cs).2.2.1,(AG Cs).2.2.2.1,(AG Cs).2.2.2.2.1,ALg⟩,HG,ha,hb,hs,ap_ha_hs,ap_hb_hs,lo_hs⟩,by rw[show _=_ from Cs.2.2.1,show _=_ from sv7.2.2.1];simp[intOf];omega⟩
 · have hfin:=U1 hnx (by omega) hsl (by omega) hq
   refine ALZ ?_
   refine AH sv7 1 [(11,.bool false)]
    ⟨GC r7 (fun _=>BE (by simp;omega)),ALg⟩ fun a20 w20 g20 DR=>?_
   refine AE ?_
   refine k8 _ _ ?_
   refine ALa fun K21 k21=>?_
   refine A1 DR rfl rfl ?_
   refine wp_exit ?_
   repeat refine Bo ?_
   refine x6 _ _ ?_
   refine k3 _ _ ?_
   refine ALa fun K22 k22=>?_
   refine ALZ ?_
   refine AH DR 1 [(26,.slice so n sc)]
    ⟨ym r5,ALg⟩ fun a23 w23 g23 CS=>?_
   have AJu:=AA g20 g23
   refine AX (v:=.slice so n sc) CS r6 fun a24 ER=>?_
   refine AE ?_
   refine k22 _ _ ?_
   replace hs:=hs.kn AJu
   replace HG:=AA HG AJu
   refine ALd ?_
   repeat refine AJ ?_
   rw[hfin,←NJ] at hs
   refine Ar (fn:=Tryz.f106) ER (A7 (p:=6) Tryz.results106 ER rfl rfl) ?_
   exact⟨rfl,HG,hs⟩
theorem ACs {x y:List Nat} (hx:Dg x) (hy:Dg y):Dg (Hy x y):=⟨by rw[LS (by rw[hx.1,hy.1];omega),hx.1],ABR hx.2 hy.2⟩
theorem ACt (z0 x y:List Nat) (hz:Dg z0) (hx:Dg x) (hy:Dg y) (w:World) :
   Calls Tryz.prog 104 #[AO z0,AO x,AO y] w fun e w'=>e=.returned (AO (Hy x y))∧w.grownBy w' none:=by
 have hz0:z0.length=32:=hz.1
 refine BF Tryz.func104 rfl Tryz.ntmps104 rfl fun a0 sv0=>?_
 have HG:=World.grownBy.refl w none
 replace sv0:Sv 24 [] [(0,AO z0),(1,AO x),(2,AO y)] a0:=sv0
 refine ALa fun K1 k1=>?_
 refine ALZ ?_
 refine BZ sv0 r6 (BV z0 hz.1) fun a2 w2 Ml JH g2 z2 Aq sv2=>?_
 have AGv:=Bk HG JH
 refine BZ sv2 r6 (BV x hx.1) fun a3 w3 N7 Pa g3 z3 BU sv3=>?_
 have U2:=Ax Aq Pa
 replace Aq:=AC g3 Aq
 refine BZ sv3 r6 (BV y hy.1) fun a4 w4 PC ABV g4 z4 Cz sv4=>?_
 have U3:=Ax Aq ABV
 replace Aq:=AC g4 Aq
 replace HG:=AA (AA (AA HG g2) g3) g4
 refine Az (T:=23) (Z:=(bv AM)) sv4 rfl rfl rfl (fun a w=>by kernel_rfl) fun a5 w5 AJv ABW g5 z5 LU sv5=>?_
 have U4:=Ax Aq ABW
 have AGw:=Bk HG ABW
 replace Aq:=AC g5 Aq
 refine AE ?_
 refine k1 _ _ ?_
 refine ALa fun K6 k6=>?_
 refine ALa fun K7 k7=>?_
 refine ALZ ?_
 refine AH sv5 3 [(8,AO z0),(9,.int .i64 32),(10,.int .i64 0)]
   ⟨yl r6 (BV z0 hz.1) Aq,FA (.inl rfl) rfl trivial (fun _=>rfl),FA (.inl rfl) rfl trivial (fun _=>rfl),ALg⟩ fun a8 w8 g8 sv8=>?_
 refine AE ?_
 refine k7 _ _ ?_
 refine A8 fun Q9 x9 y9 rt9 o9=>?_
 replace Aq:=AC g8 Aq
 replace BU:=AC g8 (AC g5 (AC g4 BU))
 replace Cz:=AC g8 (AC g5 Cz)
 replace LU:=AC g8 LU
 replace HG:=AA (AA HG g5) g8
 refine wp_loop (fun a w'=>∃(j:Nat) (sl:List Nat),(j≤32)∧(sl.length=32)∧(∀k,j≤k→sl[k]?=z0[k]?)∧(∀k,k<j→sl[k]?=(Hy x y)[k]?)∧Sv 24 [] [(10,.int .i64 ((j:Int))),(8,AO z0),(9,.int .i64 32),(6,pt AJv),(5,pt PC),(4,pt N7),(3,pt Ml),(0,AO z0),(1,AO x),(2,AO y)] a∧w.grownBy w' none∧w'.heap[Ml]?=some (.cells (bv sl).toArray 23 (0,0))∧w'.heap[N7]?=some (.cells (bv x).toArray 23 (0,0))∧w'.heap[PC]?=some (.cells (bv y).toArray 23 (0,0))∧w'.heap[AJv]?=some (.cells ((bv AM)).toArray 23 (0,0))) (fun a _=>(32-intOf (a.tmps.getD 10 undef)).toNat) ⟨0,z0,by omega,hz0,fun k hk=>rfl,fun k hk=>by omega,⟨sv8.1,sv8.2.1,sv8.2.2.2.2.1,sv8.2.2.1,sv8.2.2.2.1,sv8.2.2.2.2.2.1,sv8.2.2.2.2.2.2.1,sv8.2.2.2.2.2.2.2.1,(AG sv8).1,(AG sv8).2.1,(AG sv8).2.2.1,(AG sv8).2.2.2.1,ALg⟩,HG,Aq,BU,Cz,LU⟩ fun a10 w10 hI10=>?_
 clear Aq
 clear BU
 clear Cz
 clear LU
 clear HG
 obtain⟨j,sl,hj32,hsl,hkeep,hq,Bj,HG,Aq,BU,Cz,LU⟩:=hI10
 refine ALa fun K11 k11=>?_
 by_cases hj:j<32
 · obtain⟨xa,hxa⟩:∃a,x[j]?=some a:=⟨_,List.getElem?_eq_getElem (by rw[hx.1];exact hj)⟩
   obtain⟨xb,hxb⟩:∃b,y[j]?=some b:=⟨_,List.getElem?_eq_getElem (by rw[hy.1];exact hj)⟩
   have ba:xa<256:=hx.2 _ (List.mem_of_getElem? hxa)
   have bb:xb<256:=hy.2 _ (List.mem_of_getElem? hxb)
   refine ALZ ?_
   refine AH Bj 1 [(11,.bool true)]
    ⟨GC r7 (fun _=>BE (by simp;omega)),ALg⟩ fun a12 w12 g12 Cx=>?_
   refine AE ?_
   refine k11 _ _ ?_
   refine ALa fun K13 k13=>?_
   refine Av Cx rfl rfl ?_
   refine ALe ?_
   refine k13 _ _ ?_
   refine ALa fun K14 k14=>?_
   refine A8 fun Q15 x15 y15 rt15 o15=>?_
   refine ALa fun K16 k16=>?_
   refine ALZ ?_
   refine AH Cx 1 [(12,.int .i64 ((j:Int)))]
    ⟨ym r5,ALg⟩ fun a17 w17 g17 Dq=>?_
   have Us:=AA g12 g17
   refine AX (v:=.int .i64 ((j:Int))) Dq r6 fun a18 CD=>?_
   refine AE ?_
   refine k16 _ _ ?_
   replace BU:=AC Us BU
   replace Cz:=AC Us Cz
   refine DM (CD.st w17) (by kernel_rfl) 9 [(13,Sp.is (.int .i64 ((j:Int)))),(14,Sp.is (.int .i64 ((j:Int)))),(15,Sp.is (pk N7 j)),(16,Sp.is (.int .u8 ((xa:Int)))),(17,Sp.is (.int .i64 ((j:Int)))),(18,Sp.is (pk PC j)),(19,Sp.is (.int .u8 ((xb:Int)))),(20,Sp.is (.int .u8 (((xa ^^^ xb:Nat):Int)))),(21,Sp.is (pk Ml j))] rfl (by kernel_rfl) (by kernel_rfl) (by kernel_rfl) [] (by kernel_rfl)
    ⟨ym r5,ym r5,BA rq8 (fun w=>IG hj w),Bc r6 (fun _ g=>Ab (O6 (xa:Int)) (by simpa using Ff (o:=0) (Am (AF g BU (by simp))) hxa)),ym r5,BA rq8 (fun w=>IG hj w),Bc r6 (fun _ g=>Ab (O6 (xb:Int)) (by simpa using Ff (o:=0) (Am (AF g Cz (by simp))) hxb)),GC r7 (fun _=>Pf ba bb),BA rq8 (fun w=>IG hj w),ALg⟩ trivial
    [] (by kernel_rfl) trivial ⟨.inl rfl,.inl rfl,.inl rfl,.inl rfl,.inl rfl,.inl rfl,.inl rfl,.inl rfl,.inl rfl,ALg⟩ (by kernel_rfl) fun a19 w19 g19 st19 nd19=>?_
   obtain⟨hn19,hd19,e19_13,e19_14,e19_15,e19_16,e19_17,e19_18,e19_19,e19_20,e19_21,e19_7,e19_12,e19_11,e19_10,e19_8,e19_9,e19_6,e19_5,e19_4,e19_3,e19_0,e19_1,e19_2,-⟩:=st19
   have Cs:Sv 24 [] [(7,_),(12,_),(11,_),(10,_),(8,_),(9,_),(6,_),(5,_),(4,_),(3,_),(0,_),(1,_),(2,_),(20,_),(21,_)] a19:=⟨hn19,hd19,e19_7,e19_12,e19_11,e19_10,e19_8,e19_9,e19_6,e19_5,e19_4,e19_3,e19_0,e19_1,e19_2,e19_20,e19_21,ALg⟩
   replace Aq:=AC g19 (AC Us Aq)
   refine Ty Cs rfl rfl rfl rfl rfl rfl rfl (O6 _) Aq (by omega) fun w20 g20 h20=>?_
   refine AE ?_
   refine y15 _ _ ?_
   refine k14 _ _ ?_
   refine ALZ ?_
   refine AH Cs 1 [(22,.int .i64 (((j+1:Nat):Int)))]
    ⟨Cm r6 (fun _=>DB (by rw[BG (by omega) (by omega)];omega)),ALg⟩ fun a21 w21 g21 Di=>?_
   refine AH (Di.dl [10]) 1 [(10,.int .i64 (((j+1:Nat):Int)))]
    ⟨ym r5,ALg⟩ fun a22 w22 g22 Bl=>?_
   have O7:=AA g21 g22
   refine AE ?_
   replace Aq:=AC O7 h20
   replace BU:=AC O7 (Ac g20 (AC g19 BU) U2)
   replace Cz:=AC O7 (Ac g20 (AC g19 Cz) U3)
   replace LU:=AC O7 (Ac g20 (AC g19 (AC Us LU)) U4)
   replace HG:=AA (AD (AA (AA HG Us) g19) g20 AGv) O7
   exact⟨⟨j+1,sl.set j (xa ^^^ xb),by omega,by rw[List.length_set];exact hsl,fun k hk=>by rw[List.getElem?_set_ne (by omega)];exact hkeep k (by omega),Qb (by omega) hxa hxb hq,⟨Bl.1,Bl.2.1,Bl.2.2.1,Bl.2.2.2.2.2.2.2.1,(AG Bl).1,(AG Bl).2.1,(AG Bl).2.2.1,(AG Bl).2.2.2.1,(AG Bl).2.2.2.2.1,(AG Bl).2.2.2.2.2.1,(AG Bl).2.2.2.2.2.2.1,(AG Bl).2.2.2.2.2.2.2.1,ALg⟩,HG,Aq,BU,Cz,LU⟩,by rw[show _=_ from Bl.2.2.1,show _=_ from Bj.2.2.1];simp[intOf];omega⟩
 · have hfin:=U1 hx.1 (by rw[hy.1];omega) hsl (by omega) hq
   have hsn:Dg sl:=hfin▸ACs hx hy
   refine ALZ ?_
   refine AH Bj 1 [(11,.bool false)]
    ⟨GC r7 (fun _=>BE (by simp;omega)),ALg⟩ fun a23 w23 g23 CS=>?_
   refine AE ?_
   refine k11 _ _ ?_
   refine ALa fun K24 k24=>?_
   refine A1 CS rfl rfl ?_
   refine wp_exit ?_
   repeat refine Bo ?_
   refine x9 _ _ ?_
   refine k6 _ _ ?_
   refine ALa fun K25 k25=>?_
   refine ALZ ?_
   refine AH CS 1 [(23,AO sl)]
    ⟨yl r6 (BV sl hsn.1) (AC g23 Aq),ALg⟩ fun a26 w26 g26 Cp=>?_
   have AJw:=AA g23 g26
   refine As Cp r7 (BV sl hsn.1) (AC AJw LU) (En hsn) fun w27 g27 h27=>?_
   replace HG:=AD (AA HG AJw) g27 AGw
   replace LU:=h27
   refine AE ?_
   refine k25 _ _ ?_
   refine ALd ?_
   repeat refine AJ ?_
   refine Ar (fn:=Tryz.f104) Cp (Dc (p:=6) Tryz.results104 Cp rfl rfl (BV sl hsn.1) LU) ?_
   exact⟨by rw[hfin],HG⟩
theorem ACu (x k:List Nat) (hx:Dg x) (hk:Dg k) (w:World) :
   Calls Tryz.prog 46 #[AO x,AO k] w fun e w'=>e=.returned (AO (OD x k))∧w.grownBy w' none:=by
 obtain⟨y,hye⟩:∃y,msk k=y:=⟨_,rfl⟩
 have hy:Dg y:=hye▸Be 283 k
 obtain⟨z0,hz⟩:∃z,z=x:=⟨_,rfl⟩
 have hz0:z0.length=32:=by rw[hz];exact hx.1
 refine BF Tryz.func46 rfl Tryz.ntmps46 rfl fun a0 sv0=>?_
 have HG:=World.grownBy.refl w none
 replace sv0:Sv 23 [] [(0,AO x),(1,AO k)] a0:=sv0
 refine ALa fun K1 k1=>?_
 refine ALZ ?_
 refine BZ sv0 r6 (BV x hx.1) fun a2 w2 CO DP g2 z2 AK sv2=>?_
 have FP:=Bk HG DP
 refine BZ sv2 r6 (BV k hk.1) fun a3 w3 CG E2 g3 z3 AN sv3=>?_
 have Ga:=Ax AK E2
 replace AK:=AC g3 AK
 replace HG:=AA (AA HG g2) g3
 refine Az (T:=23) (Z:=(bv AM)) sv3 rfl rfl rfl (fun a w=>by kernel_rfl) fun a4 w4 Fp CB g4 z4 AU sv4=>?_
 have BT:=Ax AK CB
 have CL:=Bk HG CB
 replace AN:=AC g4 AN
 refine AE ?_
 refine k1 _ _ ?_
 refine ALa fun K5 k5=>?_
 refine ALZ ?_
 refine AH sv4 2 [(7,AO k),(8,AO y)]
   ⟨yl r6 (BV k hk.1) AN,Ae [.int .u64 283,AO k,.slice none 0 0] Tryz.func35 (by kernel_rfl) rq4 ⟨rfl,(oy rfl rfl),rfl,ALg⟩ (Au fun W g=>by rw[←hye];exact Jn (n:=283) (by decide) rfl hk W),ALg⟩ fun a6 w6 g6 sv6=>?_
 replace AK:=AC g6 (AC g4 AK)
 replace AN:=AC g6 AN
 replace AU:=AC g6 AU
 replace HG:=AA (AA HG g4) g6
 refine Az (T:=23) (Z:=(bv AM)) sv6 rfl rfl rfl (fun a w=>by kernel_rfl) fun a7 w7 AIq Pg g7 z7 LV sv7=>?_
 have NK:=Ax AK Pg
 have U5:=Ax AN Pg
 have U6:=Ax AU Pg
 have AGx:=Bk HG Pg
 refine As sv7 r7 (BV y hy.1) LV (En hy) fun w8 g8 h8=>?_
 replace AK:=Ac g8 (AC g7 AK) (Ne.symm NK)
 replace AN:=Ac g8 (AC g7 AN) (Ne.symm U5)
 replace AU:=Ac g8 (AC g7 AU) (Ne.symm U6)
 replace HG:=AD (AA HG g7) g8 AGx
 replace LV:=h8
 refine AE ?_
 refine k5 _ _ ?_
 refine ALa fun K9 k9=>?_
 refine ALa fun K10 k10=>?_
 refine ALZ ?_
 refine AX (v:=.int .i64 0) sv7 r6 fun a11 B7=>?_
 refine AE ?_
 refine k10 _ _ ?_
 refine A8 fun Q12 x12 y12 rt12 o12=>?_
 rw[←hz] at AK
 refine wp_loop (fun a w'=>∃(j:Nat) (sl:List Nat),(j≤32)∧(sl.length=32)∧(∀k,j≤k→sl[k]?=z0[k]?)∧(∀k,k<j→sl[k]?=(Hy x y)[k]?)∧Sv 23 [] [(6,.int .i64 ((j:Int))),(5,pt AIq),(7,AO k),(8,AO y),(4,pt Fp),(3,pt CG),(2,pt CO),(0,AO x),(1,AO k)] a∧w.grownBy w' none∧w'.heap[CO]?=some (.cells (bv sl).toArray 23 (0,0))∧w'.heap[CG]?=some (.cells (bv k).toArray 23 (0,0))∧w'.heap[Fp]?=some (.cells ((bv AM)).toArray 23 (0,0))∧w'.heap[AIq]?=some (.cells (bv y).toArray 23 (0,0))) (fun a _=>(32-intOf (a.tmps.getD 6 undef)).toNat) ⟨0,z0,by omega,hz0,fun k hk=>rfl,fun k hk=>by omega,⟨B7.1,B7.2.1,B7.2.2.1,B7.2.2.2.1,B7.2.2.2.2.1,B7.2.2.2.2.2.1,B7.2.2.2.2.2.2.1,B7.2.2.2.2.2.2.2.1,(AG B7).1,(AG B7).2.1,(AG B7).2.2.1,ALg⟩,HG,AK,AN,AU,LV⟩ fun a13 w13 hI13=>?_
 clear AK
 clear AN
 clear AU
 clear LV
 clear HG
 obtain⟨j,sl,hj32,hsl,hkeep,hq,Cl,HG,AK,AN,AU,LV⟩:=hI13
 refine ALa fun K14 k14=>?_
 refine ALa fun K15 k15=>?_
 by_cases hj:j<32
 · obtain⟨xa,hxa⟩:∃a,x[j]?=some a:=⟨_,List.getElem?_eq_getElem (by rw[hx.1];exact hj)⟩
   obtain⟨xb,hxb⟩:∃b,y[j]?=some b:=⟨_,List.getElem?_eq_getElem (by rw[hy.1];exact hj)⟩
   have ba:xa<256:=hx.2 _ (List.mem_of_getElem? hxa)
   have bb:xb<256:=hy.2 _ (List.mem_of_getElem? hxb)
   have hxs:sl[j]?=some xa:=(hkeep j (Nat.le_refl _)).trans (hz.symm▸hxa)
   refine ALZ ?_
   refine AH Cl 2 [(9,.int .i64 ((j:Int))),(10,.bool true)]
    ⟨ym r5,Cm r6 (fun _=>BE (by simp;omega)),ALg⟩ fun a16 w16 g16 Ch=>?_
   refine AE ?_
   refine k15 _ _ ?_
   refine Av Ch rfl rfl ?_
   refine ALe ?_
   refine k14 _ _ ?_
   refine ALa fun K17 k17=>?_
   refine A8 fun Q18 x18 y18 rt18 o18=>?_
   replace AK:=AC g16 AK
   replace LV:=AC g16 LV
   refine DM (Ch.st w16) (by kernel_rfl) 9 [(13,Sp.is (.int .i64 ((j:Int)))),(14,Sp.is (.int .i64 ((j:Int)))),(15,Sp.is (pk CO j)),(16,Sp.is (.int .u8 ((xa:Int)))),(17,Sp.is (.int .i64 ((j:Int)))),(18,Sp.is (pk AIq j)),(19,Sp.is (.int .u8 ((xb:Int)))),(20,Sp.is (.int .u8 (((xa ^^^ xb:Nat):Int)))),(21,Sp.is (pk CO j))] rfl (by kernel_rfl) (by kernel_rfl) (by kernel_rfl) [] (by kernel_rfl)
    ⟨ym r5,ym r5,BA rq8 (fun w=>IG hj w),Bc r6 (fun _ g=>Ab (O6 (xa:Int)) (by simpa using Ff (o:=0) (Am (AF g AK (by simp))) hxs)),ym r5,BA rq8 (fun w=>IG hj w),Bc r6 (fun _ g=>Ab (O6 (xb:Int)) (by simpa using Ff (o:=0) (Am (AF g LV (by simp))) hxb)),GC r7 (fun _=>Pf ba bb),BA rq8 (fun w=>IG hj w),ALg⟩ trivial
    [] (by kernel_rfl) trivial ⟨.inl rfl,.inl rfl,.inl rfl,.inl rfl,.inl rfl,.inl rfl,.inl rfl,.inl rfl,.inl rfl,ALg⟩ (by kernel_rfl) fun a19 w19 g19 st19 nd19=>?_
   obtain⟨hn19,hd19,e19_13,e19_14,e19_15,e19_16,e19_17,e19_18,e19_19,e19_20,e19_21,e19_9,e19_10,e19_6,e19_5,e19_7,e19_8,e19_4,e19_3,e19_2,e19_0,e19_1,-⟩:=st19
   have Cs:Sv 23 [] [(9,_),(10,_),(6,_),(5,_),(7,_),(8,_),(4,_),(3,_),(2,_),(0,_),(1,_),(20,_),(21,_)] a19:=⟨hn19,hd19,e19_9,e19_10,e19_6,e19_5,e19_7,e19_8,e19_4,e19_3,e19_2,e19_0,e19_1,e19_20,e19_21,ALg⟩
   replace AK:=AC g19 AK
   refine Ty Cs rfl rfl rfl rfl rfl rfl rfl (O6 _) AK (by omega) fun w20 g20 h20=>?_
   refine AE ?_
   refine y18 _ _ ?_
   refine k17 _ _ ?_
   refine ALZ ?_
   refine AH Cs 2 [(11,.int .i64 ((j:Int))),(12,.int .i64 (((j+1:Nat):Int)))]
    ⟨ym r5,Cm r6 (fun _=>DB (by rw[BG (by omega) (by omega)];omega)),ALg⟩ fun a21 w21 g21 Di=>?_
   refine AX (v:=.int .i64 (((j+1:Nat):Int))) Di r6 fun a22 Bl=>?_
   refine AE ?_
   replace AK:=AC g21 h20
   replace AN:=AC g21 (Ac g20 (AC g19 (AC g16 AN)) Ga)
   replace AU:=AC g21 (Ac g20 (AC g19 (AC g16 AU)) BT)
   replace LV:=AC g21 (Ac g20 (AC g19 LV) NK)
   replace HG:=AA (AD (AA (AA HG g16) g19) g20 FP) g21
   exact⟨⟨j+1,sl.set j (xa ^^^ xb),by omega,by rw[List.length_set];exact hsl,fun k hk=>by rw[List.getElem?_set_ne (by omega)];exact hkeep k (by omega),Qb (by omega) hxa hxb hq,⟨Bl.1,Bl.2.1,Bl.2.2.1,Bl.2.2.2.2.2.2.2.1,(AG Bl).1,(AG Bl).2.1,(AG Bl).2.2.1,(AG Bl).2.2.2.1,(AG Bl).2.2.2.2.1,(AG Bl).2.2.2.2.2.1,(AG Bl).2.2.2.2.2.2.1,ALg⟩,HG,AK,AN,AU,LV⟩,by rw[show _=_ from Bl.2.2.1,show _=_ from Cl.2.2.1];simp[intOf];omega⟩
 · have hfin:=U1 hx.1 (by rw[hy.1];omega) hsl (by omega) hq
   have hsn:Dg sl:=hfin▸ACs hx hy
   refine ALZ ?_
   refine AH Cl 2 [(9,.int .i64 ((j:Int))),(10,.bool false)]
    ⟨ym r5,Cm r6 (fun _=>BE (by simp;omega)),ALg⟩ fun a23 w23 g23 CS=>?_
   refine AE ?_
   refine k15 _ _ ?_
   refine A1 CS rfl rfl ?_
   refine wp_exit ?_
   repeat refine Bo ?_
   refine x12 _ _ ?_
   refine k9 _ _ ?_
   refine ALa fun K24 k24=>?_
   refine ALZ ?_
   refine AH CS 1 [(22,AO sl)]
    ⟨yl r6 (BV sl hsn.1) (AC g23 AK),ALg⟩ fun a25 w25 g25 Co=>?_
   have JW:=AA g23 g25
   refine As Co r7 (BV sl hsn.1) (AC JW AU) (En hsn) fun w26 g26 h26=>?_
   replace HG:=AD (AA HG JW) g26 CL
   replace AU:=h26
   refine AE ?_
   refine k24 _ _ ?_
   refine ALd ?_
   repeat refine AJ ?_
   refine Ar (fn:=Tryz.f46) Co (Dc (p:=4) Tryz.results46 Co rfl rfl (BV sl hsn.1) AU) ?_
   exact⟨by rw[hfin,←hye];rfl,HG⟩
theorem NM (x k:List Nat) (hx:Dg x) (hk:Dg k) (w:World) :
  Calls Tryz.prog 56 #[AO x,AO k] w fun e w'=>e=.returned (AO (OD x k))∧w.grownBy w' none:=by
 refine BF Tryz.func56 rfl Tryz.ntmps56 rfl fun a0 sv0=>?_
 have HG:=World.grownBy.refl w none
 replace sv0:Sv 10 [] [(0,AO x),(1,AO k)] a0:=sv0
 refine ALa fun K1 k1=>?_
 refine ALZ ?_
 refine BZ sv0 r6 (BV x hx.1) fun a2 w2 CO DP g2 z2 AK sv2=>?_
 refine BZ sv2 r6 (BV k hk.1) fun a3 w3 CG E2 g3 z3 AN sv3=>?_
 replace HG:=AA (AA HG g2) g3
 refine Az (T:=23) (Z:=(bv AM)) sv3 rfl rfl rfl (fun a w=>by kernel_rfl) fun a4 w4 Fp CB g4 z4 AU sv4=>?_
 have CL:=Bk HG CB
 replace AK:=AC g4 (AC g3 AK)
 replace AN:=AC g4 AN
 refine AE ?_
 refine k1 _ _ ?_
 refine ALa fun K5 k5=>?_
 refine DM (sv4.st w4) (by kernel_rfl) 5 [(5,Sp.is (AO AM)),(6,Sp.is (AO x)),(7,Sp.is (AO k)),(8,Sp.is (AO ((msk k)))),(9,Sp.is (AO ((OD x k))))] rfl (by kernel_rfl) (by kernel_rfl) (by kernel_rfl) [] (by kernel_rfl)
  ⟨BR (vs:=[]) rfl rfl trivial trivial (fun _=>XC _) (fun _=>rfl),yl r6 (BV x hx.1) AK,yl r6 (BV k hk.1) AN,Ae [.int .u64 283,AO k,.slice none 0 0] Tryz.func66 (by kernel_rfl) rq4 ⟨rfl,(oy rfl rfl),rfl,ALg⟩ (Au fun W g=>NF (n:=283) (by decide) rfl hk W),Ae [AO AM,AO x,AO ((msk k))] Tryz.func104 (by kernel_rfl) rq4 ⟨(oy rfl rfl),(oy rfl rfl),(oy rfl rfl),ALg⟩ (Au fun W g=>ACt AM x (msk k) AP hx (Be 283 k) W),ALg⟩ trivial
  [] (by kernel_rfl) trivial ⟨.inl rfl,.inl rfl,.inl rfl,.inl rfl,.inl rfl,ALg⟩ (by kernel_rfl) fun a6 w6 g6 st6 nd6=>?_
 obtain⟨hn6,hd6,e6_5,e6_6,e6_7,e6_8,e6_9,e6_4,e6_3,e6_2,e6_0,e6_1,-⟩:=st6
 have sv6:Sv 10 [] [(4,_),(3,_),(2,_),(0,_),(1,_),(9,_)] a6:=⟨hn6,hd6,e6_4,e6_3,e6_2,e6_0,e6_1,e6_9,ALg⟩
 refine As sv6 r7 (BV ((OD x k)) (ACs hx (Be 283 k)).1) (AC g6 AU) (En (ACs hx (Be 283 k))) fun w7 g7 h7=>?_
 replace HG:=AD (AA (AA HG g4) g6) g7 CL
 replace AU:=h7
 refine AE ?_
 refine k5 _ _ ?_
 refine ALd ?_
 repeat refine AJ ?_
 refine Ar (fn:=Tryz.f56) sv6 (Dc (p:=4) Tryz.results56 sv6 rfl rfl (BV ((OD x k)) (ACs hx (Be 283 k)).1) AU) ?_
 exact⟨rfl,HG⟩
end Go.Proofs.YtbfjfnbcmojpiaaGreat
