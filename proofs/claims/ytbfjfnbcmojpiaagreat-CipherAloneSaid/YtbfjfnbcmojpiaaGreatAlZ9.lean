import Derived.Test.YtbfjfnbcmojpiaaGreatAlYK
set_option linter.unusedSimpArgs false
set_option linter.unusedVariables false
set_option maxRecDepth 100000
set_option maxHeartbeats 4000000
namespace Go.Proofs.YtbfjfnbcmojpiaaGreat
open Go.RowKit Go.Shelf
theorem AHg {m:Nat} (hm:m<4):∃N:Int,IntKind.i64.wrap (1*2^min ((m:Int).toNat) IntKind.i64.bits)=N∧(Ey N 6).map DD.x=[FA m]:=by
 have:m=0∨m=1∨m=2∨m=3:=by omega
 rcases this with rfl|rfl|rfl|rfl<;>exact⟨_,rfl,by decide +kernel⟩
theorem AHh {P:Program} {c:Int} {t:TypeId} {x y:Operand} {w:World} {m:Nat} (h:IntKind.i64.wrap (1*2^min ((m:Int).toNat) IntKind.i64.bits)=c):(do eqGuard .shl t x y (.int .i64 1) (.int .u64 (m:Int));binOp .shl t (.int .i64 1) (.int .u64 (m:Int)):Sem Value).run P w=.ok (.int .i64 c) w:=by
 subst h
 have h1:(0:Int)≤(m:Int):=Int.natCast_nonneg m
 simp only[eqGuard,binOp_shl]
 rw[shift_shl_any _ _ _ _ h1]
 rfl
theorem AKt (n:Int):∃m:Nat,m<4∧bits .and .i64 n 3=(m:Int):=by
 obtain⟨k,hk,e⟩:=AIO 3 (by decide) n (by decide)
 exact⟨k,by omega,e⟩
theorem AHi {b o j:Nat} (hj:j<32) (w:World):(Instr.indexAt 23 (.pointer (some ⟨b,o,none⟩)) (.int .i64 (j:Int))).run Tryz.prog w=.ok (.pointer (some ⟨b,o+j,none⟩)) w:=by
 have h1:(0:Int)≤(j:Int)∧(j:Int)<32:=⟨by omega,by omega⟩
 rw[run_indexAt_array (P:=Tryz.prog) (w:=w) (t:=23) (a:=⟨b,o,none⟩) (k:=.i64) (i:=(j:Int)) (h:=by kernel_rfl)]
 have e1:Tryz.prog.arrayLen 23=32:=by kernel_rfl
 have e2:(sizeOf (Tryz.prog.elem 23)).run Tryz.prog w=.ok 1 w:=by kernel_rfl
 rw[e1]
 simp[h1,Addr.add,e2,Result.andThen]
theorem AHj {l:List DD} {y:List Nat} (h:l.map DD.x=[y]) {x:DD} {h0:0<l.length} (hx:l[0]'h0=x):x.x=y:=by
 cases l with
 | nil=>simp at h0
 | cons a t =>
  simp only[List.map_cons,List.cons.injEq] at h
  rw[←hx]
  exact h.1
theorem AJd {x y:List Nat} {j a b:Nat} (ha:x[j]?=some a) (hb:y[j]?=some b):(Ip x y)[j]?=some (a ^^^ b):=by
 unfold Ip
 rw[List.getElem?_zipWith,ha,hb]
theorem AHk {seed:List Nat} {x:V} {N a:Int} {o:List Nat} (hs:(Ey N 6).map DD.x=[o]) (hk:(Co (V6 seed).1 o (Kk a)).2=0):(KV (V6 seed).1 x N false a).1.wr=[]:=by
 have hh:=Wl N false a
 unfold KV
 rw[hs] at hh ⊢
 have h4:(Ck (V6 seed).1 (Kk a) [o]).2=0:=by unfold Ck;rw[if_pos hk];rfl
 rw[Fa hh (SA seed) (by simp) h4 rfl rfl]
 rfl
theorem AHl {seed:List Nat} {x:V} {N a:Int} {o K:List Nat} (hs:(Ey N 6).map DD.x=[o]) (hk:Co (V6 seed).1 o (Kk a)=(K,0)):(KV (V6 seed).1 x N true a).1.wr=[Mr (PN (BitVec.ofNat 64 282) K) K]:=by
 have hh:=Wl N true a
 unfold KV
 rw[hs] at hh ⊢
 have h3:Ck (V6 seed).1 (Kk a) [o]=([K],0):=by
  unfold Ck
  rw[hk,if_pos rfl]
  rfl
 rw[Fa hh (SA seed) (by simp) (by rw[h3]) rfl rfl,h3]
 show [Mr (PN (BitVec.ofNat 64 282) ([K].flatten)) K]=_
 rw[show [K].flatten=K by simp]
theorem SC {seed:List Nat} {P:List VP} {x:V} {N a:Int} {b:Bool} {o:List Nat} (hs:(Ey N 6).map DD.x=[o]) (hv:CK P=true) (hk:(Co P o (Kk a)).2≠0):E9 P (KV (V6 seed).1 x N b a).1=(V.nul,10):=
 ADK (Wl N b a) (SA seed) (AIQ seed N a) hv (by rw[hs];simp) fun j hj=>by
  rw[hs] at hj ⊢
  have:j=0:=by simp at hj;omega
  subst this
  exact hk
theorem ADM {P0:List VP} {T:Nat→List Nd} {sa po:List Nat} {k:List Nat} {m:Nat} {A:Int} {l t:List Nd} (h1:OV T P0 6) (hm:m<6) (hA:Br A=true) (hT:T m=l) (hl:tree k []=l) (ht:tree k [A]=t):∃P,Pc (P0,sa,po) (FA m) A=((P,sa,po),0)∧CK P=true∧(Co P (FA m) A).2≠0:=by
 have htv:GO t=true:=ht▸Is _ _ (by simp)
 have hp:Fy l A=(t,0):=by rw[←hl,Zs (by simp) hA,ht]
 have hh:=h1.has hm
 have h2:=h1.set hm htv
 have hk:Cy t A=(AR,10):=by rw[←ht,US k [A] A (Is _ _ (by simp)) hA,if_pos (by simp)]
 refine⟨N3 P0 (FA m) t,ABT hA h1.1 hh.1 rfl (hh.2.trans hT) hp rfl,h2.1,?_⟩
 rw[AJc h2 hm hA]
 show(Cy (if m=m then t else T m) A).2≠0
 rw[if_pos rfl,hk]
 decide
theorem ADN {seed sa po:List Nat} {m:Nat} {a:Int} (hm:m<4):∃P,Pc ((V6 seed).1,sa,po) (FA m) (Kk a)=((P,sa,po),0)∧CK P=true∧(Co P (FA m) (Kk a)).2≠0:=
 ADM (Je seed 6 (Nat.le_refl _)) (show m<6 by omega) (Hi a) (show Tsd seed m=_ from rfl) rfl rfl
theorem ADO (seed:List Nat) {m:Nat} (hm:m<4) (a:Int):∃K,Dg K∧Co (V6 seed).1 (FA m) (Kk a)=(K,0):=by
 rw[show(V6 seed).1=Po seed 6 from rfl,AJc (Je seed 6 (Nat.le_refl _)) (show m<6 by omega) (Hi a)]
 obtain⟨K,h1,h2⟩:=AFi (l:=Tsd seed m) (BR 275 (Wr seed m)) rfl (Hi a)
 exact⟨K,h1,h2⟩
theorem AB3 (seed:List Nat) (hse:Dg seed) (n:Int) (x:V) (n0:Int) (b0:Bool) (ca:Int) (w:World) :
   Calls Tryz.prog 10 #[AP seed,.int .i64 n,Dz x n0 b0 ca] w fun e w'=>e=.returned (.bool true)∧w.grownBy w' none:=by
 obtain⟨vx,hvx⟩:∃v,V6 seed=v:=⟨_,rfl⟩
 have hvd:Dg vx.2.1∧Dg vx.2.2:=hvx▸AKs seed
 have hvv:CK vx.1=true:=hvx▸SA seed
 obtain⟨m,hm,hmn⟩:=AKt n
 obtain⟨N,hN,hset⟩:=AHg hm
 obtain⟨ra,hra⟩:∃r,KV vx.1 x N false ca=r:=⟨_,rfl⟩
 obtain⟨rb,hrb⟩:∃r,KV vx.1 x N true ca=r:=⟨_,rfl⟩
 obtain⟨hqa,hza,_⟩:=Uk seed x N false ca
 obtain⟨hqb,hzb,_⟩:=Uk seed x N true ca
 obtain⟨K,hKd,hK⟩:=ADO seed hm ca
 have hwa:=AHk (x:=x) hset (by rw[hK])
 have hwb:=AHl (x:=x) hset hK
 obtain⟨P1,hP1,hv1,hk1⟩:=ADN (seed:=seed) (sa:=(V6 seed).2.1) (po:=(V6 seed).2.2) (a:=ca) hm
 have hla:=SC (seed:=seed) (x:=x) (b:=false) hset hv1 hk1
 have hlb:=SC (seed:=seed) (x:=x) (b:=true) hset hv1 hk1
 obtain⟨M,hM⟩:∃y,msk K=y:=⟨_,rfl⟩
 have hMd:Dg M:=hM▸BR 283 K
 obtain⟨SU,hSU⟩:∃y,PN (BitVec.ofNat 64 282) K=y:=⟨_,rfl⟩
 have hSd:Dg SU:=hSU▸Vm _ _
 have hback:Ip (Mr SU K) M=SU:=by rw[←hM];exact ZR hSd
 rw[hvx] at hqa hza hqb hzb hK hwa hwb hP1 hla hlb
 rw[hra] at hqa hza hwa hla
 rw[hrb] at hqb hzb hwb hlb
 rw[hSU] at hwb
 obtain⟨A,hA⟩:∃A,Kk ca=A:=⟨_,rfl⟩
 rw[hA] at hK hP1
 refine BZ Tryz.func10 rfl Tryz.ntmps10 rfl fun a0 sv0=>?_
 have HG:=World.grownBy.refl w none
 replace sv0:Sv 137 [] [(0,AP seed),(1,.int .i64 n),(2,Dz x n0 b0 ca)] a0:=sv0
 refine ALz fun K1 k1=>?_
 refine ALy ?_
 refine Bj sv0 r6 (B6 seed hse.1) fun a2 w2 Jy I0 g2 z2 Ad sv2=>?_
 replace HG:=AA HG g2
 refine Bj sv2 r6 (Rv x n0 b0 ca) fun a3 w3 Tw AB0 g3 z3 CN sv3=>?_
 have KM:=An Ad AB0
 have Wm:=Bt HG AB0
 replace Ad:=AC g3 Ad
 replace HG:=AA HG g3
 refine AY (v:=.bool false) sv3 r6 fun a4 sv4=>?_
 refine AE ?_
 refine k1 _ _ ?_
 refine ALz fun K5 k5=>?_
 refine ALz fun K6 k6=>?_
 by_cases hsm:x.text.size≤100
 · refine ALy ?_
   refine AJ sv4 4 [(20,pt Tw),(21,CH x),(22,.bool true),(23,.bool false)]
     ⟨yf r6 (fun _=>by kernel_rfl),yp (i:=0) r6 (En x) CN rfl rfl,Ae [CH x] Tryz.func12 (by kernel_rfl) rq4 ⟨(oy rfl rfl),AL5⟩ (Ap fun W g=>(ABz x W).mono fun e w' ⟨h1,h2⟩=>⟨by rw[h1,decide_eq_true hsm],h2⟩),DG r6 (fun _=>Bf),AL5⟩ fun a7 w7 g7 sv7=>?_
   refine AE ?_
   refine k6 _ _ ?_
   refine A1 sv7 rfl rfl ?_
   refine AL3 ?_
   refine k5 _ _ ?_
   refine ALz fun K8 k8=>?_
   refine ALy ?_
   refine AJ sv7 2 [(25,.int .i64 n),(26,.int .i64 ((m:Int)))]
     ⟨ym r5,Cz r6 (fun _=>U5 hmn),AL5⟩ fun a9 w9 g9 sv9=>?_
   have gc9:=AA g7 g9
   refine AY (v:=.int .i64 ((m:Int))) sv9 r6 fun a10 Cb=>?_
   refine AE ?_
   refine k8 _ _ ?_
   refine ALz fun K11 k11=>?_
   refine ALy ?_
   replace Ad:=AC gc9 Ad
   refine FH (Cb.st w9) 2 [(27,Sp.is (AP seed)),(28,Sp.vv vx (fun _=>False))] rfl (by kernel_rfl) (by kernel_rfl) (by kernel_rfl)
     ⟨yl r6 (B6 seed hse.1) Ad,Ae [AP seed] Tryz.func14 (by kernel_rfl) rq4 ⟨(oy rfl rfl),AL5⟩ (hvx▸AFo hse),AL5⟩ fun a12 w12 g12 st12=>?_
   obtain⟨hn12,hd12,e12_27,e12_28,e12_7,e12_25,e12_26,e12_20,e12_21,e12_22,e12_23,e12_6,e12_5,e12_3,e12_0,e12_1,e12_2,-⟩:=st12
   obtain⟨ao13,cap13,ks13,e12_28q,hp13,hk13,hf13⟩:=e12_28
   replace Ad:=AC g12 Ad
   replace CN:=AC g12 (AC gc9 CN)
   replace HG:=AA (AA HG gc9) g12
   have KN:=AFd hf13 CN (by decide)
   have DL:Sv 137 [] [(7,_),(25,_),(26,_),(20,_),(21,_),(22,_),(23,_),(6,_),(5,_),(3,_),(0,_),(1,_),(2,_),(28,_)] a12:=⟨hn12,hd12,e12_7,e12_25,e12_26,e12_20,e12_21,e12_22,e12_23,e12_6,e12_5,e12_3,e12_0,e12_1,e12_2,e12_28q,AL5⟩
   refine Ar (T:=36) (Z:=([bv AR,bv AR,[.slice none 0 0]].flatten)) DL rfl rfl rfl (fun a w=>by kernel_rfl) fun a14 w14 AIR No g14 z14 CE Da=>?_
   have Tx:=An Ad No
   have Gx:=An CN No
   have AFp:=Bt HG No
   have Ty:=Au (hk13.lt) No
   refine Ao Da r7 (Bb hvd.1 hvd.2 (.slice ao13 ks13.length cap13) rfl) CE (by first|rfl|simp[Af,AI,AV,hvd.1.1,hvd.2.1]) fun w15 g15 h15=>?_
   replace CN:=AX g15 (AC g14 CN) (Ne.symm Gx)
   refine AE ?_
   refine k11 _ _ ?_
   refine ALz fun K16 k16=>?_
   refine ALy ?_
   refine AJ Da 4 [(29,.int .i64 ((m:Int))),(30,.int .u64 ((m:Int))),(31,.int .i64 N),(32,pk Tw 3)]
     ⟨ym r5,Jo r6 (fun _=>Jq Tryz.underlying3 Tryz.underlying48 (Lm (by omega) (by omega))),N6 rfl rfl trivial rfl (oy rfl rfl) (fun _=>AHh hN) (fun _=>rfl),yf r6 (fun _=>by kernel_rfl),AL5⟩ fun a17 w17 g17 FY=>?_
   refine JT (L:=[vc x,[.int .i64 n0],[.bool b0],[.int .i64 ca]]) (i:=1) FY r7 (E8 N) (AC g17 CN) rfl rfl rfl fun w18 g18 h18=>?_
   replace CN:=h18
   have EQ:Sv _ _ [_,_,_,_,_,_,_,_,_,_,_,_,_,_,_] _:=FY.dl [29,30,31,32]
   refine AE ?_
   refine k16 _ _ ?_
   refine ALz fun K20 k20=>?_
   refine ALy ?_
   refine AJ EQ 1 [(33,pk Tw 4)]
     ⟨yf r6 (fun _=>by kernel_rfl),AL5⟩ fun a21 w21 g21 Di=>?_
   refine JT (L:=[vc x,[.int .i64 N],[.bool b0],[.int .i64 ca]]) (i:=2) Di r7 (U1 false) (AC g21 CN) rfl rfl rfl fun w22 g22 h22=>?_
   replace CE:=Aj g21 g22 (Aj g17 g18 h15 Gx) Gx
   replace hk13:=(((((hk13.kn g14).offR g15 (AU Ty)).kn g17).offR g18 (AU KN)).kn g21).offR g22 (AU KN)
   replace CN:=h22
   refine AE ?_
   refine k20 _ _ ?_
   refine ALz fun K23 k23=>?_
   refine ALy ?_
   refine FH (Di.st w22) 6 [(35,Sp.is (Dz x N false ca)),(36,Sp.is (Am vx.2.1 vx.2.2 (.slice ao13 ks13.length cap13))),(37,Sp.sr w22.heap.size ra),(34,Sp.sr w22.heap.size ra),(38,Sp.sl w22.heap.size ra.1),(39,Sp.is (.int .i64 ra.2))] rfl (by kernel_rfl) (by kernel_rfl) (by kernel_rfl)
     ⟨yl r6 (Rv x N false ca) CN,yl r6 (Bb hvd.1 hvd.2 (.slice ao13 ks13.length cap13) rfl) CE,Ae [Dz x N false ca,Am vx.2.1 vx.2.2 (.slice ao13 ks13.length cap13)] Tryz.func15 (by kernel_rfl) rq4 ⟨(oy rfl rfl),(oy rfl rfl),AL5⟩ (ZS hvd.1 hvd.2 hk13 hp13 hra),ym r5,BF rq4 (fun w u h=>ZN w u h),BF rq4 (fun w u h=>Mv w u h),AL5⟩ fun a24 w24 g24 st24=>?_
   obtain⟨hn24,hd24,e24_35,e24_36,e24_37,e24_34,e24_38,e24_39,e24_33,e24_8,e24_7,e24_25,e24_26,e24_20,e24_21,e24_22,e24_23,e24_6,e24_5,e24_3,e24_0,e24_1,e24_2,e24_28,-⟩:=st24
   obtain⟨own25,wr25,ao25,wo25,bo25,ac25,wc25,bc25,e24_38q,hFa,fr25⟩:=e24_38
   have ZT:=CJ fr25 CN
   replace Ad:=AC g24 (Aj g21 g22 (Aj g17 g18 (AX g15 (AC g14 Ad) (Ne.symm Tx)) (Ne.symm KM)) (Ne.symm KM))
   replace CN:=AC g24 CN
   replace CE:=AC g24 CE
   replace hk13:=hk13.kn g24
   replace HG:=AA (AD (AA (AD (AA (AD (AA HG g14) g15 AFp) g17) g18 Wm) g21) g22 Wm) g24
   have ER:Sv 137 [] [(33,_),(8,_),(7,_),(25,_),(26,_),(20,_),(21,_),(22,_),(23,_),(6,_),(5,_),(3,_),(0,_),(1,_),(2,_),(28,_),(38,_),(39,_)] a24:=⟨hn24,hd24,e24_33,e24_8,e24_7,e24_25,e24_26,e24_20,e24_21,e24_22,e24_23,e24_6,e24_5,e24_3,e24_0,e24_1,e24_2,e24_28,e24_38q,e24_39,AL5⟩
   refine Ar (T:=31) (Z:=([[.int .i64 0],[.slice none 0 0],[.int .i64 0],[.slice none 0 0],[.slice none 0 0],bv AR].flatten)) ER rfl rfl rfl (fun a w=>by kernel_rfl) fun a26 w26 AB1 Jf g26 z26 Cn Cr=>?_
   have Tz:=An Ad Jf
   have MP:=An CN Jf
   have SD:=An CE Jf
   have AFq:=Bt HG Jf
   have T6:=Au (hk13.lt) Jf
   have Wn:=Au (hFa.lt) Jf
   replace hFa:=hFa.kn g26
   refine Ao Cr r7 (EJ _ _ hFa.tg (.slice ao25 (List.length own25) ac25) (.slice wo25 (List.length wr25) wc25) (.slice bo25 ra.1.body.length bc25) rfl rfl rfl) Cn (FL AO hFa.tg) fun w27 g27 h27=>?_
   replace CN:=AX g27 (AC g26 CN) (Ne.symm MP)
   refine AY (v:=.int .i64 ra.2) Cr r6 fun a28 Js=>?_
   refine AE ?_
   refine k23 _ _ ?_
   refine ALz fun K29 k29=>?_
   refine ALy ?_
   refine AJ Js 1 [(40,pk Tw 4)]
     ⟨yf r6 (fun _=>by kernel_rfl),AL5⟩ fun a30 w30 g30 E4=>?_
   refine JT (L:=[vc x,[.int .i64 N],[.bool false],[.int .i64 ca]]) (i:=2) E4 r7 (U1 true) (AC g30 CN) rfl rfl rfl fun w31 g31 h31=>?_
   replace CE:=Aj g30 g31 (AX g27 (AC g26 CE) (Ne.symm SD)) Gx
   replace hk13:=(((hk13.kn g26).offR g27 (AU T6)).kn g30).offR g31 (AU KN)
   replace CN:=h31
   refine AE ?_
   refine k29 _ _ ?_
   refine ALz fun K32 k32=>?_
   refine ALy ?_
   refine FH (E4.st w31) 6 [(42,Sp.is (Dz x N true ca)),(43,Sp.is (Am vx.2.1 vx.2.2 (.slice ao13 ks13.length cap13))),(44,Sp.sr w31.heap.size rb),(41,Sp.sr w31.heap.size rb),(45,Sp.sl w31.heap.size rb.1),(46,Sp.is (.int .i64 rb.2))] rfl (by kernel_rfl) (by kernel_rfl) (by kernel_rfl)
     ⟨yl r6 (Rv x N true ca) CN,yl r6 (Bb hvd.1 hvd.2 (.slice ao13 ks13.length cap13) rfl) CE,Ae [Dz x N true ca,Am vx.2.1 vx.2.2 (.slice ao13 ks13.length cap13)] Tryz.func15 (by kernel_rfl) rq4 ⟨(oy rfl rfl),(oy rfl rfl),AL5⟩ (ZS hvd.1 hvd.2 hk13 hp13 hrb),ym r5,BF rq4 (fun w u h=>ZN w u h),BF rq4 (fun w u h=>Mv w u h),AL5⟩ fun a33 w33 g33 st33=>?_
   obtain⟨hn33,hd33,e33_42,e33_43,e33_44,e33_41,e33_45,e33_46,e33_40,e33_10,e33_9,e33_33,e33_8,e33_7,e33_25,e33_26,e33_20,e33_21,e33_22,e33_23,e33_6,e33_5,e33_3,e33_0,e33_1,e33_2,e33_28,e33_38,e33_39,-⟩:=st33
   obtain⟨own34,wr34,ao34,wo34,bo34,ac34,wc34,bc34,e33_45q,hFb,fr34⟩:=e33_45
   replace Ad:=AC g33 (Aj g30 g31 (AX g27 (AC g26 Ad) (Ne.symm Tz)) (Ne.symm KM))
   replace CN:=AC g33 CN
   replace CE:=AC g33 CE
   replace Cn:=AC g33 (Aj g30 g31 h27 MP)
   replace hk13:=hk13.kn g33
   replace hFa:=(((hFa.offR g27 (AU Wn)).kn g30).offR g31 (AU ZT)).kn g33
   replace HG:=AA (AD (AA (AD (AA HG g26) g27 AFq) g30) g31 Wm) g33
   have JU:Sv 137 [] [(40,_),(10,_),(9,_),(33,_),(8,_),(7,_),(25,_),(26,_),(20,_),(21,_),(22,_),(23,_),(6,_),(5,_),(3,_),(0,_),(1,_),(2,_),(28,_),(38,_),(39,_),(45,_),(46,_)] a33:=⟨hn33,hd33,e33_40,e33_10,e33_9,e33_33,e33_8,e33_7,e33_25,e33_26,e33_20,e33_21,e33_22,e33_23,e33_6,e33_5,e33_3,e33_0,e33_1,e33_2,e33_28,e33_38,e33_39,e33_45q,e33_46,AL5⟩
   refine Ar (T:=31) (Z:=([[.int .i64 0],[.slice none 0 0],[.int .i64 0],[.slice none 0 0],[.slice none 0 0],bv AR].flatten)) JU rfl rfl rfl (fun a w=>by kernel_rfl) fun a35 w35 SE Fv g35 z35 CG Ki=>?_
   have SI:=An Ad Fv
   have SL:=An CN Fv
   have Pp:=An CE Fv
   have Pq:=An Cn Fv
   have ADP:=Bt HG Fv
   have SM:=Au (hk13.lt) Fv
   have T7:=Au (hFa.lt) Fv
   have T8:=Au (hFb.lt) Fv
   replace hFb:=hFb.kn g35
   refine Ao Ki r7 (EJ _ _ hFb.tg (.slice ao34 (List.length own34) ac34) (.slice wo34 (List.length wr34) wc34) (.slice bo34 rb.1.body.length bc34) rfl rfl rfl) CG (FL AO hFb.tg) fun w36 g36 h36=>?_
   replace Ad:=AX g36 (AC g35 Ad) (Ne.symm SI)
   replace CN:=AX g36 (AC g35 CN) (Ne.symm SL)
   replace CE:=AX g36 (AC g35 CE) (Ne.symm Pp)
   replace Cn:=AX g36 (AC g35 Cn) (Ne.symm Pq)
   replace hk13:=(hk13.kn g35).offR g36 (AU SM)
   replace hFa:=(hFa.kn g35).offR g36 (AU T7)
   replace hFb:=hFb.offR g36 (AU T8)
   replace HG:=AD (AA HG g35) g36 ADP
   replace CG:=h36
   refine AY (v:=.int .i64 rb.2) Ki r6 fun a37 IR=>?_
   refine AE ?_
   refine k32 _ _ ?_
   refine ALz fun K38 k38=>?_
   refine DW (IR.st w36) (by kernel_rfl) 10 [(48,Sp.is (Am vx.2.1 vx.2.2 (.slice ao13 ks13.length cap13))),(49,Sp.is (.int .i64 ((m:Int)))),(50,Sp.is (AP ((FA m)))),(51,Sp.is (Dz x N true ca)),(52,Sp.is (.int .i64 A)),(53,Sp.vt ((P1,vx.2.1,vx.2.2),(0:Int)) ((fun _=>False))),(47,Sp.vt ((P1,vx.2.1,vx.2.2),(0:Int)) ((fun _=>False))),(54,Sp.vv (P1,vx.2.1,vx.2.2) ((fun _=>False))),(55,Sp.is (.int .i64 0)),(13,Sp.new w36.heap.size (([bv AR,bv AR,[.slice none 0 0]].flatten)) 36)] rfl (by kernel_rfl) (by kernel_rfl) (by kernel_rfl) [8] (by kernel_rfl)
     ⟨yl r6 (Bb hvd.1 hvd.2 (.slice ao13 ks13.length cap13) rfl) CE,ym r5,Ae [.int .i64 ((m:Int))] Tryz.func30 (by kernel_rfl) rq4 ⟨(oy rfl rfl),AL5⟩ (Ap fun W g=>KH m (by omega) W),yl r6 (Rv x N true ca) CN,Ae [Dz x N true ca] Tryz.func19 (by kernel_rfl) rq4 ⟨(oy rfl rfl),AL5⟩ (Ap fun W g=>hA▸Of x N true ca W),Ae [Am vx.2.1 vx.2.2 (.slice ao13 ks13.length cap13),AP ((FA m)),.int .i64 A] Tryz.func31 (by kernel_rfl) rq4 ⟨(oy rfl rfl),(oy rfl rfl),(oy rfl rfl),AL5⟩ (AI3 hvd.1 hvd.2 (KG m) hk13 hp13 hP1),ym r5,BF rq4 (fun w u h=>Rx w u h),BF rq4 (fun w u h=>Ry w u h),LC rfl trivial (Nat.le_refl _) (fun a w=>by kernel_rfl) (fun _ _ h=>h),AL5⟩ ⟨fun o ho=>by obtain rfl:=Option.some.inj ho;exact IM rfl rfl rfl trivial (fun w u h=>Ry w u h),AL5⟩
     [13] (by kernel_rfl) ⟨Sp.new_lt,AL5⟩ ⟨.inl rfl,.inl rfl,.inl rfl,.inl rfl,.inl rfl,.inl rfl,.inl rfl,.inl rfl,.inl rfl,.inr ⟨rfl,(([bv AR,bv AR,[.slice none 0 0]].flatten)).toArray,36,fun a w=>by kernel_rfl⟩,AL5⟩ (by kernel_rfl) fun a39 w39 g39 st39 nd39=>?_
   obtain⟨hn39,hd39,e39_48,e39_49,e39_50,e39_51,e39_52,e39_53,e39_47,e39_54,e39_55,e39_13,e39_12,e39_11,e39_40,e39_10,e39_9,e39_33,e39_8,e39_7,e39_25,e39_26,e39_20,e39_21,e39_22,e39_23,e39_6,e39_5,e39_3,e39_0,e39_1,e39_2,e39_28,e39_38,e39_39,e39_45,e39_46,-⟩:=st39
   obtain⟨ao40,cap40,ks40,e39_54q,hp40,hk40,hf40⟩:=e39_54
   obtain⟨AFr,e39_13q,FP,Cx⟩:=e39_13
   have SN:=FX Ad FP
   have SO:=FX CN FP
   have Pr:=FX CE FP
   have Ps:=FX Cn FP
   have Oh:=FX CG FP
   have ADQ:=UX HG FP
   have SP:=Iu (hk13.lt) FP
   have T9:=Iu (hFa.lt) FP
   have UA:=Iu (hFb.lt) FP
   have SR:=AFd hf40 Cx (by decide)
   have JV:Sv 137 [] [(12,_),(11,_),(40,_),(10,_),(9,_),(33,_),(8,_),(7,_),(25,_),(26,_),(20,_),(21,_),(22,_),(23,_),(6,_),(5,_),(3,_),(0,_),(1,_),(2,_),(28,_),(38,_),(39,_),(45,_),(46,_),(54,_),(55,_),(13,_)] a39:=⟨hn39,hd39,e39_12,e39_11,e39_40,e39_10,e39_9,e39_33,e39_8,e39_7,e39_25,e39_26,e39_20,e39_21,e39_22,e39_23,e39_6,e39_5,e39_3,e39_0,e39_1,e39_2,e39_28,e39_38,e39_39,e39_45,e39_46,e39_54q,e39_55,e39_13q,AL5⟩
   refine Ao JV r7 (Bb hvd.1 hvd.2 (.slice ao40 ks40.length cap40) rfl) Cx (by first|rfl|simp[Af,AI,AV,hvd.1.1,hvd.2.1]) fun w41 g41 h41=>?_
   replace Cn:=AX g41 (AC g39 Cn) (Ne.symm Ps)
   replace CG:=AX g41 (AC g39 CG) (Ne.symm Oh)
   replace hFa:=(hFa.kn g39).offR g41 (AU T9)
   replace hFb:=(hFb.kn g39).offR g41 (AU UA)
   refine AY (v:=.int .i64 0) JV r6 fun a42 Hl=>?_
   refine AE ?_
   refine k38 _ _ ?_
   refine ALz fun K43 k43=>?_
   refine ALz fun K44 k44=>?_
   refine ALy ?_
   refine AJ Hl 22 [(56,.int .i64 ra.2),(57,.bool false),(58,.bool false),(59,.int .i64 rb.2),(60,.bool false),(61,.bool false),(62,.bool false),(63,.int .i64 0),(64,.bool false),(65,.bool false),(66,.bool false),(67,pk AB1 3),(68,.slice wo25 (List.length wr25) wc25),(69,.int .i64 (((List.length wr25):Nat))),(70,.bool false),(71,.bool false),(72,.bool false),(73,pk SE 3),(74,.slice wo34 (List.length wr34) wc34),(75,.int .i64 (((List.length wr34):Nat))),(76,.bool false),(77,.bool false)]
     ⟨ym r5,Cz r6 (fun _=>Dj (by rw[hza];rfl)),ym r5,Az rq8,BJ rq9 (fun _=>Dj (by rw[hzb];rfl)),A2 rq9,ym r5,Az rq8,BJ rq9 (fun _=>Dj rfl),A2 rq9,ym r5,BX rq9 (fun _=>by kernel_rfl),Aq rq9 (fun _ g=>Ab (J3 (.slice wo25 (List.length wr25) wc25) rfl) (Bl (L:=[[.int .i64 ra.1.addr],[.slice ao25 (List.length own25) ac25],[.int .i64 ra.1.joint],[.slice wo25 (List.length wr25) wc25],[.slice bo25 ra.1.body.length bc25],bv ra.1.tag]) (i:=3) (AF g Cn (by simp)) rfl rfl)),Bv (Tryz.underlying28) rfl rfl (gy rfl rfl rfl) (oy rfl rfl) (fun _=>rfl),BJ rq9 (fun _=>Dj (by have:=congrArg List.length (hFa.2.1.trans hwa);rw[List.length_map] at this;rw[this];rfl)),A2 rq9,ym r5,BX rq9 (fun _=>by kernel_rfl),Aq rq9 (fun _ g=>Ab (J3 (.slice wo34 (List.length wr34) wc34) rfl) (Bl (L:=[[.int .i64 rb.1.addr],[.slice ao34 (List.length own34) ac34],[.int .i64 rb.1.joint],[.slice wo34 (List.length wr34) wc34],[.slice bo34 rb.1.body.length bc34],bv rb.1.tag]) (i:=3) (AF g CG (by simp)) rfl rfl)),Bv (Tryz.underlying28) rfl rfl (gy rfl rfl rfl) (oy rfl rfl) (fun _=>rfl),BJ rq9 (fun _=>Dj (by have:=congrArg List.length (hFb.2.1.trans hwb);rw[List.length_map] at this;rw[this];rfl)),A2 rq9,AL5⟩ fun a45 w45 g45 Ev=>?_
   refine AE ?_
   refine k44 _ _ ?_
   refine A1 Ev rfl rfl ?_
   refine AL3 ?_
   refine k43 _ _ ?_
   refine ALz fun K46 k46=>?_
   replace Ad:=AC g45 (AX g41 (AC g39 Ad) (Ne.symm SN))
   replace CN:=AC g45 (AX g41 (AC g39 CN) (Ne.symm SO))
   replace CE:=AC g45 (AX g41 (AC g39 CE) (Ne.symm Pr))
   replace Cn:=AC g45 Cn
   replace CG:=AC g45 CG
   replace Cx:=AC g45 h41
   replace hk13:=((hk13.kn g39).offR g41 (AU SP)).kn g45
   replace hFa:=hFa.kn g45
   replace hFb:=hFb.kn g45
   replace hk40:=(hk40.offR g41 (AU SR)).kn g45
   replace HG:=AA (AD (AA HG g39) g41 ADQ) g45
   refine DW (Ev.st w45) (by kernel_rfl) 10 [(79,Sp.is (Am vx.2.1 vx.2.2 (.slice ao13 ks13.length cap13))),(80,Sp.is (.int .i64 ((m:Int)))),(81,Sp.is (AP ((FA m)))),(82,Sp.is (Dz x N true ca)),(83,Sp.is (.int .i64 A)),(84,Sp.is (.tuple #[AP K,.int .i64 0])),(78,Sp.is (.tuple #[AP K,.int .i64 0])),(85,Sp.is (AP K)),(86,Sp.is (.int .i64 0)),(15,Sp.new w45.heap.size ((bv AR)) 23)] rfl (by kernel_rfl) (by kernel_rfl) (by kernel_rfl) [8] (by kernel_rfl)
     ⟨yl r6 (Bb hvd.1 hvd.2 (.slice ao13 ks13.length cap13) rfl) CE,ym r5,Ae [.int .i64 ((m:Int))] Tryz.func30 (by kernel_rfl) rq4 ⟨(oy rfl rfl),AL5⟩ (Ap fun W g=>KH m (by omega) W),yl r6 (Rv x N true ca) CN,Ae [Dz x N true ca] Tryz.func19 (by kernel_rfl) rq4 ⟨(oy rfl rfl),AL5⟩ (Ap fun W g=>hA▸Of x N true ca W),Ae [Am vx.2.1 vx.2.2 (.slice ao13 ks13.length cap13),AP ((FA m)),.int .i64 A] Tryz.func32 (by kernel_rfl) rq4 ⟨(oy rfl rfl),(oy rfl rfl),(oy rfl rfl),AL5⟩ (Ap fun W g=>AH6 hvd.1 hvd.2 (KG m) (hk13.kn g) hp13 hK),ym r5,BF rq4 (fun _ _ h=>⟨_,_,h,rfl,rfl⟩),BF rq4 (fun _ _ h=>⟨_,_,h,rfl,rfl⟩),LC rfl trivial (Nat.le_refl _) (fun a w=>by kernel_rfl) (fun _ _ h=>h),AL5⟩ ⟨fun o ho=>by obtain rfl:=Option.some.inj ho;exact IM rfl rfl rfl trivial (fun _ _ h=>⟨_,_,h,rfl,rfl⟩),AL5⟩
     [15] (by kernel_rfl) ⟨Sp.new_lt,AL5⟩ ⟨.inl rfl,.inl rfl,.inl rfl,.inl rfl,.inl rfl,.inl rfl,.inl rfl,.inl rfl,.inl rfl,.inr ⟨rfl,((bv AR)).toArray,23,fun a w=>by kernel_rfl⟩,AL5⟩ (by kernel_rfl) fun a47 w47 g47 st47 nd47=>?_
   obtain⟨hn47,hd47,e47_79,e47_80,e47_81,e47_82,e47_83,e47_84,e47_78,e47_85,e47_86,e47_15,e47_56,e47_57,e47_58,e47_59,e47_60,e47_61,e47_62,e47_63,e47_64,e47_65,e47_66,e47_67,e47_68,e47_69,e47_70,e47_71,e47_72,e47_73,e47_74,e47_75,e47_76,e47_77,e47_14,e47_12,e47_11,e47_40,e47_10,e47_9,e47_33,e47_8,e47_7,e47_25,e47_26,e47_20,e47_21,e47_22,e47_23,e47_6,e47_5,e47_3,e47_0,e47_1,e47_2,e47_28,e47_38,e47_39,e47_45,e47_46,e47_54,e47_55,e47_13,-⟩:=st47
   obtain⟨AFs,e47_15q,EF,DP⟩:=e47_15
   have SS:=FX Ad EF
   have SV:=FX CN EF
   have Pt:=FX CE EF
   have Pu:=FX Cn EF
   have Oi:=FX CG EF
   have Oj:=FX Cx EF
   have ADR:=UX HG EF
   have SY:=Iu (hk13.lt) EF
   have UB:=Iu (hFa.lt) EF
   have UC:=Iu (hFb.lt) EF
   have SZ:=Iu (hk40.lt) EF
   have LG:Sv 137 [] [(56,_),(57,_),(58,_),(59,_),(60,_),(61,_),(62,_),(63,_),(64,_),(65,_),(66,_),(67,_),(68,_),(69,_),(70,_),(71,_),(72,_),(73,_),(74,_),(75,_),(76,_),(77,_),(14,_),(12,_),(11,_),(40,_),(10,_),(9,_),(33,_),(8,_),(7,_),(25,_),(26,_),(20,_),(21,_),(22,_),(23,_),(6,_),(5,_),(3,_),(0,_),(1,_),(2,_),(28,_),(38,_),(39,_),(45,_),(46,_),(54,_),(55,_),(13,_),(85,_),(86,_),(15,_)] a47:=⟨hn47,hd47,e47_56,e47_57,e47_58,e47_59,e47_60,e47_61,e47_62,e47_63,e47_64,e47_65,e47_66,e47_67,e47_68,e47_69,e47_70,e47_71,e47_72,e47_73,e47_74,e47_75,e47_76,e47_77,e47_14,e47_12,e47_11,e47_40,e47_10,e47_9,e47_33,e47_8,e47_7,e47_25,e47_26,e47_20,e47_21,e47_22,e47_23,e47_6,e47_5,e47_3,e47_0,e47_1,e47_2,e47_28,e47_38,e47_39,e47_45,e47_46,e47_54,e47_55,e47_13,e47_85,e47_86,e47_15q,AL5⟩
   refine Ao LG r7 (B6 K hKd.1) DP (GR hKd) fun w48 g48 h48=>?_
   replace DP:=h48
   refine AY (v:=.int .i64 0) LG r6 fun a49 JH=>?_
   refine AE ?_
   refine k46 _ _ ?_
   refine ALz fun K50 k50=>?_
   refine ALy ?_
   refine AJ JH 1 [(87,AP K)]
     ⟨yl r6 (B6 K hKd.1) DP,AL5⟩ fun a51 w51 g51 EI=>?_
   refine Bh EI Tryz.func34 (by kernel_rfl) r6 (AHA hKd) fun a52 v52 w52 hR52 RA=>?_
   obtain⟨ao52,cap52,rfl,_⟩:=(Sl.of_own hR52.1).shape
   obtain⟨ow52,fr52⟩:=hR52
   replace fr52:=D1 fr52
   have g52:=fr52.1
   replace fr52:=fr52.2
   refine Bh RA Tryz.func33 (by kernel_rfl) r6 (OM (hSU▸AJE (dom:=282) (by decide) rfl hKd.2 (by rw[hKd.1];omega) (Sl.of_own ow52))) fun a53 v53 w53 hR53 YO=>?_
   obtain⟨rfl,g53⟩:=hR53
   replace Ad:=AC g53 (AC g52 (AC g51 (AX g48 (AC g47 Ad) (Ne.symm SS))))
   replace CN:=AC g53 (AC g52 (AC g51 (AX g48 (AC g47 CN) (Ne.symm SV))))
   replace CE:=AC g53 (AC g52 (AC g51 (AX g48 (AC g47 CE) (Ne.symm Pt))))
   replace Cn:=AC g53 (AC g52 (AC g51 (AX g48 (AC g47 Cn) (Ne.symm Pu))))
   replace CG:=AC g53 (AC g52 (AC g51 (AX g48 (AC g47 CG) (Ne.symm Oi))))
   replace Cx:=AC g53 (AC g52 (AC g51 (AX g48 (AC g47 Cx) (Ne.symm Oj))))
   replace DP:=AC g53 (AC g52 (AC g51 DP))
   replace hk13:=((((hk13.kn g47).offR g48 (AU SY)).kn g51).kn g52).kn g53
   replace hFa:=((((hFa.kn g47).offR g48 (AU UB)).kn g51).kn g52).kn g53
   replace hFb:=((((hFb.kn g47).offR g48 (AU UC)).kn g51).kn g52).kn g53
   replace hk40:=((((hk40.kn g47).offR g48 (AU SZ)).kn g51).kn g52).kn g53
   replace ow52:=ow52.kn g53
   replace HG:=AA (AA (AA (AD (AA HG g47) g48 ADR) g51) g52) g53
   refine Ar (T:=23) (Z:=(bv AR)) YO rfl rfl rfl (fun a w=>by kernel_rfl) fun a54 w54 AAy Db g54 z54 Es MC=>?_
   have Sa:=An Ad Db
   have Sb:=An CN Db
   have Pv:=An CE Db
   have Pw:=An Cn Db
   have Ok:=An CG Db
   have Ol:=An Cx Db
   have Om:=An DP Db
   have ADS:=Bt HG Db
   have Sc:=Au (hk13.lt) Db
   have UD:=Au (hFa.lt) Db
   have UE:=Au (hFb.lt) Db
   have Se:=Au (hk40.lt) Db
   have Sf:=Au (Own.ltS ow52) Db
   refine Ao MC r7 (B6 SU hSd.1) Es (GR hSd) fun w55 g55 h55=>?_
   replace DP:=AX g55 (AC g54 DP) (Ne.symm Om)
   refine AE ?_
   refine k50 _ _ ?_
   refine ALz fun K56 k56=>?_
   refine ALy ?_
   refine AJ MC 2 [(90,AP K),(91,AP M)]
     ⟨yl r6 (B6 K hKd.1) DP,Ae [.int .u64 283,AP K,.slice none 0 0] Tryz.func35 (by kernel_rfl) rq4 ⟨rfl,(oy rfl rfl),rfl,AL5⟩ (Ap fun W g=>by rw[←hM];exact JW (n:=283) (by decide) rfl hKd W),AL5⟩ fun a57 w57 g57 AAW=>?_
   replace Ad:=AC g57 (AX g55 (AC g54 Ad) (Ne.symm Sa))
   replace CN:=AC g57 (AX g55 (AC g54 CN) (Ne.symm Sb))
   replace CE:=AC g57 (AX g55 (AC g54 CE) (Ne.symm Pv))
   replace Cn:=AC g57 (AX g55 (AC g54 Cn) (Ne.symm Pw))
   replace CG:=AC g57 (AX g55 (AC g54 CG) (Ne.symm Ok))
   replace Cx:=AC g57 (AX g55 (AC g54 Cx) (Ne.symm Ol))
   replace DP:=AC g57 DP
   replace Es:=AC g57 h55
   replace hk13:=((hk13.kn g54).offR g55 (AU Sc)).kn g57
   replace hFa:=((hFa.kn g54).offR g55 (AU UD)).kn g57
   replace hFb:=((hFb.kn g54).offR g55 (AU UE)).kn g57
   replace hk40:=((hk40.kn g54).offR g55 (AU Se)).kn g57
   replace ow52:=((ow52.kn g54).offR g55 (AU Sf)).kn g57
   replace HG:=AA (AD (AA HG g54) g55 ADS) g57
   refine Ar (T:=23) (Z:=(bv AR)) AAW rfl rfl rfl (fun a w=>by kernel_rfl) fun a58 w58 AAz DQ g58 z58 GM Mn=>?_
   have Sg:=An Ad DQ
   have Sh:=An CN DQ
   have Px:=An CE DQ
   have Py:=An Cn DQ
   have On:=An CG DQ
   have Oo:=An Cx DQ
   have Oq:=An DP DQ
   have Ot:=An Es DQ
   have ADT:=Bt HG DQ
   have Si:=Au (hk13.lt) DQ
   have UF:=Au (hFa.lt) DQ
   have UG:=Au (hFb.lt) DQ
   have Sj:=Au (hk40.lt) DQ
   have Sk:=Au (Own.ltS ow52) DQ
   refine Ao Mn r7 (B6 M hMd.1) GM (GR hMd) fun w59 g59 h59=>?_
   replace Ad:=AX g59 (AC g58 Ad) (Ne.symm Sg)
   replace CN:=AX g59 (AC g58 CN) (Ne.symm Sh)
   replace CE:=AX g59 (AC g58 CE) (Ne.symm Px)
   replace Cn:=AX g59 (AC g58 Cn) (Ne.symm Py)
   replace CG:=AX g59 (AC g58 CG) (Ne.symm On)
   replace Cx:=AX g59 (AC g58 Cx) (Ne.symm Oo)
   replace DP:=AX g59 (AC g58 DP) (Ne.symm Oq)
   replace Es:=AX g59 (AC g58 Es) (Ne.symm Ot)
   replace hk13:=(hk13.kn g58).offR g59 (AU Si)
   replace hFa:=(hFa.kn g58).offR g59 (AU UF)
   replace hFb:=(hFb.kn g58).offR g59 (AU UG)
   replace hk40:=(hk40.kn g58).offR g59 (AU Sj)
   replace ow52:=(ow52.kn g58).offR g59 (AU Sk)
   replace HG:=AD (AA HG g58) g59 ADT
   replace GM:=h59
   refine AE ?_
   refine k56 _ _ ?_
   refine ALz fun K60 k60=>?_
   refine ALz fun K61 k61=>?_
   have hwr:=hFb.rw
   have hwl:wr34.length=1:=by have:=congrArg List.length (hFb.2.1.trans hwb);rw[List.length_map] at this;rw[this];rfl
   have hw0:0<wr34.length:=by omega
   refine ALy ?_
   refine AY (v:=.int .i64 0) Mn r6 fun a62 Cg=>?_
   refine AE ?_
   refine k61 _ _ ?_
   refine BM fun Q63 x63 y63 rt63 o63=>?_
   refine wp_loop (fun a w'=>∃(j:Nat),(j≤32)∧Sv 137 [] [(19,.int .i64 ((j:Int))),(18,pt AAz),(90,AP K),(91,AP M),(17,pt AAy),(89,AP SU),(88,.slice ao52 K.length cap52),(87,AP K),(16,.int .i64 0),(56,.int .i64 ra.2),(57,.bool false),(58,.bool false),(59,.int .i64 rb.2),(60,.bool false),(61,.bool false),(62,.bool false),(63,.int .i64 0),(64,.bool false),(65,.bool false),(66,.bool false),(67,pk AB1 3),(68,.slice wo25 (List.length wr25) wc25),(69,.int .i64 (((List.length wr25):Nat))),(70,.bool false),(71,.bool false),(72,.bool false),(73,pk SE 3),(74,.slice wo34 (List.length wr34) wc34),(75,.int .i64 (((List.length wr34):Nat))),(76,.bool false),(77,.bool false),(14,.int .i64 0),(12,.int .i64 rb.2),(11,pt SE),(40,pk Tw 4),(10,.int .i64 ra.2),(9,pt AB1),(33,pk Tw 4),(8,pt AIR),(7,.int .i64 ((m:Int))),(25,.int .i64 n),(26,.int .i64 ((m:Int))),(20,pt Tw),(21,CH x),(22,.bool true),(23,.bool false),(5,pt Tw),(3,pt Jy),(0,AP seed),(1,.int .i64 n),(2,Dz x n0 b0 ca),(28,Am vx.2.1 vx.2.2 (.slice ao13 ks13.length cap13)),(38,B9 ra.1.addr (.slice ao25 (List.length own25) ac25) ra.1.joint (.slice wo25 (List.length wr25) wc25) (.slice bo25 ra.1.body.length bc25) ra.1.tag),(39,.int .i64 ra.2),(45,B9 rb.1.addr (.slice ao34 (List.length own34) ac34) rb.1.joint (.slice wo34 (List.length wr34) wc34) (.slice bo34 rb.1.body.length bc34) rb.1.tag),(46,.int .i64 rb.2),(54,Am vx.2.1 vx.2.2 (.slice ao40 ks40.length cap40)),(55,.int .i64 0),(13,pt AFr),(85,AP K),(86,.int .i64 0),(15,pt AFs)] a∧w.grownBy w' none∧w'.heap[Jy]?=some (.cells (bv seed).toArray 23 (0,0))∧w'.heap[Tw]?=some (.cells ([vc x,[.int .i64 N],[.bool true],[.int .i64 ca]].flatten).toArray 27 (0,0))∧w'.heap[AIR]?=some (.cells ([bv vx.2.1,bv vx.2.2,[.slice ao13 ks13.length cap13]].flatten).toArray 36 (0,0))∧w'.heap[AB1]?=some (.cells ([[.int .i64 ra.1.addr],[.slice ao25 (List.length own25) ac25],[.int .i64 ra.1.joint],[.slice wo25 (List.length wr25) wc25],[.slice bo25 ra.1.body.length bc25],bv ra.1.tag].flatten).toArray 31 (0,0))∧w'.heap[SE]?=some (.cells ([[.int .i64 rb.1.addr],[.slice ao34 (List.length own34) ac34],[.int .i64 rb.1.joint],[.slice wo34 (List.length wr34) wc34],[.slice bo34 rb.1.body.length bc34],bv rb.1.tag].flatten).toArray 31 (0,0))∧w'.heap[AFr]?=some (.cells ([bv vx.2.1,bv vx.2.2,[.slice ao40 ks40.length cap40]].flatten).toArray 36 (0,0))∧w'.heap[AFs]?=some (.cells (bv K).toArray 23 (0,0))∧w'.heap[AAy]?=some (.cells (bv SU).toArray 23 (0,0))∧w'.heap[AAz]?=some (.cells (bv M).toArray 23 (0,0))∧RdK w' (.slice ao13 ks13.length cap13) ks13∧SdF w' ra.1 own25 wr25 ao25 wo25 bo25 ac25 wc25 bc25∧SdF w' rb.1 own34 wr34 ao34 wo34 bo34 ac34 wc34 bc34∧RdK w' (.slice ao40 ks40.length cap40) ks40∧Own w' 5 1 (.slice ao52 K.length cap52) K.length (bv K)∧RdD w' (.slice wo34 (List.length wr34) wc34) wr34) (fun a _=>(32-intOf (a.tmps.getD 19 undef)).toNat) ⟨0,by omega,⟨Cg.1,Cg.2.1,Cg.2.2.1,Cg.2.2.2.1,Cg.2.2.2.2.1,Cg.2.2.2.2.2.1,Cg.2.2.2.2.2.2.1,Cg.2.2.2.2.2.2.2.1,(AG Cg).1,(AG Cg).2.1,(AG Cg).2.2.1,(AG Cg).2.2.2.1,(AG Cg).2.2.2.2.1,(AG Cg).2.2.2.2.2.1,(AG Cg).2.2.2.2.2.2.1,(AG Cg).2.2.2.2.2.2.2.1,(AG (AG Cg)).1,(AG (AG Cg)).2.1,(AG (AG Cg)).2.2.1,(AG (AG Cg)).2.2.2.1,(AG (AG Cg)).2.2.2.2.1,(AG (AG Cg)).2.2.2.2.2.1,(AG (AG Cg)).2.2.2.2.2.2.1,(AG (AG Cg)).2.2.2.2.2.2.2.1,(AG (AG (AG Cg))).1,(AG (AG (AG Cg))).2.1,(AG (AG (AG Cg))).2.2.1,(AG (AG (AG Cg))).2.2.2.1,(AG (AG (AG Cg))).2.2.2.2.1,(AG (AG (AG Cg))).2.2.2.2.2.1,(AG (AG (AG Cg))).2.2.2.2.2.2.1,(AG (AG (AG Cg))).2.2.2.2.2.2.2.1,(AG (AG (AG (AG Cg)))).1,(AG (AG (AG (AG Cg)))).2.1,(AG (AG (AG (AG Cg)))).2.2.1,(AG (AG (AG (AG Cg)))).2.2.2.1,(AG (AG (AG (AG Cg)))).2.2.2.2.1,(AG (AG (AG (AG Cg)))).2.2.2.2.2.1,(AG (AG (AG (AG Cg)))).2.2.2.2.2.2.1,(AG (AG (AG (AG Cg)))).2.2.2.2.2.2.2.1,(AG (AG (AG (AG (AG Cg))))).1,(AG (AG (AG (AG (AG Cg))))).2.1,(AG (AG (AG (AG (AG Cg))))).2.2.1,(AG (AG (AG (AG (AG Cg))))).2.2.2.1,(AG (AG (AG (AG (AG Cg))))).2.2.2.2.1,(AG (AG (AG (AG (AG Cg))))).2.2.2.2.2.1,(AG (AG (AG (AG (AG Cg))))).2.2.2.2.2.2.1,(AG (AG (AG (AG (AG Cg))))).2.2.2.2.2.2.2.1,(AG (AG (AG (AG (AG (AG Cg)))))).2.1,(AG (AG (AG (AG (AG (AG Cg)))))).2.2.1,(AG (AG (AG (AG (AG (AG Cg)))))).2.2.2.1,(AG (AG (AG (AG (AG (AG Cg)))))).2.2.2.2.1,(AG (AG (AG (AG (AG (AG Cg)))))).2.2.2.2.2.1,(AG (AG (AG (AG (AG (AG Cg)))))).2.2.2.2.2.2.1,(AG (AG (AG (AG (AG (AG Cg)))))).2.2.2.2.2.2.2.1,(AG (AG (AG (AG (AG (AG (AG Cg))))))).1,(AG (AG (AG (AG (AG (AG (AG Cg))))))).2.1,(AG (AG (AG (AG (AG (AG (AG Cg))))))).2.2.1,(AG (AG (AG (AG (AG (AG (AG Cg))))))).2.2.2.1,(AG (AG (AG (AG (AG (AG (AG Cg))))))).2.2.2.2.1,(AG (AG (AG (AG (AG (AG (AG Cg))))))).2.2.2.2.2.1,(AG (AG (AG (AG (AG (AG (AG Cg))))))).2.2.2.2.2.2.1,(AG (AG (AG (AG (AG (AG (AG Cg))))))).2.2.2.2.2.2.2.1,(AG (AG (AG (AG (AG (AG (AG (AG Cg)))))))).1,AL5⟩,HG,Ad,CN,CE,Cn,CG,Cx,DP,Es,GM,hk13,hFa,hFb,hk40,ow52,hwr⟩ fun a64 w64 hI64=>?_
   clear Ad
   clear CN
   clear CE
   clear Cn
   clear CG
   clear Cx
   clear DP
   clear Es
   clear GM
   clear hk13
   clear hFa
   clear hFb
   clear hk40
   clear ow52
   clear hwr
   clear HG
   obtain⟨j,hj32,WO,HG,Ad,CN,CE,Cn,CG,Cx,DP,Es,GM,hk13,hFa,hFb,hk40,ow52,hwr⟩:=hI64
   refine ALz fun K65 k65=>?_
   refine ALz fun K66 k66=>?_
   by_cases hj:j<32
   · obtain⟨wx,hx_wx⟩:∃zx,wr34[0]'hw0=zx:=⟨_,rfl⟩
     have hwx:=AHj (hFb.2.1.trans hwb) hx_wx
     obtain⟨xa,hxa⟩:∃a,wx.x[j]?=some a:=⟨_,List.getElem?_eq_getElem (by rw[wx.h.1];exact hj)⟩
     obtain⟨xb,hxb⟩:∃b,M[j]?=some b:=⟨_,List.getElem?_eq_getElem (by rw[hMd.1];exact hj)⟩
     obtain⟨xc,hxc⟩:∃b,SU[j]?=some b:=⟨_,List.getElem?_eq_getElem (by rw[hSd.1];exact hj)⟩
     have ba:xa<256:=wx.h.2 _ (List.mem_of_getElem? hxa)
     have bb:xb<256:=hMd.2 _ (List.mem_of_getElem? hxb)
     have hxo:xa ^^^ xb=xc:=by have h1:=AJd hxa hxb;rw[hwx,hback,hxc] at h1;exact(Option.some.inj h1).symm
     refine ALy ?_
     refine AJ WO 2 [(92,.int .i64 ((j:Int))),(93,.bool true)]
      ⟨ym r5,Cz r6 (fun _=>Bo (by simp;omega)),AL5⟩ fun a67 w67 g67 AAj=>?_
     refine AE ?_
     refine k66 _ _ ?_
     refine Aw AAj rfl rfl ?_
     refine AL3 ?_
     refine k65 _ _ ?_
     refine ALz fun K68 k68=>?_
     refine BM fun Q69 x69 y69 rt69 o69=>?_
     refine ALz fun K70 k70=>?_
     replace CG:=AC g67 CG
     replace Es:=AC g67 Es
     replace GM:=AC g67 GM
     replace hwr:=hwr.kn g67
     refine DM AAj [(96,pk SE 3),(97,.slice wo34 (List.length wr34) wc34),(98,.int .i64 ((j:Int))),(99,pk ((bO wo34)) (oO wo34+0*32)),(100,pk ((bO wo34)) (oO wo34+0*32+j)),(101,.int .u8 ((xa:Int))),(102,.int .i64 ((j:Int))),(103,pk AAz j),(104,.int .u8 ((xb:Int))),(105,.int .u8 (((xa ^^^ xb:Nat):Int))),(106,.int .i64 ((j:Int))),(107,pk AAy j),(108,.int .u8 ((xc:Int))),(109,.bool false)]
      ⟨yf r6 (fun _=>by kernel_rfl),yp (i:=3) r6 (J3 (.slice wo34 (List.length wr34) wc34) rfl) CG rfl rfl,ym r5,Cq rfl rfl trivial (oy rfl rfl) rfl (fun w=>CU Tryz.underlying28 (by kernel_rfl) (hwr.1) (by omega) (rfl) w) (fun _=>rfl),BA rq8 (fun w=>AHi hj w),Bu r6 (fun _ g=>Ab (PW (xa:Int)) (E3 (by have:=DU (hwr.kn g).1 GF hw0 (by decide);rw[hx_wx] at this;exact this) hxa)),ym r5,BA rq8 (fun w=>IQ hj w),Bu r6 (fun _ g=>Ab (PW (xb:Int)) (by simpa using E3 (o:=0) (Ac (AF g GM (by simp))) hxb)),Il r7 (fun _=>Vb ba bb),ym r5,BA rq8 (fun w=>IQ hj w),Bu r6 (fun _ g=>Ab (PW (xc:Int)) (by simpa using E3 (o:=0) (Ac (AF g Es (by simp))) hxc)),Il r7 (fun _=>Dj (by rw[hxo];simp)),AL5⟩ fun a71 w71 g71 AKu=>?_
     refine k70 _ _ ?_
     refine A1 AKu rfl rfl ?_
     refine AL3 ?_
     refine y69 _ _ ?_
     refine k68 _ _ ?_
     refine ALy ?_
     refine AJ AKu 2 [(94,.int .i64 ((j:Int))),(95,.int .i64 (((j+1:Nat):Int)))]
      ⟨ym r5,Cz r6 (fun _=>Dk (by rw[BG (by omega) (by omega)];omega)),AL5⟩ fun a72 w72 g72 AC9=>?_
     have ME:=AA g71 g72
     refine AY (v:=.int .i64 (((j+1:Nat):Int))) AC9 r6 fun a73 CW=>?_
     refine AE ?_
     replace Ad:=AC ME (AC g67 Ad)
     replace CN:=AC ME (AC g67 CN)
     replace CE:=AC ME (AC g67 CE)
     replace Cn:=AC ME (AC g67 Cn)
     replace CG:=AC ME CG
     replace Cx:=AC ME (AC g67 Cx)
     replace DP:=AC ME (AC g67 DP)
     replace Es:=AC ME Es
     replace GM:=AC ME GM
     replace hk13:=(hk13.kn g67).kn ME
     replace hFa:=(hFa.kn g67).kn ME
     replace hFb:=(hFb.kn g67).kn ME
     replace hk40:=(hk40.kn g67).kn ME
     replace ow52:=(ow52.kn g67).kn ME
     replace hwr:=hwr.kn ME
     replace HG:=AA (AA HG g67) ME
     exact⟨⟨j+1,by omega,⟨CW.1,CW.2.1,CW.2.2.1,(AG (AG CW)).2.2.2.2.2.1,(AG (AG CW)).2.2.2.2.2.2.1,(AG (AG CW)).2.2.2.2.2.2.2.1,(AG (AG (AG CW))).1,(AG (AG (AG CW))).2.1,(AG (AG (AG CW))).2.2.1,(AG (AG (AG CW))).2.2.2.1,(AG (AG (AG CW))).2.2.2.2.1,(AG (AG (AG CW))).2.2.2.2.2.1,(AG (AG (AG CW))).2.2.2.2.2.2.1,(AG (AG (AG CW))).2.2.2.2.2.2.2.1,(AG (AG (AG (AG CW)))).1,(AG (AG (AG (AG CW)))).2.1,(AG (AG (AG (AG CW)))).2.2.1,(AG (AG (AG (AG CW)))).2.2.2.1,(AG (AG (AG (AG CW)))).2.2.2.2.1,(AG (AG (AG (AG CW)))).2.2.2.2.2.1,(AG (AG (AG (AG CW)))).2.2.2.2.2.2.1,(AG (AG (AG (AG CW)))).2.2.2.2.2.2.2.1,(AG (AG (AG (AG (AG CW))))).1,(AG (AG (AG (AG (AG CW))))).2.1,(AG (AG (AG (AG (AG CW))))).2.2.1,(AG (AG (AG (AG (AG CW))))).2.2.2.1,(AG (AG (AG (AG (AG CW))))).2.2.2.2.1,(AG (AG (AG (AG (AG CW))))).2.2.2.2.2.1,(AG (AG (AG (AG (AG CW))))).2.2.2.2.2.2.1,(AG (AG (AG (AG (AG CW))))).2.2.2.2.2.2.2.1,(AG (AG (AG (AG (AG (AG CW)))))).1,(AG (AG (AG (AG (AG (AG CW)))))).2.1,(AG (AG (AG (AG (AG (AG CW)))))).2.2.1,(AG (AG (AG (AG (AG (AG CW)))))).2.2.2.1,(AG (AG (AG (AG (AG (AG CW)))))).2.2.2.2.1,(AG (AG (AG (AG (AG (AG CW)))))).2.2.2.2.2.1,(AG (AG (AG (AG (AG (AG CW)))))).2.2.2.2.2.2.1,(AG (AG (AG (AG (AG (AG CW)))))).2.2.2.2.2.2.2.1,(AG (AG (AG (AG (AG (AG (AG CW))))))).1,(AG (AG (AG (AG (AG (AG (AG CW))))))).2.1,(AG (AG (AG (AG (AG (AG (AG CW))))))).2.2.1,(AG (AG (AG (AG (AG (AG (AG CW))))))).2.2.2.1,(AG (AG (AG (AG (AG (AG (AG CW))))))).2.2.2.2.1,(AG (AG (AG (AG (AG (AG (AG CW))))))).2.2.2.2.2.1,(AG (AG (AG (AG (AG (AG (AG CW))))))).2.2.2.2.2.2.1,(AG (AG (AG (AG (AG (AG (AG CW))))))).2.2.2.2.2.2.2.1,(AG (AG (AG (AG (AG (AG (AG (AG CW)))))))).1,(AG (AG (AG (AG (AG (AG (AG (AG CW)))))))).2.1,(AG (AG (AG (AG (AG (AG (AG (AG CW)))))))).2.2.1,(AG (AG (AG (AG (AG (AG (AG (AG CW)))))))).2.2.2.1,(AG (AG (AG (AG (AG (AG (AG (AG CW)))))))).2.2.2.2.1,(AG (AG (AG (AG (AG (AG (AG (AG CW)))))))).2.2.2.2.2.1,(AG (AG (AG (AG (AG (AG (AG (AG CW)))))))).2.2.2.2.2.2.1,(AG (AG (AG (AG (AG (AG (AG (AG CW)))))))).2.2.2.2.2.2.2.1,(AG (AG (AG (AG (AG (AG (AG (AG (AG CW))))))))).1,(AG (AG (AG (AG (AG (AG (AG (AG (AG CW))))))))).2.1,(AG (AG (AG (AG (AG (AG (AG (AG (AG CW))))))))).2.2.1,(AG (AG (AG (AG (AG (AG (AG (AG (AG CW))))))))).2.2.2.1,(AG (AG (AG (AG (AG (AG (AG (AG (AG CW))))))))).2.2.2.2.1,(AG (AG (AG (AG (AG (AG (AG (AG (AG CW))))))))).2.2.2.2.2.1,(AG (AG (AG (AG (AG (AG (AG (AG (AG CW))))))))).2.2.2.2.2.2.1,(AG (AG (AG (AG (AG (AG (AG (AG (AG CW))))))))).2.2.2.2.2.2.2.1,(AG (AG (AG (AG (AG (AG (AG (AG (AG (AG CW)))))))))).1,(AG (AG (AG (AG (AG (AG (AG (AG (AG (AG CW)))))))))).2.1,AL5⟩,HG,Ad,CN,CE,Cn,CG,Cx,DP,Es,GM,hk13,hFa,hFb,hk40,ow52,hwr⟩,by rw[show _=_ from CW.2.2.1,show _=_ from WO.2.2.1];simp[intOf];omega⟩
   · refine ALy ?_
     refine AJ WO 2 [(92,.int .i64 ((j:Int))),(93,.bool false)]
      ⟨ym r5,Cz r6 (fun _=>Bo (by simp;omega)),AL5⟩ fun a74 w74 g74 AKv=>?_
     refine AE ?_
     refine k66 _ _ ?_
     refine A1 AKv rfl rfl ?_
     refine wp_exit ?_
     repeat refine CY ?_
     refine x63 _ _ ?_
     refine k60 _ _ ?_
     refine ALz fun K75 k75=>?_
     refine ALy ?_
     replace CE:=AC g74 CE
     replace Cn:=AC g74 Cn
     replace CG:=AC g74 CG
     replace Cx:=AC g74 Cx
     replace hk13:=hk13.kn g74
     replace hFa:=hFa.kn g74
     replace hFb:=hFb.kn g74
     replace hk40:=hk40.kn g74
     refine AJ AKv 27 [(110,.int .i64 0),(111,.bool true),(112,.bool true),(113,Am vx.2.1 vx.2.2 (.slice ao13 ks13.length cap13)),(114,B9 ra.1.addr (.slice ao25 (List.length own25) ac25) ra.1.joint (.slice wo25 (List.length wr25) wc25) (.slice bo25 ra.1.body.length bc25) ra.1.tag),(115,.bool true),(116,.bool true),(117,.bool true),(118,Am vx.2.1 vx.2.2 (.slice ao13 ks13.length cap13)),(119,B9 rb.1.addr (.slice ao34 (List.length own34) ac34) rb.1.joint (.slice wo34 (List.length wr34) wc34) (.slice bo34 rb.1.body.length bc34) rb.1.tag),(120,.bool true),(121,.bool true),(122,.bool true),(123,Am vx.2.1 vx.2.2 (.slice ao40 ks40.length cap40)),(124,B9 ra.1.addr (.slice ao25 (List.length own25) ac25) ra.1.joint (.slice wo25 (List.length wr25) wc25) (.slice bo25 ra.1.body.length bc25) ra.1.tag),(125,.bool false),(126,.bool true),(127,.bool true),(128,.bool true),(129,Am vx.2.1 vx.2.2 (.slice ao40 ks40.length cap40)),(130,B9 rb.1.addr (.slice ao34 (List.length own34) ac34) rb.1.joint (.slice wo34 (List.length wr34) wc34) (.slice bo34 rb.1.body.length bc34) rb.1.tag),(131,.bool false),(132,.bool true),(133,.bool true),(134,.bool true),(135,.bool true),(136,.bool true)]
      ⟨ym r5,Cz r6 (fun _=>CV rfl),ym r5,Aq rq9 (fun _ g=>Ab (Bb hvd.1 hvd.2 (.slice ao13 ks13.length cap13) rfl) (Ac (AF g CE (by simp)))),Aq rq9 (fun _ g=>Ab (EJ _ _ hFa.tg (.slice ao25 (List.length own25) ac25) (.slice wo25 (List.length wr25) wc25) (.slice bo25 ra.1.body.length bc25) rfl rfl rfl) (Ac (AF g Cn (by simp)))),B7 [Am vx.2.1 vx.2.2 (.slice ao13 ks13.length cap13),B9 ra.1.addr (.slice ao25 (List.length own25) ac25) ra.1.joint (.slice wo25 (List.length wr25) wc25) (.slice bo25 ra.1.body.length bc25) ra.1.tag] Tryz.func26 (by kernel_rfl) r7 ⟨(oy rfl rfl),(oy rfl rfl),AL5⟩ (Ap fun W g=>KJ (q:=(x.clean,0)) hvd.1 hvd.2 (hk13.kn g) hp13 (hFa.kn g) hqa rfl),A2 rq9,ym r5,Aq rq9 (fun _ g=>Ab (Bb hvd.1 hvd.2 (.slice ao13 ks13.length cap13) rfl) (Ac (AF g CE (by simp)))),Aq rq9 (fun _ g=>Ab (EJ _ _ hFb.tg (.slice ao34 (List.length own34) ac34) (.slice wo34 (List.length wr34) wc34) (.slice bo34 rb.1.body.length bc34) rfl rfl rfl) (Ac (AF g CG (by simp)))),B7 [Am vx.2.1 vx.2.2 (.slice ao13 ks13.length cap13),B9 rb.1.addr (.slice ao34 (List.length own34) ac34) rb.1.joint (.slice wo34 (List.length wr34) wc34) (.slice bo34 rb.1.body.length bc34) rb.1.tag] Tryz.func26 (by kernel_rfl) r7 ⟨(oy rfl rfl),(oy rfl rfl),AL5⟩ (Ap fun W g=>KJ (q:=(x.clean,0)) hvd.1 hvd.2 (hk13.kn g) hp13 (hFb.kn g) hqb rfl),A2 rq9,ym r5,Aq rq9 (fun _ g=>Ab (Bb hvd.1 hvd.2 (.slice ao40 ks40.length cap40) rfl) (Ac (AF g Cx (by simp)))),Aq rq9 (fun _ g=>Ab (EJ _ _ hFa.tg (.slice ao25 (List.length own25) ac25) (.slice wo25 (List.length wr25) wc25) (.slice bo25 ra.1.body.length bc25) rfl rfl rfl) (Ac (AF g Cn (by simp)))),B7 [Am vx.2.1 vx.2.2 (.slice ao40 ks40.length cap40),B9 ra.1.addr (.slice ao25 (List.length own25) ac25) ra.1.joint (.slice wo25 (List.length wr25) wc25) (.slice bo25 ra.1.body.length bc25) ra.1.tag] Tryz.func26 (by kernel_rfl) r7 ⟨(oy rfl rfl),(oy rfl rfl),AL5⟩ (Ap fun W g=>KJ (q:=(V.nul,10)) hvd.1 hvd.2 (hk40.kn g) hp40 (hFa.kn g) hla rfl),Ha rfl rfl (gy rfl rfl rfl) (oy rfl rfl) (fun _=>Bf) (fun _=>rfl),A2 rq9,ym r5,Aq rq9 (fun _ g=>Ab (Bb hvd.1 hvd.2 (.slice ao40 ks40.length cap40) rfl) (Ac (AF g Cx (by simp)))),Aq rq9 (fun _ g=>Ab (EJ _ _ hFb.tg (.slice ao34 (List.length own34) ac34) (.slice wo34 (List.length wr34) wc34) (.slice bo34 rb.1.body.length bc34) rfl rfl rfl) (Ac (AF g CG (by simp)))),B7 [Am vx.2.1 vx.2.2 (.slice ao40 ks40.length cap40),B9 rb.1.addr (.slice ao34 (List.length own34) ac34) rb.1.joint (.slice wo34 (List.length wr34) wc34) (.slice bo34 rb.1.body.length bc34) rb.1.tag] Tryz.func26 (by kernel_rfl) r7 ⟨(oy rfl rfl),(oy rfl rfl),AL5⟩ (Ap fun W g=>KJ (q:=(V.nul,10)) hvd.1 hvd.2 (hk40.kn g) hp40 (hFb.kn g) hlb rfl),Ha rfl rfl (gy rfl rfl rfl) (oy rfl rfl) (fun _=>Bf) (fun _=>rfl),A2 rq9,ym r5,B7 [] Tryz.func13 (by kernel_rfl) r7 trivial (Ap fun W g=>R3 W),A2 rq9,AL5⟩ fun a76 w76 g76 ADB=>?_
     refine AY (v:=.bool true) ADB r6 fun a77 AFR=>?_
     have ADG:Sv _ _ [_,_,_,_,_,_,_,_,_,_,_,_,_,_,_,_,_,_,_,_,_,_,_,_,_,_,_,_,_,_,_,_,_,_,_,_,_,_,_,_,_,_,_,_,_,_,_,_,_,_,_,_,_,_,_,_,_,_,_,_,_,_,_,_] _:=AFR.dl [110,111,112,113,114,115,116,117,118,119,120,121,122,123,124,125,126,127,128,129,130,131,132,133,134,135,136,16]
     refine AE ?_
     refine k75 _ _ ?_
     replace CN:=AC g76 (AC g74 CN)
     replace hFa:=hFa.kn g76
     replace hFb:=hFb.kn g76
     replace HG:=AA (AA HG g74) g76
     refine AL2 ?_
     repeat refine AL ?_
     refine BI (fn:=Tryz.f10) ADG (BC (p:=6) Tryz.results10 ADG rfl rfl) ?_
     exact⟨rfl,HG⟩
 · refine ALy ?_
   refine AJ sv4 4 [(20,pt Tw),(21,CH x),(22,.bool false),(23,.bool true)]
     ⟨yf r6 (fun _=>by kernel_rfl),yp (i:=0) r6 (En x) CN rfl rfl,Ae [CH x] Tryz.func12 (by kernel_rfl) rq4 ⟨(oy rfl rfl),AL5⟩ (Ap fun W g=>(ABz x W).mono fun e w' ⟨h1,h2⟩=>⟨by rw[h1,decide_eq_false hsm],h2⟩),DG r6 (fun _=>Bf),AL5⟩ fun a79 w79 g79 OU=>?_
   refine AE ?_
   refine k6 _ _ ?_
   refine Aw OU rfl rfl ?_
   refine ALz fun K80 k80=>?_
   refine ALy ?_
   refine AJ OU 1 [(24,.bool true)]
     ⟨Ae [] Tryz.func13 (by kernel_rfl) rq4 trivial (Ap fun W g=>R3 W),AL5⟩ fun a81 w81 g81 AJL=>?_
   refine AY (v:=.bool true) AJL r6 fun a82 WA=>?_
   refine AE ?_
   refine k80 _ _ ?_
   replace HG:=AA (AA HG g79) g81
   refine AL2 ?_
   repeat refine AL ?_
   refine BI (fn:=Tryz.f10) WA (BC (p:=6) Tryz.results10 WA rfl rfl) ?_
   exact⟨rfl,HG⟩
end Go.Proofs.YtbfjfnbcmojpiaaGreat
