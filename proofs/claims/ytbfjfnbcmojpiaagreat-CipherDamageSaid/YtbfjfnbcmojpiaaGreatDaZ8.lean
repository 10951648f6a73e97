import Derived.Test.YtbfjfnbcmojpiaaGreatDaYN
set_option linter.unusedSimpArgs false
set_option linter.unusedVariables false
set_option maxRecDepth 100000
set_option maxHeartbeats 4000000
namespace Go.Proofs.YtbfjfnbcmojpiaaGreat
open Go.RowKit Go.Shelf
theorem AM7 (a b c:Int):TY Tryz.prog 47 [.int .i64 a,.int .i64 b,.int .i64 c] (.agg #[.int .i64 a,.int .i64 b,.int .i64 c]):=TY.agg Tryz.underlying47 rfl (by kernel_rfl) (by simp[Value.oneCell'])
theorem ANm (a b c:Int):TY Tryz.prog 47 ([[.int .i64 a],[.int .i64 b],[.int .i64 c]].flatten) (.agg #[.int .i64 a,.int .i64 b,.int .i64 c]):=AM7 a b c
theorem AGP {b j:Nat} (hj:j<3) (w:World):(Instr.indexAt 47 (.pointer (some ⟨b,0,none⟩)) (.int .i64 (j:Int))).run Tryz.prog w=.ok (.pointer (some ⟨b,j,none⟩)) w:=by
 have h1:(0:Int)≤(j:Int)∧(j:Int)<3:=⟨by omega,by omega⟩
 rw[run_indexAt_array (P:=Tryz.prog) (w:=w) (t:=47) (a:=⟨b,0,none⟩) (k:=.i64) (i:=(j:Int)) (h:=by kernel_rfl)]
 have e1:Tryz.prog.arrayLen 47=3:=by kernel_rfl
 have e2:(sizeOf (Tryz.prog.elem 47)).run Tryz.prog w=.ok 1 w:=by kernel_rfl
 rw[e1]
 simp[h1,Addr.add,e2,Result.andThen]
 intro h0
 exact h0.symm
theorem Ri {b o j:Nat} (hj:j<32) (w:World):(Instr.indexAt 23 (.pointer (some ⟨b,o,none⟩)) (.int .i64 (j:Int))).run Tryz.prog w=.ok (.pointer (some ⟨b,o+j,none⟩)) w:=by
 have h1:(0:Int)≤(j:Int)∧(j:Int)<32:=⟨by omega,by omega⟩
 rw[run_indexAt_array (P:=Tryz.prog) (w:=w) (t:=23) (a:=⟨b,o,none⟩) (k:=.i64) (i:=(j:Int)) (h:=by kernel_rfl)]
 have e1:Tryz.prog.arrayLen 23=32:=by kernel_rfl
 have e2:(sizeOf (Tryz.prog.elem 23)).run Tryz.prog w=.ok 1 w:=by kernel_rfl
 rw[e1]
 simp[h1,Addr.add,e2,Result.andThen]
theorem AIs {P:Program} {a b c:Int} {t:TypeId} {x y:Operand} {w:World} (h:bits .xor .i64 a b=c):(do eqGuard .xor t x y (.int .i64 a) (.int .i64 b);binOp .xor t (.int .i64 a) (.int .i64 b):Sem Value).run P w=.ok (.int .i64 c) w:=by
 subst h
 simp[eqGuard,binOp_xor]
 rfl
theorem AM8 (n:Int):∃m:Nat,m<4∧bits .and .i64 n 3=(m:Int):=by
 obtain⟨k,hk,e⟩:=AKy 3 (by decide) n (by decide)
 exact⟨k,by omega,e⟩
theorem AM9 (d:Int):∃k:Nat,k<32∧(IntKind.u64.wrap d).tmod 32=(k:Int):=by
 rw[IntKind.wrap_u64,Int.tmod_eq_emod_of_nonneg (by omega)]
 exact⟨(d%18446744073709551616%32).toNat,by omega,by omega⟩
theorem ANA (d:Int):∃k:Nat,k<256∧IntKind.u8.wrap d=(k:Int):=by
 rw[IntKind.wrap_u8]
 exact⟨(d%256).toNat,by omega,by omega⟩
theorem ANn (k:Nat) {m:Nat} (hm:0<m):∃j:Nat,j<m∧(k:Int).tmod ((m:Nat):Int)=(j:Int):=by
 rw[Int.tmod_eq_emod_of_nonneg (by omega)]
 exact⟨k%m,Nat.mod_lt _ hm,by omega⟩
theorem AGQ (seed:List Nat) (x:V) (n:Int) (b:Bool) (a:Int):0<(Wm (V6 seed).1 x n b a).1.body.length:=by
 unfold Wm
 have hh:=AIn n b a
 have hp:=AAk x
 by_cases hne:(Gb n 6).map DD.x=[]
 · rw[hne] at hh ⊢
   rw[Ie hh (ZL seed)]
   exact hp
 · rw[Gm hh (ZL seed) hne (J8 (AK0 seed n a)).2 rfl rfl]
   show 0<(Fj _ _).length
   rw[Hy]
   exact hp
theorem LG {l:List Nat} {j v:Nat} (h:Dg l) (hv:v<256):Dg (l.set j v):=⟨by rw[List.length_set];exact h.1,fun x hx=>(List.mem_or_eq_of_mem_set hx).elim (h.2 x) fun e=>e▸hv⟩
theorem AL2 {l:List Nat} {j v:Nat} (h:By l) (hv:v<256):By (l.set j v):=fun x hx=>(List.mem_or_eq_of_mem_set hx).elim (h x) fun e=>e▸hv
theorem NG {a b:Nat} (ha:a<256) (hb:b<256):a ^^^ b<256:=Nat.xor_lt_two_pow (n:=8) ha hb
section
variable {P:Program} {Q:Exit→Act→World→Prop} {ops:Array Oper} {rest:List Oper} {o:Oper} {a:Act} {w:World} {n:Nat} {D:List Deferred} {K:List (Nat×Value)}
theorem AE1 (a jt:Int) (os ws bs:Value) (l:List Value):([[.int .i64 a],[os],[.int .i64 jt],[ws],[bs],l]:List (List Value)).flatten=[.int .i64 a,os,.int .i64 jt,ws,bs]++l:=by simp
theorem AGR (sv:Sv n D K a) (hgd:o.guard=none) {T:TypeId} {x y:Operand} (ho:o.op=.store T x y) (hd:o.dst=none) {b j v:Nat} {ad jt:Int} {os ws bs:Value} {l:List Nat} {t:TypeId} (hx:Nk K x=true) (hxv:Nl K x=.pointer (some ⟨b,5+j,none⟩)) (hy:Nk K y=true) (hyv:Nl K y=.int .u8 (v:Int)) (ty:TY P T [.int .u8 (v:Int)] (.int .u8 (v:Int)))
  (hb:w.heap[b]?=some (.cells (([[.int .i64 ad],[os],[.int .i64 jt],[ws],[bs],bv l]:List (List Value)).flatten).toArray t (0,0))) (hj:j<l.length)
  (h:∀w',w.grownBy w' (some b)→w'.heap[b]?=some (.cells (([[.int .i64 ad],[os],[.int .i64 jt],[ws],[bs],bv (l.set j v)]:List (List Value)).flatten).toArray t (0,0))→wpList P ops Q rest a w'):wpList P ops Q (o::rest) a w:=by
 rw[AE1,Sj hj,←List.append_assoc] at hb
 refine Oo sv hgd ho hd hx hxv hy hyv ty hb (by rw[List.length_append,AO,List.length_take];simp;omega) rfl fun w' g' hb'=>h w' g' ?_
 rw[hb',AE1,ADO hj,List.append_assoc]
end
section
variable {w:World} {s:Sd} {own wr:List DD} {ao wo bo:Option Addr} {ac wc bc:Nat}
theorem SdF.addr (h:SdF w s own wr ao wo bo ac wc bc) (A:Int):SdF w ⟨A,s.own,s.joint,s.wr,s.body,s.tag⟩ own wr ao wo bo ac wc bc:=h
theorem SdF.tagged (h:SdF w s own wr ao wo bo ac wc bc) {t:List Nat} (ht:Dg t):SdF w ⟨s.addr,s.own,s.joint,s.wr,s.body,t⟩ own wr ao wo bo ac wc bc:=by
 obtain⟨h1,h2,h3,h4,h5,h6,_,h8⟩:=h
 exact⟨h1,h2,h3,h4,h5,h6,ht,h8⟩
theorem SdF.mkB {b':List Nat} (h1:own.map DD.x=s.own) (h2:wr.map DD.x=s.wr) (h3:Own w 23 32 (.slice ao own.length ac) own.length (own.flatMap Ja)) (h4:Own w 23 32 (.slice wo wr.length wc) wr.length (wr.flatMap Ja)) (h5:Own w 5 1 (.slice bo s.body.length bc) s.body.length (b'.flatMap cb)) (hl:b'.length=s.body.length)
  (h6:∀k,BC (.slice ao own.length ac) k→¬BC (.slice wo wr.length wc) k) (h7:Dg s.tag) (h8:By b'):SdF w ⟨s.addr,s.own,s.joint,s.wr,b',s.tag⟩ own wr ao wo bo ac wc bc:=by
 refine⟨h1,h2,h3,h4,?_,h6,h7,h8⟩
 show Own w _ 1 (.slice bo b'.length bc) b'.length (bv b')
 rw[hl,M1]
 exact h5
theorem SdF.mkW {wr':List DD} (h1:own.map DD.x=s.own) (h3:Own w 23 32 (.slice ao own.length ac) own.length (own.flatMap Ja)) (h4:Own w 23 32 (.slice wo wr.length wc) wr.length (wr'.flatMap Ja)) (hl:wr'.length=wr.length) (h5:Own w 5 1 (.slice bo s.body.length bc) s.body.length (bv s.body))
   (h6:∀k,BC (.slice ao own.length ac) k→¬BC (.slice wo wr.length wc) k) (h7:Dg s.tag) (h8:By s.body):SdF w ⟨s.addr,s.own,s.joint,wr'.map DD.x,s.body,s.tag⟩ own wr' ao wo bo ac wc bc:=by
 refine⟨h1,rfl,h3,?_,h5,?_,h7,h8⟩
 · rw[hl];exact h4
 · rw[hl];exact h6
theorem Gu {ao wo bo:Option Addr} {n m l n' m' l' c1 c2 c3 k:Nat} (h:KH (.slice ao n' c1) (.slice wo m' c2) (.slice bo l' c3) k):KH (.slice ao n c1) (.slice wo m c2) (.slice bo l c3) k:=by
 unfold KH BC at *
 cases ao<;>cases wo<;>cases bo<;>exact h
theorem Pf {e e':TypeId} {sz sz':Nat} {v u:Value} {n m:Nat} {xs ys:List Value} (h:Own w e sz v n xs) (h2:Own w e' sz' u m ys) (hne:e≠e'):∀k,BC v k→¬BC u k:=fun k hk hu=>by
 unfold BC at hk hu
 rcases Own.apart h h2 hne with h3|h3
 · rw[hk] at h3;cases h3
 · exact h3 (hk.trans hu.symm)
end
theorem ACR (seed:List Nat) (hse:Dg seed) (x:V) (n:Int) (b:Bool) (ca:Int) (d0 d1 d2:Int) (w:World) :
   Calls Tryz.prog 4 #[AQ seed,JO x n b ca,.agg #[.int .i64 d0,.int .i64 d1,.int .i64 d2]] w fun e w'=>e=.returned (.bool true)∧w.grownBy w' none:=by
 obtain⟨vx,hvx⟩:∃v,V6 seed=v:=⟨_,rfl⟩
 have hvd:Dg vx.2.1∧Dg vx.2.2:=hvx▸AM6 seed
 have hvv:Co vx.1=true:=hvx▸ZL seed
 obtain⟨r,hres⟩:∃r,Wm vx.1 x n b ca=r:=⟨_,rfl⟩
 have hz:=(AGO seed x n b ca).2.1
 have hbl:=AGQ seed x n b ca
 rw[hvx,hres] at hz hbl
 obtain⟨kk,hkk,hk32⟩:=AM9 d1
 obtain⟨u1,hu1⟩:∃u,IntKind.u64.wrap d1=u:=⟨_,rfl⟩
 rw[hu1] at hk32
 obtain⟨c0,hc4,hc0⟩:=AM8 d0
 obtain⟨mm,hmm,hm8⟩:=ANA d2
 obtain⟨jj,hjj,hjr⟩:=ANn kk hbl
 obtain⟨e2,he2⟩:∃e,bits .and .i64 d2 255=e:=⟨_,rfl⟩
 obtain⟨A2,hA2⟩:∃e,bits .xor .i64 r.1.addr e2=e:=⟨_,rfl⟩
 refine BV Tryz.func4 rfl Tryz.ntmps4 rfl fun a0 sv0=>?_
 have HG:=World.grownBy.refl w none
 replace sv0:Sv 124 [] [(0,AQ seed),(1,JO x n b ca),(2,.agg #[.int .i64 d0,.int .i64 d1,.int .i64 d2])] a0:=sv0
 refine AOQ fun K1 k1=>?_
 refine AOP ?_
 refine Bi sv0 r6 (Bb seed hse.1) fun a2 w2 I8 Ki g2 z2 An sv2=>?_
 refine Bi sv2 r6 (AGM x n b ca) fun a3 w3 KR RX g3 z3 Bc sv3=>?_
 refine Bi sv3 r6 (ANm d0 d1 d2) fun a4 w4 KS AEY g4 z4 CS sv4=>?_
 replace An:=AC g4 (AC g3 An)
 replace Bc:=AC g4 Bc
 replace HG:=AA (AA (AA HG g2) g3) g4
 refine AS (v:=.bool false) sv4 r6 fun a5 sv5=>?_
 refine AD ?_
 refine k1 _ _ ?_
 refine AOQ fun K6 k6=>?_
 refine AOQ fun K7 k7=>?_
 by_cases hsm:x.text.size≤100
 · refine AOP ?_
   refine AH sv5 4 [(15,pt KR),(16,Br x),(17,.bool true),(18,.bool false)]
    ⟨yf r6 (fun _=>by kernel_rfl),yp (i:=0) r6 (C6 x) Bc rfl rfl,Ag [Br x] Tryz.func12 (by kernel_rfl) rq4 ⟨(oy rfl rfl),AOW⟩ (A1 fun W g=>(AE0 x W).mono fun e w' ⟨h1,h2⟩=>⟨by rw[h1,decide_eq_true hsm],h2⟩),C7 r6 (fun _=>Bf),AOW⟩ fun a8 w8 g8 sv8=>?_
   refine AD ?_
   refine k7 _ _ ?_
   refine Au sv8 rfl rfl ?_
   refine AOU ?_
   refine k6 _ _ ?_
   refine AOQ fun K9 k9=>?_
   refine AOP ?_
   replace An:=AC g8 An
   refine JX (sv8.st w8) 2 [(20,Sp.is (AQ seed)),(21,Sp.vv vx (fun _=>False))] rfl (by kernel_rfl) (by kernel_rfl) (by kernel_rfl)
    ⟨yl r6 (Bb seed hse.1) An,Ag [AQ seed] Tryz.func14 (by kernel_rfl) rq4 ⟨(oy rfl rfl),AOW⟩ (hvx▸AIr hse),AOW⟩ fun a10 w10 g10 st10=>?_
   obtain⟨hn10,hd10,e10_20,e10_21,e10_15,e10_16,e10_17,e10_18,e10_6,e10_5,e10_4,e10_3,e10_0,e10_1,e10_2,-⟩:=st10
   obtain⟨ao11,cap11,ks11,e10_21q,hp11,hk11,hf11⟩:=e10_21
   replace An:=AC g10 An
   replace Bc:=AC g10 (AC g8 Bc)
   replace CS:=AC g10 (AC g8 CS)
   replace HG:=AA (AA HG g8) g10
   have Bt:Sv 124 [] [(15,_),(16,_),(17,_),(18,_),(6,_),(5,_),(4,_),(3,_),(0,_),(1,_),(2,_),(21,_)] a10:=⟨hn10,hd10,e10_15,e10_16,e10_17,e10_18,e10_6,e10_5,e10_4,e10_3,e10_0,e10_1,e10_2,e10_21q,AOW⟩
   refine A9 (T:=36) (Z:=([bv AR,bv AR,[.slice none 0 0]].flatten)) Bt rfl rfl rfl (fun a w=>by kernel_rfl) fun a12 w12 NH NI g12 z12 DV DF=>?_
   have Vu:=Ao An NI
   have Vv:=Ao Bc NI
   have Vw:=Ao CS NI
   have AIt:=Bq HG NI
   have Vx:=Aw (hk11.lt) NI
   refine Aq DF r7 (B6 hvd.1 hvd.2 (.slice ao11 ks11.length cap11) rfl) DV (by first|rfl|simp[Ar,AO,Af,hvd.1.1,hvd.2.1]) fun w13 g13 h13=>?_
   replace An:=Aa g13 (AC g12 An) (Ne.symm Vu)
   replace Bc:=Aa g13 (AC g12 Bc) (Ne.symm Vv)
   replace CS:=Aa g13 (AC g12 CS) (Ne.symm Vw)
   replace hk11:=(hk11.kn g12).offR g13 (AP Vx)
   replace HG:=AE (AA HG g12) g13 AIt
   replace DV:=h13
   refine AD ?_
   refine k9 _ _ ?_
   refine AOQ fun K14 k14=>?_
   refine DP (DF.st w13) (by kernel_rfl) 15 [(23,Sp.is (Ay vx.2.1 vx.2.2 (.slice ao11 ks11.length cap11))),(24,Sp.is (pk KR 3)),(25,Sp.is (.int .i64 n)),(26,Sp.row w13.heap.size 23 32 (Gb n 6).length ((Gb n 6).flatMap Ja)),(27,Sp.is (JO x n b ca)),(28,Sp.is (.int .i64 ((jt b)))),(29,Sp.is (JO x n b ca)),(30,Sp.is (.int .i64 ((Yz ca)))),(31,Sp.is (pt KR)),(32,Sp.is (Br x)),(33,Sp.sr w13.heap.size r),(22,Sp.sr w13.heap.size r),(34,Sp.sl w13.heap.size r.1),(35,Sp.is (.int .i64 r.2)),(8,Sp.new w13.heap.size (([[.int .i64 0],[.slice none 0 0],[.int .i64 0],[.slice none 0 0],[.slice none 0 0],bv AR].flatten)) 31)] rfl (by kernel_rfl) (by kernel_rfl) (by kernel_rfl) [13] (by kernel_rfl)
    ⟨yl r6 (B6 hvd.1 hvd.2 (.slice ao11 ks11.length cap11) rfl) DV,yf r6 (fun _=>by kernel_rfl),yp (i:=1) r6 (DE n) Bc rfl rfl,Ag [.int .i64 n] Tryz.func17 (by kernel_rfl) rq4 ⟨(oy rfl rfl),AOW⟩ (fun W g=>ALx n g),yl r6 (AGM x n b ca) Bc,Ag [JO x n b ca] Tryz.func18 (by kernel_rfl) rq4 ⟨(oy rfl rfl),AOW⟩ (A1 fun W g=>ADq x n b ca W),yl r6 (AGM x n b ca) Bc,Ag [JO x n b ca] Tryz.func19 (by kernel_rfl) rq4 ⟨(oy rfl rfl),AOW⟩ (A1 fun W g=>AGN x n b ca W),yf r6 (fun _=>by kernel_rfl),yp (i:=0) r6 (C6 x) Bc rfl rfl,AAK (Sp.sr w13.heap.size r) rfl rfl trivial rfl (fun W g av h=>match av,h with|[_,_,_,_,_],⟨rfl,hv,rfl,rfl,rfl,_⟩=>AKL hvd.1 hvd.2 (hk11.kn g) hp11 (AM2 hv) (Nat.le_trans (Rh n 6) (by decide)) g.size hres) (fun _ _ h=>h) (Ho Tryz.func16 (by kernel_rfl) rfl),ym r5,Bh rq4 (fun w u h=>AIc w u h),Bh rq4 (fun w u h=>QF w u h),Ju rfl trivial (Nat.le_refl _) (fun a w=>by kernel_rfl) (fun _ _ h=>h),AOW⟩ ⟨fun o ho=>by obtain rfl:=Option.some.inj ho;exact HH rfl rfl rfl trivial (fun w u h=>QF w u h),AOW⟩
    [8] (by kernel_rfl) ⟨Sp.new_lt,AOW⟩ ⟨.inl rfl,.inl rfl,.inl rfl,.inl rfl,.inl rfl,.inl rfl,.inl rfl,.inl rfl,.inl rfl,.inl rfl,.inl rfl,.inl rfl,.inl rfl,.inl rfl,.inr ⟨rfl,(([[.int .i64 0],[.slice none 0 0],[.int .i64 0],[.slice none 0 0],[.slice none 0 0],bv AR].flatten)).toArray,31,fun a w=>by kernel_rfl⟩,AOW⟩ (by kernel_rfl) fun a15 w15 g15 st15 nd15=>?_
   obtain⟨hn15,hd15,e15_23,e15_24,e15_25,e15_26,e15_27,e15_28,e15_29,e15_30,e15_31,e15_32,e15_33,e15_22,e15_34,e15_35,e15_8,e15_7,e15_15,e15_16,e15_17,e15_18,e15_6,e15_5,e15_4,e15_3,e15_0,e15_1,e15_2,e15_21,-⟩:=st15
   obtain⟨own16,wr16,ao16,wo16,bo16,ac16,wc16,bc16,e15_34q,hF,fr16⟩:=e15_34
   obtain⟨Fm,e15_8q,Lm,CB⟩:=e15_8
   have LH:=Fu An Lm
   have LJ:=Fu Bc Lm
   have LK:=Fu CS Lm
   have KN:=Fu DV Lm
   have T9:=QR HG Lm
   have LL:=GO (hk11.lt) Lm
   have DK:=Cj fr16 An
   have DL:=Cj fr16 Bc
   have DM:=Cj fr16 CS
   have Cs:=Cj fr16 DV
   have ap_hk11_hF:=AHK (hk11.lt) fr16
   have lo_hF:=IM HG fr16
   have CO:=SdF.ap hF CB (by decide)
   have Fp:Sv 124 [] [(7,_),(15,_),(16,_),(17,_),(18,_),(6,_),(5,_),(4,_),(3,_),(0,_),(1,_),(2,_),(21,_),(34,_),(35,_),(8,_)] a15:=⟨hn15,hd15,e15_7,e15_15,e15_16,e15_17,e15_18,e15_6,e15_5,e15_4,e15_3,e15_0,e15_1,e15_2,e15_21,e15_34q,e15_35,e15_8q,AOW⟩
   refine Aq Fp r7 (Dh _ _ hF.tg (.slice ao16 (List.length own16) ac16) (.slice wo16 (List.length wr16) wc16) (.slice bo16 r.1.body.length bc16) rfl rfl rfl) CB (EG AU hF.tg) fun w17 g17 h17=>?_
   refine AS (v:=.int .i64 r.2) Fp r6 fun a18 CY=>?_
   refine AD ?_
   refine k14 _ _ ?_
   refine AOQ fun K19 k19=>?_
   refine AOQ fun K20 k20=>?_
   refine AOP ?_
   refine AH CY 2 [(36,.int .i64 r.2),(37,.bool false)]
    ⟨ym r5,Ce r6 (fun _=>Dy (by rw[hz];rfl)),AOW⟩ fun a21 w21 g21 Dl=>?_
   refine AD ?_
   refine k20 _ _ ?_
   refine Au Dl rfl rfl ?_
   refine AOU ?_
   refine k19 _ _ ?_
   refine AOQ fun K22 k22=>?_
   refine AOP ?_
   replace CS:=AC g21 (Aa g17 (AC g15 CS) (Ne.symm LK))
   refine AH Dl 5 [(38,pk KS 1),(39,.int .i64 d1),(40,.int .u64 u1),(41,.int .u64 ((kk:Int))),(42,.int .i64 ((kk:Int)))]
    ⟨Cf rfl rfl trivial (oy rfl rfl) rfl (fun w=>AGP (j:=1) (by decide) w) (fun _=>rfl),yp (i:=1) r6 (DE d1) CS rfl rfl,Hu r6 (fun _=>Hv Tryz.underlying3 Tryz.underlying48 hu1),Ce r6 (fun _=>AHQ (by decide) hk32),Hu r6 (fun _=>Hv Tryz.underlying48 Tryz.underlying3 (BT (by omega) (by omega))),AOW⟩ fun a23 w23 g23 Cc=>?_
   refine AS (v:=.int .i64 ((kk:Int))) Cc r6 fun a24 EN=>?_
   have DR:Sv _ _ [_,_,_,_,_,_,_,_,_,_,_,_,_,_,_,_,_,_,_,_] _:=EN.dl [38,39,40,41,42]
   refine AD ?_
   refine k22 _ _ ?_
   refine AOQ fun K26 k26=>?_
   refine AOQ fun K27 k27=>?_
   refine AOP ?_
   replace CS:=AC g23 CS
   refine AH DR 3 [(43,pt KS),(44,.int .i64 d0),(45,.int .i64 ((c0:Int)))]
    ⟨Cf rfl rfl trivial (oy rfl rfl) rfl (fun w=>AGP (j:=0) (by decide) w) (fun _=>rfl),yp (i:=0) r6 (DE d0) CS rfl rfl,Ce r6 (fun _=>R7 hc0),AOW⟩ fun a28 w28 g28 Dm=>?_
   refine AD ?_
   refine k27 _ _ ?_
   replace An:=AC g28 (AC g23 (AC g21 (Aa g17 (AC g15 An) (Ne.symm LH))))
   replace Bc:=AC g28 (AC g23 (AC g21 (Aa g17 (AC g15 Bc) (Ne.symm LJ))))
   replace CS:=AC g28 CS
   replace DV:=AC g28 (AC g23 (AC g21 (Aa g17 (AC g15 DV) (Ne.symm KN))))
   replace CB:=AC g28 (AC g23 (AC g21 h17))
   replace hk11:=((((hk11.kn g15).offR g17 (AP LL)).kn g21).kn g23).kn g28
   replace hF:=(((hF.offR g17 (AP CO)).kn g21).kn g23).kn g28
   replace HG:=AA (AA (AA (AE (AA HG g15) g17 T9) g21) g23) g28
   suffices MB29:∀(a:Act) (w':World),(∃(S:Sd) (ownZ:List DD) (wrZ:List DD) (aoZ:Option Addr) (woZ:Option Addr) (boZ:Option Addr) (acZ:Nat) (wcZ:Nat) (bcZ:Nat),Sv 124 [] [(43,pt KS),(44,.int .i64 d0),(45,.int .i64 ((c0:Int))),(10,.int .i64 ((kk:Int))),(36,.int .i64 r.2),(37,.bool false),(9,.int .i64 r.2),(7,pt NH),(15,pt KR),(16,Br x),(17,.bool true),(18,.bool false),(6,.bool false),(5,pt KS),(4,pt KR),(3,pt I8),(0,AQ seed),(1,JO x n b ca),(2,.agg #[.int .i64 d0,.int .i64 d1,.int .i64 d2]),(21,Ay vx.2.1 vx.2.2 (.slice ao11 ks11.length cap11)),(34,Bv r.1.addr (.slice ao16 (List.length own16) ac16) r.1.joint (.slice wo16 (List.length wr16) wc16) (.slice bo16 r.1.body.length bc16) r.1.tag),(35,.int .i64 r.2),(8,pt Fm)] a∧w.grownBy w' none∧w'.heap[I8]?=some (.cells (bv seed).toArray 23 (0,0))∧w'.heap[KR]?=some (.cells ([vc x,[.int .i64 n],[.bool b],[.int .i64 ca]].flatten).toArray 27 (0,0))∧w'.heap[KS]?=some (.cells ([[.int .i64 d0],[.int .i64 d1],[.int .i64 d2]].flatten).toArray 47 (0,0))∧w'.heap[NH]?=some (.cells ([bv vx.2.1,bv vx.2.2,[.slice ao11 ks11.length cap11]].flatten).toArray 36 (0,0))∧w'.heap[Fm]?=some (.cells ([[.int .i64 S.addr],[.slice aoZ (List.length ownZ) acZ],[.int .i64 S.joint],[.slice woZ (List.length wrZ) wcZ],[.slice boZ S.body.length bcZ],bv S.tag].flatten).toArray 31 (0,0))∧RdK w' (.slice ao11 ks11.length cap11) ks11∧SdF w' S ownZ wrZ aoZ woZ boZ acZ wcZ bcZ∧(∀k,KH (.slice aoZ (List.length ownZ) acZ) (.slice woZ (List.length wrZ) wcZ) (.slice boZ S.body.length bcZ) k→k≠I8)∧(∀k,KH (.slice aoZ (List.length ownZ) acZ) (.slice woZ (List.length wrZ) wcZ) (.slice boZ S.body.length bcZ) k→k≠KR)∧(∀k,KH (.slice aoZ (List.length ownZ) acZ) (.slice woZ (List.length wrZ) wcZ) (.slice boZ S.body.length bcZ) k→k≠KS)∧(∀k,KH (.slice aoZ (List.length ownZ) acZ) (.slice woZ (List.length wrZ) wcZ) (.slice boZ S.body.length bcZ) k→k≠NH)∧(∀k,KH (.slice aoZ (List.length ownZ) acZ) (.slice woZ (List.length wrZ) wcZ) (.slice boZ S.body.length bcZ) k→k≠Fm))→K26 a w' by
    refine BH fun Q30 x30 y30 rt30 o30=>?_
    refine AOQ fun K31 k31=>?_
    rcases(show c0=0∨c0=1∨c0=2∨(c0=3∧r.1.wr.length=0)∨(c0=3∧0<r.1.wr.length) by omega) with hc|hc|hc|⟨hc,hwz⟩|⟨hc,hwz⟩
    · obtain⟨hm1,hm2,ow,ww,bw,dow,dtg,dby⟩:=hF
      rw[M1] at bw
      have ADy:∀k,BC (.slice ao16 (List.length own16) ac16) k→k≠I8:=fun k hk=>DK k (.inl hk)
      have ADz:∀k,BC (.slice ao16 (List.length own16) ac16) k→k≠KR:=fun k hk=>DL k (.inl hk)
      have AD0:∀k,BC (.slice ao16 (List.length own16) ac16) k→k≠KS:=fun k hk=>DM k (.inl hk)
      have ACL:∀k,BC (.slice ao16 (List.length own16) ac16) k→k≠NH:=fun k hk=>Cs k (.inl hk)
      have ACM:∀k,BC (.slice ao16 (List.length own16) ac16) k→k≠Fm:=fun k hk=>CO k (.inl hk)
      have ap_hk11_ow:∀k,KO (.slice ao11 ks11.length cap11) ks11 k→¬BC (.slice ao16 (List.length own16) ac16) k:=fun k hk h=>ap_hk11_hF k hk (.inl h)
      have lo_ow:∀k,BC (.slice ao16 (List.length own16) ac16) k→w.heap.size≤k:=fun k hk=>lo_hF k (.inl hk)
      have UA:∀k,BC (.slice wo16 (List.length wr16) wc16) k→k≠I8:=fun k hk=>DK k (.inr (.inl hk))
      have UB:∀k,BC (.slice wo16 (List.length wr16) wc16) k→k≠KR:=fun k hk=>DL k (.inr (.inl hk))
      have UC:∀k,BC (.slice wo16 (List.length wr16) wc16) k→k≠KS:=fun k hk=>DM k (.inr (.inl hk))
      have Qi:∀k,BC (.slice wo16 (List.length wr16) wc16) k→k≠NH:=fun k hk=>Cs k (.inr (.inl hk))
      have Qj:∀k,BC (.slice wo16 (List.length wr16) wc16) k→k≠Fm:=fun k hk=>CO k (.inr (.inl hk))
      have ap_hk11_ww:∀k,KO (.slice ao11 ks11.length cap11) ks11 k→¬BC (.slice wo16 (List.length wr16) wc16) k:=fun k hk h=>ap_hk11_hF k hk (.inr (.inl h))
      have lo_ww:∀k,BC (.slice wo16 (List.length wr16) wc16) k→w.heap.size≤k:=fun k hk=>lo_hF k (.inr (.inl hk))
      have UD:∀k,BC (.slice bo16 r.1.body.length bc16) k→k≠I8:=fun k hk=>DK k (.inr (.inr hk))
      have UE:∀k,BC (.slice bo16 r.1.body.length bc16) k→k≠KR:=fun k hk=>DL k (.inr (.inr hk))
      have UF:∀k,BC (.slice bo16 r.1.body.length bc16) k→k≠KS:=fun k hk=>DM k (.inr (.inr hk))
      have Qk:∀k,BC (.slice bo16 r.1.body.length bc16) k→k≠NH:=fun k hk=>Cs k (.inr (.inr hk))
      have Ql:∀k,BC (.slice bo16 r.1.body.length bc16) k→k≠Fm:=fun k hk=>CO k (.inr (.inr hk))
      have ap_hk11_bw:∀k,KO (.slice ao11 ks11.length cap11) ks11 k→¬BC (.slice bo16 r.1.body.length bc16) k:=fun k hk h=>ap_hk11_hF k hk (.inr (.inr h))
      have lo_bw:∀k,BC (.slice bo16 r.1.body.length bc16) k→w.heap.size≤k:=fun k hk=>lo_hF k (.inr (.inr hk))
      have ap_ow_ww:∀k,BC (.slice ao16 (List.length own16) ac16) k→¬BC (.slice wo16 (List.length wr16) wc16) k:=dow
      have ap_ow_bw:=Pf ow bw (by decide)
      have ap_ww_bw:=Pf ww bw (by decide)
      have ap_bw_ww:=Pf bw ww (by decide)
      obtain⟨xy,hx_xy⟩:∃zx,r.1.body[jj]'hjj=zx:=⟨_,rfl⟩
      have bxy:xy<256:=dby _ (hx_xy▸List.getElem_mem hjj)
      refine AOP ?_
      refine AH Dm 1 [(47,.bool true)]
       ⟨Ce r6 (fun _=>BM (by rw[hc];rfl)),AOW⟩ fun a32 w32 g32 Cu=>?_
      refine AS (v:=.bool true) Cu r6 fun a33 FS=>?_
      refine AD ?_
      refine k31 _ _ ?_
      refine Am FS rfl rfl ?_
      replace CS:=AC g32 CS
      replace CB:=AC g32 CB
      replace bw:=bw.kn g32
      refine DP (FS.st w32) (by kernel_rfl) 14 [(48,Sp.is (pk Fm 4)),(49,Sp.is (.slice bo16 r.1.body.length bc16)),(50,Sp.is (.int .i64 ((kk:Int)))),(51,Sp.is (pk Fm 4)),(52,Sp.is (.slice bo16 r.1.body.length bc16)),(53,Sp.is (.int .i64 ((r.1.body.length:Nat)))),(54,Sp.is (.int .i64 ((jj:Int)))),(55,Sp.is (pk ((bO bo16)) (oO bo16+jj*1))),(56,Sp.is (.int .u8 ((xy:Int)))),(57,Sp.is (pk KS 2)),(58,Sp.is (.int .i64 d2)),(59,Sp.is (.int .u8 ((mm:Int)))),(60,Sp.is (.int .u8 (((xy ^^^ mm:Nat):Int)))),(61,Sp.is (pk ((bO bo16)) (oO bo16+jj*1)))] rfl (by kernel_rfl) (by kernel_rfl) (by kernel_rfl) [] (by kernel_rfl)
       ⟨yf r6 (fun _=>by kernel_rfl),yp (i:=4) r6 (D5 (.slice bo16 r.1.body.length bc16) rfl) CB rfl rfl,ym r5,yf r6 (fun _=>by kernel_rfl),yp (i:=4) r6 (D5 (.slice bo16 r.1.body.length bc16) rfl) CB rfl rfl,BJ (Tryz.underlying29) rfl rfl trivial (oy rfl rfl) (fun _=>rfl),Fg r7 (fun _=>AHQ (by omega) hjr),BD rq8 (fun w=>CF Tryz.underlying29 (by kernel_rfl) ((Sl.of_own bw)) (by omega) (rfl) w),Bj r6 (fun _ g=>Ad (tyB (xy:Int)) (by have:=CW (Sl.of_own (bw.kn g)) Sg hjj (by decide);rw[hx_xy] at this;exact this)),Cf rfl rfl trivial (oy rfl rfl) rfl (fun w=>AGP (j:=2) (by decide) w) (fun _=>rfl),yp (i:=2) r6 (DE d2) CS rfl rfl,Hu r6 (fun _=>Hv Tryz.underlying3 Tryz.underlying5 hm8),Fg r7 (fun _=>MJ bxy hmm),BD rq8 (fun w=>CF Tryz.underlying29 (by kernel_rfl) ((Sl.of_own bw)) (by omega) (rfl) w),AOW⟩ trivial
       [] (by kernel_rfl) trivial ⟨.inl rfl,.inl rfl,.inl rfl,.inl rfl,.inl rfl,.inl rfl,.inl rfl,.inl rfl,.inl rfl,.inl rfl,.inl rfl,.inl rfl,.inl rfl,.inl rfl,AOW⟩ (by kernel_rfl) fun a34 w34 g34 st34 nd34=>?_
      obtain⟨hn34,hd34,e34_48,e34_49,e34_50,e34_51,e34_52,e34_53,e34_54,e34_55,e34_56,e34_57,e34_58,e34_59,e34_60,e34_61,e34_46,e34_47,e34_43,e34_44,e34_45,e34_10,e34_36,e34_37,e34_9,e34_7,e34_15,e34_16,e34_17,e34_18,e34_6,e34_5,e34_4,e34_3,e34_0,e34_1,e34_2,e34_21,e34_34,e34_35,e34_8,-⟩:=st34
      have DW:Sv 124 [] [(46,_),(47,_),(43,_),(44,_),(45,_),(10,_),(36,_),(37,_),(9,_),(7,_),(15,_),(16,_),(17,_),(18,_),(6,_),(5,_),(4,_),(3,_),(0,_),(1,_),(2,_),(21,_),(34,_),(35,_),(8,_),(60,_),(61,_)] a34:=⟨hn34,hd34,e34_46,e34_47,e34_43,e34_44,e34_45,e34_10,e34_36,e34_37,e34_9,e34_7,e34_15,e34_16,e34_17,e34_18,e34_6,e34_5,e34_4,e34_3,e34_0,e34_1,e34_2,e34_21,e34_34,e34_35,e34_8,e34_60,e34_61,AOW⟩
      replace bw:=bw.kn g34
      refine Jt (c:=cb) (el:=(xy ^^^ mm)) DW rfl rfl rfl rfl rfl rfl rfl (tyB (((xy ^^^ mm:Nat):Int))) bw Sg (by decide) (by first|omega|(simp only[List.length_set];omega)) rfl fun w35 g35 h35=>?_
      replace An:=AF g35 (AC g34 (AC g32 An)) (fun e=>UD _ (CX (j:=jj) bw (by omega) rfl) (Option.some.inj e).symm)
      replace Bc:=AF g35 (AC g34 (AC g32 Bc)) (fun e=>UE _ (CX (j:=jj) bw (by omega) rfl) (Option.some.inj e).symm)
      replace CS:=AF g35 (AC g34 CS) (fun e=>UF _ (CX (j:=jj) bw (by omega) rfl) (Option.some.inj e).symm)
      replace DV:=AF g35 (AC g34 (AC g32 DV)) (fun e=>Qk _ (CX (j:=jj) bw (by omega) rfl) (Option.some.inj e).symm)
      replace CB:=AF g35 (AC g34 CB) (fun e=>Ql _ (CX (j:=jj) bw (by omega) rfl) (Option.some.inj e).symm)
      replace hk11:=((hk11.kn g32).kn g34).offR g35 (fun k hk e=>ap_hk11_bw k hk (CX (j:=jj) bw (by omega) e))
      replace ow:=((ow.kn g32).kn g34).offR g35 (fun k hk e=>ap_ow_bw k hk (CX (j:=jj) bw (by omega) e))
      replace ww:=((ww.kn g32).kn g34).offR g35 (fun k hk e=>ap_ww_bw k hk (CX (j:=jj) bw (by omega) e))
      replace HG:=Bu (AA (AA HG g32) g34) g35 fun k e=>lo_bw k (CX (j:=jj) bw (by omega) e)
      replace bw:=h35
      refine AD ?_
      refine y30 _ _ ?_
      have hF:=SdF.mkB (s:=r.1) hm1 hm2 ow ww bw (by rw[List.length_set]) dow dtg (AL2 dby (NG bxy hmm))
      replace CB:w35.heap[Fm]?=some (Obj.cells (([[.int .i64 r.1.addr],[.slice ao16 (List.length own16) ac16],[.int .i64 r.1.joint],[.slice wo16 (List.length wr16) wc16],[.slice bo16 (r.1.body.set jj (xy ^^^ mm)).length bc16],bv r.1.tag]:List (List Value)).flatten).toArray 31 (0,0)):=by rw[List.length_set];exact CB
      replace DK:∀k,KH (.slice ao16 (List.length own16) ac16) (.slice wo16 (List.length wr16) wc16) (.slice bo16 (r.1.body.set jj (xy ^^^ mm)).length bc16) k→k≠I8:=fun k hk=>DK k (Gu hk)
      replace DL:∀k,KH (.slice ao16 (List.length own16) ac16) (.slice wo16 (List.length wr16) wc16) (.slice bo16 (r.1.body.set jj (xy ^^^ mm)).length bc16) k→k≠KR:=fun k hk=>DL k (Gu hk)
      replace DM:∀k,KH (.slice ao16 (List.length own16) ac16) (.slice wo16 (List.length wr16) wc16) (.slice bo16 (r.1.body.set jj (xy ^^^ mm)).length bc16) k→k≠KS:=fun k hk=>DM k (Gu hk)
      replace Cs:∀k,KH (.slice ao16 (List.length own16) ac16) (.slice wo16 (List.length wr16) wc16) (.slice bo16 (r.1.body.set jj (xy ^^^ mm)).length bc16) k→k≠NH:=fun k hk=>Cs k (Gu hk)
      replace CO:∀k,KH (.slice ao16 (List.length own16) ac16) (.slice wo16 (List.length wr16) wc16) (.slice bo16 (r.1.body.set jj (xy ^^^ mm)).length bc16) k→k≠Fm:=fun k hk=>CO k (Gu hk)
      exact MB29 _ _ ⟨⟨r.1.addr,r.1.own,r.1.joint,r.1.wr,r.1.body.set jj (xy ^^^ mm),r.1.tag⟩,own16,wr16,ao16,wo16,bo16,ac16,wc16,bc16,⟨DW.1,DW.2.1,DW.2.2.2.2.1,DW.2.2.2.2.2.1,DW.2.2.2.2.2.2.1,DW.2.2.2.2.2.2.2.1,(AG DW).1,(AG DW).2.1,(AG DW).2.2.1,(AG DW).2.2.2.1,(AG DW).2.2.2.2.1,(AG DW).2.2.2.2.2.1,(AG DW).2.2.2.2.2.2.1,(AG DW).2.2.2.2.2.2.2.1,(AG (AG DW)).1,(AG (AG DW)).2.1,(AG (AG DW)).2.2.1,(AG (AG DW)).2.2.2.1,(AG (AG DW)).2.2.2.2.1,(AG (AG DW)).2.2.2.2.2.1,(AG (AG DW)).2.2.2.2.2.2.1,(AG (AG DW)).2.2.2.2.2.2.2.1,(AG (AG (AG DW))).1,(AG (AG (AG DW))).2.1,(AG (AG (AG DW))).2.2.1,AOW⟩,HG,An,Bc,CS,DV,CB,hk11,hF,DK,DL,DM,Cs,CO⟩
    · obtain⟨xt,hxt⟩:∃a,r.1.tag[kk]?=some a:=⟨_,List.getElem?_eq_getElem (by rw[hF.tg.1];exact hkk)⟩
      have bxt:xt<256:=hF.tg.2 _ (List.mem_of_getElem? hxt)
      have htd:Dg (r.1.tag.set kk (xt ^^^ mm)):=LG hF.tg (NG bxt hmm)
      have hk5:kk<r.1.tag.length:=by rw[hF.tg.1];exact hkk
      refine AOP ?_
      refine AH Dm 1 [(47,.bool false)]
       ⟨Ce r6 (fun _=>BM (by rw[hc];rfl)),AOW⟩ fun a36 w36 g36 GC=>?_
      refine AS (v:=.bool false) GC r6 fun a37 Gi=>?_
      refine AD ?_
      refine k31 _ _ ?_
      refine Au Gi rfl rfl ?_
      refine AOQ fun K38 k38=>?_
      refine AOP ?_
      refine AH Gi 1 [(63,.bool true)]
       ⟨Ce r6 (fun _=>BM (by rw[hc];rfl)),AOW⟩ fun a39 w39 g39 JY=>?_
      have Me:=AA g36 g39
      refine AS (v:=.bool true) JY r6 fun a40 I7=>?_
      refine AD ?_
      refine k38 _ _ ?_
      refine Am I7 rfl rfl ?_
      replace CS:=AC Me CS
      replace CB:=AC Me CB
      refine DP (I7.st w39) (by kernel_rfl) 10 [(64,Sp.is (.int .i64 ((kk:Int)))),(65,Sp.is (pk Fm 5)),(66,Sp.is (pk Fm (5+kk))),(67,Sp.is (.int .u8 ((xt:Int)))),(68,Sp.is (pk KS 2)),(69,Sp.is (.int .i64 d2)),(70,Sp.is (.int .u8 ((mm:Int)))),(71,Sp.is (.int .u8 (((xt ^^^ mm:Nat):Int)))),(72,Sp.is (pk Fm 5)),(73,Sp.is (pk Fm (5+kk)))] rfl (by kernel_rfl) (by kernel_rfl) (by kernel_rfl) [] (by kernel_rfl)
       ⟨ym r5,yf r6 (fun _=>by kernel_rfl),BD rq8 (fun w=>Ri hkk w),Bj r6 (fun _ g=>Ad (OI (xt:Int)) (FQ (BB (L:=[[.int .i64 r.1.addr],[.slice ao16 (List.length own16) ac16],[.int .i64 r.1.joint],[.slice wo16 (List.length wr16) wc16],[.slice bo16 r.1.body.length bc16],bv r.1.tag]) (i:=5) (AF g CB (by simp)) rfl rfl) hxt)),Cf rfl rfl trivial (oy rfl rfl) rfl (fun w=>AGP (j:=2) (by decide) w) (fun _=>rfl),yp (i:=2) r6 (DE d2) CS rfl rfl,Hu r6 (fun _=>Hv Tryz.underlying3 Tryz.underlying5 hm8),Fg r7 (fun _=>MJ bxt hmm),yf r6 (fun _=>by kernel_rfl),BD rq8 (fun w=>Ri hkk w),AOW⟩ trivial
       [] (by kernel_rfl) trivial ⟨.inl rfl,.inl rfl,.inl rfl,.inl rfl,.inl rfl,.inl rfl,.inl rfl,.inl rfl,.inl rfl,.inl rfl,AOW⟩ (by kernel_rfl) fun a41 w41 g41 st41 nd41=>?_
      obtain⟨hn41,hd41,e41_64,e41_65,e41_66,e41_67,e41_68,e41_69,e41_70,e41_71,e41_72,e41_73,e41_62,e41_63,e41_46,e41_47,e41_43,e41_44,e41_45,e41_10,e41_36,e41_37,e41_9,e41_7,e41_15,e41_16,e41_17,e41_18,e41_6,e41_5,e41_4,e41_3,e41_0,e41_1,e41_2,e41_21,e41_34,e41_35,e41_8,-⟩:=st41
      have Eu:Sv 124 [] [(62,_),(63,_),(46,_),(47,_),(43,_),(44,_),(45,_),(10,_),(36,_),(37,_),(9,_),(7,_),(15,_),(16,_),(17,_),(18,_),(6,_),(5,_),(4,_),(3,_),(0,_),(1,_),(2,_),(21,_),(34,_),(35,_),(8,_),(71,_),(73,_)] a41:=⟨hn41,hd41,e41_62,e41_63,e41_46,e41_47,e41_43,e41_44,e41_45,e41_10,e41_36,e41_37,e41_9,e41_7,e41_15,e41_16,e41_17,e41_18,e41_6,e41_5,e41_4,e41_3,e41_0,e41_1,e41_2,e41_21,e41_34,e41_35,e41_8,e41_71,e41_73,AOW⟩
      replace CB:=AC g41 CB
      refine AGR Eu rfl rfl rfl rfl rfl rfl rfl (OI _) CB hk5 fun w42 g42 h42=>?_
      replace An:=Aa g42 (AC g41 (AC Me An)) (Ne.symm LH)
      replace Bc:=Aa g42 (AC g41 (AC Me Bc)) (Ne.symm LJ)
      replace CS:=Aa g42 (AC g41 CS) (Ne.symm LK)
      replace DV:=Aa g42 (AC g41 (AC Me DV)) (Ne.symm KN)
      replace hk11:=((hk11.kn Me).kn g41).offR g42 (AP LL)
      replace HG:=AE (AA (AA HG Me) g41) g42 T9
      replace CB:=h42
      refine AD ?_
      refine y30 _ _ ?_
      replace hF:=(((hF.kn Me).kn g41).offR g42 (AP CO)).tagged htd
      exact MB29 _ _ ⟨⟨r.1.addr,r.1.own,r.1.joint,r.1.wr,r.1.body,r.1.tag.set kk (xt ^^^ mm)⟩,own16,wr16,ao16,wo16,bo16,ac16,wc16,bc16,⟨Eu.1,Eu.2.1,Eu.2.2.2.2.2.2.1,Eu.2.2.2.2.2.2.2.1,(AG Eu).1,(AG Eu).2.1,(AG Eu).2.2.1,(AG Eu).2.2.2.1,(AG Eu).2.2.2.2.1,(AG Eu).2.2.2.2.2.1,(AG Eu).2.2.2.2.2.2.1,(AG Eu).2.2.2.2.2.2.2.1,(AG (AG Eu)).1,(AG (AG Eu)).2.1,(AG (AG Eu)).2.2.1,(AG (AG Eu)).2.2.2.1,(AG (AG Eu)).2.2.2.2.1,(AG (AG Eu)).2.2.2.2.2.1,(AG (AG Eu)).2.2.2.2.2.2.1,(AG (AG Eu)).2.2.2.2.2.2.2.1,(AG (AG (AG Eu))).1,(AG (AG (AG Eu))).2.1,(AG (AG (AG Eu))).2.2.1,(AG (AG (AG Eu))).2.2.2.1,(AG (AG (AG Eu))).2.2.2.2.1,AOW⟩,HG,An,Bc,CS,DV,CB,hk11,hF,DK,DL,DM,Cs,CO⟩
    · refine AOP ?_
      refine AH Dm 1 [(47,.bool false)]
       ⟨Ce r6 (fun _=>BM (by rw[hc];rfl)),AOW⟩ fun a43 w43 g43 IK=>?_
      refine AS (v:=.bool false) IK r6 fun a44 Mv=>?_
      refine AD ?_
      refine k31 _ _ ?_
      refine Au Mv rfl rfl ?_
      refine AOQ fun K45 k45=>?_
      refine AOP ?_
      refine AH Mv 1 [(63,.bool false)]
       ⟨Ce r6 (fun _=>BM (by rw[hc];rfl)),AOW⟩ fun a46 w46 g46 JK=>?_
      have AJp:=AA g43 g46
      refine AS (v:=.bool false) JK r6 fun a47 Kx=>?_
      refine AD ?_
      refine k45 _ _ ?_
      refine Au Kx rfl rfl ?_
      refine AOQ fun K48 k48=>?_
      refine AOP ?_
      refine AH Kx 1 [(75,.bool true)]
       ⟨Ce r6 (fun _=>BM (by rw[hc];rfl)),AOW⟩ fun a49 w49 g49 ER=>?_
      have ACN:=AA AJp g49
      refine AS (v:=.bool true) ER r6 fun a50 Ky=>?_
      refine AD ?_
      refine k48 _ _ ?_
      refine Am Ky rfl rfl ?_
      refine AOP ?_
      replace CS:=AC ACN CS
      replace CB:=AC ACN CB
      refine AH Ky 7 [(76,pt Fm),(77,.int .i64 r.1.addr),(78,pk KS 2),(79,.int .i64 d2),(80,.int .i64 e2),(81,.int .i64 A2),(82,pt Fm)]
       ⟨yf r6 (fun _=>by kernel_rfl),yp (i:=0) r6 (D9 r.1.addr) CB rfl rfl,Cf rfl rfl trivial (oy rfl rfl) rfl (fun w=>AGP (j:=2) (by decide) w) (fun _=>rfl),yp (i:=2) r6 (DE d2) CS rfl rfl,Ce r6 (fun _=>R7 he2),Fg r7 (fun _=>AIs hA2),yf r6 (fun _=>by kernel_rfl),AOW⟩ fun a51 w51 g51 FV=>?_
      refine IL (L:=[[.int .i64 r.1.addr],[.slice ao16 (List.length own16) ac16],[.int .i64 r.1.joint],[.slice wo16 (List.length wr16) wc16],[.slice bo16 r.1.body.length bc16],bv r.1.tag]) (i:=0) FV r7 (D9 A2) (AC g51 CB) rfl rfl rfl fun w52 g52 h52=>?_
      replace An:=Ab g51 g52 (AC ACN An) (Ne.symm LH)
      replace Bc:=Ab g51 g52 (AC ACN Bc) (Ne.symm LJ)
      replace CS:=Ab g51 g52 CS (Ne.symm LK)
      replace DV:=Ab g51 g52 (AC ACN DV) (Ne.symm KN)
      replace hk11:=((hk11.kn ACN).kn g51).offR g52 (AP LL)
      replace HG:=AE (AA (AA HG ACN) g51) g52 T9
      replace CB:=h52
      have FU:Sv _ _ [_,_,_,_,_,_,_,_,_,_,_,_,_,_,_,_,_,_,_,_,_,_,_,_,_,_,_,_,_] _:=FV.dl [76,77,78,79,80,81,82]
      refine AD ?_
      refine y30 _ _ ?_
      replace hF:=(((hF.kn ACN).kn g51).offR g52 (AP CO)).addr A2
      exact MB29 _ _ ⟨⟨A2,r.1.own,r.1.joint,r.1.wr,r.1.body,r.1.tag⟩,own16,wr16,ao16,wo16,bo16,ac16,wc16,bc16,⟨FU.1,FU.2.1,(AG FU).1,(AG FU).2.1,(AG FU).2.2.1,(AG FU).2.2.2.1,(AG FU).2.2.2.2.1,(AG FU).2.2.2.2.2.1,(AG FU).2.2.2.2.2.2.1,(AG FU).2.2.2.2.2.2.2.1,(AG (AG FU)).1,(AG (AG FU)).2.1,(AG (AG FU)).2.2.1,(AG (AG FU)).2.2.2.1,(AG (AG FU)).2.2.2.2.1,(AG (AG FU)).2.2.2.2.2.1,(AG (AG FU)).2.2.2.2.2.2.1,(AG (AG FU)).2.2.2.2.2.2.2.1,(AG (AG (AG FU))).1,(AG (AG (AG FU))).2.1,(AG (AG (AG FU))).2.2.1,(AG (AG (AG FU))).2.2.2.1,(AG (AG (AG FU))).2.2.2.2.1,(AG (AG (AG FU))).2.2.2.2.2.1,(AG (AG (AG FU))).2.2.2.2.2.2.1,AOW⟩,HG,An,Bc,CS,DV,CB,hk11,hF,DK,DL,DM,Cs,CO⟩
    · have hwl:wr16.length=r.1.wr.length:=by rw[←hF.2.1,List.length_map]
      refine AOP ?_
      refine AH Dm 1 [(47,.bool false)]
       ⟨Ce r6 (fun _=>BM (by rw[hc];rfl)),AOW⟩ fun a54 w54 g54 JL=>?_
      refine AS (v:=.bool false) JL r6 fun a55 Uk=>?_
      refine AD ?_
      refine k31 _ _ ?_
      refine Au Uk rfl rfl ?_
      refine AOQ fun K56 k56=>?_
      refine AOP ?_
      refine AH Uk 1 [(63,.bool false)]
       ⟨Ce r6 (fun _=>BM (by rw[hc];rfl)),AOW⟩ fun a57 w57 g57 Qw=>?_
      have YQ:=AA g54 g57
      refine AS (v:=.bool false) Qw r6 fun a58 OL=>?_
      refine AD ?_
      refine k56 _ _ ?_
      refine Au OL rfl rfl ?_
      refine AOQ fun K59 k59=>?_
      refine AOP ?_
      refine AH OL 1 [(75,.bool false)]
       ⟨Ce r6 (fun _=>BM (by rw[hc];rfl)),AOW⟩ fun a60 w60 g60 Qv=>?_
      have Mc:=AA YQ g60
      refine AS (v:=.bool false) Qv r6 fun a61 Nm=>?_
      refine AD ?_
      refine k59 _ _ ?_
      refine Au Nm rfl rfl ?_
      refine AOQ fun K62 k62=>?_
      refine AOP ?_
      refine AH Nm 1 [(84,.bool true)]
       ⟨Ce r6 (fun _=>BM (by rw[hc];rfl)),AOW⟩ fun a63 w63 g63 PF=>?_
      have RJ:=AA Mc g63
      refine AS (v:=.bool true) PF r6 fun a64 U5=>?_
      refine AD ?_
      refine k62 _ _ ?_
      refine Am U5 rfl rfl ?_
      refine AOQ fun K65 k65=>?_
      refine AOP ?_
      refine AH U5 4 [(85,pk Fm 3),(86,.slice wo16 (List.length wr16) wc16),(87,.int .i64 (((List.length wr16):Nat))),(88,.bool false)]
       ⟨yf r6 (fun _=>by kernel_rfl),yp (i:=3) r6 (Fe (.slice wo16 (List.length wr16) wc16) rfl) (AC RJ CB) rfl rfl,BJ (Tryz.underlying28) rfl rfl trivial (oy rfl rfl) (fun _=>rfl),Ce r6 (fun _=>C3 (decide_eq_false (by omega))),AOW⟩ fun a66 w66 g66 Gq=>?_
      have ACO:=AA RJ g66
      refine AD ?_
      refine k65 _ _ ?_
      refine Au Gq rfl rfl ?_
      refine AOU ?_
      refine y30 _ _ ?_
      replace An:=AC ACO An
      replace Bc:=AC ACO Bc
      replace CS:=AC ACO CS
      replace DV:=AC ACO DV
      replace CB:=AC ACO CB
      replace hk11:=hk11.kn ACO
      replace hF:=hF.kn ACO
      replace HG:=AA HG ACO
      exact MB29 _ _ ⟨r.1,own16,wr16,ao16,wo16,bo16,ac16,wc16,bc16,⟨Gq.1,Gq.2.1,(AG Gq).2.2.2.2.2.2.1,(AG Gq).2.2.2.2.2.2.2.1,(AG (AG Gq)).1,(AG (AG Gq)).2.1,(AG (AG Gq)).2.2.1,(AG (AG Gq)).2.2.2.1,(AG (AG Gq)).2.2.2.2.1,(AG (AG Gq)).2.2.2.2.2.1,(AG (AG Gq)).2.2.2.2.2.2.1,(AG (AG Gq)).2.2.2.2.2.2.2.1,(AG (AG (AG Gq))).1,(AG (AG (AG Gq))).2.1,(AG (AG (AG Gq))).2.2.1,(AG (AG (AG Gq))).2.2.2.1,(AG (AG (AG Gq))).2.2.2.2.1,(AG (AG (AG Gq))).2.2.2.2.2.1,(AG (AG (AG Gq))).2.2.2.2.2.2.1,(AG (AG (AG Gq))).2.2.2.2.2.2.2.1,(AG (AG (AG (AG Gq)))).1,(AG (AG (AG (AG Gq)))).2.1,(AG (AG (AG (AG Gq)))).2.2.1,(AG (AG (AG (AG Gq)))).2.2.2.1,(AG (AG (AG (AG Gq)))).2.2.2.2.1,AOW⟩,HG,An,Bc,CS,DV,CB,hk11,hF,DK,DL,DM,Cs,CO⟩
    · have hwl:wr16.length=r.1.wr.length:=by rw[←hF.2.1,List.length_map]
      obtain⟨hm1,hm2,ow,ww,bw,dow,dtg,dby⟩:=hF
      have ADy:∀k,BC (.slice ao16 (List.length own16) ac16) k→k≠I8:=fun k hk=>DK k (.inl hk)
      have ADz:∀k,BC (.slice ao16 (List.length own16) ac16) k→k≠KR:=fun k hk=>DL k (.inl hk)
      have AD0:∀k,BC (.slice ao16 (List.length own16) ac16) k→k≠KS:=fun k hk=>DM k (.inl hk)
      have ACL:∀k,BC (.slice ao16 (List.length own16) ac16) k→k≠NH:=fun k hk=>Cs k (.inl hk)
      have ACM:∀k,BC (.slice ao16 (List.length own16) ac16) k→k≠Fm:=fun k hk=>CO k (.inl hk)
      have ap_hk11_ow:∀k,KO (.slice ao11 ks11.length cap11) ks11 k→¬BC (.slice ao16 (List.length own16) ac16) k:=fun k hk h=>ap_hk11_hF k hk (.inl h)
      have lo_ow:∀k,BC (.slice ao16 (List.length own16) ac16) k→w.heap.size≤k:=fun k hk=>lo_hF k (.inl hk)
      have UA:∀k,BC (.slice wo16 (List.length wr16) wc16) k→k≠I8:=fun k hk=>DK k (.inr (.inl hk))
      have UB:∀k,BC (.slice wo16 (List.length wr16) wc16) k→k≠KR:=fun k hk=>DL k (.inr (.inl hk))
      have UC:∀k,BC (.slice wo16 (List.length wr16) wc16) k→k≠KS:=fun k hk=>DM k (.inr (.inl hk))
      have Qi:∀k,BC (.slice wo16 (List.length wr16) wc16) k→k≠NH:=fun k hk=>Cs k (.inr (.inl hk))
      have Qj:∀k,BC (.slice wo16 (List.length wr16) wc16) k→k≠Fm:=fun k hk=>CO k (.inr (.inl hk))
      have ap_hk11_ww:∀k,KO (.slice ao11 ks11.length cap11) ks11 k→¬BC (.slice wo16 (List.length wr16) wc16) k:=fun k hk h=>ap_hk11_hF k hk (.inr (.inl h))
      have lo_ww:∀k,BC (.slice wo16 (List.length wr16) wc16) k→w.heap.size≤k:=fun k hk=>lo_hF k (.inr (.inl hk))
      have UD:∀k,BC (.slice bo16 r.1.body.length bc16) k→k≠I8:=fun k hk=>DK k (.inr (.inr hk))
      have UE:∀k,BC (.slice bo16 r.1.body.length bc16) k→k≠KR:=fun k hk=>DL k (.inr (.inr hk))
      have UF:∀k,BC (.slice bo16 r.1.body.length bc16) k→k≠KS:=fun k hk=>DM k (.inr (.inr hk))
      have Qk:∀k,BC (.slice bo16 r.1.body.length bc16) k→k≠NH:=fun k hk=>Cs k (.inr (.inr hk))
      have Ql:∀k,BC (.slice bo16 r.1.body.length bc16) k→k≠Fm:=fun k hk=>CO k (.inr (.inr hk))
      have ap_hk11_bw:∀k,KO (.slice ao11 ks11.length cap11) ks11 k→¬BC (.slice bo16 r.1.body.length bc16) k:=fun k hk h=>ap_hk11_hF k hk (.inr (.inr h))
      have lo_bw:∀k,BC (.slice bo16 r.1.body.length bc16) k→w.heap.size≤k:=fun k hk=>lo_hF k (.inr (.inr hk))
      have ap_ow_ww:∀k,BC (.slice ao16 (List.length own16) ac16) k→¬BC (.slice wo16 (List.length wr16) wc16) k:=dow
      have ap_bw_ww:=Pf bw ww (by decide)
      have hw0:0<wr16.length:=by omega
      obtain⟨wx,hx_wx⟩:∃zx,wr16[0]'hw0=zx:=⟨_,rfl⟩
      have hkw:kk<wx.x.length:=by rw[wx.h.1];exact hkk
      obtain⟨xt,hxt⟩:∃a,wx.x[kk]?=some a:=⟨_,List.getElem?_eq_getElem hkw⟩
      have bxt:xt<256:=wx.h.2 _ (List.mem_of_getElem? hxt)
      refine AOP ?_
      refine AH Dm 1 [(47,.bool false)]
       ⟨Ce r6 (fun _=>BM (by rw[hc];rfl)),AOW⟩ fun a67 w67 g67 Tc=>?_
      refine AS (v:=.bool false) Tc r6 fun a68 Ih=>?_
      refine AD ?_
      refine k31 _ _ ?_
      refine Au Ih rfl rfl ?_
      refine AOQ fun K69 k69=>?_
      refine AOP ?_
      refine AH Ih 1 [(63,.bool false)]
       ⟨Ce r6 (fun _=>BM (by rw[hc];rfl)),AOW⟩ fun a70 w70 g70 PT=>?_
      have ANo:=AA g67 g70
      refine AS (v:=.bool false) PT r6 fun a71 ADe=>?_
      refine AD ?_
      refine k69 _ _ ?_
      refine Au ADe rfl rfl ?_
      refine AOQ fun K72 k72=>?_
      refine AOP ?_
      refine AH ADe 1 [(75,.bool false)]
       ⟨Ce r6 (fun _=>BM (by rw[hc];rfl)),AOW⟩ fun a73 w73 g73 Nn=>?_
      have RH:=AA ANo g73
      refine AS (v:=.bool false) Nn r6 fun a74 ANB=>?_
      refine AD ?_
      refine k72 _ _ ?_
      refine Au ANB rfl rfl ?_
      refine AOQ fun K75 k75=>?_
      refine AOP ?_
      refine AH ANB 1 [(84,.bool true)]
       ⟨Ce r6 (fun _=>BM (by rw[hc];rfl)),AOW⟩ fun a76 w76 g76 P1=>?_
      have AIU:=AA RH g76
      refine AS (v:=.bool true) P1 r6 fun a77 U6=>?_
      refine AD ?_
      refine k75 _ _ ?_
      refine Am U6 rfl rfl ?_
      refine AOQ fun K78 k78=>?_
      refine AOP ?_
      refine AH U6 4 [(85,pk Fm 3),(86,.slice wo16 (List.length wr16) wc16),(87,.int .i64 (((List.length wr16):Nat))),(88,.bool true)]
       ⟨yf r6 (fun _=>by kernel_rfl),yp (i:=3) r6 (Fe (.slice wo16 (List.length wr16) wc16) rfl) (AC AIU CB) rfl rfl,BJ (Tryz.underlying28) rfl rfl trivial (oy rfl rfl) (fun _=>rfl),Ce r6 (fun _=>C3 (decide_eq_true (by omega))),AOW⟩ fun a79 w79 g79 Md=>?_
      have Vy:=AA AIU g79
      refine AD ?_
      refine k78 _ _ ?_
      refine Am Md rfl rfl ?_
      replace CS:=AC Vy CS
      replace CB:=AC Vy CB
      replace ww:=ww.kn Vy
      refine DP (Md.st w79) (by kernel_rfl) 12 [(89,Sp.is (pk Fm 3)),(90,Sp.is (.slice wo16 (List.length wr16) wc16)),(91,Sp.is (.int .i64 ((kk:Int)))),(92,Sp.is (pk ((bO wo16)) (oO wo16+0*32))),(93,Sp.is (pk ((bO wo16)) (oO wo16+0*32+kk))),(94,Sp.is (.int .u8 ((xt:Int)))),(95,Sp.is (pk KS 2)),(96,Sp.is (.int .i64 d2)),(97,Sp.is (.int .u8 ((mm:Int)))),(98,Sp.is (.int .u8 (((xt ^^^ mm:Nat):Int)))),(99,Sp.is (pk ((bO wo16)) (oO wo16+0*32))),(100,Sp.is (pk ((bO wo16)) (oO wo16+0*32+kk)))] rfl (by kernel_rfl) (by kernel_rfl) (by kernel_rfl) [] (by kernel_rfl)
       ⟨yf r6 (fun _=>by kernel_rfl),yp (i:=3) r6 (Fe (.slice wo16 (List.length wr16) wc16) rfl) CB rfl rfl,ym r5,Cf rfl rfl trivial (oy rfl rfl) rfl (fun w=>CF Tryz.underlying28 (by kernel_rfl) ((Sl.of_own ww)) (by omega) (rfl) w) (fun _=>rfl),BD rq8 (fun w=>Ri hkk w),Bj r6 (fun _ g=>Ad (OI (xt:Int)) (FQ (by have:=CW (Sl.of_own (ww.kn g)) Dj hw0 (by decide);rw[hx_wx] at this;exact this) hxt)),Cf rfl rfl trivial (oy rfl rfl) rfl (fun w=>AGP (j:=2) (by decide) w) (fun _=>rfl),yp (i:=2) r6 (DE d2) CS rfl rfl,Hu r6 (fun _=>Hv Tryz.underlying3 Tryz.underlying5 hm8),Fg r7 (fun _=>MJ bxt hmm),Cf rfl rfl trivial (oy rfl rfl) rfl (fun w=>CF Tryz.underlying28 (by kernel_rfl) ((Sl.of_own ww)) (by omega) (rfl) w) (fun _=>rfl),BD rq8 (fun w=>Ri hkk w),AOW⟩ trivial
       [] (by kernel_rfl) trivial ⟨.inl rfl,.inl rfl,.inl rfl,.inl rfl,.inl rfl,.inl rfl,.inl rfl,.inl rfl,.inl rfl,.inl rfl,.inl rfl,.inl rfl,AOW⟩ (by kernel_rfl) fun a80 w80 g80 st80 nd80=>?_
      obtain⟨hn80,hd80,e80_89,e80_90,e80_91,e80_92,e80_93,e80_94,e80_95,e80_96,e80_97,e80_98,e80_99,e80_100,e80_85,e80_86,e80_87,e80_88,e80_83,e80_84,e80_74,e80_75,e80_62,e80_63,e80_46,e80_47,e80_43,e80_44,e80_45,e80_10,e80_36,e80_37,e80_9,e80_7,e80_15,e80_16,e80_17,e80_18,e80_6,e80_5,e80_4,e80_3,e80_0,e80_1,e80_2,e80_21,e80_34,e80_35,e80_8,-⟩:=st80
      have Gn:Sv 124 [] [(85,_),(86,_),(87,_),(88,_),(83,_),(84,_),(74,_),(75,_),(62,_),(63,_),(46,_),(47,_),(43,_),(44,_),(45,_),(10,_),(36,_),(37,_),(9,_),(7,_),(15,_),(16,_),(17,_),(18,_),(6,_),(5,_),(4,_),(3,_),(0,_),(1,_),(2,_),(21,_),(34,_),(35,_),(8,_),(98,_),(100,_)] a80:=⟨hn80,hd80,e80_85,e80_86,e80_87,e80_88,e80_83,e80_84,e80_74,e80_75,e80_62,e80_63,e80_46,e80_47,e80_43,e80_44,e80_45,e80_10,e80_36,e80_37,e80_9,e80_7,e80_15,e80_16,e80_17,e80_18,e80_6,e80_5,e80_4,e80_3,e80_0,e80_1,e80_2,e80_21,e80_34,e80_35,e80_8,e80_98,e80_100,AOW⟩
      replace ww:=ww.kn g80
      refine WP (c:=Ja) (el:=(⟨wx.x.set kk (xt ^^^ mm),LG wx.h (NG bxt hmm)⟩:DD)) (A:=bv (wx.x.take kk)) (B:=[.int .u8 (wx.x[kk]:Int)]) (C:=bv (wx.x.drop (kk+1))) Gn rfl rfl rfl rfl rfl rfl rfl (tyB (((xt ^^^ mm:Nat):Int))) ww Dj (by decide) (hw0) (by rw[hx_wx];exact Sj hkw) (ADO hkw) rfl (by rw[AO,List.length_take,Nat.min_eq_left (Nat.le_of_lt hkw)]) fun w81 g81 h81=>?_
      replace An:=AF g81 (AC g80 (AC Vy An)) (fun e=>UA _ (CX (j:=0) ww (by omega) rfl) (Option.some.inj e).symm)
      replace Bc:=AF g81 (AC g80 (AC Vy Bc)) (fun e=>UB _ (CX (j:=0) ww (by omega) rfl) (Option.some.inj e).symm)
      replace CS:=AF g81 (AC g80 CS) (fun e=>UC _ (CX (j:=0) ww (by omega) rfl) (Option.some.inj e).symm)
      replace DV:=AF g81 (AC g80 (AC Vy DV)) (fun e=>Qi _ (CX (j:=0) ww (by omega) rfl) (Option.some.inj e).symm)
      replace CB:=AF g81 (AC g80 CB) (fun e=>Qj _ (CX (j:=0) ww (by omega) rfl) (Option.some.inj e).symm)
      replace hk11:=((hk11.kn Vy).kn g80).offR g81 (fun k hk e=>ap_hk11_ww k hk (CX (j:=0) ww (by omega) e))
      replace ow:=((ow.kn Vy).kn g80).offR g81 (fun k hk e=>ap_ow_ww k hk (CX (j:=0) ww (by omega) e))
      replace bw:=((bw.kn Vy).kn g80).offR g81 (fun k hk e=>ap_bw_ww k hk (CX (j:=0) ww (by omega) e))
      replace HG:=Bu (AA (AA HG Vy) g80) g81 fun k e=>lo_ww k (CX (j:=0) ww (by omega) e)
      replace ww:=h81
      refine AD ?_
      refine y30 _ _ ?_
      have hF:=SdF.mkW (s:=r.1) hm1 ow ww (by rw[List.length_set]) bw dow dtg dby
      replace CB:w81.heap[Fm]?=some (Obj.cells (([[.int .i64 r.1.addr],[.slice ao16 (List.length own16) ac16],[.int .i64 r.1.joint],[.slice wo16 (List.length (wr16.set 0 ⟨wx.x.set kk (xt ^^^ mm),LG wx.h (NG bxt hmm)⟩)) wc16],[.slice bo16 r.1.body.length bc16],bv r.1.tag]:List (List Value)).flatten).toArray 31 (0,0)):=by rw[List.length_set];exact CB
      replace DK:∀k,KH (.slice ao16 (List.length own16) ac16) (.slice wo16 (List.length (wr16.set 0 ⟨wx.x.set kk (xt ^^^ mm),LG wx.h (NG bxt hmm)⟩)) wc16) (.slice bo16 r.1.body.length bc16) k→k≠I8:=fun k hk=>DK k (Gu hk)
      replace DL:∀k,KH (.slice ao16 (List.length own16) ac16) (.slice wo16 (List.length (wr16.set 0 ⟨wx.x.set kk (xt ^^^ mm),LG wx.h (NG bxt hmm)⟩)) wc16) (.slice bo16 r.1.body.length bc16) k→k≠KR:=fun k hk=>DL k (Gu hk)
      replace DM:∀k,KH (.slice ao16 (List.length own16) ac16) (.slice wo16 (List.length (wr16.set 0 ⟨wx.x.set kk (xt ^^^ mm),LG wx.h (NG bxt hmm)⟩)) wc16) (.slice bo16 r.1.body.length bc16) k→k≠KS:=fun k hk=>DM k (Gu hk)
      replace Cs:∀k,KH (.slice ao16 (List.length own16) ac16) (.slice wo16 (List.length (wr16.set 0 ⟨wx.x.set kk (xt ^^^ mm),LG wx.h (NG bxt hmm)⟩)) wc16) (.slice bo16 r.1.body.length bc16) k→k≠NH:=fun k hk=>Cs k (Gu hk)
      replace CO:∀k,KH (.slice ao16 (List.length own16) ac16) (.slice wo16 (List.length (wr16.set 0 ⟨wx.x.set kk (xt ^^^ mm),LG wx.h (NG bxt hmm)⟩)) wc16) (.slice bo16 r.1.body.length bc16) k→k≠Fm:=fun k hk=>CO k (Gu hk)
      exact MB29 _ _ ⟨⟨r.1.addr,r.1.own,r.1.joint,(wr16.set 0 ⟨wx.x.set kk (xt ^^^ mm),LG wx.h (NG bxt hmm)⟩).map DD.x,r.1.body,r.1.tag⟩,own16,(wr16.set 0 ⟨wx.x.set kk (xt ^^^ mm),LG wx.h (NG bxt hmm)⟩),ao16,wo16,bo16,ac16,wc16,bc16,⟨Gn.1,Gn.2.1,(AG Gn).2.2.2.2.2.2.1,(AG Gn).2.2.2.2.2.2.2.1,(AG (AG Gn)).1,(AG (AG Gn)).2.1,(AG (AG Gn)).2.2.1,(AG (AG Gn)).2.2.2.1,(AG (AG Gn)).2.2.2.2.1,(AG (AG Gn)).2.2.2.2.2.1,(AG (AG Gn)).2.2.2.2.2.2.1,(AG (AG Gn)).2.2.2.2.2.2.2.1,(AG (AG (AG Gn))).1,(AG (AG (AG Gn))).2.1,(AG (AG (AG Gn))).2.2.1,(AG (AG (AG Gn))).2.2.2.1,(AG (AG (AG Gn))).2.2.2.2.1,(AG (AG (AG Gn))).2.2.2.2.2.1,(AG (AG (AG Gn))).2.2.2.2.2.2.1,(AG (AG (AG Gn))).2.2.2.2.2.2.2.1,(AG (AG (AG (AG Gn)))).1,(AG (AG (AG (AG Gn)))).2.1,(AG (AG (AG (AG Gn)))).2.2.1,(AG (AG (AG (AG Gn)))).2.2.2.1,(AG (AG (AG (AG Gn)))).2.2.2.2.1,AOW⟩,HG,An,Bc,CS,DV,CB,hk11,hF,DK,DL,DM,Cs,CO⟩
   clear An
   clear Bc
   clear CS
   clear DV
   clear CB
   clear hk11
   clear hF
   clear HG
   rintro a29 w29 ⟨S,ownZ,wrZ,aoZ,woZ,boZ,acZ,wcZ,bcZ,Ck,HG,An,Bc,CS,DV,CB,hk11,hF,DK,DL,DM,Cs,CO⟩
   refine k26 _ _ ?_
   refine AOQ fun K82 k82=>?_
   obtain⟨q,hq⟩:∃q,Fl vx.1 S=q:=⟨_,rfl⟩
   have hqo:q.1.ok:=hq▸AKT _ _
   refine AOP ?_
   refine AH Ck 6 [(102,Ay vx.2.1 vx.2.2 (.slice ao11 ks11.length cap11)),(103,Bv S.addr (.slice aoZ (List.length ownZ) acZ) S.joint (.slice woZ (List.length wrZ) wcZ) (.slice boZ S.body.length bcZ) S.tag),(104,.tuple #[Br q.1,.int .i64 q.2]),(101,.tuple #[Br q.1,.int .i64 q.2]),(105,Br q.1),(106,.int .i64 q.2)]
    ⟨yl r6 (B6 hvd.1 hvd.2 (.slice ao11 ks11.length cap11) rfl) DV,yl r6 (Dh _ _ hF.tg (.slice aoZ (List.length ownZ) acZ) (.slice woZ (List.length wrZ) wcZ) (.slice boZ S.body.length bcZ) rfl rfl rfl) CB,Ag [Ay vx.2.1 vx.2.2 (.slice ao11 ks11.length cap11),Bv S.addr (.slice aoZ (List.length ownZ) acZ) S.joint (.slice woZ (List.length wrZ) wcZ) (.slice boZ S.body.length bcZ) S.tag] Tryz.func22 (by kernel_rfl) rq4 ⟨(oy rfl rfl),(oy rfl rfl),AOW⟩ (A1 fun W g=>AIh hvd.1 hvd.2 (hk11.kn g) hp11 (hF.kn g) hq),ym r5,Bh rq4 (fun _ _ h=>⟨_,_,h,rfl,rfl⟩),Bh rq4 (fun _ _ h=>⟨_,_,h,rfl,rfl⟩),AOW⟩ fun a83 w83 g83 Lj=>?_
   replace Bc:=AC g83 Bc
   replace DV:=AC g83 DV
   replace CB:=AC g83 CB
   replace hk11:=hk11.kn g83
   replace hF:=hF.kn g83
   replace HG:=AA HG g83
   refine A9 (T:=25) (Z:=[.int .i64 0,.int .i64 0,.string ⟨#[]⟩]) Lj rfl rfl rfl (fun a w=>by kernel_rfl) fun a84 w84 ANp Jk g84 z84 Na M6=>?_
   have UG:=Ao Bc Jk
   have RO:=Ao DV Jk
   have RP:=Ao CB Jk
   have AGS:=Bq HG Jk
   have UH:=Aw (hk11.lt) Jk
   have ZM:=Aw (hF.lt) Jk
   refine Aq M6 r7 (C6 q.1) Na rfl fun w85 g85 h85=>?_
   replace DV:=Aa g85 (AC g84 DV) (Ne.symm RO)
   replace CB:=Aa g85 (AC g84 CB) (Ne.symm RP)
   replace hk11:=(hk11.kn g84).offR g85 (AP UH)
   replace hF:=(hF.kn g84).offR g85 (AP ZM)
   refine AS (v:=.int .i64 q.2) M6 r6 fun a86 En=>?_
   have TG:Sv _ _ [_,_,_,_,_,_,_,_,_,_,_,_,_,_,_,_,_,_,_,_,_,_,_,_,_] _:=En.dl [102,103,104,101,105,106]
   refine AD ?_
   refine k82 _ _ ?_
   refine AOQ fun K88 k88=>?_
   refine AOP ?_
   refine AH TG 6 [(108,Ay vx.2.1 vx.2.2 (.slice ao11 ks11.length cap11)),(109,Bv S.addr (.slice aoZ (List.length ownZ) acZ) S.joint (.slice woZ (List.length wrZ) wcZ) (.slice boZ S.body.length bcZ) S.tag),(110,.tuple #[Br q.1,.int .i64 q.2]),(107,.tuple #[Br q.1,.int .i64 q.2]),(111,Br q.1),(112,.int .i64 q.2)]
    ⟨yl r6 (B6 hvd.1 hvd.2 (.slice ao11 ks11.length cap11) rfl) DV,yl r6 (Dh _ _ hF.tg (.slice aoZ (List.length ownZ) acZ) (.slice woZ (List.length wrZ) wcZ) (.slice boZ S.body.length bcZ) rfl rfl rfl) CB,Ag [Ay vx.2.1 vx.2.2 (.slice ao11 ks11.length cap11),Bv S.addr (.slice aoZ (List.length ownZ) acZ) S.joint (.slice woZ (List.length wrZ) wcZ) (.slice boZ S.body.length bcZ) S.tag] Tryz.func23 (by kernel_rfl) rq4 ⟨(oy rfl rfl),(oy rfl rfl),AOW⟩ (A1 fun W g=>AKS hvd.1 hvd.2 (hk11.kn g) hp11 (hF.kn g) hq),ym r5,Bh rq4 (fun _ _ h=>⟨_,_,h,rfl,rfl⟩),Bh rq4 (fun _ _ h=>⟨_,_,h,rfl,rfl⟩),AOW⟩ fun a89 w89 g89 PG=>?_
   replace Bc:=AC g89 (Aa g85 (AC g84 Bc) (Ne.symm UG))
   replace Na:=AC g89 h85
   replace hF:=hF.kn g89
   replace HG:=AA (AE (AA HG g84) g85 AGS) g89
   refine A9 (T:=25) (Z:=[.int .i64 0,.int .i64 0,.string ⟨#[]⟩]) PG rfl rfl rfl (fun a w=>by kernel_rfl) fun a90 w90 ANq Nb g90 z90 ZN ABY=>?_
   have UI:=Ao Bc Nb
   have QG:=Ao Na Nb
   have AGT:=Bq HG Nb
   have ZO:=Aw (hF.lt) Nb
   refine Aq ABY r7 (C6 q.1) ZN rfl fun w91 g91 h91=>?_
   replace Na:=Aa g91 (AC g90 Na) (Ne.symm QG)
   replace ZN:=h91
   refine AS (v:=.int .i64 q.2) ABY r6 fun a92 ADV=>?_
   have EQ:Sv _ _ [_,_,_,_,_,_,_,_,_,_,_,_,_,_,_,_,_,_,_,_,_,_,_,_,_,_,_] _:=ADV.dl [108,109,110,107,111,112]
   refine AD ?_
   refine k88 _ _ ?_
   refine AOQ fun K94 k94=>?_
   refine AOP ?_
   refine AH EQ 11 [(113,Br q.1),(114,Br q.1),(115,.bool true),(116,.bool true),(117,.int .i64 q.2),(118,.int .i64 q.2),(119,.bool true),(120,.bool true),(121,.bool true),(122,.bool true),(123,.bool true)]
    ⟨yl r6 (C6 q.1) Na,yl r6 (C6 q.1) ZN,Fg r7 (fun _=>AEx hqo),ym r5,Ae rq8,Ae rq8,Mp rfl rfl (gy rfl rfl rfl) (oy rfl rfl) (oy rfl rfl) (fun _=>BM (by simp)) (fun _=>rfl),Ah rq9,ym r5,CG [] Tryz.func13 (by kernel_rfl) r7 trivial (A1 fun W g=>Tz W),Ah rq9,AOW⟩ fun a95 w95 g95 ADW=>?_
   refine AS (v:=.bool true) ADW r6 fun a96 AA3=>?_
   have Uu:Sv _ _ [_,_,_,_,_,_,_,_,_,_,_,_,_,_,_,_,_,_,_,_,_,_,_,_,_] _:=AA3.dl [113,114,115,116,117,118,119,120,121,122,123,14,12]
   refine AD ?_
   refine k94 _ _ ?_
   replace Bc:=AC g95 (Aa g91 (AC g90 Bc) (Ne.symm UI))
   replace hF:=((hF.kn g90).offR g91 (AP ZO)).kn g95
   replace HG:=AA (AE (AA HG g90) g91 AGT) g95
   refine AOT ?_
   repeat refine AM ?_
   refine Ap (fn:=Tryz.f4) Uu (BK (p:=6) Tryz.results4 Uu rfl rfl) ?_
   exact⟨rfl,HG⟩
 · refine AOP ?_
   refine AH sv5 4 [(15,pt KR),(16,Br x),(17,.bool false),(18,.bool true)]
    ⟨yf r6 (fun _=>by kernel_rfl),yp (i:=0) r6 (C6 x) Bc rfl rfl,Ag [Br x] Tryz.func12 (by kernel_rfl) rq4 ⟨(oy rfl rfl),AOW⟩ (A1 fun W g=>(AE0 x W).mono fun e w' ⟨h1,h2⟩=>⟨by rw[h1,decide_eq_false hsm],h2⟩),C7 r6 (fun _=>Bf),AOW⟩ fun a98 w98 g98 YY=>?_
   refine AD ?_
   refine k7 _ _ ?_
   refine Am YY rfl rfl ?_
   refine AOQ fun K99 k99=>?_
   refine AOP ?_
   refine AH YY 1 [(19,.bool true)]
    ⟨Ag [] Tryz.func13 (by kernel_rfl) rq4 trivial (A1 fun W g=>Tz W),AOW⟩ fun a100 w100 g100 Wj=>?_
   refine AS (v:=.bool true) Wj r6 fun a101 PH=>?_
   refine AD ?_
   refine k99 _ _ ?_
   replace HG:=AA (AA HG g98) g100
   refine AOT ?_
   repeat refine AM ?_
   refine Ap (fn:=Tryz.f4) PH (BK (p:=6) Tryz.results4 PH rfl rfl) ?_
   exact⟨rfl,HG⟩
end Go.Proofs.YtbfjfnbcmojpiaaGreat
