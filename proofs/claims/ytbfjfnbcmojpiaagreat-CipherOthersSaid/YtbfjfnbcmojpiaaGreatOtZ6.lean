import Derived.Test.YtbfjfnbcmojpiaaGreatOtYM
set_option linter.unusedSimpArgs false
set_option linter.unusedVariables false
set_option maxRecDepth 100000
set_option maxHeartbeats 4000000
namespace Go.Proofs.YtbfjfnbcmojpiaaGreat
open Go.RowKit Go.Shelf
theorem AKf (i:Nat):(i:Int).tmod 6=((i%6:Nat):Int):=by
 rw[Int.tmod_eq_emod_of_nonneg (by omega)];omega
theorem AJM (n:Int) (i:Nat):KY n i=0∨KY n i=1:=by rw[AHR];omega
theorem AAn (seed:List Nat) (hse:Dg seed) (x:V) (n:Int) (b:Bool) (ca:Int) (L:List Int) (ax:Option Addr) (cax:Nat) (w:World) (hot:SlB w 1 (.slice ax L.length cax) L.length (L.flatMap ce)) :
   Calls Tryz.prog 11 #[AR seed,D9 x n b ca,.slice ax L.length cax] w fun e w'=>e=.returned (.bool true)∧w.grownBy w' none:=by
 obtain⟨vx,hvx⟩:∃v,V6 seed=v:=⟨_,rfl⟩
 have hvd:Dg vx.2.1∧Dg vx.2.2:=hvx▸AKe seed
 have hvv:CI vx.1=true:=hvx▸SD seed
 obtain⟨r,hres⟩:∃r,PW vx.1 x n b ca=r:=⟨_,rfl⟩
 have hz:=(AC8 seed x n b ca).2.1
 rw[hvx,hres] at hz
 obtain⟨A,hA⟩:∃A,Kw ca=A:=⟨_,rfl⟩
 have hAa:Bn A=true:=hA▸FA ca
 have hO0:OS seed A vx.1 0:=hvx▸OS.zero seed A
 refine Be Tryz.func11 rfl Tryz.ntmps11 rfl fun a0 sv0=>?_
 have HG:=World.grownBy.refl w none
 replace sv0:Sv 104 [] [(0,AR seed),(1,D9 x n b ca),(2,.slice ax L.length cax)] a0:=sv0
 refine ALl fun K1 k1=>?_
 refine ALk ?_
 refine Bm sv0 r6 (CB seed hse.1) fun a2 w2 Hh JL g2 z2 AZ sv2=>?_
 refine Bm sv2 r6 (Tj x n b ca) fun a3 w3 II QL g3 z3 Am sv3=>?_
 replace AZ:=AC g3 AZ
 replace hot:=(hot.kn g2).kn g3
 replace HG:=AA (AA HG g2) g3
 refine Aa (v:=.bool false) sv3 r6 fun a4 sv4=>?_
 refine AE ?_
 refine k1 _ _ ?_
 refine ALl fun K5 k5=>?_
 refine ALl fun K6 k6=>?_
 by_cases hsm:x.text.size≤100
 · refine ALk ?_
   refine AK sv4 4 [(19,pt II),(20,CE x),(21,.bool true),(22,.bool false)]
     ⟨yf r6 (fun _=>by kernel_rfl),yp (i:=0) r6 (EP x) Am rfl rfl,Ad [CE x] Tryz.func12 (by kernel_rfl) rq4 ⟨(oy rfl rfl),ALr⟩ (As fun W g=>(ABn x W).mono fun e w' ⟨h1,h2⟩=>⟨by rw[h1,decide_eq_true hsm],h2⟩),Cu r6 (fun _=>Bc),ALr⟩ fun a7 w7 g7 sv7=>?_
   refine AE ?_
   refine k6 _ _ ?_
   refine Av sv7 rfl rfl ?_
   refine ALp ?_
   refine k5 _ _ ?_
   refine ALl fun K8 k8=>?_
   refine ALk ?_
   replace AZ:=AC g7 AZ
   refine FH (sv7.st w7) 2 [(24,Sp.is (AR seed)),(25,Sp.vv vx (fun _=>False))] rfl (by kernel_rfl) (by kernel_rfl) (by kernel_rfl)
     ⟨yl r6 (CB seed hse.1) AZ,Ad [AR seed] Tryz.func14 (by kernel_rfl) rq4 ⟨(oy rfl rfl),ALr⟩ (hvx▸AFc hse),ALr⟩ fun a9 w9 g9 st9=>?_
   obtain⟨hn9,hd9,e9_24,e9_25,e9_19,e9_20,e9_21,e9_22,e9_6,e9_4,e9_3,e9_0,e9_1,e9_2,-⟩:=st9
   obtain⟨ao10,cap10,ks10,e9_25q,hp10,hk10,hf10⟩:=e9_25
   replace AZ:=AC g9 AZ
   replace Am:=AC g9 (AC g7 Am)
   replace hot:=(hot.kn g7).kn g9
   replace HG:=AA (AA HG g7) g9
   have DX:=Hs hf10 AZ (by decide)
   have DY:=Hs hf10 Am (by decide)
   have sv9:Sv 104 [] [(19,_),(20,_),(21,_),(22,_),(6,_),(4,_),(3,_),(0,_),(1,_),(2,_),(25,_)] a9:=⟨hn9,hd9,e9_19,e9_20,e9_21,e9_22,e9_6,e9_4,e9_3,e9_0,e9_1,e9_2,e9_25q,ALr⟩
   refine Ax (T:=36) (Z:=([bv AS,bv AS,[.slice none 0 0]].flatten)) sv9 rfl rfl rfl (fun a w=>by kernel_rfl) fun a11 w11 N3 Lu g11 z11 BH CY=>?_
   have Jf:=Au AZ Lu
   have Jg:=Au Am Lu
   have SE:=B7 HG Lu
   have Kh:=A2 (hot.lt) Lu
   have CZ:=A2 (hk10.lt) Lu
   refine Ap CY r7 (BR hvd.1 hvd.2 (.slice ao10 ks10.length cap10) rfl) BH (by first|rfl|simp[AY,AI,AQ,hvd.1.1,hvd.2.1]) fun w12 g12 h12=>?_
   replace Am:=AX g12 (AC g11 Am) (Ne.symm Jg)
   replace hk10:=(hk10.kn g11).offR g12 (AU CZ)
   replace BH:=h12
   refine AE ?_
   refine k8 _ _ ?_
   refine ALl fun K13 k13=>?_
   refine ALk ?_
   refine FH (CY.st w12) 6 [(27,Sp.is (D9 x n b ca)),(28,Sp.is (Ao vx.2.1 vx.2.2 (.slice ao10 ks10.length cap10))),(29,Sp.sr w12.heap.size r),(26,Sp.sr w12.heap.size r),(30,Sp.sl w12.heap.size r.1),(31,Sp.is (.int .i64 r.2))] rfl (by kernel_rfl) (by kernel_rfl) (by kernel_rfl)
     ⟨yl r6 (Tj x n b ca) Am,yl r6 (BR hvd.1 hvd.2 (.slice ao10 ks10.length cap10) rfl) BH,Ad [D9 x n b ca,Ao vx.2.1 vx.2.2 (.slice ao10 ks10.length cap10)] Tryz.func15 (by kernel_rfl) rq4 ⟨(oy rfl rfl),(oy rfl rfl),ALr⟩ (AFa hvd.1 hvd.2 hk10 hp10 hres),ym r5,BE rq4 (fun w u h=>ABg w u h),BE rq4 (fun w u h=>O6 w u h),ALr⟩ fun a14 w14 g14 st14=>?_
   obtain⟨hn14,hd14,e14_27,e14_28,e14_29,e14_26,e14_30,e14_31,e14_7,e14_19,e14_20,e14_21,e14_22,e14_6,e14_4,e14_3,e14_0,e14_1,e14_2,e14_25,-⟩:=st14
   obtain⟨own15,wr15,ao15,wo15,bo15,ac15,wc15,bc15,e14_30q,hF,fr15⟩:=e14_30
   have PZ:=CA fr15 BH
   replace AZ:=AC g14 (AX g12 (AC g11 AZ) (Ne.symm Jf))
   replace Am:=AC g14 Am
   replace BH:=AC g14 BH
   replace hot:=((hot.kn g11).offR g12 (AU Kh)).kn g14
   replace hk10:=hk10.kn g14
   replace HG:=AA (AD (AA HG g11) g12 SE) g14
   have Dl:Sv 104 [] [(7,_),(19,_),(20,_),(21,_),(22,_),(6,_),(4,_),(3,_),(0,_),(1,_),(2,_),(25,_),(30,_),(31,_)] a14:=⟨hn14,hd14,e14_7,e14_19,e14_20,e14_21,e14_22,e14_6,e14_4,e14_3,e14_0,e14_1,e14_2,e14_25,e14_30q,e14_31,ALr⟩
   refine Ax (T:=31) (Z:=([[.int .i64 0],[.slice none 0 0],[.int .i64 0],[.slice none 0 0],[.slice none 0 0],bv AS].flatten)) Dl rfl rfl rfl (fun a w=>by kernel_rfl) fun a16 w16 N5 Iz g16 z16 Bq Cp=>?_
   have Tm:=Au AZ Iz
   have Tn:=Au Am Iz
   have I0:=Au BH Iz
   have AFd:=B7 HG Iz
   have WN:=A2 (hot.lt) Iz
   have Cr:=A2 (hk10.lt) Iz
   have ZB:=A2 (hF.lt) Iz
   replace hF:=hF.kn g16
   refine Ap Cp r7 (FL _ _ hF.tg (.slice ao15 (List.length own15) ac15) (.slice wo15 (List.length wr15) wc15) (.slice bo15 r.1.body.length bc15) rfl rfl rfl) Bq (Fg AN hF.tg) fun w17 g17 h17=>?_
   refine Aa (v:=.int .i64 r.2) Cp r6 fun a18 Ca=>?_
   refine AE ?_
   refine k13 _ _ ?_
   refine ALl fun K19 k19=>?_
   refine ALl fun K20 k20=>?_
   refine ALk ?_
   refine AK Ca 2 [(32,.int .i64 r.2),(33,.bool false)]
     ⟨ym r5,Cq r6 (fun _=>EU (by rw[hz];rfl)),ALr⟩ fun a21 w21 g21 Db=>?_
   refine AE ?_
   refine k20 _ _ ?_
   refine Av Db rfl rfl ?_
   refine ALp ?_
   refine k19 _ _ ?_
   refine ALl fun K22 k22=>?_
   refine ALl fun K23 k23=>?_
   refine ALk ?_
   refine Aa (v:=.int .i64 0) Db r6 fun a24 Cn=>?_
   refine AE ?_
   refine k23 _ _ ?_
   replace AZ:=AC g21 (AX g17 (AC g16 AZ) (Ne.symm Tm))
   replace Am:=AC g21 (AX g17 (AC g16 Am) (Ne.symm Tn))
   replace BH:=AC g21 (AX g17 (AC g16 BH) (Ne.symm I0))
   replace Bq:=AC g21 h17
   replace hot:=((hot.kn g16).offR g17 (AU WN)).kn g21
   replace hk10:=((hk10.kn g16).offR g17 (AU Cr)).kn g21
   replace hF:=(hF.offR g17 (AU ZB)).kn g21
   replace HG:=AA (AD (AA HG g16) g17 AFd) g21
   suffices MB25:∀(a:Act) (w':World),(∃(ks:List VK) (ao:Option Addr) (cap:Nat),(OE seed A n (ks.map VK.p) 0)∧Sv 104 [] [(32,.int .i64 r.2),(33,.bool false),(9,.int .i64 r.2),(8,pt N5),(7,pt N3),(19,pt II),(20,CE x),(21,.bool true),(22,.bool false),(4,pt II),(3,pt Hh),(0,AR seed),(1,D9 x n b ca),(2,.slice ax L.length cax),(25,Ao vx.2.1 vx.2.2 (.slice ao10 ks10.length cap10)),(30,Ce r.1.addr (.slice ao15 (List.length own15) ac15) r.1.joint (.slice wo15 (List.length wr15) wc15) (.slice bo15 r.1.body.length bc15) r.1.tag),(31,.int .i64 r.2)] a∧w.grownBy w' none∧w'.heap[Hh]?=some (.cells (bv seed).toArray 23 (0,0))∧w'.heap[II]?=some (.cells ([vc x,[.int .i64 n],[.bool b],[.int .i64 ca]].flatten).toArray 27 (0,0))∧w'.heap[N3]?=some (.cells ([bv vx.2.1,bv vx.2.2,[.slice ao ks.length cap]].flatten).toArray 36 (0,0))∧w'.heap[N5]?=some (.cells ([[.int .i64 r.1.addr],[.slice ao15 (List.length own15) ac15],[.int .i64 r.1.joint],[.slice wo15 (List.length wr15) wc15],[.slice bo15 r.1.body.length bc15],bv r.1.tag].flatten).toArray 31 (0,0))∧SlB w' 1 (.slice ax L.length cax) L.length (L.flatMap ce)∧RdK w' (.slice ao ks.length cap) ks∧SdF w' r.1 own15 wr15 ao15 wo15 bo15 ac15 wc15 bc15∧(∀k,JZ (.slice ao ks.length cap) ks k→k≠Hh)∧(∀k,JZ (.slice ao ks.length cap) ks k→k≠II)∧(∀k,JZ (.slice ao ks.length cap) ks k→k≠N3)∧(∀k,JZ (.slice ao ks.length cap) ks k→k≠N5))→K22 a w' by
     refine BF fun Q26 x26 y26 rt26 o26=>?_
     refine wp_loop (fun a w'=>∃(i:Nat) (ks:List VK) (ao:Option Addr) (cap:Nat),(i≤8)∧(OS seed A (ks.map VK.p) i)∧Sv 104 [] [(10,.int .i64 ((i:Int))),(32,.int .i64 r.2),(33,.bool false),(9,.int .i64 r.2),(8,pt N5),(7,pt N3),(19,pt II),(20,CE x),(21,.bool true),(22,.bool false),(4,pt II),(3,pt Hh),(0,AR seed),(1,D9 x n b ca),(2,.slice ax L.length cax),(25,Ao vx.2.1 vx.2.2 (.slice ao10 ks10.length cap10)),(30,Ce r.1.addr (.slice ao15 (List.length own15) ac15) r.1.joint (.slice wo15 (List.length wr15) wc15) (.slice bo15 r.1.body.length bc15) r.1.tag),(31,.int .i64 r.2)] a∧w.grownBy w' none∧w'.heap[Hh]?=some (.cells (bv seed).toArray 23 (0,0))∧w'.heap[II]?=some (.cells ([vc x,[.int .i64 n],[.bool b],[.int .i64 ca]].flatten).toArray 27 (0,0))∧w'.heap[N3]?=some (.cells ([bv vx.2.1,bv vx.2.2,[.slice ao ks.length cap]].flatten).toArray 36 (0,0))∧w'.heap[N5]?=some (.cells ([[.int .i64 r.1.addr],[.slice ao15 (List.length own15) ac15],[.int .i64 r.1.joint],[.slice wo15 (List.length wr15) wc15],[.slice bo15 r.1.body.length bc15],bv r.1.tag].flatten).toArray 31 (0,0))∧SlB w' 1 (.slice ax L.length cax) L.length (L.flatMap ce)∧RdK w' (.slice ao ks.length cap) ks∧SdF w' r.1 own15 wr15 ao15 wo15 bo15 ac15 wc15 bc15∧(∀k,JZ (.slice ao ks.length cap) ks k→k≠Hh)∧(∀k,JZ (.slice ao ks.length cap) ks k→k≠II)∧(∀k,JZ (.slice ao ks.length cap) ks k→k≠N3)∧(∀k,JZ (.slice ao ks.length cap) ks k→k≠N5)) (fun a _=>(8-intOf (a.tmps.getD 10 undef)).toNat) ⟨0,ks10,ao10,cap10,by omega,by rw[hp10];exact hO0,⟨Cn.1,Cn.2.1,Cn.2.2.1,Cn.2.2.2.1,Cn.2.2.2.2.1,Cn.2.2.2.2.2.1,Cn.2.2.2.2.2.2.1,Cn.2.2.2.2.2.2.2.1,(AH Cn).1,(AH Cn).2.1,(AH Cn).2.2.1,(AH Cn).2.2.2.1,(AH Cn).2.2.2.2.2.1,(AH Cn).2.2.2.2.2.2.1,(AH Cn).2.2.2.2.2.2.2.1,(AH (AH Cn)).1,(AH (AH Cn)).2.1,(AH (AH Cn)).2.2.1,(AH (AH Cn)).2.2.2.1,(AH (AH Cn)).2.2.2.2.1,ALr⟩,HG,AZ,Am,BH,Bq,hot,hk10,hF,DX,DY,CZ,Cr⟩ fun a27 w27 hI27=>?_
     clear AZ
     clear Am
     clear BH
     clear Bq
     clear hot
     clear hk10
     clear hF
     clear HG
     obtain⟨i,ks,ao,cap,hi8,hO,Gj,HG,AZ,Am,BH,Bq,hot,hk10,hF,DX,DY,CZ,Cr⟩:=hI27
     refine ALl fun K28 k28=>?_
     refine ALl fun K29 k29=>?_
     rcases(show(i<L.length∧i<8)∨(i<L.length∧¬i<8)∨¬i<L.length by omega) with ⟨hl1,h14⟩|⟨hl1,h14⟩|hl1
     · obtain⟨z,hx_z⟩:∃zx,L[i]'hl1=zx:=⟨_,rfl⟩
       obtain⟨N,hN⟩:∃N,Kw z=N:=⟨_,rfl⟩
       have hNa:Bn N=true:=hN▸FA z
       refine ALk ?_
       refine AK Gj 8 [(34,.int .i64 ((i:Int))),(35,.slice ax L.length cax),(36,.int .i64 ((L.length:Nat))),(37,.bool true),(38,.bool true),(39,.int .i64 ((i:Int))),(40,.bool true),(41,.bool true)]
         ⟨ym r5,ym r5,Bv (Tryz.underlying74) rfl rfl trivial (oy rfl rfl) (fun _=>rfl),Ho r7 (fun _=>Bk (decide_eq_true (by omega))),ym r5,A1 rq8,BZ rq9 (fun _=>Bk (decide_eq_true (by omega))),BC rq9,ALr⟩ fun a30 w30 g30 Es=>?_
       refine AE ?_
       refine k29 _ _ ?_
       refine Ar Es rfl rfl ?_
       refine ALp ?_
       refine k28 _ _ ?_
       refine ALl fun K31 k31=>?_
       refine BF fun Q32 x32 y32 rt32 o32=>?_
       refine ALl fun K33 k33=>?_
       refine ALk ?_
       replace hot:=hot.kn g30
       refine AK Es 5 [(44,.slice ax L.length cax),(45,.int .i64 ((i:Int))),(46,pk ((bO ax)) (oO ax+i*1)),(47,.int .i64 z),(48,.int .i64 N)]
         ⟨ym r5,ym r5,BJ rq8 (fun w=>CW Tryz.underlying74 (by kernel_rfl) (hot.1) (by omega) (rfl) w),CD r6 (fun _ g=>Ae (GF z) (by rw[←hx_z];exact DS (hot.kn g).1 AJL hl1 (by decide))),Cq r6 (fun _=>OU hN),ALr⟩ fun a34 w34 g34 Kv=>?_
       refine Aa (v:=.int .i64 N) Kv r6 fun a35 Jr=>?_
       have FS:Sv _ _ [_,_,_,_,_,_,_,_,_,_,_,_,_,_,_,_,_,_,_,_,_,_,_,_,_,_,_] _:=Jr.dl [44,45,46,47,48]
       refine AE ?_
       refine k33 _ _ ?_
       refine ALl fun K37 k37=>?_
       refine ALl fun K38 k38=>?_
       replace AZ:=AC g34 (AC g30 AZ)
       replace Am:=AC g34 (AC g30 Am)
       replace BH:=AC g34 (AC g30 BH)
       replace Bq:=AC g34 (AC g30 Bq)
       replace hot:=hot.kn g34
       replace hk10:=(hk10.kn g30).kn g34
       replace hF:=(hF.kn g30).kn g34
       replace HG:=AA (AA HG g30) g34
       by_cases hNA:N=A
       · refine ALk ?_
         refine AK FS 4 [(49,.int .i64 N),(50,D9 x n b ca),(51,.int .i64 A),(52,.bool true)]
          ⟨ym r5,yl r6 (Tj x n b ca) Am,Ad [D9 x n b ca] Tryz.func19 (by kernel_rfl) rq4 ⟨(oy rfl rfl),ALr⟩ (As fun W g=>hA▸Oz x n b ca W),Ho r7 (fun _=>CQ (by rw[hNA];simp)),ALr⟩ fun a39 w39 g39 Js=>?_
         refine AE ?_
         refine k38 _ _ ?_
         refine Ar Js rfl rfl ?_
         refine wp_exit ?_
         repeat refine CJ ?_
         refine x32 _ _ ?_
         refine k31 _ _ ?_
         refine ALk ?_
         refine AK Js 2 [(42,.int .i64 ((i:Int))),(43,.int .i64 (((i+1:Nat):Int)))]
          ⟨ym r5,Cq r6 (fun _=>DK (by rw[BA (by omega) (by omega)];omega)),ALr⟩ fun a40 w40 g40 I3=>?_
         have Ja:=AA g39 g40
         refine Aa (v:=.int .i64 (((i+1:Nat):Int))) I3 r6 fun a41 Et=>?_
         refine AE ?_
         replace AZ:=AC Ja AZ
         replace Am:=AC Ja Am
         replace BH:=AC Ja BH
         replace Bq:=AC Ja Bq
         replace hot:=hot.kn Ja
         replace hk10:=hk10.kn Ja
         replace hF:=hF.kn Ja
         replace HG:=AA HG Ja
         exact⟨⟨i+1,ks,ao,cap,by omega,hO.mono,⟨Et.1,Et.2.1,Et.2.2.1,(AH (AH Et)).2.2.1,(AH (AH Et)).2.2.2.1,(AH (AH Et)).2.2.2.2.1,(AH (AH Et)).2.2.2.2.2.1,(AH (AH Et)).2.2.2.2.2.2.1,(AH (AH Et)).2.2.2.2.2.2.2.1,(AH (AH (AH Et))).1,(AH (AH (AH Et))).2.1,(AH (AH (AH Et))).2.2.1,(AH (AH (AH Et))).2.2.2.1,(AH (AH (AH Et))).2.2.2.2.1,(AH (AH (AH Et))).2.2.2.2.2.1,(AH (AH (AH Et))).2.2.2.2.2.2.1,(AH (AH (AH Et))).2.2.2.2.2.2.2.1,(AH (AH (AH (AH Et)))).1,(AH (AH (AH (AH Et)))).2.1,(AH (AH (AH (AH Et)))).2.2.1,ALr⟩,HG,AZ,Am,BH,Bq,hot,hk10,hF,DX,DY,CZ,Cr⟩,by rw[show _=_ from Et.2.2.1,show _=_ from Gj.2.2.1];simp[intOf];omega⟩
       · obtain⟨P1,hP1,hO1⟩:=hO.step (sa:=vx.2.1) (po:=vx.2.2) (j:=i%6) hi8 (by omega) hNa hNA
         refine ALk ?_
         refine AK FS 4 [(49,.int .i64 N),(50,D9 x n b ca),(51,.int .i64 A),(52,.bool false)]
          ⟨ym r5,yl r6 (Tj x n b ca) Am,Ad [D9 x n b ca] Tryz.func19 (by kernel_rfl) rq4 ⟨(oy rfl rfl),ALr⟩ (As fun W g=>hA▸Oz x n b ca W),Ho r7 (fun _=>CQ (by simp[hNA])),ALr⟩ fun a42 w42 g42 GR=>?_
         refine AE ?_
         refine k38 _ _ ?_
         refine Av GR rfl rfl ?_
         refine ALp ?_
         refine k37 _ _ ?_
         refine ALl fun K43 k43=>?_
         replace AZ:=AC g42 AZ
         replace Am:=AC g42 Am
         replace BH:=AC g42 BH
         replace Bq:=AC g42 Bq
         replace hot:=hot.kn g42
         replace hk10:=hk10.kn g42
         replace hF:=hF.kn g42
         replace HG:=AA HG g42
         refine DU (GR.st w42) (by kernel_rfl) 10 [(54,Sp.is (Ao vx.2.1 vx.2.2 (.slice ao ks.length cap))),(55,Sp.is (.int .i64 ((i:Int)))),(56,Sp.is (.int .i64 (((i%6:Nat):Int)))),(57,Sp.is (AR ((Ek (i%6))))),(58,Sp.is (.int .i64 N)),(59,Sp.vt ((P1,vx.2.1,vx.2.2),(0:Int)) ((fun _=>False))),(53,Sp.vt ((P1,vx.2.1,vx.2.2),(0:Int)) ((fun _=>False))),(60,Sp.vv (P1,vx.2.1,vx.2.2) ((fun _=>False))),(61,Sp.is (.int .i64 0)),(12,Sp.new w42.heap.size (([bv AS,bv AS,[.slice none 0 0]].flatten)) 36)] rfl (by kernel_rfl) (by kernel_rfl) (by kernel_rfl) [8] (by kernel_rfl)
          ⟨yl r6 (BR hvd.1 hvd.2 (.slice ao ks.length cap) rfl) BH,ym r5,Cq r6 (fun _=>AIY (by decide) (AKf i)),Ad [.int .i64 (((i%6:Nat):Int))] Tryz.func30 (by kernel_rfl) rq4 ⟨(oy rfl rfl),ALr⟩ (As fun W g=>KZ (i%6) (by omega) W),ym r5,Ad [Ao vx.2.1 vx.2.2 (.slice ao ks.length cap),AR ((Ek (i%6))),.int .i64 N] Tryz.func31 (by kernel_rfl) rq4 ⟨(oy rfl rfl),(oy rfl rfl),(oy rfl rfl),ALr⟩ (AIi hvd.1 hvd.2 (KX (i%6)) hk10 rfl hP1),ym r5,BE rq4 (fun w u h=>Nw w u h),BE rq4 (fun w u h=>M7 w u h),LR rfl trivial (Nat.le_refl _) (fun a w=>by kernel_rfl) (fun _ _ h=>h),ALr⟩ ⟨fun o ho=>by obtain rfl:=Option.some.inj ho;exact Ic rfl rfl rfl trivial (fun w u h=>M7 w u h),ALr⟩
          [12] (by kernel_rfl) ⟨Sp.new_lt,ALr⟩ ⟨.inl rfl,.inl rfl,.inl rfl,.inl rfl,.inl rfl,.inl rfl,.inl rfl,.inl rfl,.inl rfl,.inr ⟨rfl,(([bv AS,bv AS,[.slice none 0 0]].flatten)).toArray,36,fun a w=>by kernel_rfl⟩,ALr⟩ (by kernel_rfl) fun a44 w44 g44 st44 nd44=>?_
         obtain⟨hn44,hd44,e44_54,e44_55,e44_56,e44_57,e44_58,e44_59,e44_53,e44_60,e44_61,e44_12,e44_49,e44_50,e44_51,e44_52,e44_11,e44_34,e44_35,e44_36,e44_37,e44_38,e44_39,e44_40,e44_41,e44_10,e44_32,e44_33,e44_9,e44_8,e44_7,e44_19,e44_20,e44_21,e44_22,e44_4,e44_3,e44_0,e44_1,e44_2,e44_25,e44_30,e44_31,-⟩:=st44
         obtain⟨ao45,cap45,ks45,e44_60q,hp45,hk45,hf45⟩:=e44_60
         obtain⟨ALG,e44_12q,Fv,QU⟩:=e44_12
         have SI:=Ga AZ Fv
         have SL:=Ga Am Fv
         have P3:=Ga BH Fv
         have P9:=Ga Bq Fv
         have ADC:=UA HG Fv
         have To:=Jn (hot.lt) Fv
         have SM:=Jn (hk10.lt) Fv
         have WO:=Jn (hF.lt) Fv
         replace AZ:=AC g44 AZ
         replace Am:=AC g44 Am
         replace BH:=AC g44 BH
         replace Bq:=AC g44 Bq
         have WP:=Hs hf45 AZ (by decide)
         have WQ:=Hs hf45 Am (by decide)
         have Mi:=Hs hf45 BH (by decide)
         have Tp:=Hs hf45 Bq (by decide)
         have SN:=Hs hf45 QU (by decide)
         have Pn:Sv 104 [] [(49,_),(50,_),(51,_),(52,_),(11,_),(34,_),(35,_),(36,_),(37,_),(38,_),(39,_),(40,_),(41,_),(10,_),(32,_),(33,_),(9,_),(8,_),(7,_),(19,_),(20,_),(21,_),(22,_),(4,_),(3,_),(0,_),(1,_),(2,_),(25,_),(30,_),(31,_),(60,_),(61,_),(12,_)] a44:=⟨hn44,hd44,e44_49,e44_50,e44_51,e44_52,e44_11,e44_34,e44_35,e44_36,e44_37,e44_38,e44_39,e44_40,e44_41,e44_10,e44_32,e44_33,e44_9,e44_8,e44_7,e44_19,e44_20,e44_21,e44_22,e44_4,e44_3,e44_0,e44_1,e44_2,e44_25,e44_30,e44_31,e44_60q,e44_61,e44_12q,ALr⟩
         refine Ap Pn r7 (BR hvd.1 hvd.2 (.slice ao45 ks45.length cap45) rfl) QU (by first|rfl|simp[AY,AI,AQ,hvd.1.1,hvd.2.1]) fun w46 g46 h46=>?_
         replace BH:=AX g46 BH (Ne.symm P3)
         replace QU:=h46
         refine Aa (v:=.int .i64 0) Pn r6 fun a47 MV=>?_
         refine AE ?_
         refine k43 _ _ ?_
         refine ALl fun K48 k48=>?_
         refine ALl fun K49 k49=>?_
         refine ALk ?_
         refine AK MV 2 [(62,.int .i64 0),(63,.bool false)]
          ⟨ym r5,Cq r6 (fun _=>EU rfl),ALr⟩ fun a50 w50 g50 Po=>?_
         refine AE ?_
         refine k49 _ _ ?_
         refine Av Po rfl rfl ?_
         refine ALp ?_
         refine k48 _ _ ?_
         refine ALk ?_
         refine AK Po 1 [(64,Ao vx.2.1 vx.2.2 (.slice ao45 ks45.length cap45))]
          ⟨yl r6 (BR hvd.1 hvd.2 (.slice ao45 ks45.length cap45) rfl) (AC g50 QU),ALr⟩ fun a51 w51 g51 EE=>?_
         have WS:=AA g50 g51
         refine Ap EE r7 (BR hvd.1 hvd.2 (.slice ao45 ks45.length cap45) rfl) (AC WS BH) (by first|rfl|simp[AY,AI,AQ,hvd.1.1,hvd.2.1,hvd.1.1,hvd.2.1]) fun w52 g52 h52=>?_
         refine AE ?_
         refine y32 _ _ ?_
         refine k31 _ _ ?_
         refine ALk ?_
         refine AK EE 2 [(42,.int .i64 ((i:Int))),(43,.int .i64 (((i+1:Nat):Int)))]
          ⟨ym r5,Cq r6 (fun _=>DK (by rw[BA (by omega) (by omega)];omega)),ALr⟩ fun a53 w53 g53 Xo=>?_
         refine Aa (v:=.int .i64 (((i+1:Nat):Int))) Xo r6 fun a54 E8=>?_
         refine AE ?_
         replace AZ:=AC g53 (Ah WS g52 (AX g46 AZ (Ne.symm SI)) (Ne.symm Jf))
         replace Am:=AC g53 (Ah WS g52 (AX g46 Am (Ne.symm SL)) (Ne.symm Jg))
         replace BH:=AC g53 h52
         replace Bq:=AC g53 (Ah WS g52 (AX g46 Bq (Ne.symm P9)) I0)
         replace hot:=((((hot.kn g44).offR g46 (AU To)).kn WS).offR g52 (AU Kh)).kn g53
         replace hk10:=((((hk10.kn g44).offR g46 (AU SM)).kn WS).offR g52 (AU CZ)).kn g53
         replace hF:=((((hF.kn g44).offR g46 (AU WO)).kn WS).offR g52 (AU PZ)).kn g53
         replace hk45:=(((hk45.offR g46 (AU SN)).kn WS).offR g52 (AU Mi)).kn g53
         replace HG:=AA (AD (AA (AD (AA HG g44) g46 ADC) WS) g52 SE) g53
         exact⟨⟨i+1,ks45,ao45,cap45,by omega,by rw[hp45];exact hO1,⟨E8.1,E8.2.1,E8.2.2.1,(AH (AH E8)).2.2.2.2.2.2.1,(AH (AH E8)).2.2.2.2.2.2.2.1,(AH (AH (AH E8))).1,(AH (AH (AH E8))).2.1,(AH (AH (AH E8))).2.2.1,(AH (AH (AH E8))).2.2.2.1,(AH (AH (AH E8))).2.2.2.2.1,(AH (AH (AH E8))).2.2.2.2.2.1,(AH (AH (AH E8))).2.2.2.2.2.2.1,(AH (AH (AH E8))).2.2.2.2.2.2.2.1,(AH (AH (AH (AH E8)))).1,(AH (AH (AH (AH E8)))).2.1,(AH (AH (AH (AH E8)))).2.2.1,(AH (AH (AH (AH E8)))).2.2.2.1,(AH (AH (AH (AH E8)))).2.2.2.2.1,(AH (AH (AH (AH E8)))).2.2.2.2.2.1,(AH (AH (AH (AH E8)))).2.2.2.2.2.2.1,ALr⟩,HG,AZ,Am,BH,Bq,hot,hk45,hF,WP,WQ,Mi,Tp⟩,by rw[show _=_ from E8.2.2.1,show _=_ from Gj.2.2.1];simp[intOf];omega⟩
     · refine ALk ?_
       refine AK Gj 8 [(34,.int .i64 ((i:Int))),(35,.slice ax L.length cax),(36,.int .i64 ((L.length:Nat))),(37,.bool true),(38,.bool true),(39,.int .i64 ((i:Int))),(40,.bool false),(41,.bool false)]
         ⟨ym r5,ym r5,Bv (Tryz.underlying74) rfl rfl trivial (oy rfl rfl) (fun _=>rfl),Ho r7 (fun _=>Bk (decide_eq_true (by omega))),ym r5,A1 rq8,BZ rq9 (fun _=>Bk (decide_eq_false (by omega))),BC rq9,ALr⟩ fun a55 w55 g55 I7=>?_
       refine AE ?_
       refine k29 _ _ ?_
       refine Av I7 rfl rfl ?_
       refine wp_exit ?_
       repeat refine CJ ?_
       refine x26 _ _ ?_
       replace AZ:=AC g55 AZ
       replace Am:=AC g55 Am
       replace BH:=AC g55 BH
       replace Bq:=AC g55 Bq
       replace hot:=hot.kn g55
       replace hk10:=hk10.kn g55
       replace hF:=hF.kn g55
       replace HG:=AA HG g55
       exact MB25 _ _ ⟨ks,ao,cap,OE.of hO hi8 hAa,⟨I7.1,I7.2.1,(AH I7).2.2.2.1,(AH I7).2.2.2.2.1,(AH I7).2.2.2.2.2.1,(AH I7).2.2.2.2.2.2.1,(AH I7).2.2.2.2.2.2.2.1,(AH (AH I7)).1,(AH (AH I7)).2.1,(AH (AH I7)).2.2.1,(AH (AH I7)).2.2.2.1,(AH (AH I7)).2.2.2.2.1,(AH (AH I7)).2.2.2.2.2.1,(AH (AH I7)).2.2.2.2.2.2.1,(AH (AH I7)).2.2.2.2.2.2.2.1,(AH (AH (AH I7))).1,(AH (AH (AH I7))).2.1,(AH (AH (AH I7))).2.2.1,(AH (AH (AH I7))).2.2.2.1,ALr⟩,HG,AZ,Am,BH,Bq,hot,hk10,hF,DX,DY,CZ,Cr⟩
     · refine ALk ?_
       refine AK Gj 8 [(34,.int .i64 ((i:Int))),(35,.slice ax L.length cax),(36,.int .i64 ((L.length:Nat))),(37,.bool false),(38,.bool false),(39,undef),(40,undef),(41,.bool false)]
         ⟨ym r5,ym r5,Bv (Tryz.underlying74) rfl rfl trivial (oy rfl rfl) (fun _=>rfl),Ho r7 (fun _=>Bk (decide_eq_false (by omega))),ym r5,Ab r6,Ab r6,CK r7,ALr⟩ fun a56 w56 g56 FU=>?_
       refine AE ?_
       refine k29 _ _ ?_
       refine Av FU rfl rfl ?_
       refine wp_exit ?_
       repeat refine CJ ?_
       refine x26 _ _ ?_
       replace AZ:=AC g56 AZ
       replace Am:=AC g56 Am
       replace BH:=AC g56 BH
       replace Bq:=AC g56 Bq
       replace hot:=hot.kn g56
       replace hk10:=hk10.kn g56
       replace hF:=hF.kn g56
       replace HG:=AA HG g56
       exact MB25 _ _ ⟨ks,ao,cap,OE.of hO hi8 hAa,⟨FU.1,FU.2.1,(AH FU).2.2.2.1,(AH FU).2.2.2.2.1,(AH FU).2.2.2.2.2.1,(AH FU).2.2.2.2.2.2.1,(AH FU).2.2.2.2.2.2.2.1,(AH (AH FU)).1,(AH (AH FU)).2.1,(AH (AH FU)).2.2.1,(AH (AH FU)).2.2.2.1,(AH (AH FU)).2.2.2.2.1,(AH (AH FU)).2.2.2.2.2.1,(AH (AH FU)).2.2.2.2.2.2.1,(AH (AH FU)).2.2.2.2.2.2.2.1,(AH (AH (AH FU))).1,(AH (AH (AH FU))).2.1,(AH (AH (AH FU))).2.2.1,(AH (AH (AH FU))).2.2.2.1,ALr⟩,HG,AZ,Am,BH,Bq,hot,hk10,hF,DX,DY,CZ,Cr⟩
   clear AZ
   clear Am
   clear BH
   clear Bq
   clear hot
   clear hk10
   clear hF
   clear HG
   rintro a25 w25 ⟨ks,ao,cap,hO0,DM,HG,AZ,Am,BH,Bq,hot,hk10,hF,DX,DY,CZ,Cr⟩
   refine k22 _ _ ?_
   refine ALl fun K57 k57=>?_
   refine ALl fun K58 k58=>?_
   refine ALk ?_
   refine Aa (v:=.int .i64 0) DM r6 fun a59 Cz=>?_
   refine AE ?_
   refine k58 _ _ ?_
   refine BF fun Q60 x60 y60 rt60 o60=>?_
   refine wp_loop (fun a w'=>∃(i:Nat) (ks:List VK) (ao:Option Addr) (cap:Nat),(i≤6)∧(OE seed A n (ks.map VK.p) i)∧Sv 104 [] [(14,.int .i64 ((i:Int))),(32,.int .i64 r.2),(33,.bool false),(9,.int .i64 r.2),(8,pt N5),(7,pt N3),(19,pt II),(20,CE x),(21,.bool true),(22,.bool false),(4,pt II),(3,pt Hh),(0,AR seed),(1,D9 x n b ca),(2,.slice ax L.length cax),(25,Ao vx.2.1 vx.2.2 (.slice ao10 ks10.length cap10)),(30,Ce r.1.addr (.slice ao15 (List.length own15) ac15) r.1.joint (.slice wo15 (List.length wr15) wc15) (.slice bo15 r.1.body.length bc15) r.1.tag),(31,.int .i64 r.2)] a∧w.grownBy w' none∧w'.heap[Hh]?=some (.cells (bv seed).toArray 23 (0,0))∧w'.heap[II]?=some (.cells ([vc x,[.int .i64 n],[.bool b],[.int .i64 ca]].flatten).toArray 27 (0,0))∧w'.heap[N3]?=some (.cells ([bv vx.2.1,bv vx.2.2,[.slice ao ks.length cap]].flatten).toArray 36 (0,0))∧w'.heap[N5]?=some (.cells ([[.int .i64 r.1.addr],[.slice ao15 (List.length own15) ac15],[.int .i64 r.1.joint],[.slice wo15 (List.length wr15) wc15],[.slice bo15 r.1.body.length bc15],bv r.1.tag].flatten).toArray 31 (0,0))∧SlB w' 1 (.slice ax L.length cax) L.length (L.flatMap ce)∧RdK w' (.slice ao ks.length cap) ks∧SdF w' r.1 own15 wr15 ao15 wo15 bo15 ac15 wc15 bc15∧(∀k,JZ (.slice ao ks.length cap) ks k→k≠Hh)∧(∀k,JZ (.slice ao ks.length cap) ks k→k≠II)∧(∀k,JZ (.slice ao ks.length cap) ks k→k≠N3)∧(∀k,JZ (.slice ao ks.length cap) ks k→k≠N5)) (fun a _=>(6-intOf (a.tmps.getD 14 undef)).toNat) ⟨0,ks,ao,cap,by omega,hO0,⟨Cz.1,Cz.2.1,Cz.2.2.1,Cz.2.2.2.1,Cz.2.2.2.2.1,Cz.2.2.2.2.2.1,Cz.2.2.2.2.2.2.1,Cz.2.2.2.2.2.2.2.1,(AH Cz).1,(AH Cz).2.1,(AH Cz).2.2.1,(AH Cz).2.2.2.1,(AH Cz).2.2.2.2.1,(AH Cz).2.2.2.2.2.1,(AH Cz).2.2.2.2.2.2.1,(AH Cz).2.2.2.2.2.2.2.1,(AH (AH Cz)).1,(AH (AH Cz)).2.1,(AH (AH Cz)).2.2.1,(AH (AH Cz)).2.2.2.1,ALr⟩,HG,AZ,Am,BH,Bq,hot,hk10,hF,DX,DY,CZ,Cr⟩ fun a61 w61 hI61=>?_
   clear AZ
   clear Am
   clear BH
   clear Bq
   clear hot
   clear hk10
   clear hF
   clear HG
   obtain⟨i,ks,ao,cap,hi6,hO,KM,HG,AZ,Am,BH,Bq,hot,hk10,hF,DX,DY,CZ,Cr⟩:=hI61
   refine ALl fun K62 k62=>?_
   refine ALl fun K63 k63=>?_
   by_cases hi:i<6
   · refine ALk ?_
     refine AK KM 2 [(65,.int .i64 ((i:Int))),(66,.bool true)]
       ⟨ym r5,Cq r6 (fun _=>Bk (decide_eq_true (by omega))),ALr⟩ fun a64 w64 g64 Vq=>?_
     refine AE ?_
     refine k63 _ _ ?_
     refine Ar Vq rfl rfl ?_
     refine ALp ?_
     refine k62 _ _ ?_
     refine ALl fun K65 k65=>?_
     refine BF fun Q66 x66 y66 rt66 o66=>?_
     refine ALl fun K67 k67=>?_
     replace AZ:=AC g64 AZ
     replace Am:=AC g64 Am
     replace BH:=AC g64 BH
     replace Bq:=AC g64 Bq
     replace hot:=hot.kn g64
     replace hk10:=hk10.kn g64
     replace hF:=hF.kn g64
     replace HG:=AA HG g64
     by_cases hb:KY n i=1
     · refine ALk ?_
       refine AK Vq 7 [(69,pk II 3),(70,.int .i64 n),(71,.int .i64 ((i:Int))),(72,.int .u64 ((i:Int))),(73,.int .i64 ((n/2^i))),(74,.int .i64 ((KY n i))),(75,.bool false)]
         ⟨yf r6 (fun _=>by kernel_rfl),yp (i:=1) r6 (Eu n) Am rfl rfl,ym r5,JF r6 (fun _=>JG Tryz.underlying3 Tryz.underlying48 (Jq (by omega) (by omega))),Ho r7 (fun _=>QS i (by omega) rfl),Cq r6 (fun _=>OU rfl),Cq r6 (fun _=>CQ (by rw[hb];rfl)),ALr⟩ fun a68 w68 g68 Ll=>?_
       refine AE ?_
       refine k67 _ _ ?_
       refine Av Ll rfl rfl ?_
       refine ALp ?_
       refine y66 _ _ ?_
       refine k65 _ _ ?_
       refine ALk ?_
       refine AK Ll 2 [(67,.int .i64 ((i:Int))),(68,.int .i64 (((i+1:Nat):Int)))]
         ⟨ym r5,Cq r6 (fun _=>DK (by rw[BA (by omega) (by omega)];omega)),ALr⟩ fun a69 w69 g69 AG7=>?_
       have ZC:=AA g68 g69
       refine Aa (v:=.int .i64 (((i+1:Nat):Int))) AG7 r6 fun a70 GJ=>?_
       refine AE ?_
       replace AZ:=AC ZC AZ
       replace Am:=AC ZC Am
       replace BH:=AC ZC BH
       replace Bq:=AC ZC Bq
       replace hot:=hot.kn ZC
       replace hk10:=hk10.kn ZC
       replace hF:=hF.kn ZC
       replace HG:=AA HG ZC
       exact⟨⟨i+1,ks,ao,cap,by omega,hO.mono hb,⟨GJ.1,GJ.2.1,GJ.2.2.1,(AH GJ).2.2.2.2.2.2.1,(AH GJ).2.2.2.2.2.2.2.1,(AH (AH GJ)).1,(AH (AH GJ)).2.1,(AH (AH GJ)).2.2.1,(AH (AH GJ)).2.2.2.1,(AH (AH GJ)).2.2.2.2.1,(AH (AH GJ)).2.2.2.2.2.1,(AH (AH GJ)).2.2.2.2.2.2.1,(AH (AH GJ)).2.2.2.2.2.2.2.1,(AH (AH (AH GJ))).1,(AH (AH (AH GJ))).2.1,(AH (AH (AH GJ))).2.2.1,(AH (AH (AH GJ))).2.2.2.1,(AH (AH (AH GJ))).2.2.2.2.1,(AH (AH (AH GJ))).2.2.2.2.2.1,(AH (AH (AH GJ))).2.2.2.2.2.2.1,ALr⟩,HG,AZ,Am,BH,Bq,hot,hk10,hF,DX,DY,CZ,Cr⟩,by rw[show _=_ from GJ.2.2.1,show _=_ from KM.2.2.1];simp[intOf];omega⟩
     · have hb0:KY n i=0:=(AJM n i).resolve_right hb
       refine ALk ?_
       refine AK Vq 7 [(69,pk II 3),(70,.int .i64 n),(71,.int .i64 ((i:Int))),(72,.int .u64 ((i:Int))),(73,.int .i64 ((n/2^i))),(74,.int .i64 ((KY n i))),(75,.bool true)]
         ⟨yf r6 (fun _=>by kernel_rfl),yp (i:=1) r6 (Eu n) Am rfl rfl,ym r5,JF r6 (fun _=>JG Tryz.underlying3 Tryz.underlying48 (Jq (by omega) (by omega))),Ho r7 (fun _=>QS i (by omega) rfl),Cq r6 (fun _=>OU rfl),Cq r6 (fun _=>CQ (by rw[hb0];rfl)),ALr⟩ fun a71 w71 g71 AKg=>?_
       refine AE ?_
       refine k67 _ _ ?_
       refine Ar AKg rfl rfl ?_
       refine ALl fun K72 k72=>?_
       replace AZ:=AC g71 AZ
       replace Am:=AC g71 Am
       replace BH:=AC g71 BH
       replace Bq:=AC g71 Bq
       replace hot:=hot.kn g71
       replace hk10:=hk10.kn g71
       replace hF:=hF.kn g71
       replace HG:=AA HG g71
       refine DU (AKg.st w71) (by kernel_rfl) 8 [(77,Sp.is (Ao vx.2.1 vx.2.2 (.slice ao ks.length cap))),(78,Sp.is (.int .i64 ((i:Int)))),(79,Sp.is (AR ((Ek i)))),(80,Sp.vt ((Hw (ks.map VK.p) (Ek i),vx.2.1,vx.2.2),(0:Int)) ((fun _=>False))),(76,Sp.vt ((Hw (ks.map VK.p) (Ek i),vx.2.1,vx.2.2),(0:Int)) ((fun _=>False))),(81,Sp.vv (Hw (ks.map VK.p) (Ek i),vx.2.1,vx.2.2) ((fun _=>False))),(82,Sp.is (.int .i64 0)),(15,Sp.new w71.heap.size (([bv AS,bv AS,[.slice none 0 0]].flatten)) 36)] rfl (by kernel_rfl) (by kernel_rfl) (by kernel_rfl) [6] (by kernel_rfl)
         ⟨yl r6 (BR hvd.1 hvd.2 (.slice ao ks.length cap) rfl) BH,ym r5,Ad [.int .i64 ((i:Int))] Tryz.func30 (by kernel_rfl) rq4 ⟨(oy rfl rfl),ALr⟩ (As fun W g=>KZ i hi W),Ad [Ao vx.2.1 vx.2.2 (.slice ao ks.length cap),AR ((Ek i))] Tryz.func29 (by kernel_rfl) rq4 ⟨(oy rfl rfl),(oy rfl rfl),ALr⟩ (AIj hvd.1 hvd.2 (KX i) hk10 rfl (AD3 hO.1 (hO.has hi))),ym r5,BE rq4 (fun w u h=>Nw w u h),BE rq4 (fun w u h=>M7 w u h),LR rfl trivial (Nat.le_refl _) (fun a w=>by kernel_rfl) (fun _ _ h=>h),ALr⟩ ⟨fun o ho=>by obtain rfl:=Option.some.inj ho;exact Ic rfl rfl rfl trivial (fun w u h=>M7 w u h),ALr⟩
         [15] (by kernel_rfl) ⟨Sp.new_lt,ALr⟩ ⟨.inl rfl,.inl rfl,.inl rfl,.inl rfl,.inl rfl,.inl rfl,.inl rfl,.inr ⟨rfl,(([bv AS,bv AS,[.slice none 0 0]].flatten)).toArray,36,fun a w=>by kernel_rfl⟩,ALr⟩ (by kernel_rfl) fun a73 w73 g73 st73 nd73=>?_
       obtain⟨hn73,hd73,e73_77,e73_78,e73_79,e73_80,e73_76,e73_81,e73_82,e73_15,e73_69,e73_70,e73_71,e73_72,e73_73,e73_74,e73_75,e73_65,e73_66,e73_14,e73_32,e73_33,e73_9,e73_8,e73_7,e73_19,e73_20,e73_21,e73_22,e73_4,e73_3,e73_0,e73_1,e73_2,e73_25,e73_30,e73_31,-⟩:=st73
       obtain⟨ao74,cap74,ks74,e73_81q,hp74,hk74,hf74⟩:=e73_81
       obtain⟨ALH,e73_15q,Fw,QV⟩:=e73_15
       have SO:=Ga AZ Fw
       have SP:=Ga Am Fw
       have QA:=Ga BH Fw
       have QB:=Ga Bq Fw
       have ADD:=UA HG Fw
       have Tq:=Jn (hot.lt) Fw
       have SR:=Jn (hk10.lt) Fw
       have WU:=Jn (hF.lt) Fw
       replace AZ:=AC g73 AZ
       replace Am:=AC g73 Am
       replace BH:=AC g73 BH
       replace Bq:=AC g73 Bq
       have WV:=Hs hf74 AZ (by decide)
       have WW:=Hs hf74 Am (by decide)
       have Mj:=Hs hf74 BH (by decide)
       have Tr:=Hs hf74 Bq (by decide)
       have SS:=Hs hf74 QV (by decide)
       have YP:Sv 104 [] [(69,_),(70,_),(71,_),(72,_),(73,_),(74,_),(75,_),(65,_),(66,_),(14,_),(32,_),(33,_),(9,_),(8,_),(7,_),(19,_),(20,_),(21,_),(22,_),(4,_),(3,_),(0,_),(1,_),(2,_),(25,_),(30,_),(31,_),(81,_),(82,_),(15,_)] a73:=⟨hn73,hd73,e73_69,e73_70,e73_71,e73_72,e73_73,e73_74,e73_75,e73_65,e73_66,e73_14,e73_32,e73_33,e73_9,e73_8,e73_7,e73_19,e73_20,e73_21,e73_22,e73_4,e73_3,e73_0,e73_1,e73_2,e73_25,e73_30,e73_31,e73_81q,e73_82,e73_15q,ALr⟩
       refine Ap YP r7 (BR hvd.1 hvd.2 (.slice ao74 ks74.length cap74) rfl) QV (by first|rfl|simp[AY,AI,AQ,hvd.1.1,hvd.2.1]) fun w75 g75 h75=>?_
       replace BH:=AX g75 BH (Ne.symm QA)
       replace QV:=h75
       refine Aa (v:=.int .i64 0) YP r6 fun a76 AC0=>?_
       refine AE ?_
       refine k72 _ _ ?_
       refine ALl fun K77 k77=>?_
       refine ALl fun K78 k78=>?_
       refine ALk ?_
       refine AK AC0 2 [(83,.int .i64 0),(84,.bool false)]
         ⟨ym r5,Cq r6 (fun _=>EU rfl),ALr⟩ fun a79 w79 g79 Ou=>?_
       refine AE ?_
       refine k78 _ _ ?_
       refine Av Ou rfl rfl ?_
       refine ALp ?_
       refine k77 _ _ ?_
       refine ALk ?_
       refine AK Ou 1 [(85,Ao vx.2.1 vx.2.2 (.slice ao74 ks74.length cap74))]
         ⟨yl r6 (BR hvd.1 hvd.2 (.slice ao74 ks74.length cap74) rfl) (AC g79 QV),ALr⟩ fun a80 w80 g80 AG9=>?_
       have Jd:=AA g79 g80
       refine Ap AG9 r7 (BR hvd.1 hvd.2 (.slice ao74 ks74.length cap74) rfl) (AC Jd BH) (by first|rfl|simp[AY,AI,AQ,hvd.1.1,hvd.2.1,hvd.1.1,hvd.2.1]) fun w81 g81 h81=>?_
       refine AE ?_
       refine y66 _ _ ?_
       refine k65 _ _ ?_
       refine ALk ?_
       refine AK AG9 2 [(67,.int .i64 ((i:Int))),(68,.int .i64 (((i+1:Nat):Int)))]
         ⟨ym r5,Cq r6 (fun _=>DK (by rw[BA (by omega) (by omega)];omega)),ALr⟩ fun a82 w82 g82 YQ=>?_
       refine Aa (v:=.int .i64 (((i+1:Nat):Int))) YQ r6 fun a83 Hj=>?_
       refine AE ?_
       replace AZ:=AC g82 (Ah Jd g81 (AX g75 AZ (Ne.symm SO)) (Ne.symm Jf))
       replace Am:=AC g82 (Ah Jd g81 (AX g75 Am (Ne.symm SP)) (Ne.symm Jg))
       replace BH:=AC g82 h81
       replace Bq:=AC g82 (Ah Jd g81 (AX g75 Bq (Ne.symm QB)) I0)
       replace hot:=((((hot.kn g73).offR g75 (AU Tq)).kn Jd).offR g81 (AU Kh)).kn g82
       replace hk10:=((((hk10.kn g73).offR g75 (AU SR)).kn Jd).offR g81 (AU CZ)).kn g82
       replace hF:=((((hF.kn g73).offR g75 (AU WU)).kn Jd).offR g81 (AU PZ)).kn g82
       replace hk74:=(((hk74.offR g75 (AU SS)).kn Jd).offR g81 (AU Mj)).kn g82
       replace HG:=AA (AD (AA (AD (AA HG g73) g75 ADD) Jd) g81 SE) g82
       exact⟨⟨i+1,ks74,ao74,cap74,by omega,by rw[hp74];exact hO.drop hi hb,⟨Hj.1,Hj.2.1,Hj.2.2.1,(AH (AH Hj)).2.2.1,(AH (AH Hj)).2.2.2.1,(AH (AH Hj)).2.2.2.2.1,(AH (AH Hj)).2.2.2.2.2.1,(AH (AH Hj)).2.2.2.2.2.2.1,(AH (AH Hj)).2.2.2.2.2.2.2.1,(AH (AH (AH Hj))).1,(AH (AH (AH Hj))).2.1,(AH (AH (AH Hj))).2.2.1,(AH (AH (AH Hj))).2.2.2.1,(AH (AH (AH Hj))).2.2.2.2.1,(AH (AH (AH Hj))).2.2.2.2.2.1,(AH (AH (AH Hj))).2.2.2.2.2.2.1,(AH (AH (AH Hj))).2.2.2.2.2.2.2.1,(AH (AH (AH (AH Hj)))).1,(AH (AH (AH (AH Hj)))).2.1,(AH (AH (AH (AH Hj)))).2.2.1,ALr⟩,HG,AZ,Am,BH,Bq,hot,hk74,hF,WV,WW,Mj,Tr⟩,by rw[show _=_ from Hj.2.2.1,show _=_ from KM.2.2.1];simp[intOf];omega⟩
   · obtain rfl:i=6:=by omega
     have hq:Fd (ks.map VK.p) r.1=(x.clean,0):=by rw[←hres,←hvx];exact AFb (hA▸hO)
     refine ALk ?_
     refine AK KM 2 [(65,.int .i64 (((6:Nat):Int))),(66,.bool false)]
       ⟨ym r5,Cq r6 (fun _=>Bk (by simp)),ALr⟩ fun a84 w84 g84 Ve=>?_
     refine AE ?_
     refine k63 _ _ ?_
     refine Av Ve rfl rfl ?_
     refine wp_exit ?_
     repeat refine CJ ?_
     refine x60 _ _ ?_
     refine k57 _ _ ?_
     refine ALl fun K85 k85=>?_
     refine ALk ?_
     replace BH:=AC g84 BH
     replace Bq:=AC g84 Bq
     replace hk10:=hk10.kn g84
     replace hF:=hF.kn g84
     refine AK Ve 6 [(87,Ao vx.2.1 vx.2.2 (.slice ao ks.length cap)),(88,Ce r.1.addr (.slice ao15 (List.length own15) ac15) r.1.joint (.slice wo15 (List.length wr15) wc15) (.slice bo15 r.1.body.length bc15) r.1.tag),(89,.tuple #[CE x.clean,.int .i64 0]),(86,.tuple #[CE x.clean,.int .i64 0]),(90,CE x.clean),(91,.int .i64 0)]
       ⟨yl r6 (BR hvd.1 hvd.2 (.slice ao ks.length cap) rfl) BH,yl r6 (FL _ _ hF.tg (.slice ao15 (List.length own15) ac15) (.slice wo15 (List.length wr15) wc15) (.slice bo15 r.1.body.length bc15) rfl rfl rfl) Bq,Ad [Ao vx.2.1 vx.2.2 (.slice ao ks.length cap),Ce r.1.addr (.slice ao15 (List.length own15) ac15) r.1.joint (.slice wo15 (List.length wr15) wc15) (.slice bo15 r.1.body.length bc15) r.1.tag] Tryz.func22 (by kernel_rfl) rq4 ⟨(oy rfl rfl),(oy rfl rfl),ALr⟩ (As fun W g=>AFU (q:=(x.clean,0)) hvd.1 hvd.2 (hk10.kn g) rfl (hF.kn g) hq),ym r5,BE rq4 (fun _ _ h=>⟨_,_,h,rfl,rfl⟩),BE rq4 (fun _ _ h=>⟨_,_,h,rfl,rfl⟩),ALr⟩ fun a86 w86 g86 Ee=>?_
     replace Am:=AC g86 (AC g84 Am)
     replace hF:=hF.kn g86
     replace HG:=AA (AA HG g84) g86
     refine Ax (T:=25) (Z:=[.int .i64 0,.int .i64 0,.string ⟨#[]⟩]) Ee rfl rfl rfl (fun a w=>by kernel_rfl) fun a87 w87 ALI O8 g87 z87 WX AE7=>?_
     have SU:=Au Am O8
     have ADE:=B7 HG O8
     have WY:=A2 (hF.lt) O8
     refine Ap AE7 r7 (EP x.clean) WX rfl fun w88 g88 h88=>?_
     replace Am:=AX g88 (AC g87 Am) (Ne.symm SU)
     replace WX:=h88
     refine Aa (v:=.int .i64 0) AE7 r6 fun a89 AC1=>?_
     have AI9:Sv _ _ [_,_,_,_,_,_,_,_,_,_,_,_,_,_,_,_,_,_,_,_,_,_] _:=AC1.dl [87,88,89,86,90,91]
     refine AE ?_
     refine k85 _ _ ?_
     refine ALl fun K91 k91=>?_
     refine DP AI9 [(92,.int .i64 0),(93,.bool true),(94,.bool true),(95,CE x.clean),(96,pt II),(97,CE x),(98,CE x.clean),(99,.bool true),(100,.bool true),(101,.bool true),(102,.bool true),(103,.bool true),(6,.bool true)]
       ⟨ym r5,Cq r6 (fun _=>CQ rfl),ym r5,A9 rq9 (fun _ g=>Ae (EP x.clean) (Ai (AF g WX (by simp)))),Bl rq9 (fun _=>by kernel_rfl),A9 rq9 (fun _ g=>Ae (EP x) (Bu (L:=[vc x,[.int .i64 n],[.bool b],[.int .i64 ca]]) (i:=0) (AF g Am (by simp)) rfl rfl)),CL [CE x] Tryz.func25 (by kernel_rfl) r7 ⟨(oy rfl rfl),ALr⟩ (As fun W g=>O9 x W),OZ rfl rfl (gy rfl rfl rfl) (oy rfl rfl) (oy rfl rfl) (fun _=>ABi (V.clean_ok x)) (fun _=>rfl),BC rq9,ym r5,CL [] Tryz.func13 (by kernel_rfl) r7 trivial (As fun W g=>R7 W),BC rq9,Gy 103 6 (.inr rfl) rfl rfl trivial (fun _ _ h=>h),ALr⟩ fun a92 w92 g92 YT=>?_
     refine k91 _ _ ?_
     replace Am:=AC g92 Am
     replace hF:=((hF.kn g87).offR g88 (AU WY)).kn g92
     replace HG:=AA (AD (AA HG g87) g88 ADE) g92
     refine ALo ?_
     repeat refine AM ?_
     refine BQ (fn:=Tryz.f11) YT (BT (p:=6) Tryz.results11 YT rfl rfl) ?_
     exact⟨rfl,HG⟩
 · refine ALk ?_
   refine AK sv4 4 [(19,pt II),(20,CE x),(21,.bool false),(22,.bool true)]
     ⟨yf r6 (fun _=>by kernel_rfl),yp (i:=0) r6 (EP x) Am rfl rfl,Ad [CE x] Tryz.func12 (by kernel_rfl) rq4 ⟨(oy rfl rfl),ALr⟩ (As fun W g=>(ABn x W).mono fun e w' ⟨h1,h2⟩=>⟨by rw[h1,decide_eq_false hsm],h2⟩),Cu r6 (fun _=>Bc),ALr⟩ fun a93 w93 g93 AKh=>?_
   refine AE ?_
   refine k6 _ _ ?_
   refine Ar AKh rfl rfl ?_
   refine ALl fun K94 k94=>?_
   refine ALk ?_
   refine AK AKh 1 [(23,.bool true)]
     ⟨Ad [] Tryz.func13 (by kernel_rfl) rq4 trivial (As fun W g=>R7 W),ALr⟩ fun a95 w95 g95 AI1=>?_
   refine Aa (v:=.bool true) AI1 r6 fun a96 AAT=>?_
   refine AE ?_
   refine k94 _ _ ?_
   replace HG:=AA (AA HG g93) g95
   refine ALo ?_
   repeat refine AM ?_
   refine BQ (fn:=Tryz.f11) AAT (BT (p:=6) Tryz.results11 AAT rfl rfl) ?_
   exact⟨rfl,HG⟩
theorem ZD (seed:List Nat) (hse:Dg seed) (x:V) (n:Int) (b:Bool) (ca:Int) (L:List Int) (v:Value) (w:World) (h:SlB w 1 v L.length (L.flatMap ce)):Calls Tryz.prog 11 #[AR seed,D9 x n b ca,v] w fun e w'=>e=.returned (.bool true)∧w.grownBy w' none:=by
 obtain⟨ax,cax,rfl,_⟩:=h.1.shape
 exact AAn seed hse x n b ca L ax cax w h
end Go.Proofs.YtbfjfnbcmojpiaaGreat
