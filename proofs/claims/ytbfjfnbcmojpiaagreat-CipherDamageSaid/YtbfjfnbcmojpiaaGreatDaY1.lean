import Derived.Test.YtbfjfnbcmojpiaaGreatDaV9
import Derived.OrdersHeld
import Derived.Test.YtbfjfnbcmojpiaaGreatDaSG
set_option linter.unusedSimpArgs false
set_option linter.unusedVariables false
set_option maxRecDepth 100000
set_option maxHeartbeats 4000000
namespace Go.Proofs.YtbfjfnbcmojpiaaGreat
open Go.RowKit Go.Shelf
def Sp.lit1T (B:Nat) (o:List Nat) (l:List Nd):Sp:=⟨fun w v=>∃(A:Nat) (x:VK),v=.slice (some ⟨A,0,none⟩) 1 1∧w.heap[A]?=some (.cells (Ar x).toArray 58 (0,0))∧x.o=o∧x.l=l∧RdTg w x.s x.l∧(∀k,OZ x.s k→B≤k)∧B≤A,fun _ _ _ hg ⟨A,x,h1,h2,h3,h4,h5,h7,h8⟩=>⟨A,x,h1,AF hg h2 (by simp),h3,h4,h5.kn hg,h7,h8⟩⟩
theorem AHh {B:Nat} {o:List Nat} {l:List Nd} {w:World} {v:Value} (hB:B≤w.heap.size) (h:(Sp.ck B o l).on w v):∃cs:List Value,(Instr.buildSlice 34 1 #[(0,v)]).run Tryz.prog w=.ok (.slice (some ⟨w.heap.size,0,none⟩) 1 1) (w.alloc (.cells cs.toArray 58)) ∧
  ∀w',w.grownBy w' none→w'.heap[w.heap.size]?=some (.cells cs.toArray 58 (0,0))→(Sp.lit1T B o l).on w' (.slice (some ⟨w.heap.size,0,none⟩) 1 1):=by
 obtain⟨x,rfl,h2,h3,h4,h6⟩:=h
 exact⟨Ar x,AMT x w,fun w' g hb=>⟨_,x,rfl,hb,h2,h3,h4.kn g,h6,hB⟩⟩
theorem AMa {P:List VP} {ms:List VK} {k:Nat} {o:List Nat} {T:List Nd} (h:ms.map VK.p=I9 P k (o,T)) (hk:k≤P.length) (hm:k<ms.length) {z:VK} (hz:ms[k]=z):z.o=o:=by
 have h1:(ms.map VK.p)[k]?=some z.p:=by rw[List.getElem?_map,List.getElem?_eq_getElem hm,hz];rfl
 rw[h,Ic hk,if_neg (by omega),if_pos rfl] at h1
 exact(congrArg Prod.fst (Option.some.inj h1)).symm
theorem AHi {P:List VP} {ms:List VK} {k:Nat} {x:VP} (h:ms.map VK.p=I9 P k x) (hk:k≤P.length) (h0:0<k) (hm:k-1<ms.length) {z:VK} (hz:ms[k-1]=z):z.o=od P (k-1):=by
 have h1:(ms.map VK.p)[k-1]?=some z.p:=by rw[List.getElem?_map,List.getElem?_eq_getElem hm,hz];rfl
 rw[h,Ic hk,if_pos (by omega)] at h1
 rw[(RZ h1).1]
 rfl
theorem AHj {P:List VP} {ms:List VK} {k:Nat} {x:VP} (h:ms.map VK.p=I9 P k x) (hk:k≤P.length) (h0:0<k) (hm:k<ms.length) (hm1:k-1<ms.length) {a b:VK} (ha:ms[k]=a) (hb:ms[k-1]=b):((ms.set (k-1) a).set k b).map VK.p=I9 P (k-1) x:=by
 rw[List.map_set,List.map_set,h]
 refine ADE h0 hk x _ _ ?_ ?_
 · rw[←h,List.getElem?_map,List.getElem?_eq_getElem hm,ha];rfl
 · rw[←h,List.getElem?_map,List.getElem?_eq_getElem hm1,hb];rfl
theorem NU {ms:List VK} {k:Nat} (hm:k<ms.length) (hm1:k-1<ms.length) {a b:VK} (ha:ms[k]=a) (hb:ms[k-1]=b) {x:VK} (hx:x∈(ms.set (k-1) a).set k b):x∈ms:=by
 rcases List.mem_or_eq_of_mem_set hx with h|h
 · rcases List.mem_or_eq_of_mem_set h with h|h
   · exact h
   · rw[h,←ha];exact List.getElem_mem hm
 · rw[h,←hb];exact List.getElem_mem hm1
theorem KsR.sub {w:World} {ms ns:List VK} (h:KsR w ms) (hs:∀x∈ns,x∈ms):KsR w ns:=fun k hk=>h k (hs k hk)
theorem Mx {ms ns:List VK} (hs:∀x∈ns,x∈ms) {b:Nat} (h:Eb ns b):Eb ms b:=by
 obtain⟨k,hk,hb⟩:=h
 exact⟨k,hs k hk,hb⟩
theorem KsR.snoc {w:World} {ms:List VK} (h:KsR w ms) {x:VK} (hx:RdT w x.s x.l):KsR w (ms++[x]):=fun k hk=>by
 rcases List.mem_append.1 hk with hk|hk
 · exact h k hk
 · obtain rfl:=List.mem_singleton.1 hk;exact hx
theorem Ld {ms:List VK} {x:VK} {b:Nat} (h:Eb (ms++[x]) b):Eb ms b∨OZ x.s b:=by
 obtain⟨k,hk,hb⟩:=h
 rcases List.mem_append.1 hk with hk|hk
 · exact .inl ⟨k,hk,hb⟩
 · obtain rfl:=List.mem_singleton.1 hk;exact .inr hb
theorem AHk {x y:List Nat} {b:Bool} (hb:E5 x y=b) (hx:Dg x) (hy:Dg y) (w:World):Calls Tryz.prog 86 #[AQ x,AQ y] w fun e w'=>e=.returned (.bool b)∧w.grownBy w' none:=Jz hb hx hy w
theorem AJl (ks:List VK) (y:VK):ks.flatMap Ar++Ar y=(ks++[y]).flatMap Ar:=by rw[List.flatMap_append];simp
theorem AJm {w:World} {A:Nat} {x:VK} (h:w.heap[A]?=some (.cells (Ar x).toArray 58 (0,0))):Sl w 33 (.slice (some ⟨A,0,none⟩) 1 1) 1 (Ar x):=AHY h
theorem AFn (ks:List VK) (ao:Option Addr) (cap:Nat) (sa po:List Nat) (hsa:Dg sa) (hpo:Dg po) (o:List Nat) (ho:Dg o) (T:List Nd) (hT:tree (kd 275 po) []=T) (w:World) (hr:RdK w (.slice ao ks.length cap) ks) :
   Calls Tryz.prog 39 #[Ay sa po (.slice ao ks.length cap),AQ o] w fun e w'=>VRes w w' (Nj (ks.map VK.p,sa,po) o T (kd 276 po)) (KO (.slice ao ks.length cap) ks) e:=by
 have hlt0:=hr.lt
 have hmap:(ks.map VK.p).length=ks.length:=List.length_map _
 refine BV Tryz.func39 rfl Tryz.ntmps39 rfl fun a0 sv0=>?_
 have HG:=World.grownBy.refl w none
 replace sv0:Sv 78 [] [(0,Ay sa po (.slice ao ks.length cap)),(1,AQ o)] a0:=sv0
 refine AOQ fun K1 k1=>?_
 refine AOP ?_
 refine Bi sv0 r6 (B6 hsa hpo (.slice ao ks.length cap) rfl) fun a2 w2 Cp Dt g2 z2 AJ sv2=>?_
 have ADF:=Aw (hr.lt) Dt
 replace hr:=hr.kn g2
 refine Bi sv2 r6 (Bb o ho.1) fun a3 w3 Bn Fh g3 z3 AI sv3=>?_
 have ADG:=Aw (hr.lt) Fh
 replace AJ:=AC g3 AJ
 replace hr:=hr.kn g3
 replace HG:=AA (AA HG g2) g3
 refine A9 (T:=36) (Z:=([bv AR,bv AR,[.slice none 0 0]].flatten)) sv3 rfl rfl rfl (fun a w=>by kernel_rfl) fun a4 w4 Ev Bl g4 z4 AL sv4=>?_
 have A3:=Ao AJ Bl
 have A7:=Ao AI Bl
 have Bm:=Bq HG Bl
 have Bd:=Aw (hr.lt) Bl
 replace AJ:=AC g4 AJ
 replace AI:=AC g4 AI
 replace hr:=hr.kn g4
 replace HG:=AA HG g4
 refine AS (v:=.int .i64 0) sv4 r6 fun a5 sv5=>?_
 refine AD ?_
 refine k1 _ _ ?_
 refine AOQ fun K6 k6=>?_
 refine AOQ fun K7 k7=>?_
 cases hv:Co (ks.map VK.p)
 · refine AOP ?_
   refine AH sv5 3 [(8,Ay sa po (.slice ao ks.length cap)),(9,.bool false),(10,.bool true)]
     ⟨yl r6 (B6 hsa hpo (.slice ao ks.length cap) rfl) AJ,Ag [Ay sa po (.slice ao ks.length cap)] Tryz.func40 (by kernel_rfl) rq4 ⟨(oy rfl rfl),AOW⟩ (A1 fun W g=>IZ hsa hpo (hr.kn g) hv),C7 r6 (fun _=>Bf),AOW⟩ fun a8 w8 g8 sv8=>?_
   refine AD ?_
   refine k7 _ _ ?_
   refine Am sv8 rfl rfl ?_
   refine AOQ fun K9 k9=>?_
   refine AOP ?_
   replace AJ:=AC g8 AJ
   replace AI:=AC g8 AI
   replace AL:=AC g8 AL
   refine AH sv8 1 [(11,Ay AR AR (.slice none 0 0))]
     ⟨BG (vs:=[]) rfl rfl trivial trivial (fun _=>bV0 _) (fun _=>rfl),AOW⟩ fun a10 w10 g10 Bt=>?_
   refine Aq Bt r7 (B6 AU AU (.slice none 0 0) rfl) (AC g10 AL) (by first|rfl|simp[Ar,AO,Af,AU.1,AU.1]) fun w11 g11 h11=>?_
   replace AJ:=Ab g10 g11 AJ (Ne.symm A3)
   replace AI:=Ab g10 g11 AI (Ne.symm A7)
   replace hr:=((hr.kn g8).kn g10).offR g11 (AP Bd)
   replace HG:=AE (AA (AA HG g8) g10) g11 Bm
   replace AL:=h11
   refine AS (v:=.int .i64 1) Bt r6 fun a12 DF=>?_
   refine AD ?_
   refine k9 _ _ ?_
   refine AOT ?_
   repeat refine AM ?_
   refine Ap (fn:=Tryz.f39) DF (Cb (p:=4) (q:=5) Tryz.results39 DF rfl rfl rfl rfl (B6 AU AU (.slice none 0 0) rfl) AL) ?_
   exact VRes.zero (by unfold Nj;rw[if_neg (by rw[hv];simp)]) HG
 · obtain⟨i,hi⟩:∃i,pos (ks.map VK.p) o=i:=⟨_,rfl⟩
   have h64:ks.length≤64:=by have:=(Fx.1 hv).1;simpa using this
   have hs:=Srt.of hv
   refine AOP ?_
   refine AH sv5 3 [(8,Ay sa po (.slice ao ks.length cap)),(9,.bool true),(10,.bool false)]
     ⟨yl r6 (B6 hsa hpo (.slice ao ks.length cap) rfl) AJ,Ag [Ay sa po (.slice ao ks.length cap)] Tryz.func40 (by kernel_rfl) rq4 ⟨(oy rfl rfl),AOW⟩ (A1 fun W g=>IZ hsa hpo (hr.kn g) hv),C7 r6 (fun _=>Bf),AOW⟩ fun a13 w13 g13 Cx=>?_
   refine AD ?_
   refine k7 _ _ ?_
   refine Au Cx rfl rfl ?_
   refine AOU ?_
   refine k6 _ _ ?_
   refine AOQ fun K14 k14=>?_
   refine AOQ fun K15 k15=>?_
   replace AJ:=AC g13 AJ
   replace AI:=AC g13 AI
   replace AL:=AC g13 AL
   replace hr:=hr.kn g13
   replace HG:=AA HG g13
   cases hf:Ly (ks.map VK.p) o
   · refine AOP ?_
     refine AH Cx 4 [(12,Ay sa po (.slice ao ks.length cap)),(13,AQ o),(14,.int .i64 ((-1))),(15,.bool false)]
       ⟨yl r6 (B6 hsa hpo (.slice ao ks.length cap) rfl) AJ,yl r6 (Bb o ho.1) AI,Ag [Ay sa po (.slice ao ks.length cap),AQ o] Tryz.func84 (by kernel_rfl) rq4 ⟨(oy rfl rfl),(oy rfl rfl),AOW⟩ (A1 fun W g=>AJh hsa hpo ho (hr.kn g) hv (AKk hf)),Ce r6 (fun _=>Dp (by decide)),AOW⟩ fun a16 w16 g16 DG=>?_
     refine AD ?_
     refine k15 _ _ ?_
     refine Au DG rfl rfl ?_
     refine AOU ?_
     refine k14 _ _ ?_
     refine AOQ fun K17 k17=>?_
     refine AOQ fun K18 k18=>?_
     replace AJ:=AC g16 AJ
     replace AI:=AC g16 AI
     replace AL:=AC g16 AL
     replace hr:=hr.kn g16
     replace HG:=AA HG g16
     by_cases hfull:64≤ks.length
     · refine AOP ?_
       refine AH DG 4 [(17,pk Cp 64),(18,.slice ao ks.length cap),(19,.int .i64 ((ks.length:Nat))),(20,.bool true)]
         ⟨yf r6 (fun _=>by kernel_rfl),yp (i:=2) r6 (FP (.slice ao ks.length cap) rfl) AJ rfl (by simp[AO,Af,hsa.1,hpo.1]),BJ (Tryz.underlying34) rfl rfl trivial (oy rfl rfl) (fun _=>rfl),Ce r6 (fun _=>Dp (decide_eq_true (by omega))),AOW⟩ fun a19 w19 g19 Dq=>?_
       refine AD ?_
       refine k18 _ _ ?_
       refine Am Dq rfl rfl ?_
       refine AOQ fun K20 k20=>?_
       refine AOP ?_
       replace AJ:=AC g19 AJ
       replace AI:=AC g19 AI
       replace AL:=AC g19 AL
       refine AH Dq 1 [(21,Ay AR AR (.slice none 0 0))]
         ⟨BG (vs:=[]) rfl rfl trivial trivial (fun _=>bV0 _) (fun _=>rfl),AOW⟩ fun a21 w21 g21 Dl=>?_
       refine Aq Dl r7 (B6 AU AU (.slice none 0 0) rfl) (AC g21 AL) (by first|rfl|simp[Ar,AO,Af,AU.1,AU.1]) fun w22 g22 h22=>?_
       replace AJ:=Ab g21 g22 AJ (Ne.symm A3)
       replace AI:=Ab g21 g22 AI (Ne.symm A7)
       replace hr:=((hr.kn g19).kn g21).offR g22 (AP Bd)
       replace HG:=AE (AA (AA HG g19) g21) g22 Bm
       replace AL:=h22
       refine AS (v:=.int .i64 8) Dl r6 fun a23 Cc=>?_
       refine AD ?_
       refine k20 _ _ ?_
       refine AOT ?_
       repeat refine AM ?_
       refine Ap (fn:=Tryz.f39) Cc (Cb (p:=4) (q:=5) Tryz.results39 Cc rfl rfl rfl rfl (B6 AU AU (.slice none 0 0) rfl) AL) ?_
       exact VRes.zero (by unfold Nj;rw[if_pos hv,if_neg (by rw[hf];simp),if_pos (by simpa using hfull)]) HG
     · refine AOP ?_
       refine AH DG 4 [(17,pk Cp 64),(18,.slice ao ks.length cap),(19,.int .i64 ((ks.length:Nat))),(20,.bool false)]
         ⟨yf r6 (fun _=>by kernel_rfl),yp (i:=2) r6 (FP (.slice ao ks.length cap) rfl) AJ rfl (by simp[AO,Af,hsa.1,hpo.1]),BJ (Tryz.underlying34) rfl rfl trivial (oy rfl rfl) (fun _=>rfl),Ce r6 (fun _=>Dp (decide_eq_false (by omega))),AOW⟩ fun a24 w24 g24 EN=>?_
       refine AD ?_
       refine k18 _ _ ?_
       refine Au EN rfl rfl ?_
       refine AOU ?_
       refine k17 _ _ ?_
       refine AOQ fun K25 k25=>?_
       replace AJ:=AC g24 AJ
       replace AI:=AC g24 AI
       replace AL:=AC g24 AL
       replace hr:=hr.kn g24
       replace HG:=AA HG g24
       refine DP (EN.st w24) (by kernel_rfl) 11 [(22,Sp.lit0 w24.heap.size 58),(23,Sp.is (pk Cp 64)),(24,Sp.is (.slice ao ks.length cap)),(25,Sp.row w24.heap.size 58 33 ks.length (ks.flatMap Ar)),(26,Sp.is (AQ o)),(27,Sp.is (pk Cp 32)),(28,Sp.is (AQ po)),(29,Sp.is (AQ ((kd 275 po)))),(30,Sp.ct w24.heap.size T),(31,Sp.ck w24.heap.size o T),(32,Sp.lit1T w24.heap.size o T)] rfl (by kernel_rfl) (by kernel_rfl) (by kernel_rfl) [] (by kernel_rfl)
         ⟨XN (t:=0) rfl trivial (Nat.le_refl _) (fun a w=>by kernel_rfl) (fun _ _ h=>h),yf r6 (fun _=>by kernel_rfl),yp (i:=2) r6 (FP (.slice ao ks.length cap) rfl) AJ rfl (by simp[AO,Af,hsa.1,hpo.1]),XO (news:=ks.flatMap Ar) AAR rfl rfl trivial rfl (fun _ _ h=>h) (oy rfl rfl) (fun _ g=>(hr.kn g).1.1) (SO ks) (by omega) (Nat.le_refl _) (fun _ _ h=>h),yl r6 (Bb o ho.1) AI,yf r6 (fun _=>by kernel_rfl),yp (i:=1) r6 (Bb po hpo.1) AJ rfl (by simp[AO,Af,hsa.1,hpo.1]),Ag [.int .u64 275,AQ po,.slice none 0 0] Tryz.func35 (by kernel_rfl) rq4 ⟨rfl,(oy rfl rfl),rfl,AOW⟩ (A1 fun W g=>Lb (n:=275) (by decide) rfl hpo W),Ag [AQ ((kd 275 po))] Tryz.func85 (by kernel_rfl) rq4 ⟨(oy rfl rfl),AOW⟩ (AHN (Bp _ _) hT),NQ rfl rfl trivial rfl (fun W _ av h=>match av,h with|[u,t],⟨h1,h2,_⟩=>AHL ho h1 h2),Ot rfl rfl trivial (Nat.le_refl _) rfl (fun W hw v h=>AHh hw.size h.1),AOW⟩ trivial
         [] (by kernel_rfl) trivial ⟨.inl rfl,.inl rfl,.inl rfl,.inl rfl,.inl rfl,.inl rfl,.inl rfl,.inl rfl,.inl rfl,.inl rfl,.inl rfl,AOW⟩ (by kernel_rfl) fun a26 w26 g26 st26 nd26=>?_
       obtain⟨hn26,hd26,e26_22,e26_23,e26_24,e26_25,e26_26,e26_27,e26_28,e26_29,e26_30,e26_31,e26_32,e26_17,e26_18,e26_19,e26_20,e26_12,e26_13,e26_14,e26_15,e26_8,e26_9,e26_10,e26_5,e26_4,e26_3,e26_2,e26_0,e26_1,-⟩:=st26
       obtain⟨aoW,capW,e26_25q,ow,frW⟩:=e26_25
       obtain⟨V,y,e26_32q,HV,hyo,hyl,rt,frB,geV⟩:=e26_32
       have Ia:=Cj frW AJ
       have Sb:=Cj frW AI
       have Ib:=Cj frW AL
       have ap_hr_ow:=AHK (hr.lt) frW
       have lo_ow:=IM HG frW
       have MH:=Cj frB AJ
       have ADH:=Cj frB AI
       have J3:=Cj frB AL
       have Pu:V≠Cp:=Nat.ne_of_gt (Nat.lt_of_lt_of_le (Array.getElem?_eq_some_iff.1 AJ).1 geV)
       have AFl:V≠Bn:=Nat.ne_of_gt (Nat.lt_of_lt_of_le (Array.getElem?_eq_some_iff.1 AI).1 geV)
       have WW:V≠Ev:=Nat.ne_of_gt (Nat.lt_of_lt_of_le (Array.getElem?_eq_some_iff.1 AL).1 geV)
       have lo_V:w.heap.size≤V:=Nat.le_trans HG.size geV
       replace AJ:=AC g26 AJ
       replace AI:=AC g26 AI
       replace AL:=AC g26 AL
       replace hr:=hr.kn g26
       replace HG:=AA HG g26
       have ap_rt_ow:=rt.2.own ow (by decide)
       have DH:Sv 78 [] [(17,_),(18,_),(19,_),(20,_),(12,_),(13,_),(14,_),(15,_),(8,_),(9,_),(10,_),(5,_),(4,_),(3,_),(2,_),(0,_),(1,_),(25,_),(32,_)] a26:=⟨hn26,hd26,e26_17,e26_18,e26_19,e26_20,e26_12,e26_13,e26_14,e26_15,e26_8,e26_9,e26_10,e26_5,e26_4,e26_3,e26_2,e26_0,e26_1,e26_25q,e26_32q,AOW⟩
       refine GZ AAR DH rfl rfl rfl rfl rfl rfl rfl rfl ow (AJm HV) (List.all_eq_true.2 (Jw y)) (by omega) fun a27 aoX capX w27 ox Bk HU=>?_
       have J4:∀k,BC (.slice aoX (ks.length+1) capX) k→k≠Cp:=fun k hk=>(Bk.2 k hk).elim (Ia k) (fun h=>Nat.ne_of_gt (Nat.lt_of_lt_of_le (Array.getElem?_eq_some_iff.1 AJ).1 h))
       have J5:∀k,BC (.slice aoX (ks.length+1) capX) k→k≠Bn:=fun k hk=>(Bk.2 k hk).elim (Sb k) (fun h=>Nat.ne_of_gt (Nat.lt_of_lt_of_le (Array.getElem?_eq_some_iff.1 AI).1 h))
       have Hb:∀k,BC (.slice aoX (ks.length+1) capX) k→k≠Ev:=fun k hk=>(Bk.2 k hk).elim (Ib k) (fun h=>Nat.ne_of_gt (Nat.lt_of_lt_of_le (Array.getElem?_eq_some_iff.1 AL).1 h))
       have ap_hr_ox:∀k,KO (.slice ao ks.length cap) ks k→¬BC (.slice aoX (ks.length+1) capX) k:=fun k hk hx=>(Bk.2 k hx).elim (ap_hr_ow k hk) (fun h=>absurd (hr.lt k hk) (Nat.not_lt.2 h))
       have ap_rt_ox:∀k,OZ (VK.s y) k→¬BC (.slice aoX (ks.length+1) capX) k:=fun k hk hx=>(Bk.2 k hx).elim (ap_rt_ow k hk) (fun h=>absurd (rt.lt k hk) (Nat.not_lt.2 h))
       have lo_ox:=Oq Bk.2 lo_ow HG
       replace AJ:=AF Bk.1 AJ (fun e=>Ia _ e.symm rfl)
       replace AI:=AF Bk.1 AI (fun e=>Sb _ e.symm rfl)
       replace AL:=AF Bk.1 AL (fun e=>Ib _ e.symm rfl)
       replace hr:=hr.offR Bk.1 (fun k hk e=>ap_hr_ow k hk (e))
       replace rt:=rt.offR Bk.1 (fun k hk e=>ap_rt_ow k hk (e))
       replace HG:=Bu HG Bk.1 fun k e=>lo_ow k (e)
       rw[AJl] at ox
       refine AS (v:=.slice aoX (ks.length+1) capX) HU r6 fun a28 Dm=>?_
       refine AD ?_
       have kr:=KsR.snoc hr.2 rt.1
       have Ha:∀k,Eb (ks++[y]) k→k≠Cp:=fun k hk=>(Ld hk).elim (fun h=>ADF k (.inr h)) (MH k)
       have OM:∀k,Eb (ks++[y]) k→k≠Bn:=fun k hk=>(Ld hk).elim (fun h=>ADG k (.inr h)) (ADH k)
       have E8:∀k,Eb (ks++[y]) k→k≠Ev:=fun k hk=>(Ld hk).elim (fun h=>Bd k (.inr h)) (J3 k)
       have ap_kr_ox:∀k,Eb (ks++[y]) k→¬BC (.slice aoX (ks.length+1) capX) k:=fun k hk=>(Ld hk).elim (fun h=>ap_hr_ox k (.inr h)) (ap_rt_ox k)
       refine k25 _ _ ?_
       refine AOQ fun K29 k29=>?_
       refine AOQ fun K30 k30=>?_
       refine AOP ?_
       refine AH Dm 3 [(34,.slice aoX (ks.length+1) capX),(35,.int .i64 (((ks.length+1):Nat))),(36,.int .i64 ((ks.length:Int)))]
         ⟨ym r5,BJ (Tryz.underlying34) rfl rfl trivial (oy rfl rfl) (fun _=>rfl),Ce r6 (fun _=>GY (by rw[BT (by omega) (by omega)];omega)),AOW⟩ fun a31 w31 g31 IJ=>?_
       refine AS (v:=.int .i64 ((ks.length:Int))) IJ r6 fun a32 Cu=>?_
       refine AD ?_
       refine k30 _ _ ?_
       refine BH fun Q33 x33 y33 r33 o33=>?_
       replace AJ:=AC g31 AJ
       replace AI:=AC g31 AI
       replace AL:=AC g31 AL
       replace hr:=hr.kn g31
       replace rt:=rt.kn g31
       replace ox:=ox.kn g31
       replace kr:=kr.kn g31
       replace HG:=AA HG g31
       have hput0:(ks++[y]).map VK.p=I9 (ks.map VK.p) ks.length (o,T):=by rw[show ks.length=(ks.map VK.p).length from hmap.symm,AFo,List.map_append];simp[VK.p,hyo,hyl]
       refine wp_loop (fun a w'=>∃(q:Nat) (ms:List VK),(q≤ks.length)∧(ms.map VK.p=I9 (ks.map VK.p) q (o,T))∧(ms.length=ks.length+1)∧(∀j,q≤j→j<ks.length→E5 o (od (ks.map VK.p) j)=true)∧(∀b,Eb ms b→Eb ks b∨OZ y.s b)∧Sv 78 [] [(7,.int .i64 ((q:Int))),(34,.slice aoX (ks.length+1) capX),(35,.int .i64 (((ks.length+1):Nat))),(36,.int .i64 ((ks.length:Int))),(6,.slice aoX (ks.length+1) capX),(33,.slice aoX (ks.length+1) capX),(17,pk Cp 64),(18,.slice ao ks.length cap),(19,.int .i64 ((ks.length:Nat))),(20,.bool false),(12,Ay sa po (.slice ao ks.length cap)),(13,AQ o),(14,.int .i64 ((-1))),(15,.bool false),(8,Ay sa po (.slice ao ks.length cap)),(9,.bool true),(10,.bool false),(5,.int .i64 0),(4,pt Ev),(3,pt Bn),(2,pt Cp),(0,Ay sa po (.slice ao ks.length cap)),(1,AQ o),(25,.slice aoW ks.length capW),(32,.slice ((some ⟨V,0,none⟩)) 1 1)] a∧w.grownBy w' none∧w'.heap[Cp]?=some (.cells ([bv sa,bv po,[.slice ao ks.length cap]].flatten).toArray 36 (0,0))∧w'.heap[Bn]?=some (.cells (bv o).toArray 23 (0,0))∧w'.heap[Ev]?=some (.cells (([bv AR,bv AR,[.slice none 0 0]].flatten)).toArray 36 (0,0))∧RdK w' (.slice ao ks.length cap) ks∧RdTg w' (VK.s y) y.l∧Own w' 58 33 (.slice aoX (ks.length+1) capX) ((ks.length+1)) (ms.flatMap Ar)∧KsR w' ms∧(∀k,BC (.slice aoX (ks.length+1) capX) k→k≠Cp)∧(∀k,BC (.slice aoX (ks.length+1) capX) k→k≠Bn)∧(∀k,BC (.slice aoX (ks.length+1) capX) k→k≠Ev)∧(∀k,KO (.slice ao ks.length cap) ks k→¬BC (.slice aoX (ks.length+1) capX) k)∧(∀k,OZ (VK.s y) k→¬BC (.slice aoX (ks.length+1) capX) k)∧(∀k,Eb ms k→¬BC (.slice aoX (ks.length+1) capX) k)∧(∀k,BC (.slice aoX (ks.length+1) capX) k→w.heap.size≤k)∧(∀k,Eb ms k→k≠Cp)∧(∀k,Eb ms k→k≠Bn)∧(∀k,Eb ms k→k≠Ev)) (fun a _=>(intOf (a.tmps.getD 7 undef)).toNat) ⟨ks.length,ks++[y],Nat.le_refl _,hput0,by simp,fun j h1 h2=>by omega,fun b h=>Ld h,⟨Cu.1,Cu.2.1,Cu.2.2.1,Cu.2.2.2.1,Cu.2.2.2.2.1,Cu.2.2.2.2.2.1,Cu.2.2.2.2.2.2.1,Cu.2.2.2.2.2.2.2.1,(AG Cu).1,(AG Cu).2.1,(AG Cu).2.2.1,(AG Cu).2.2.2.1,(AG Cu).2.2.2.2.1,(AG Cu).2.2.2.2.2.1,(AG Cu).2.2.2.2.2.2.1,(AG Cu).2.2.2.2.2.2.2.1,(AG (AG Cu)).1,(AG (AG Cu)).2.1,(AG (AG Cu)).2.2.1,(AG (AG Cu)).2.2.2.1,(AG (AG Cu)).2.2.2.2.1,(AG (AG Cu)).2.2.2.2.2.1,(AG (AG Cu)).2.2.2.2.2.2.1,(AG (AG Cu)).2.2.2.2.2.2.2.1,(AG (AG (AG Cu))).1,(AG (AG (AG Cu))).2.1,(AG (AG (AG Cu))).2.2.1,AOW⟩,HG,AJ,AI,AL,hr,rt,ox,kr,J4,J5,Hb,ap_hr_ox,ap_rt_ox,ap_kr_ox,lo_ox,Ha,OM,E8⟩ fun a34 w34 hI34=>?_
       clear AJ
       clear AI
       clear AL
       clear hr
       clear rt
       clear ox
       clear kr
       clear HG
       obtain⟨q,ms,hkn,hput,hml,haft,hfp,DW,HG,AJ,AI,AL,hr,rt,ox,kr,J4,J5,Hb,ap_hr_ox,ap_rt_ox,ap_kr_ox,lo_ox,Ha,OM,E8⟩:=hI34
       refine AOQ fun K35 k35=>?_
       refine AOQ fun K36 k36=>?_
       have hkm:q<ms.length:=by omega
       have hkm1:q-1<ms.length:=by omega
       obtain⟨a1,My⟩:∃x,ms[q]'hkm=x:=⟨_,rfl⟩
       obtain⟨b1,MV⟩:∃x,ms[(q-1)]'hkm1=x:=⟨_,rfl⟩
       have hao:=AMa hput (by omega) hkm My
       rcases(show q=0∨(0<q∧E5 a1.o b1.o=true)∨(0<q∧E5 a1.o b1.o=false) by rcases Nat.eq_zero_or_pos q with h|h<;>cases E5 a1.o b1.o<;>simp[h]) with hk0|⟨hk0,hc⟩|⟨hk0,hc⟩
       · have hpos:=AAe hs hf (by omega) (fun j h1 h2=>haft j h1 (by omega)) (.inl hk0)
         refine Dx DW [(37,.int .i64 ((q:Int))),(38,.bool false),(39,.bool false),(40,undef),(41,undef),(42,undef),(43,undef),(44,undef),(45,undef),(46,undef),(47,undef),(48,undef),(49,undef),(50,undef),(51,undef),(52,.bool false)]
          ⟨ym r5,Ce r6 (fun _=>C3 (decide_eq_false (by omega))),ym r5,AN r6,AN r6,AN r6,AN r6,AN r6,AN r6,AN r6,AN r6,AN r6,AN r6,AN r6,AN r6,BF r7,AOW⟩ fun a37 w37 g37 Gi=>?_
         refine k36 _ _ ?_
         refine Au Gi rfl rfl ?_
         refine wp_exit ?_
         repeat refine CA ?_
         refine x33 _ _ ?_
         refine k29 _ _ ?_
         refine AOQ fun K38 k38=>?_
         replace AJ:=AC g37 AJ
         replace AI:=AC g37 AI
         replace AL:=AC g37 AL
         refine DP (Gi.st w37) (by kernel_rfl) 7 [(71,Sp.is (pt Cp)),(72,Sp.is (AQ sa)),(73,Sp.is (pk Cp 32)),(74,Sp.is (AQ po)),(75,Sp.is (AQ ((kd 276 po)))),(76,Sp.is (.slice aoX (ks.length+1) capX)),(77,Sp.is (Ay sa ((kd 276 po)) (.slice aoX (ks.length+1) capX)))] rfl (by kernel_rfl) (by kernel_rfl) (by kernel_rfl) [] (by kernel_rfl)
          ⟨yf r6 (fun _=>by kernel_rfl),yp (i:=0) r6 (Bb sa hsa.1) AJ rfl rfl,yf r6 (fun _=>by kernel_rfl),yp (i:=1) r6 (Bb po hpo.1) AJ rfl (by simp[AO,Af,hsa.1,hpo.1]),Ag [.int .u64 276,AQ po,.slice none 0 0] Tryz.func35 (by kernel_rfl) rq4 ⟨rfl,(oy rfl rfl),rfl,AOW⟩ (A1 fun W g=>Lb (n:=276) (by decide) rfl hpo W),ym r5,BG (vs:=[AQ sa,AQ ((kd 276 po)),.slice aoX (ks.length+1) capX]) rfl rfl trivial ⟨(oy rfl rfl),(oy rfl rfl),(oy rfl rfl),AOW⟩ (fun _=>bV3 hsa (Bp _ _) _ _ _ _) (fun _=>rfl),AOW⟩ trivial
          [] (by kernel_rfl) trivial ⟨.inl rfl,.inl rfl,.inl rfl,.inl rfl,.inl rfl,.inl rfl,.inl rfl,AOW⟩ (by kernel_rfl) fun a39 w39 g39 st39 nd39=>?_
         obtain⟨hn39,hd39,e39_71,e39_72,e39_73,e39_74,e39_75,e39_76,e39_77,e39_37,e39_38,e39_39,e39_40,e39_41,e39_42,e39_43,e39_44,e39_45,e39_46,e39_47,e39_48,e39_49,e39_50,e39_51,e39_52,e39_7,e39_34,e39_35,e39_36,e39_6,e39_33,e39_17,e39_18,e39_19,e39_20,e39_12,e39_13,e39_14,e39_15,e39_8,e39_9,e39_10,e39_5,e39_4,e39_3,e39_2,e39_0,e39_1,e39_25,e39_32,-⟩:=st39
         have JY:Sv 78 [] [(37,_),(38,_),(39,_),(40,_),(41,_),(42,_),(43,_),(44,_),(45,_),(46,_),(47,_),(48,_),(49,_),(50,_),(51,_),(52,_),(7,_),(34,_),(35,_),(36,_),(6,_),(33,_),(17,_),(18,_),(19,_),(20,_),(12,_),(13,_),(14,_),(15,_),(8,_),(9,_),(10,_),(5,_),(4,_),(3,_),(2,_),(0,_),(1,_),(25,_),(32,_),(77,_)] a39:=⟨hn39,hd39,e39_37,e39_38,e39_39,e39_40,e39_41,e39_42,e39_43,e39_44,e39_45,e39_46,e39_47,e39_48,e39_49,e39_50,e39_51,e39_52,e39_7,e39_34,e39_35,e39_36,e39_6,e39_33,e39_17,e39_18,e39_19,e39_20,e39_12,e39_13,e39_14,e39_15,e39_8,e39_9,e39_10,e39_5,e39_4,e39_3,e39_2,e39_0,e39_1,e39_25,e39_32,e39_77,AOW⟩
         refine Aq JY r7 (B6 hsa (Bp _ _) (.slice aoX (ks.length+1) capX) rfl) (AC g39 AL) (by first|rfl|simp[Ar,AO,Af,hsa.1,(Bp _ _).1]) fun w40 g40 h40=>?_
         replace AJ:=Ab g39 g40 AJ (Ne.symm A3)
         replace AI:=Ab g39 g40 AI (Ne.symm A7)
         replace hr:=((hr.kn g37).kn g39).offR g40 (AP Bd)
         replace rt:=((rt.kn g37).kn g39).offR g40 (AP J3)
         replace ox:=((ox.kn g37).kn g39).offR g40 (AP Hb)
         replace kr:=((kr.kn g37).kn g39).offR g40 (AP E8)
         replace HG:=AE (AA (AA HG g37) g39) g40 Bm
         replace AL:=h40
         refine AS (v:=.int .i64 0) JY r6 fun a41 Eu=>?_
         refine AD ?_
         refine k38 _ _ ?_
         refine AOT ?_
         repeat refine AM ?_
         refine Ap (fn:=Tryz.f39) Eu (Cb (p:=4) (q:=5) Tryz.results39 Eu rfl rfl rfl rfl (B6 hsa (Bp _ _) (.slice aoX (ks.length+1) capX) rfl) AL) ?_
         exact VRes.mk2 (P:=OE (ks.map VK.p) o T) (by unfold Nj;rw[if_pos hv,if_neg (by rw[hf];simp),if_neg (by simpa using hfull)]) (by rw[Om,hpos];exact hput) ox kr (fun k hk=>(hfp k hk).elim (fun h=>.inl (.inr h)) (fun h=>.inr (rt.2 k h))) HG
       · have hbo:=AHi hput (by omega) hk0 hkm1 MV
         have hc2:E5 o (od (ks.map VK.p) (q-1))=true:=by rw[←hao,←hbo];exact hc
         refine Dx DW [(37,.int .i64 ((q:Int))),(38,.bool true),(39,.bool true),(40,.slice aoX (ks.length+1) capX),(41,.int .i64 ((q:Int))),(42,pk ((bO aoX)) (oO aoX+q*33)),(43,pk ((bO aoX)) (oO aoX+q*33)),(44,AQ a1.o),(45,.slice aoX (ks.length+1) capX),(46,.int .i64 ((q:Int))),(47,.int .i64 (((q-1:Nat):Int))),(48,pk ((bO aoX)) (oO aoX+(q-1)*33)),(49,pk ((bO aoX)) (oO aoX+(q-1)*33)),(50,AQ b1.o),(51,.bool true),(52,.bool true)]
          ⟨ym r5,Ce r6 (fun _=>C3 (decide_eq_true (by omega))),ym r5,Ae rq8,Ae rq8,Cf rfl rfl (gy rfl rfl rfl) (oy rfl rfl) (oy rfl rfl) (fun w=>CF Tryz.underlying34 (by kernel_rfl) (Sl.of_own ox) (by omega) (rfl) w) (fun _=>rfl),BI rq9 (fun _=>by kernel_rfl),A8 rq9 (fun _ g=>Ad (Bb a1.o a1.ho.1) (NT (Sl.of_own (ox.kn g)) hkm My)),Ae rq8,Ae rq8,Ai rq9 (fun _=>GY (by rw[BT (by omega) (by omega)];omega)),Cf rfl rfl (gy rfl rfl rfl) (oy rfl rfl) (oy rfl rfl) (fun w=>CF Tryz.underlying34 (by kernel_rfl) (Sl.of_own ox) (by omega) (rfl) w) (fun _=>rfl),BI rq9 (fun _=>by kernel_rfl),A8 rq9 (fun _ g=>Ad (Bb b1.o b1.ho.1) (NT (Sl.of_own (ox.kn g)) hkm1 MV)),CG [AQ a1.o,AQ b1.o] Tryz.func86 (by kernel_rfl) r7 ⟨(oy rfl rfl),(oy rfl rfl),AOW⟩ (A1 fun W g=>AHk hc a1.ho b1.ho W),Ah rq9,AOW⟩ fun a42 w42 g42 Gj=>?_
         refine k36 _ _ ?_
         refine Am Gj rfl rfl ?_
         refine AOU ?_
         refine k35 _ _ ?_
         refine AOQ fun K43 k43=>?_
         refine BH fun Q44 x44 y44 r44 o44=>?_
         replace ox:=ox.kn g42
         refine DP (Gj.st w42) (by kernel_rfl) 15 [(55,Sp.is (.slice aoX (ks.length+1) capX)),(56,Sp.is (.int .i64 ((q:Int)))),(57,Sp.is (.int .i64 (((q-1:Nat):Int)))),(58,Sp.is (.slice aoX (ks.length+1) capX)),(59,Sp.is (.int .i64 ((q:Int)))),(60,Sp.is (.slice aoX (ks.length+1) capX)),(61,Sp.is (.int .i64 ((q:Int)))),(62,Sp.is (pk ((bO aoX)) (oO aoX+q*33))),(63,Sp.is (JH a1)),(64,Sp.is (.slice aoX (ks.length+1) capX)),(65,Sp.is (.int .i64 ((q:Int)))),(66,Sp.is (.int .i64 (((q-1:Nat):Int)))),(67,Sp.is (pk ((bO aoX)) (oO aoX+(q-1)*33))),(68,Sp.is (JH b1)),(69,Sp.is (pk ((bO aoX)) (oO aoX+(q-1)*33)))] rfl (by kernel_rfl) (by kernel_rfl) (by kernel_rfl) [3,4] (by kernel_rfl)
          ⟨ym r5,ym r5,Ce r6 (fun _=>GY (by rw[BT (by omega) (by omega)];omega)),ym r5,ym r5,ym r5,ym r5,BD rq8 (fun w=>CF Tryz.underlying34 (by kernel_rfl) (Sl.of_own ox) (by omega) (rfl) w),Bj r6 (fun _ g=>Ad (XP a1) (AC5 (Sl.of_own (ox.kn g)) hkm My)),ym r5,ym r5,Ce r6 (fun _=>GY (by rw[BT (by omega) (by omega)];omega)),BD rq8 (fun w=>CF Tryz.underlying34 (by kernel_rfl) (Sl.of_own ox) (by omega) (rfl) w),Bj r6 (fun _ g=>Ad (XP b1) (AC5 (Sl.of_own (ox.kn g)) hkm1 MV)),BD rq8 (fun w=>CF Tryz.underlying34 (by kernel_rfl) (Sl.of_own ox) (by omega) (rfl) w),AOW⟩ ⟨fun o ho=>by obtain rfl:=Option.some.inj ho;exact F9 6 58 (.inl rfl) rfl rfl trivial (fun _ _ h=>h),fun o ho=>by obtain rfl:=Option.some.inj ho;exact F9 7 59 (.inl rfl) rfl rfl trivial (fun _ _ h=>h),AOW⟩
          [] (by kernel_rfl) trivial ⟨.inl rfl,.inl rfl,.inl rfl,.inl rfl,.inl rfl,.inl rfl,.inl rfl,.inl rfl,.inl rfl,.inl rfl,.inl rfl,.inl rfl,.inl rfl,.inl rfl,.inl rfl,AOW⟩ (by kernel_rfl) fun a45 w45 g45 st45 nd45=>?_
         obtain⟨hn45,hd45,e45_55,e45_56,e45_57,e45_58,e45_59,e45_60,e45_61,e45_62,e45_63,e45_64,e45_65,e45_66,e45_67,e45_68,e45_69,e45_37,e45_38,e45_39,e45_40,e45_41,e45_42,e45_43,e45_44,e45_45,e45_46,e45_47,e45_48,e45_49,e45_50,e45_51,e45_52,e45_7,e45_34,e45_35,e45_36,e45_6,e45_33,e45_17,e45_18,e45_19,e45_20,e45_12,e45_13,e45_14,e45_15,e45_8,e45_9,e45_10,e45_5,e45_4,e45_3,e45_2,e45_0,e45_1,e45_25,e45_32,-⟩:=st45
         have FT:Sv 78 [] [(37,_),(38,_),(39,_),(40,_),(41,_),(42,_),(43,_),(44,_),(45,_),(46,_),(47,_),(48,_),(49,_),(50,_),(51,_),(52,_),(7,_),(34,_),(35,_),(36,_),(6,_),(33,_),(17,_),(18,_),(19,_),(20,_),(12,_),(13,_),(14,_),(15,_),(8,_),(9,_),(10,_),(5,_),(4,_),(3,_),(2,_),(0,_),(1,_),(25,_),(32,_),(58,_),(59,_),(63,_),(68,_),(69,_)] a45:=⟨hn45,hd45,e45_37,e45_38,e45_39,e45_40,e45_41,e45_42,e45_43,e45_44,e45_45,e45_46,e45_47,e45_48,e45_49,e45_50,e45_51,e45_52,e45_7,e45_34,e45_35,e45_36,e45_6,e45_33,e45_17,e45_18,e45_19,e45_20,e45_12,e45_13,e45_14,e45_15,e45_8,e45_9,e45_10,e45_5,e45_4,e45_3,e45_2,e45_0,e45_1,e45_25,e45_32,e45_58,e45_59,e45_63,e45_68,e45_69,AOW⟩
         replace ox:=ox.kn g45
         refine Jt (c:=Ar) (el:=a1) FT rfl rfl rfl rfl rfl rfl rfl (XP a1) ox EB (by decide) (by first|omega|(simp only[List.length_set];omega)) rfl fun w46 g46 h46=>?_
         replace AJ:=AF g46 (AC g45 (AC g42 AJ)) (fun e=>J4 _ (CX (j:=(q-1)) ox (by omega) rfl) (Option.some.inj e).symm)
         replace AI:=AF g46 (AC g45 (AC g42 AI)) (fun e=>J5 _ (CX (j:=(q-1)) ox (by omega) rfl) (Option.some.inj e).symm)
         replace AL:=AF g46 (AC g45 (AC g42 AL)) (fun e=>Hb _ (CX (j:=(q-1)) ox (by omega) rfl) (Option.some.inj e).symm)
         replace hr:=((hr.kn g42).kn g45).offR g46 (fun k hk e=>ap_hr_ox k hk (CX (j:=(q-1)) ox (by omega) e))
         replace rt:=((rt.kn g42).kn g45).offR g46 (fun k hk e=>ap_rt_ox k hk (CX (j:=(q-1)) ox (by omega) e))
         replace kr:=((kr.kn g42).kn g45).offR g46 (fun k hk e=>ap_kr_ox k hk (CX (j:=(q-1)) ox (by omega) e))
         replace HG:=Bu (AA (AA HG g42) g45) g46 fun k e=>lo_ox k (CX (j:=(q-1)) ox (by omega) e)
         replace ox:=h46
         refine AH FT 1 [(70,pk ((bO aoX)) (oO aoX+q*33))]
          ⟨BD rq8 (fun w=>CF Tryz.underlying34 (by kernel_rfl) (Sl.of_own ox) (by omega) (rfl) w),AOW⟩ fun a47 w47 g47 Kx=>?_
         replace ox:=ox.kn g47
         refine Jt (c:=Ar) (el:=b1) Kx rfl rfl rfl rfl rfl rfl rfl (XP b1) ox EB (by decide) (by first|omega|(simp only[List.length_set];omega)) rfl fun w48 g48 h48=>?_
         replace AJ:=AF g48 (AC g47 AJ) (fun e=>J4 _ (CX (j:=q) ox (by omega) rfl) (Option.some.inj e).symm)
         replace AI:=AF g48 (AC g47 AI) (fun e=>J5 _ (CX (j:=q) ox (by omega) rfl) (Option.some.inj e).symm)
         replace AL:=AF g48 (AC g47 AL) (fun e=>Hb _ (CX (j:=q) ox (by omega) rfl) (Option.some.inj e).symm)
         replace hr:=(hr.kn g47).offR g48 (fun k hk e=>ap_hr_ox k hk (CX (j:=q) ox (by omega) e))
         replace rt:=(rt.kn g47).offR g48 (fun k hk e=>ap_rt_ox k hk (CX (j:=q) ox (by omega) e))
         replace kr:=(kr.kn g47).offR g48 (fun k hk e=>ap_kr_ox k hk (CX (j:=q) ox (by omega) e))
         replace HG:=Bu (AA HG g47) g48 fun k e=>lo_ox k (CX (j:=q) ox (by omega) e)
         have ER:Sv _ _ [_,_,_,_,_,_,_,_,_,_,_,_,_,_,_,_,_,_,_,_,_,_,_,_,_,_,_,_,_,_,_,_,_,_,_,_,_,_,_,_,_] _:=Kx.dl [70,58,59,63,68,69]
         refine AD ?_
         have kr2:=kr.sub (ns:=(ms.set (q-1) a1).set q b1) fun x hx=>NU hkm hkm1 My MV hx
         have AAf:∀k,Eb ((ms.set (q-1) a1).set q b1) k→k≠Cp:=fun k hk=>Ha k (Mx (fun x hx=>NU hkm hkm1 My MV hx) hk)
         have AAg:∀k,Eb ((ms.set (q-1) a1).set q b1) k→k≠Bn:=fun k hk=>OM k (Mx (fun x hx=>NU hkm hkm1 My MV hx) hk)
         have AAh:∀k,Eb ((ms.set (q-1) a1).set q b1) k→k≠Ev:=fun k hk=>E8 k (Mx (fun x hx=>NU hkm hkm1 My MV hx) hk)
         have ap_kr2_ox:∀k,Eb ((ms.set (q-1) a1).set q b1) k→¬BC (.slice aoX (ks.length+1) capX) k:=fun k hk=>ap_kr_ox k (Mx (fun x hx=>NU hkm hkm1 My MV hx) hk)
         refine y44 _ _ ?_
         refine k43 _ _ ?_
         refine AOP ?_
         refine AH ER 2 [(53,.int .i64 ((q:Int))),(54,.int .i64 (((q-1:Nat):Int)))]
          ⟨ym r5,Ce r6 (fun _=>GY (by rw[BT (by omega) (by omega)];omega)),AOW⟩ fun a50 w50 g50 Ky=>?_
         refine AS (v:=.int .i64 (((q-1:Nat):Int))) Ky r6 fun a51 FV=>?_
         refine AD ?_
         replace AJ:=AC g50 AJ
         replace AI:=AC g50 AI
         replace AL:=AC g50 AL
         replace hr:=hr.kn g50
         replace rt:=rt.kn g50
         replace ox:=h48.kn g50
         replace kr2:=kr2.kn g50
         replace HG:=AA HG g50
         exact⟨⟨q-1,(ms.set (q-1) a1).set q b1,by omega,AHj hput (by omega) hk0 hkm hkm1 My MV,by rw[List.length_set,List.length_set];exact hml,fun j h1 h2=>if e:j=q-1 then e▸hc2 else haft j (by omega) h2,fun b h=>hfp b (Mx (fun x hx=>NU hkm hkm1 My MV hx) h),⟨FV.1,FV.2.1,FV.2.2.1,(AG (AG FV)).2.2.2.2.2.1,(AG (AG FV)).2.2.2.2.2.2.1,(AG (AG FV)).2.2.2.2.2.2.2.1,(AG (AG (AG FV))).1,(AG (AG (AG FV))).2.1,(AG (AG (AG FV))).2.2.1,(AG (AG (AG FV))).2.2.2.1,(AG (AG (AG FV))).2.2.2.2.1,(AG (AG (AG FV))).2.2.2.2.2.1,(AG (AG (AG FV))).2.2.2.2.2.2.1,(AG (AG (AG FV))).2.2.2.2.2.2.2.1,(AG (AG (AG (AG FV)))).1,(AG (AG (AG (AG FV)))).2.1,(AG (AG (AG (AG FV)))).2.2.1,(AG (AG (AG (AG FV)))).2.2.2.1,(AG (AG (AG (AG FV)))).2.2.2.2.1,(AG (AG (AG (AG FV)))).2.2.2.2.2.1,(AG (AG (AG (AG FV)))).2.2.2.2.2.2.1,(AG (AG (AG (AG FV)))).2.2.2.2.2.2.2.1,(AG (AG (AG (AG (AG FV))))).1,(AG (AG (AG (AG (AG FV))))).2.1,(AG (AG (AG (AG (AG FV))))).2.2.1,(AG (AG (AG (AG (AG FV))))).2.2.2.1,(AG (AG (AG (AG (AG FV))))).2.2.2.2.1,AOW⟩,HG,AJ,AI,AL,hr,rt,ox,kr2,J4,J5,Hb,ap_hr_ox,ap_rt_ox,ap_kr2_ox,lo_ox,AAf,AAg,AAh⟩,by rw[show _=_ from FV.2.2.1,show _=_ from DW.2.2.1];simp[intOf];omega⟩
       · have hbo:=AHi hput (by omega) hk0 hkm1 MV
         have hpos:=AAe hs hf (by omega) (fun j h1 h2=>haft j h1 (by omega)) (.inr (by rw[←hao,←hbo];exact hc))
         refine Dx DW [(37,.int .i64 ((q:Int))),(38,.bool true),(39,.bool true),(40,.slice aoX (ks.length+1) capX),(41,.int .i64 ((q:Int))),(42,pk ((bO aoX)) (oO aoX+q*33)),(43,pk ((bO aoX)) (oO aoX+q*33)),(44,AQ a1.o),(45,.slice aoX (ks.length+1) capX),(46,.int .i64 ((q:Int))),(47,.int .i64 (((q-1:Nat):Int))),(48,pk ((bO aoX)) (oO aoX+(q-1)*33)),(49,pk ((bO aoX)) (oO aoX+(q-1)*33)),(50,AQ b1.o),(51,.bool false),(52,.bool false)]
          ⟨ym r5,Ce r6 (fun _=>C3 (decide_eq_true (by omega))),ym r5,Ae rq8,Ae rq8,Cf rfl rfl (gy rfl rfl rfl) (oy rfl rfl) (oy rfl rfl) (fun w=>CF Tryz.underlying34 (by kernel_rfl) (Sl.of_own ox) (by omega) (rfl) w) (fun _=>rfl),BI rq9 (fun _=>by kernel_rfl),A8 rq9 (fun _ g=>Ad (Bb a1.o a1.ho.1) (NT (Sl.of_own (ox.kn g)) hkm My)),Ae rq8,Ae rq8,Ai rq9 (fun _=>GY (by rw[BT (by omega) (by omega)];omega)),Cf rfl rfl (gy rfl rfl rfl) (oy rfl rfl) (oy rfl rfl) (fun w=>CF Tryz.underlying34 (by kernel_rfl) (Sl.of_own ox) (by omega) (rfl) w) (fun _=>rfl),BI rq9 (fun _=>by kernel_rfl),A8 rq9 (fun _ g=>Ad (Bb b1.o b1.ho.1) (NT (Sl.of_own (ox.kn g)) hkm1 MV)),CG [AQ a1.o,AQ b1.o] Tryz.func86 (by kernel_rfl) r7 ⟨(oy rfl rfl),(oy rfl rfl),AOW⟩ (A1 fun W g=>AHk hc a1.ho b1.ho W),Ah rq9,AOW⟩ fun a52 w52 g52 Mw=>?_
         refine k36 _ _ ?_
         refine Au Mw rfl rfl ?_
         refine wp_exit ?_
         repeat refine CA ?_
         refine x33 _ _ ?_
         refine k29 _ _ ?_
         refine AOQ fun K53 k53=>?_
         replace AJ:=AC g52 AJ
         replace AI:=AC g52 AI
         replace AL:=AC g52 AL
         refine DP (Mw.st w52) (by kernel_rfl) 7 [(71,Sp.is (pt Cp)),(72,Sp.is (AQ sa)),(73,Sp.is (pk Cp 32)),(74,Sp.is (AQ po)),(75,Sp.is (AQ ((kd 276 po)))),(76,Sp.is (.slice aoX (ks.length+1) capX)),(77,Sp.is (Ay sa ((kd 276 po)) (.slice aoX (ks.length+1) capX)))] rfl (by kernel_rfl) (by kernel_rfl) (by kernel_rfl) [] (by kernel_rfl)
          ⟨yf r6 (fun _=>by kernel_rfl),yp (i:=0) r6 (Bb sa hsa.1) AJ rfl rfl,yf r6 (fun _=>by kernel_rfl),yp (i:=1) r6 (Bb po hpo.1) AJ rfl (by simp[AO,Af,hsa.1,hpo.1]),Ag [.int .u64 276,AQ po,.slice none 0 0] Tryz.func35 (by kernel_rfl) rq4 ⟨rfl,(oy rfl rfl),rfl,AOW⟩ (A1 fun W g=>Lb (n:=276) (by decide) rfl hpo W),ym r5,BG (vs:=[AQ sa,AQ ((kd 276 po)),.slice aoX (ks.length+1) capX]) rfl rfl trivial ⟨(oy rfl rfl),(oy rfl rfl),(oy rfl rfl),AOW⟩ (fun _=>bV3 hsa (Bp _ _) _ _ _ _) (fun _=>rfl),AOW⟩ trivial
          [] (by kernel_rfl) trivial ⟨.inl rfl,.inl rfl,.inl rfl,.inl rfl,.inl rfl,.inl rfl,.inl rfl,AOW⟩ (by kernel_rfl) fun a54 w54 g54 st54 nd54=>?_
         obtain⟨hn54,hd54,e54_71,e54_72,e54_73,e54_74,e54_75,e54_76,e54_77,e54_37,e54_38,e54_39,e54_40,e54_41,e54_42,e54_43,e54_44,e54_45,e54_46,e54_47,e54_48,e54_49,e54_50,e54_51,e54_52,e54_7,e54_34,e54_35,e54_36,e54_6,e54_33,e54_17,e54_18,e54_19,e54_20,e54_12,e54_13,e54_14,e54_15,e54_8,e54_9,e54_10,e54_5,e54_4,e54_3,e54_2,e54_0,e54_1,e54_25,e54_32,-⟩:=st54
         have JL:Sv 78 [] [(37,_),(38,_),(39,_),(40,_),(41,_),(42,_),(43,_),(44,_),(45,_),(46,_),(47,_),(48,_),(49,_),(50,_),(51,_),(52,_),(7,_),(34,_),(35,_),(36,_),(6,_),(33,_),(17,_),(18,_),(19,_),(20,_),(12,_),(13,_),(14,_),(15,_),(8,_),(9,_),(10,_),(5,_),(4,_),(3,_),(2,_),(0,_),(1,_),(25,_),(32,_),(77,_)] a54:=⟨hn54,hd54,e54_37,e54_38,e54_39,e54_40,e54_41,e54_42,e54_43,e54_44,e54_45,e54_46,e54_47,e54_48,e54_49,e54_50,e54_51,e54_52,e54_7,e54_34,e54_35,e54_36,e54_6,e54_33,e54_17,e54_18,e54_19,e54_20,e54_12,e54_13,e54_14,e54_15,e54_8,e54_9,e54_10,e54_5,e54_4,e54_3,e54_2,e54_0,e54_1,e54_25,e54_32,e54_77,AOW⟩
         refine Aq JL r7 (B6 hsa (Bp _ _) (.slice aoX (ks.length+1) capX) rfl) (AC g54 AL) (by first|rfl|simp[Ar,AO,Af,hsa.1,(Bp _ _).1]) fun w55 g55 h55=>?_
         replace AJ:=Ab g54 g55 AJ (Ne.symm A3)
         replace AI:=Ab g54 g55 AI (Ne.symm A7)
         replace hr:=((hr.kn g52).kn g54).offR g55 (AP Bd)
         replace rt:=((rt.kn g52).kn g54).offR g55 (AP J3)
         replace ox:=((ox.kn g52).kn g54).offR g55 (AP Hb)
         replace kr:=((kr.kn g52).kn g54).offR g55 (AP E8)
         replace HG:=AE (AA (AA HG g52) g54) g55 Bm
         replace AL:=h55
         refine AS (v:=.int .i64 0) JL r6 fun a56 Oz=>?_
         refine AD ?_
         refine k53 _ _ ?_
         refine AOT ?_
         repeat refine AM ?_
         refine Ap (fn:=Tryz.f39) Oz (Cb (p:=4) (q:=5) Tryz.results39 Oz rfl rfl rfl rfl (B6 hsa (Bp _ _) (.slice aoX (ks.length+1) capX) rfl) AL) ?_
         exact VRes.mk2 (P:=OE (ks.map VK.p) o T) (by unfold Nj;rw[if_pos hv,if_neg (by rw[hf];simp),if_neg (by simpa using hfull)]) (by rw[Om,hpos];exact hput) ox kr (fun k hk=>(hfp k hk).elim (fun h=>.inl (.inr h)) (fun h=>.inr (rt.2 k h))) HG
   · refine AOP ?_
     refine AH Cx 4 [(12,Ay sa po (.slice ao ks.length cap)),(13,AQ o),(14,.int .i64 ((i:Int))),(15,.bool true)]
       ⟨yl r6 (B6 hsa hpo (.slice ao ks.length cap) rfl) AJ,yl r6 (Bb o ho.1) AI,Ag [Ay sa po (.slice ao ks.length cap),AQ o] Tryz.func84 (by kernel_rfl) rq4 ⟨(oy rfl rfl),(oy rfl rfl),AOW⟩ (A1 fun W g=>AJh hsa hpo ho (hr.kn g) hv (AHa hf hi)),Ce r6 (fun _=>Dp (decide_eq_true (by omega))),AOW⟩ fun a57 w57 g57 Qw=>?_
     refine AD ?_
     refine k15 _ _ ?_
     refine Am Qw rfl rfl ?_
     refine AOQ fun K58 k58=>?_
     refine AOP ?_
     refine AH Qw 1 [(16,Ay sa po (.slice ao ks.length cap))]
       ⟨yl r6 (B6 hsa hpo (.slice ao ks.length cap) rfl) (AC g57 AJ),AOW⟩ fun a59 w59 g59 Eh=>?_
     have O0:=AA g57 g59
     refine Aq Eh r7 (B6 hsa hpo (.slice ao ks.length cap) rfl) (AC O0 AL) (by first|rfl|simp[Ar,AO,Af,hsa.1,hpo.1]) fun w60 g60 h60=>?_
     replace hr:=(hr.kn O0).offR g60 (AP Bd)
     replace HG:=AE (AA HG O0) g60 Bm
     replace AL:=h60
     refine AS (v:=.int .i64 0) Eh r6 fun a61 Nm=>?_
     refine AD ?_
     refine k58 _ _ ?_
     refine AOT ?_
     repeat refine AM ?_
     refine Ap (fn:=Tryz.f39) Nm (Cb (p:=4) (q:=5) Tryz.results39 Nm rfl rfl rfl rfl (B6 hsa hpo (.slice ao ks.length cap) rfl) AL) ?_
     exact VRes.same (P:=ks.map VK.p) (by unfold Nj;rw[if_pos hv,if_pos hf]) rfl hr (fun k hk=>hk) HG
end Go.Proofs.YtbfjfnbcmojpiaaGreat
namespace Go.Proofs.YtbfjfnbcmojpiaaGreat
open Go.RowKit
section
variable {P:Program} {ops:Array Oper} {S:World→Prop} {Kt:Act→Prop} {o:Oper} {r:List Oper} {a:Act} {n:Nat} {D:List Deferred} {K:List (Nat×Value)}
theorem NV (sv:Sv n D K a) (hgd:o.guard=none) {T:TypeId} {x:Operand} {d:Nat} {p v:Value} (ho:o.op=.load T x) (hd:o.dst=some d) (hdn:decide (d<n)=true) (hx:Nk K x=true∧Nl K x=p) (hr:∀w,S w→(Instr.loadAt T p).run P w=.ok v w)
  (h:∀a',Sv n D ((d,v)::Ku d K) a'→JE P ops S Kt r a'):JE P ops S Kt (o::r) a:=
 AFK hgd T x ho (sv.ev hx.1 hx.2) hr (by rw[hd];exact h _ (sv.put (of_decide_eq_true hdn) v))
theorem IP (w0:World) (sv:Sv n D K a) {v:Value} {d:Nat} (hd:o.dst=some d) (hc:(decide (d<n)&&!(o.looksAt ops).contains d)=true) (hp:PX P ops (UK ((d,Sp.is v)::SE K)) n w0 o)
  (h:∀a',Sv n D ((d,v)::Ku d K) a'→JE P ops S Kt r a'):JE P ops S Kt (o::r) a:=by
 simp only[Bool.and_eq_true,decide_eq_true_eq,Bool.not_eq_true'] at hc
 obtain⟨u,hy,hu⟩:=hp a w0 (World.grownBy.refl _ _) (fun t ht htn=>by
  have hne:(Nat.beq d t)=false:=by
   cases e:Nat.beq d t with
   | false=>rfl
   | true =>
    have:=Nat.eq_of_beq_eq_true e
    subst this
    have h2:=hc.2
    rw[←Bool.not_eq_true,List.contains_iff_mem] at h2
    exact absurd ht h2
  have h1:=(sv.st w0).2.2.at t
  unfold UK
  rw[hne]
  exact h1) sv.1
 have e:u=v:=by
  have:=hu d hd
  unfold UK at this
  have hb:Nat.beq d d=true:=Nat.beq_refl d
  rw[hb] at this
  exact this
 subst e
 exact⟨_,hy.yieldsIf,by rw[hd];exact h _ (sv.put hc.1 _)⟩
end
end Go.Proofs.YtbfjfnbcmojpiaaGreat
namespace Go.Proofs.YtbfjfnbcmojpiaaGreat
open Go.RowKit Go.Shelf
theorem AK5 (n:Nat):∀b∈Vz n,b<256:=by
 induction n using Nat.strongRecOn with
 | _ n ih =>
  by_cases h:n<128
  · rw[IR h];intro b hb;simp at hb;omega
  · rw[Lr h]
    intro b hb
    rcases List.mem_cons.1 hb with rfl|hb
    · omega
    · exact ih (n/128) (by omega) b hb
theorem N7 (n:Int):∀b∈enc n,b<256:=AK5 _
theorem AI1 (s:ByteArray):∀b∈Rm s,b<256:=fun b hb=>by
 rcases List.mem_append.1 hb with h|h
 · exact N7 _ b h
 · exact AKW s b h
theorem AI2 (v:V):∀b∈Pi v,b<256:=fun b hb=>by
 unfold Pi at hb
 rcases List.mem_append.1 hb with h|h
 · exact N7 _ b h
 · split at h
   · exact N7 _ b h
   · split at h
     · exact AI1 _ b h
     · cases h
def vc (v:V):List Value:=[.int .i64 v.kind,.int .i64 v.int,.string v.text]
theorem C6 (v:V):TY Tryz.prog 25 (vc v) (Br v):=tyV v
theorem D5 (v:Value) (h:v.oneCell'=true):TY Tryz.prog 29 [v] v:=TY.one' Tryz.underlying29 rfl (by kernel_rfl) h
theorem DT {w w':World} {v':Value} (h:Step w Ph w' v'):w.grownBy w' none∧∀k,BC v' k→w.heap.size≤k:=⟨Step.none h,fun k hk=>(h.2 k hk).elim (fun h=>by simp[Ph,Value.ownBlock] at h) id⟩
def NwR (w w':World) (xs:List Nat) (e:Ending):Prop:=∃v,e=.returned v∧w.grownBy w' none∧(Sp.row w.heap.size 5 1 xs.length (bv xs)).on w' v
end Go.Proofs.YtbfjfnbcmojpiaaGreat
namespace Go.Proofs.YtbfjfnbcmojpiaaGreat
open Go.RowKit
theorem Sc {w w':World} {fp p:Nat→Prop} (g:w.grownBy w' none) (h:∀k,p k→fp k∨TagV w k):∀k,p k→fp k∨TagV w' k:=fun k hk=>(h k hk).imp id (·.keep g (by simp))
def Sp.vt (r:VV×Int) (fp:Nat→Prop):Sp:=⟨fun w v=>∃ao cap ks,v=.tuple #[Ay r.1.2.1 r.1.2.2 (.slice ao (List.length ks) cap),.int .i64 r.2]∧ks.map VK.p=r.1.1∧RdK w (.slice ao (List.length ks) cap) ks∧∀k,KO (.slice ao (List.length ks) cap) ks k→fp k∨TagV w k,fun _ _ _ hg ⟨ao,cap,ks,h1,h2,h3,h4⟩=>⟨ao,cap,ks,h1,h2,h3.kn hg,Sc hg h4⟩⟩
theorem VRes.on {w w':World} {r:VV×Int} {fp:Nat→Prop} {e:Ending} (h:VRes w w' r fp e):∃v,e=.returned v∧w.grownBy w' none∧(Sp.vt r fp).on w' v:=by
 obtain⟨ao,cap,ks,h1,h2,h3,h4,h5⟩:=h
 exact⟨_,h1,h5,ao,cap,ks,rfl,h2,h3,h4⟩
section
variable {w0:World} {ks:List VK} {ao:Option Addr} {cap:Nat} {sa po o:List Nat} {P:List VP} {r:VV×Int} {a:Int}
theorem ALc (hsa:Dg sa) (hpo:Dg po) (ho:Dg o) (hk:RdK w0 (.slice ao ks.length cap) ks) (hm:ks.map VK.p=P) {T:List Nd} (hT:tree (kd 275 po) []=T) (hres:Nj (P,sa,po) o T (kd 276 po)=r) :
  ∀W,w0.grownBy W none→Calls Tryz.prog 36 #[Ay sa po (.slice ao ks.length cap),AQ o] W fun e W'=>∃v,e=.returned v∧W.grownBy W' none∧(Sp.vt r fun _=>False).on W' v:=fun W g=>by
 subst hres hm
 exact(AHf ks ao cap sa po hsa hpo o ho T hT W (hk.kn g)).mono fun e W' h=>h.on
theorem AJn (hsa:Dg sa) (hpo:Dg po) (ho:Dg o) (hk:RdK w0 (.slice ao ks.length cap) ks) (hm:ks.map VK.p=P) {T:List Nd} (hT:tree (kd 275 po) []=T) (hres:Nj (P,sa,po) o T (kd 276 po)=r) :
  ∀W,w0.grownBy W none→Calls Tryz.prog 39 #[Ay sa po (.slice ao ks.length cap),AQ o] W fun e W'=>∃v,e=.returned v∧W.grownBy W' none∧(Sp.vt r (KO (.slice ao ks.length cap) ks)).on W' v:=fun W g=>by
 subst hres hm
 exact(AFn ks ao cap sa po hsa hpo o ho T hT W (hk.kn g)).mono fun e W' h=>h.on
theorem AMb {w:World} {q:List Nat×Int} (hsa:Dg sa) (hpo:Dg po) (ho:Dg o) (hk:RdK w (.slice ao ks.length cap) ks) (hm:ks.map VK.p=P) (hres:DI P o a=q) :
  Calls Tryz.prog 32 #[Ay sa po (.slice ao ks.length cap),AQ o,.int .i64 a] w fun e w'=>e=.returned (.tuple #[AQ q.1,.int .i64 q.2])∧w.grownBy w' none:=by
 subst hres hm
 exact AHb ks ao cap sa po hsa hpo o ho a w hk
theorem ALd {w:World} {q:List Nat×Int} (hsa:Dg sa) (hpo:Dg po) (ho:Dg o) (hk:RdK w (.slice ao ks.length cap) ks) (hm:ks.map VK.p=P) (hres:DI P o a=q) :
  Calls Tryz.prog 42 #[Ay sa po (.slice ao ks.length cap),AQ o,.int .i64 a] w fun e w'=>e=.returned (.tuple #[AQ q.1,.int .i64 q.2])∧w.grownBy w' none:=by
 subst hres hm
 exact AFi ks ao cap sa po hsa hpo o ho a w hk
theorem O6 {w:World} {b:Bool} (hsa:Dg sa) (hpo:Dg po) (hk:RdK w (.slice ao ks.length cap) ks) (hm:ks.map VK.p=P) (hb:Co P=b):Calls Tryz.prog 51 #[Ay sa po (.slice ao ks.length cap)] w fun e w'=>e=.returned (.bool b)∧w.grownBy w' none:=by
 subst hm
 exact Mt hsa hpo hk hb
theorem Hf {w:World} {b:Bool} (hsa:Dg sa) (hpo:Dg po) (hk:RdK w (.slice ao ks.length cap) ks) (hm:ks.map VK.p=P) (hb:Co P=b):Calls Tryz.prog 40 #[Ay sa po (.slice ao ks.length cap)] w fun e w'=>e=.returned (.bool b)∧w.grownBy w' none:=by
 subst hm
 exact IZ hsa hpo hk hb
end
end Go.Proofs.YtbfjfnbcmojpiaaGreat
namespace Go.Proofs.YtbfjfnbcmojpiaaGreat
def By (l:List Nat):Prop:=∀x∈l,x<256
def JA (a b:List Nat):List Nat:=List.zipWith (fun x y=>x ^^^ y) a b
theorem M0 {a b:List Nat} (h:a.length≤b.length):(JA a b).length=a.length:=by unfold JA;rw[List.length_zipWith];omega
theorem AEU {a b:List Nat} (ha:By a) (hb:By b):By (JA a b):=fun x hx=>by
 unfold JA at hx
 rw[List.mem_iff_getElem] at hx
 obtain⟨i,hi,rfl⟩:=hx
 rw[List.getElem_zipWith]
 exact Nat.xor_lt_two_pow (n:=8) (ha _ (List.getElem_mem _)) (hb _ (List.getElem_mem _))
theorem Pw:∀{a b:List Nat},a.length≤b.length→JA (JA a b) b=a
 | [],_,_=>rfl
 | _::_,[],h=>by simp at h
 | x::a,y::b,h=>by
  have ih:=Pw (a:=a) (b:=b) (by simpa using h)
  unfold JA at ih ⊢
  simp only[List.zipWith_cons_cons,ih,Nat.xor_assoc,Nat.xor_self,Nat.xor_zero]
def Qx (all:Bool) (keys:List (List Nat)):List Nat:=QJ (BitVec.ofNat 64 (if all then 282 else 281)) keys.flatten
def msk (k:List Nat):List Nat:=Nq (BitVec.ofNat 64 283) k []
def Mg (c k:List Nat):List Nat:=JA c (msk k)
def Fj (b c:List Nat):List Nat:=JA b (sq (IS (BitVec.ofNat 64 284) c) b.length)
def MI (c:List Nat) (a:Int) (b:List Nat):List Nat:=Nq (BitVec.ofNat 64 285) c (enc a++b)
def Nt (a:Int) (b:List Nat):List Nat:=QJ (BitVec.ofNat 64 280) (enc a++b)
structure Sd where
 addr:Int
 own:List (List Nat)
 joint:Int
 wr:List (List Nat)
 body:List Nat
 tag:List Nat
def Sd.zero:Sd:=⟨0,[],0,[],[],AR⟩
def Lf (l:List (List Nat)) (i:Nat):List Nat:=(l[i]?).getD []
theorem ADI {l:List (List Nat)} {i:Nat} (h:i<l.length):Lf l i=l[i]:=by unfold Lf;rw[List.getElem?_eq_getElem h];rfl
def XX (l:List (List Nat)) (i:Nat):Bool:=decide (i=0)||E5 (Lf l (i-1)) (Lf l i)
def ZR (l:List (List Nat)):Bool:=(List.range l.length).all (XX l)
theorem AEV {l:List (List Nat)}:ZR l=true↔∀i,i<l.length→XX l i=true:=by unfold ZR;simp[List.all_eq_true,List.mem_range]
theorem AHm {l:List (List Nat)} {i:Nat} (h:i<l.length) (hc:XX l i=false):ZR l=false:=by
 cases h2:ZR l with
 | false=>rfl
 | true=>rw[AEV.1 h2 i h] at hc;cases hc
theorem AEW {l:List (List Nat)} (h:∀i,i<l.length→XX l i=true):ZR l=true:=AEV.2 h
def hd (own:List (List Nat)) (joint addr:Int):Bool:=Ci addr&&(decide (joint=0)||decide (joint=1))&&decide (own.length≤16)&&ZR own
def Ed (s:Sd):Bool:=hd s.own s.joint s.addr&&decide (s.body.length≤64)&&decide (s.wr.length=if s.joint=1 then s.own.length else 0)
def Df (P:List VP) (a:Int):List (List Nat)→List (List Nat)×Int
 | []=>([],0)
 | o::l=>if (DI P o a).2=0 then ((DI P o a).1::(Df P a l).1,(Df P a l).2) else ([],(DI P o a).2)
def Gk (P:List VP) (own:List (List Nat)) (joint addr:Int) (x:V):Sd×Int:=
 if hd own joint addr&&Co P then
   (if own=[] then (⟨addr,[],joint,[],BQ x,Nt addr (BQ x)⟩,0)
   else if (Df P addr own).2=0 then
     (⟨addr,own,joint,if joint=1 then (Df P addr own).1.map (Mg (Qx (decide (joint=1)) (Df P addr own).1)) else [],
       Fj (BQ x) (Qx (decide (joint=1)) (Df P addr own).1),MI (Qx (decide (joint=1)) (Df P addr own).1) addr (Fj (BQ x) (Qx (decide (joint=1)) (Df P addr own).1))⟩,0)
   else (Sd.zero,(Df P addr own).2))
 else (Sd.zero,1)
end Go.Proofs.YtbfjfnbcmojpiaaGreat
