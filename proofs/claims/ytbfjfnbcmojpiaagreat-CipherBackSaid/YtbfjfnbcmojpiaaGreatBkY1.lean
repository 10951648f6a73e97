import Derived.Test.YtbfjfnbcmojpiaaGreatBkV9
import Derived.OrdersHeld
import Derived.Test.YtbfjfnbcmojpiaaGreatBkSG
set_option linter.unusedSimpArgs false
set_option linter.unusedVariables false
set_option maxRecDepth 100000
set_option maxHeartbeats 4000000
namespace Go.Proofs.YtbfjfnbcmojpiaaGreat
open Go.RowKit Go.Shelf
def Sp.lit1T (B:Nat) (o:List Nat) (l:List Nd):Sp:=⟨fun w v=>∃(A:Nat) (x:VK),v=.slice (some ⟨A,0,none⟩) 1 1∧w.heap[A]?=some (.cells (Ac x).toArray 58 (0,0))∧x.o=o∧x.l=l∧RdTg w x.s x.l∧(∀k,Ks x.s k→B≤k)∧B≤A,fun _ _ _ hg ⟨A,x,h1,h2,h3,h4,h5,h7,h8⟩=>⟨A,x,h1,AF hg h2 (by simp),h3,h4,h5.kn hg,h7,h8⟩⟩
theorem AAp {B:Nat} {o:List Nat} {l:List Nd} {w:World} {v:Value} (hB:B≤w.heap.size) (h:(Sp.ck B o l).on w v):∃cs:List Value,(Instr.buildSlice 34 1 #[(0,v)]).run Tryz.prog w=.ok (.slice (some ⟨w.heap.size,0,none⟩) 1 1) (w.alloc (.cells cs.toArray 58)) ∧
  ∀w',w.grownBy w' none→w'.heap[w.heap.size]?=some (.cells cs.toArray 58 (0,0))→(Sp.lit1T B o l).on w' (.slice (some ⟨w.heap.size,0,none⟩) 1 1):=by
 obtain⟨x,rfl,h2,h3,h4,h6⟩:=h
 exact⟨Ac x,AFy x w,fun w' g hb=>⟨_,x,rfl,hb,h2,h3,h4.kn g,h6,hB⟩⟩
theorem AF5 {P:List VP} {ms:List VK} {k:Nat} {o:List Nat} {T:List Nd} (h:ms.map VK.p=Fl P k (o,T)) (hk:k≤P.length) (hm:k<ms.length) {z:VK} (hz:ms[k]=z):z.o=o:=by
 have h1:(ms.map VK.p)[k]?=some z.p:=by rw[List.getElem?_map,List.getElem?_eq_getElem hm,hz];rfl
 rw[h,FQ hk,if_neg (by omega),if_pos rfl] at h1
 exact(congrArg Prod.fst (Option.some.inj h1)).symm
theorem AAq {P:List VP} {ms:List VK} {k:Nat} {x:VP} (h:ms.map VK.p=Fl P k x) (hk:k≤P.length) (h0:0<k) (hm:k-1<ms.length) {z:VK} (hz:ms[k-1]=z):z.o=od P (k-1):=by
 have h1:(ms.map VK.p)[k-1]?=some z.p:=by rw[List.getElem?_map,List.getElem?_eq_getElem hm,hz];rfl
 rw[h,FQ hk,if_pos (by omega)] at h1
 rw[(Nc h1).1]
 rfl
theorem AAr {P:List VP} {ms:List VK} {k:Nat} {x:VP} (h:ms.map VK.p=Fl P k x) (hk:k≤P.length) (h0:0<k) (hm:k<ms.length) (hm1:k-1<ms.length) {a b:VK} (ha:ms[k]=a) (hb:ms[k-1]=b):((ms.set (k-1) a).set k b).map VK.p=Fl P (k-1) x:=by
 rw[List.map_set,List.map_set,h]
 refine WC h0 hk x _ _ ?_ ?_
 · rw[←h,List.getElem?_map,List.getElem?_eq_getElem hm,ha];rfl
 · rw[←h,List.getElem?_map,List.getElem?_eq_getElem hm1,hb];rfl
theorem Jw {ms:List VK} {k:Nat} (hm:k<ms.length) (hm1:k-1<ms.length) {a b:VK} (ha:ms[k]=a) (hb:ms[k-1]=b) {x:VK} (hx:x∈(ms.set (k-1) a).set k b):x∈ms:=by
 rcases List.mem_or_eq_of_mem_set hx with h|h
 · rcases List.mem_or_eq_of_mem_set h with h|h
   · exact h
   · rw[h,←ha];exact List.getElem_mem hm
 · rw[h,←hb];exact List.getElem_mem hm1
theorem KsR.sub {w:World} {ms ns:List VK} (h:KsR w ms) (hs:∀x∈ns,x∈ms):KsR w ns:=fun k hk=>h k (hs k hk)
theorem JT {ms ns:List VK} (hs:∀x∈ns,x∈ms) {b:Nat} (h:DG ns b):DG ms b:=by
 obtain⟨k,hk,hb⟩:=h
 exact⟨k,hs k hk,hb⟩
theorem KsR.snoc {w:World} {ms:List VK} (h:KsR w ms) {x:VK} (hx:RdT w x.s x.l):KsR w (ms++[x]):=fun k hk=>by
 rcases List.mem_append.1 hk with hk|hk
 · exact h k hk
 · obtain rfl:=List.mem_singleton.1 hk;exact hx
theorem IA {ms:List VK} {x:VK} {b:Nat} (h:DG (ms++[x]) b):DG ms b∨Ks x.s b:=by
 obtain⟨k,hk,hb⟩:=h
 rcases List.mem_append.1 hk with hk|hk
 · exact .inl ⟨k,hk,hb⟩
 · obtain rfl:=List.mem_singleton.1 hk;exact .inr hb
theorem AAs {x y:List Nat} {b:Bool} (hb:Dk x y=b) (hx:Dg x) (hy:Dg y) (w:World):Calls Tryz.prog 86 #[AP x,AP y] w fun e w'=>e=.returned (.bool b)∧w.grownBy w' none:=Kj hb hx hy w
theorem ACw (ks:List VK) (y:VK):ks.flatMap Ac++Ac y=(ks++[y]).flatMap Ac:=by rw[List.flatMap_append];simp
theorem ACx {w:World} {A:Nat} {x:VK} (h:w.heap[A]?=some (.cells (Ac x).toArray 58 (0,0))):Sl w 33 (.slice (some ⟨A,0,none⟩) 1 1) 1 (Ac x):=AAe h
theorem Ys (ks:List VK) (ao:Option Addr) (cap:Nat) (sa po:List Nat) (hsa:Dg sa) (hpo:Dg po) (o:List Nat) (ho:Dg o) (T:List Nd) (hT:tree (kd 275 po) []=T) (w:World) (hr:RdK w (.slice ao ks.length cap) ks) :
   Calls Tryz.prog 39 #[An sa po (.slice ao ks.length cap),AP o] w fun e w'=>VRes w w' (J4 (ks.map VK.p,sa,po) o T (kd 276 po)) (Kh (.slice ao ks.length cap) ks) e:=by
 have hlt0:=hr.lt
 have hmap:(ks.map VK.p).length=ks.length:=List.length_map _
 refine BH Tryz.func39 rfl Tryz.ntmps39 rfl fun a0 sv0=>?_
 have HG:=World.grownBy.refl w none
 replace sv0:Sv 78 [] [(0,An sa po (.slice ao ks.length cap)),(1,AP o)] a0:=sv0
 refine AH4 fun K1 k1=>?_
 refine AH3 ?_
 refine BQ sv0 r6 (Bm hsa hpo (.slice ao ks.length cap) rfl) fun a2 w2 CJ Cs g2 z2 AH sv2=>?_
 have WD:=Av (hr.lt) Cs
 replace hr:=hr.kn g2
 refine BQ sv2 r6 (Bj o ho.1) fun a3 w3 Bw EH g3 z3 AL sv3=>?_
 have WE:=Av (hr.lt) EH
 replace AH:=AC g3 AH
 replace hr:=hr.kn g3
 replace HG:=AA (AA HG g2) g3
 refine Ap (T:=36) (Z:=([bv AS,bv AS,[.slice none 0 0]].flatten)) sv3 rfl rfl rfl (fun a w=>by kernel_rfl) fun a4 w4 FG Bz g4 z4 AN sv4=>?_
 have A8:=As AH Bz
 have BJ:=As AL Bz
 have B7:=Bp HG Bz
 have Bo:=Av (hr.lt) Bz
 replace AH:=AC g4 AH
 replace AL:=AC g4 AL
 replace hr:=hr.kn g4
 replace HG:=AA HG g4
 refine AZ (v:=.int .i64 0) sv4 r6 fun a5 sv5=>?_
 refine AE ?_
 refine k1 _ _ ?_
 refine AH4 fun K6 k6=>?_
 refine AH4 fun K7 k7=>?_
 cases hv:CR (ks.map VK.p)
 · refine AH3 ?_
   refine AK sv5 3 [(8,An sa po (.slice ao ks.length cap)),(9,.bool false),(10,.bool true)]
     ⟨yl r6 (Bm hsa hpo (.slice ao ks.length cap) rfl) AH,Ah [An sa po (.slice ao ks.length cap)] Tryz.func40 (by kernel_rfl) rq4 ⟨(oy rfl rfl),AIA⟩ (Ao fun W g=>Ql hsa hpo (hr.kn g) hv),C3 r6 (fun _=>Bf),AIA⟩ fun a8 w8 g8 sv8=>?_
   refine AE ?_
   refine k7 _ _ ?_
   refine Aq sv8 rfl rfl ?_
   refine AH4 fun K9 k9=>?_
   refine AH3 ?_
   replace AH:=AC g8 AH
   replace AL:=AC g8 AL
   replace AN:=AC g8 AN
   refine AK sv8 1 [(11,An AS AS (.slice none 0 0))]
     ⟨BM (vs:=[]) rfl rfl trivial trivial (fun _=>bV0 _) (fun _=>rfl),AIA⟩ fun a10 w10 g10 CG=>?_
   refine Am CG r7 (Bm AV AV (.slice none 0 0) rfl) (AC g10 AN) (by first|rfl|simp[Ac,AI,AU,AV.1,AV.1]) fun w11 g11 h11=>?_
   replace AH:=Ak g10 g11 AH (Ne.symm A8)
   replace AL:=Ak g10 g11 AL (Ne.symm BJ)
   replace hr:=((hr.kn g8).kn g10).offR g11 (AQ Bo)
   replace HG:=AD (AA (AA HG g8) g10) g11 B7
   replace AN:=h11
   refine AZ (v:=.int .i64 1) CG r6 fun a12 Cr=>?_
   refine AE ?_
   refine k9 _ _ ?_
   refine AH7 ?_
   repeat refine AM ?_
   refine A3 (fn:=Tryz.f39) Cr (FL (p:=4) (q:=5) Tryz.results39 Cr rfl rfl rfl rfl (Bm AV AV (.slice none 0 0) rfl) AN) ?_
   exact VRes.zero (by unfold J4;rw[if_neg (by rw[hv];simp)]) HG
 · obtain⟨i,hi⟩:∃i,pos (ks.map VK.p) o=i:=⟨_,rfl⟩
   have h64:ks.length≤64:=by have:=(EV.1 hv).1;simpa using this
   have hs:=Srt.of hv
   refine AH3 ?_
   refine AK sv5 3 [(8,An sa po (.slice ao ks.length cap)),(9,.bool true),(10,.bool false)]
     ⟨yl r6 (Bm hsa hpo (.slice ao ks.length cap) rfl) AH,Ah [An sa po (.slice ao ks.length cap)] Tryz.func40 (by kernel_rfl) rq4 ⟨(oy rfl rfl),AIA⟩ (Ao fun W g=>Ql hsa hpo (hr.kn g) hv),C3 r6 (fun _=>Bf),AIA⟩ fun a13 w13 g13 Dx=>?_
   refine AE ?_
   refine k7 _ _ ?_
   refine Ax Dx rfl rfl ?_
   refine AH8 ?_
   refine k6 _ _ ?_
   refine AH4 fun K14 k14=>?_
   refine AH4 fun K15 k15=>?_
   replace AH:=AC g13 AH
   replace AL:=AC g13 AL
   replace AN:=AC g13 AN
   replace hr:=hr.kn g13
   replace HG:=AA HG g13
   cases hf:Ix (ks.map VK.p) o
   · refine AH3 ?_
     refine AK Dx 4 [(12,An sa po (.slice ao ks.length cap)),(13,AP o),(14,.int .i64 ((-1))),(15,.bool false)]
       ⟨yl r6 (Bm hsa hpo (.slice ao ks.length cap) rfl) AH,yl r6 (Bj o ho.1) AL,Ah [An sa po (.slice ao ks.length cap),AP o] Tryz.func84 (by kernel_rfl) rq4 ⟨(oy rfl rfl),(oy rfl rfl),AIA⟩ (Ao fun W g=>AF1 hsa hpo ho (hr.kn g) hv (AF2 hf)),Cm r6 (fun _=>EP (by decide)),AIA⟩ fun a16 w16 g16 Ck=>?_
     refine AE ?_
     refine k15 _ _ ?_
     refine Ax Ck rfl rfl ?_
     refine AH8 ?_
     refine k14 _ _ ?_
     refine AH4 fun K17 k17=>?_
     refine AH4 fun K18 k18=>?_
     replace AH:=AC g16 AH
     replace AL:=AC g16 AL
     replace AN:=AC g16 AN
     replace hr:=hr.kn g16
     replace HG:=AA HG g16
     by_cases hfull:64≤ks.length
     · refine AH3 ?_
       refine AK Ck 4 [(17,pk CJ 64),(18,.slice ao ks.length cap),(19,.int .i64 ((ks.length:Nat))),(20,.bool true)]
         ⟨yf r6 (fun _=>by kernel_rfl),yp (i:=2) r6 (Du (.slice ao ks.length cap) rfl) AH rfl (by simp[AI,AU,hsa.1,hpo.1]),Be (Tryz.underlying34) rfl rfl trivial (oy rfl rfl) (fun _=>rfl),Cm r6 (fun _=>EP (decide_eq_true (by omega))),AIA⟩ fun a19 w19 g19 Dv=>?_
       refine AE ?_
       refine k18 _ _ ?_
       refine Aq Dv rfl rfl ?_
       refine AH4 fun K20 k20=>?_
       refine AH3 ?_
       replace AH:=AC g19 AH
       replace AL:=AC g19 AL
       replace AN:=AC g19 AN
       refine AK Dv 1 [(21,An AS AS (.slice none 0 0))]
         ⟨BM (vs:=[]) rfl rfl trivial trivial (fun _=>bV0 _) (fun _=>rfl),AIA⟩ fun a21 w21 g21 DL=>?_
       refine Am DL r7 (Bm AV AV (.slice none 0 0) rfl) (AC g21 AN) (by first|rfl|simp[Ac,AI,AU,AV.1,AV.1]) fun w22 g22 h22=>?_
       replace AH:=Ak g21 g22 AH (Ne.symm A8)
       replace AL:=Ak g21 g22 AL (Ne.symm BJ)
       replace hr:=((hr.kn g19).kn g21).offR g22 (AQ Bo)
       replace HG:=AD (AA (AA HG g19) g21) g22 B7
       replace AN:=h22
       refine AZ (v:=.int .i64 8) DL r6 fun a23 CX=>?_
       refine AE ?_
       refine k20 _ _ ?_
       refine AH7 ?_
       repeat refine AM ?_
       refine A3 (fn:=Tryz.f39) CX (FL (p:=4) (q:=5) Tryz.results39 CX rfl rfl rfl rfl (Bm AV AV (.slice none 0 0) rfl) AN) ?_
       exact VRes.zero (by unfold J4;rw[if_pos hv,if_neg (by rw[hf];simp),if_pos (by simpa using hfull)]) HG
     · refine AH3 ?_
       refine AK Ck 4 [(17,pk CJ 64),(18,.slice ao ks.length cap),(19,.int .i64 ((ks.length:Nat))),(20,.bool false)]
         ⟨yf r6 (fun _=>by kernel_rfl),yp (i:=2) r6 (Du (.slice ao ks.length cap) rfl) AH rfl (by simp[AI,AU,hsa.1,hpo.1]),Be (Tryz.underlying34) rfl rfl trivial (oy rfl rfl) (fun _=>rfl),Cm r6 (fun _=>EP (decide_eq_false (by omega))),AIA⟩ fun a24 w24 g24 Dw=>?_
       refine AE ?_
       refine k18 _ _ ?_
       refine Ax Dw rfl rfl ?_
       refine AH8 ?_
       refine k17 _ _ ?_
       refine AH4 fun K25 k25=>?_
       replace AH:=AC g24 AH
       replace AL:=AC g24 AL
       replace AN:=AC g24 AN
       replace hr:=hr.kn g24
       replace HG:=AA HG g24
       refine C6 (Dw.st w24) (by kernel_rfl) 11 [(22,Sp.lit0 w24.heap.size 58),(23,Sp.is (pk CJ 64)),(24,Sp.is (.slice ao ks.length cap)),(25,Sp.row w24.heap.size 58 33 ks.length (ks.flatMap Ac)),(26,Sp.is (AP o)),(27,Sp.is (pk CJ 32)),(28,Sp.is (AP po)),(29,Sp.is (AP ((kd 275 po)))),(30,Sp.ct w24.heap.size T),(31,Sp.ck w24.heap.size o T),(32,Sp.lit1T w24.heap.size o T)] rfl (by kernel_rfl) (by kernel_rfl) (by kernel_rfl) [] (by kernel_rfl)
         ⟨RO (t:=0) rfl trivial (Nat.le_refl _) (fun a w=>by kernel_rfl) (fun _ _ h=>h),yf r6 (fun _=>by kernel_rfl),yp (i:=2) r6 (Du (.slice ao ks.length cap) rfl) AH rfl (by simp[AI,AU,hsa.1,hpo.1]),RP (news:=ks.flatMap Ac) To rfl rfl trivial rfl (fun _ _ h=>h) (oy rfl rfl) (fun _ g=>(hr.kn g).1.1) (OD ks) (by omega) (Nat.le_refl _) (fun _ _ h=>h),yl r6 (Bj o ho.1) AL,yf r6 (fun _=>by kernel_rfl),yp (i:=1) r6 (Bj po hpo.1) AH rfl (by simp[AI,AU,hsa.1,hpo.1]),Ah [.int .u64 275,AP po,.slice none 0 0] Tryz.func35 (by kernel_rfl) rq4 ⟨rfl,(oy rfl rfl),rfl,AIA⟩ (Ao fun W g=>JR (n:=275) (by decide) rfl hpo W),Ah [AP ((kd 275 po))] Tryz.func85 (by kernel_rfl) rq4 ⟨(oy rfl rfl),AIA⟩ (AAS (BE _ _) hT),Js rfl rfl trivial rfl (fun W _ av h=>match av,h with|[u,t],⟨h1,h2,_⟩=>AAQ ho h1 h2),NW rfl rfl trivial (Nat.le_refl _) rfl (fun W hw v h=>AAp hw.size h.1),AIA⟩ trivial
         [] (by kernel_rfl) trivial ⟨.inl rfl,.inl rfl,.inl rfl,.inl rfl,.inl rfl,.inl rfl,.inl rfl,.inl rfl,.inl rfl,.inl rfl,.inl rfl,AIA⟩ (by kernel_rfl) fun a26 w26 g26 st26 nd26=>?_
       obtain⟨hn26,hd26,e26_22,e26_23,e26_24,e26_25,e26_26,e26_27,e26_28,e26_29,e26_30,e26_31,e26_32,e26_17,e26_18,e26_19,e26_20,e26_12,e26_13,e26_14,e26_15,e26_8,e26_9,e26_10,e26_5,e26_4,e26_3,e26_2,e26_0,e26_1,-⟩:=st26
       obtain⟨aoW,capW,e26_25q,ow,frW⟩:=e26_25
       obtain⟨V,y,e26_32q,HV,hyo,hyl,rt,frB,geV⟩:=e26_32
       have FO:=CY frW AH
       have ON:=CY frW AL
       have FP:=CY frW AN
       have ap_hr_ow:=ADz (hr.lt) frW
       have lo_ow:=JL HG frW
       have Im:=CY frB AH
       have WF:=CY frB AL
       have GY:=CY frB AN
       have MW:V≠CJ:=Nat.ne_of_gt (Nat.lt_of_lt_of_le (Array.getElem?_eq_some_iff.1 AH).1 geV)
       have Yp:V≠Bw:=Nat.ne_of_gt (Nat.lt_of_lt_of_le (Array.getElem?_eq_some_iff.1 AL).1 geV)
       have Qn:V≠FG:=Nat.ne_of_gt (Nat.lt_of_lt_of_le (Array.getElem?_eq_some_iff.1 AN).1 geV)
       have lo_V:w.heap.size≤V:=Nat.le_trans HG.size geV
       replace AH:=AC g26 AH
       replace AL:=AC g26 AL
       replace AN:=AC g26 AN
       replace hr:=hr.kn g26
       replace HG:=AA HG g26
       have ap_rt_ow:=rt.2.own ow (by decide)
       have CW:Sv 78 [] [(17,_),(18,_),(19,_),(20,_),(12,_),(13,_),(14,_),(15,_),(8,_),(9,_),(10,_),(5,_),(4,_),(3,_),(2,_),(0,_),(1,_),(25,_),(32,_)] a26:=⟨hn26,hd26,e26_17,e26_18,e26_19,e26_20,e26_12,e26_13,e26_14,e26_15,e26_8,e26_9,e26_10,e26_5,e26_4,e26_3,e26_2,e26_0,e26_1,e26_25q,e26_32q,AIA⟩
       refine Kg To CW rfl rfl rfl rfl rfl rfl rfl rfl ow (ACx HV) (List.all_eq_true.2 (GM y)) (by omega) fun a27 aoX capX w27 ox CM F8=>?_
       have GZ:∀k,BO (.slice aoX (ks.length+1) capX) k→k≠CJ:=fun k hk=>(CM.2 k hk).elim (FO k) (fun h=>Nat.ne_of_gt (Nat.lt_of_lt_of_le (Array.getElem?_eq_some_iff.1 AH).1 h))
       have Ga:∀k,BO (.slice aoX (ks.length+1) capX) k→k≠Bw:=fun k hk=>(CM.2 k hk).elim (ON k) (fun h=>Nat.ne_of_gt (Nat.lt_of_lt_of_le (Array.getElem?_eq_some_iff.1 AL).1 h))
       have Ed:∀k,BO (.slice aoX (ks.length+1) capX) k→k≠FG:=fun k hk=>(CM.2 k hk).elim (FP k) (fun h=>Nat.ne_of_gt (Nat.lt_of_lt_of_le (Array.getElem?_eq_some_iff.1 AN).1 h))
       have ap_hr_ox:∀k,Kh (.slice ao ks.length cap) ks k→¬BO (.slice aoX (ks.length+1) capX) k:=fun k hk hx=>(CM.2 k hx).elim (ap_hr_ow k hk) (fun h=>absurd (hr.lt k hk) (Nat.not_lt.2 h))
       have ap_rt_ox:∀k,Ks (VK.s y) k→¬BO (.slice aoX (ks.length+1) capX) k:=fun k hk hx=>(CM.2 k hx).elim (ap_rt_ow k hk) (fun h=>absurd (rt.lt k hk) (Nat.not_lt.2 h))
       have lo_ox:=Vh CM.2 lo_ow HG
       replace AH:=AF CM.1 AH (fun e=>FO _ e.symm rfl)
       replace AL:=AF CM.1 AL (fun e=>ON _ e.symm rfl)
       replace AN:=AF CM.1 AN (fun e=>FP _ e.symm rfl)
       replace hr:=hr.offR CM.1 (fun k hk e=>ap_hr_ow k hk (e))
       replace rt:=rt.offR CM.1 (fun k hk e=>ap_rt_ow k hk (e))
       replace HG:=CN HG CM.1 fun k e=>lo_ow k (e)
       rw[ACw] at ox
       refine AZ (v:=.slice aoX (ks.length+1) capX) F8 r6 fun a28 JO=>?_
       refine AE ?_
       have kr:=KsR.snoc hr.2 rt.1
       have Ec:∀k,DG (ks++[y]) k→k≠CJ:=fun k hk=>(IA hk).elim (fun h=>WD k (.inr h)) (Im k)
       have Kn:∀k,DG (ks++[y]) k→k≠Bw:=fun k hk=>(IA hk).elim (fun h=>WE k (.inr h)) (WF k)
       have Da:∀k,DG (ks++[y]) k→k≠FG:=fun k hk=>(IA hk).elim (fun h=>Bo k (.inr h)) (GY k)
       have ap_kr_ox:∀k,DG (ks++[y]) k→¬BO (.slice aoX (ks.length+1) capX) k:=fun k hk=>(IA hk).elim (fun h=>ap_hr_ox k (.inr h)) (ap_rt_ox k)
       refine k25 _ _ ?_
       refine AH4 fun K29 k29=>?_
       refine AH4 fun K30 k30=>?_
       refine AH3 ?_
       refine AK JO 3 [(34,.slice aoX (ks.length+1) capX),(35,.int .i64 (((ks.length+1):Nat))),(36,.int .i64 ((ks.length:Int)))]
         ⟨ym r5,Be (Tryz.underlying34) rfl rfl trivial (oy rfl rfl) (fun _=>rfl),Cm r6 (fun _=>E0 (by rw[A7 (by omega) (by omega)];omega)),AIA⟩ fun a31 w31 g31 Hj=>?_
       refine AZ (v:=.int .i64 ((ks.length:Int))) Hj r6 fun a32 CO=>?_
       refine AE ?_
       refine k30 _ _ ?_
       refine BB fun Q33 x33 y33 r33 o33=>?_
       replace AH:=AC g31 AH
       replace AL:=AC g31 AL
       replace AN:=AC g31 AN
       replace hr:=hr.kn g31
       replace rt:=rt.kn g31
       replace ox:=ox.kn g31
       replace kr:=kr.kn g31
       replace HG:=AA HG g31
       have hput0:(ks++[y]).map VK.p=Fl (ks.map VK.p) ks.length (o,T):=by rw[show ks.length=(ks.map VK.p).length from hmap.symm,Yt,List.map_append];simp[VK.p,hyo,hyl]
       refine wp_loop (fun a w'=>∃(q:Nat) (ms:List VK),(q≤ks.length)∧(ms.map VK.p=Fl (ks.map VK.p) q (o,T))∧(ms.length=ks.length+1)∧(∀j,q≤j→j<ks.length→Dk o (od (ks.map VK.p) j)=true)∧(∀b,DG ms b→DG ks b∨Ks y.s b)∧Sv 78 [] [(7,.int .i64 ((q:Int))),(34,.slice aoX (ks.length+1) capX),(35,.int .i64 (((ks.length+1):Nat))),(36,.int .i64 ((ks.length:Int))),(6,.slice aoX (ks.length+1) capX),(33,.slice aoX (ks.length+1) capX),(17,pk CJ 64),(18,.slice ao ks.length cap),(19,.int .i64 ((ks.length:Nat))),(20,.bool false),(12,An sa po (.slice ao ks.length cap)),(13,AP o),(14,.int .i64 ((-1))),(15,.bool false),(8,An sa po (.slice ao ks.length cap)),(9,.bool true),(10,.bool false),(5,.int .i64 0),(4,pt FG),(3,pt Bw),(2,pt CJ),(0,An sa po (.slice ao ks.length cap)),(1,AP o),(25,.slice aoW ks.length capW),(32,.slice ((some ⟨V,0,none⟩)) 1 1)] a∧w.grownBy w' none∧w'.heap[CJ]?=some (.cells ([bv sa,bv po,[.slice ao ks.length cap]].flatten).toArray 36 (0,0))∧w'.heap[Bw]?=some (.cells (bv o).toArray 23 (0,0))∧w'.heap[FG]?=some (.cells (([bv AS,bv AS,[.slice none 0 0]].flatten)).toArray 36 (0,0))∧RdK w' (.slice ao ks.length cap) ks∧RdTg w' (VK.s y) y.l∧Own w' 58 33 (.slice aoX (ks.length+1) capX) ((ks.length+1)) (ms.flatMap Ac)∧KsR w' ms∧(∀k,BO (.slice aoX (ks.length+1) capX) k→k≠CJ)∧(∀k,BO (.slice aoX (ks.length+1) capX) k→k≠Bw)∧(∀k,BO (.slice aoX (ks.length+1) capX) k→k≠FG)∧(∀k,Kh (.slice ao ks.length cap) ks k→¬BO (.slice aoX (ks.length+1) capX) k)∧(∀k,Ks (VK.s y) k→¬BO (.slice aoX (ks.length+1) capX) k)∧(∀k,DG ms k→¬BO (.slice aoX (ks.length+1) capX) k)∧(∀k,BO (.slice aoX (ks.length+1) capX) k→w.heap.size≤k)∧(∀k,DG ms k→k≠CJ)∧(∀k,DG ms k→k≠Bw)∧(∀k,DG ms k→k≠FG)) (fun a _=>(intOf (a.tmps.getD 7 undef)).toNat) ⟨ks.length,ks++[y],Nat.le_refl _,hput0,by simp,fun j h1 h2=>by omega,fun b h=>IA h,⟨CO.1,CO.2.1,CO.2.2.1,CO.2.2.2.1,CO.2.2.2.2.1,CO.2.2.2.2.2.1,CO.2.2.2.2.2.2.1,CO.2.2.2.2.2.2.2.1,(AJ CO).1,(AJ CO).2.1,(AJ CO).2.2.1,(AJ CO).2.2.2.1,(AJ CO).2.2.2.2.1,(AJ CO).2.2.2.2.2.1,(AJ CO).2.2.2.2.2.2.1,(AJ CO).2.2.2.2.2.2.2.1,(AJ (AJ CO)).1,(AJ (AJ CO)).2.1,(AJ (AJ CO)).2.2.1,(AJ (AJ CO)).2.2.2.1,(AJ (AJ CO)).2.2.2.2.1,(AJ (AJ CO)).2.2.2.2.2.1,(AJ (AJ CO)).2.2.2.2.2.2.1,(AJ (AJ CO)).2.2.2.2.2.2.2.1,(AJ (AJ (AJ CO))).1,(AJ (AJ (AJ CO))).2.1,(AJ (AJ (AJ CO))).2.2.1,AIA⟩,HG,AH,AL,AN,hr,rt,ox,kr,GZ,Ga,Ed,ap_hr_ox,ap_rt_ox,ap_kr_ox,lo_ox,Ec,Kn,Da⟩ fun a34 w34 hI34=>?_
       clear AH
       clear AL
       clear AN
       clear hr
       clear rt
       clear ox
       clear kr
       clear HG
       obtain⟨q,ms,hkn,hput,hml,haft,hfp,LO,HG,AH,AL,AN,hr,rt,ox,kr,GZ,Ga,Ed,ap_hr_ox,ap_rt_ox,ap_kr_ox,lo_ox,Ec,Kn,Da⟩:=hI34
       refine AH4 fun K35 k35=>?_
       refine AH4 fun K36 k36=>?_
       have hkm:q<ms.length:=by omega
       have hkm1:q-1<ms.length:=by omega
       obtain⟨a1,JU⟩:∃x,ms[q]'hkm=x:=⟨_,rfl⟩
       obtain⟨b1,Iz⟩:∃x,ms[(q-1)]'hkm1=x:=⟨_,rfl⟩
       have hao:=AF5 hput (by omega) hkm JU
       rcases(show q=0∨(0<q∧Dk a1.o b1.o=true)∨(0<q∧Dk a1.o b1.o=false) by rcases Nat.eq_zero_or_pos q with h|h<;>cases Dk a1.o b1.o<;>simp[h]) with hk0|⟨hk0,hc⟩|⟨hk0,hc⟩
       · have hpos:=T7 hs hf (by omega) (fun j h1 h2=>haft j h1 (by omega)) (.inl hk0)
         refine Cn LO [(37,.int .i64 ((q:Int))),(38,.bool false),(39,.bool false),(40,undef),(41,undef),(42,undef),(43,undef),(44,undef),(45,undef),(46,undef),(47,undef),(48,undef),(49,undef),(50,undef),(51,undef),(52,.bool false)]
          ⟨ym r5,Cm r6 (fun _=>Cj (decide_eq_false (by omega))),ym r5,AY r6,AY r6,AY r6,AY r6,AY r6,AY r6,AY r6,AY r6,AY r6,AY r6,AY r6,AY r6,CA r7,AIA⟩ fun a37 w37 g37 IW=>?_
         refine k36 _ _ ?_
         refine Ax IW rfl rfl ?_
         refine wp_exit ?_
         repeat refine CH ?_
         refine x33 _ _ ?_
         refine k29 _ _ ?_
         refine AH4 fun K38 k38=>?_
         replace AH:=AC g37 AH
         replace AL:=AC g37 AL
         replace AN:=AC g37 AN
         refine C6 (IW.st w37) (by kernel_rfl) 7 [(71,Sp.is (pt CJ)),(72,Sp.is (AP sa)),(73,Sp.is (pk CJ 32)),(74,Sp.is (AP po)),(75,Sp.is (AP ((kd 276 po)))),(76,Sp.is (.slice aoX (ks.length+1) capX)),(77,Sp.is (An sa ((kd 276 po)) (.slice aoX (ks.length+1) capX)))] rfl (by kernel_rfl) (by kernel_rfl) (by kernel_rfl) [] (by kernel_rfl)
          ⟨yf r6 (fun _=>by kernel_rfl),yp (i:=0) r6 (Bj sa hsa.1) AH rfl rfl,yf r6 (fun _=>by kernel_rfl),yp (i:=1) r6 (Bj po hpo.1) AH rfl (by simp[AI,AU,hsa.1,hpo.1]),Ah [.int .u64 276,AP po,.slice none 0 0] Tryz.func35 (by kernel_rfl) rq4 ⟨rfl,(oy rfl rfl),rfl,AIA⟩ (Ao fun W g=>JR (n:=276) (by decide) rfl hpo W),ym r5,BM (vs:=[AP sa,AP ((kd 276 po)),.slice aoX (ks.length+1) capX]) rfl rfl trivial ⟨(oy rfl rfl),(oy rfl rfl),(oy rfl rfl),AIA⟩ (fun _=>bV3 hsa (BE _ _) _ _ _ _) (fun _=>rfl),AIA⟩ trivial
          [] (by kernel_rfl) trivial ⟨.inl rfl,.inl rfl,.inl rfl,.inl rfl,.inl rfl,.inl rfl,.inl rfl,AIA⟩ (by kernel_rfl) fun a39 w39 g39 st39 nd39=>?_
         obtain⟨hn39,hd39,e39_71,e39_72,e39_73,e39_74,e39_75,e39_76,e39_77,e39_37,e39_38,e39_39,e39_40,e39_41,e39_42,e39_43,e39_44,e39_45,e39_46,e39_47,e39_48,e39_49,e39_50,e39_51,e39_52,e39_7,e39_34,e39_35,e39_36,e39_6,e39_33,e39_17,e39_18,e39_19,e39_20,e39_12,e39_13,e39_14,e39_15,e39_8,e39_9,e39_10,e39_5,e39_4,e39_3,e39_2,e39_0,e39_1,e39_25,e39_32,-⟩:=st39
         have JP:Sv 78 [] [(37,_),(38,_),(39,_),(40,_),(41,_),(42,_),(43,_),(44,_),(45,_),(46,_),(47,_),(48,_),(49,_),(50,_),(51,_),(52,_),(7,_),(34,_),(35,_),(36,_),(6,_),(33,_),(17,_),(18,_),(19,_),(20,_),(12,_),(13,_),(14,_),(15,_),(8,_),(9,_),(10,_),(5,_),(4,_),(3,_),(2,_),(0,_),(1,_),(25,_),(32,_),(77,_)] a39:=⟨hn39,hd39,e39_37,e39_38,e39_39,e39_40,e39_41,e39_42,e39_43,e39_44,e39_45,e39_46,e39_47,e39_48,e39_49,e39_50,e39_51,e39_52,e39_7,e39_34,e39_35,e39_36,e39_6,e39_33,e39_17,e39_18,e39_19,e39_20,e39_12,e39_13,e39_14,e39_15,e39_8,e39_9,e39_10,e39_5,e39_4,e39_3,e39_2,e39_0,e39_1,e39_25,e39_32,e39_77,AIA⟩
         refine Am JP r7 (Bm hsa (BE _ _) (.slice aoX (ks.length+1) capX) rfl) (AC g39 AN) (by first|rfl|simp[Ac,AI,AU,hsa.1,(BE _ _).1]) fun w40 g40 h40=>?_
         replace AH:=Ak g39 g40 AH (Ne.symm A8)
         replace AL:=Ak g39 g40 AL (Ne.symm BJ)
         replace hr:=((hr.kn g37).kn g39).offR g40 (AQ Bo)
         replace rt:=((rt.kn g37).kn g39).offR g40 (AQ GY)
         replace ox:=((ox.kn g37).kn g39).offR g40 (AQ Ed)
         replace kr:=((kr.kn g37).kn g39).offR g40 (AQ Da)
         replace HG:=AD (AA (AA HG g37) g39) g40 B7
         replace AN:=h40
         refine AZ (v:=.int .i64 0) JP r6 fun a41 MS=>?_
         refine AE ?_
         refine k38 _ _ ?_
         refine AH7 ?_
         repeat refine AM ?_
         refine A3 (fn:=Tryz.f39) MS (FL (p:=4) (q:=5) Tryz.results39 MS rfl rfl rfl rfl (Bm hsa (BE _ _) (.slice aoX (ks.length+1) capX) rfl) AN) ?_
         exact VRes.mk2 (P:=KU (ks.map VK.p) o T) (by unfold J4;rw[if_pos hv,if_neg (by rw[hf];simp),if_neg (by simpa using hfull)]) (by rw[LJ,hpos];exact hput) ox kr (fun k hk=>(hfp k hk).elim (fun h=>.inl (.inr h)) (fun h=>.inr (rt.2 k h))) HG
       · have hbo:=AAq hput (by omega) hk0 hkm1 Iz
         have hc2:Dk o (od (ks.map VK.p) (q-1))=true:=by rw[←hao,←hbo];exact hc
         refine Cn LO [(37,.int .i64 ((q:Int))),(38,.bool true),(39,.bool true),(40,.slice aoX (ks.length+1) capX),(41,.int .i64 ((q:Int))),(42,pk ((bO aoX)) (oO aoX+q*33)),(43,pk ((bO aoX)) (oO aoX+q*33)),(44,AP a1.o),(45,.slice aoX (ks.length+1) capX),(46,.int .i64 ((q:Int))),(47,.int .i64 (((q-1:Nat):Int))),(48,pk ((bO aoX)) (oO aoX+(q-1)*33)),(49,pk ((bO aoX)) (oO aoX+(q-1)*33)),(50,AP b1.o),(51,.bool true),(52,.bool true)]
          ⟨ym r5,Cm r6 (fun _=>Cj (decide_eq_true (by omega))),ym r5,Ar rq8,Ar rq8,CZ rfl rfl (gy rfl rfl rfl) (oy rfl rfl) (oy rfl rfl) (fun w=>CD Tryz.underlying34 (by kernel_rfl) (Sl.of_own ox) (by omega) (rfl) w) (fun _=>rfl),BK rq9 (fun _=>by kernel_rfl),Au rq9 (fun _ g=>Ad (Bj a1.o a1.ho.1) (Jv (Sl.of_own (ox.kn g)) hkm JU)),Ar rq8,Ar rq8,BD rq9 (fun _=>E0 (by rw[A7 (by omega) (by omega)];omega)),CZ rfl rfl (gy rfl rfl rfl) (oy rfl rfl) (oy rfl rfl) (fun w=>CD Tryz.underlying34 (by kernel_rfl) (Sl.of_own ox) (by omega) (rfl) w) (fun _=>rfl),BK rq9 (fun _=>by kernel_rfl),Au rq9 (fun _ g=>Ad (Bj b1.o b1.ho.1) (Jv (Sl.of_own (ox.kn g)) hkm1 Iz)),Bq [AP a1.o,AP b1.o] Tryz.func86 (by kernel_rfl) r7 ⟨(oy rfl rfl),(oy rfl rfl),AIA⟩ (Ao fun W g=>AAs hc a1.ho b1.ho W),A1 rq9,AIA⟩ fun a42 w42 g42 Hk=>?_
         refine k36 _ _ ?_
         refine Aq Hk rfl rfl ?_
         refine AH8 ?_
         refine k35 _ _ ?_
         refine AH4 fun K43 k43=>?_
         refine BB fun Q44 x44 y44 r44 o44=>?_
         replace ox:=ox.kn g42
         refine C6 (Hk.st w42) (by kernel_rfl) 15 [(55,Sp.is (.slice aoX (ks.length+1) capX)),(56,Sp.is (.int .i64 ((q:Int)))),(57,Sp.is (.int .i64 (((q-1:Nat):Int)))),(58,Sp.is (.slice aoX (ks.length+1) capX)),(59,Sp.is (.int .i64 ((q:Int)))),(60,Sp.is (.slice aoX (ks.length+1) capX)),(61,Sp.is (.int .i64 ((q:Int)))),(62,Sp.is (pk ((bO aoX)) (oO aoX+q*33))),(63,Sp.is (Ft a1)),(64,Sp.is (.slice aoX (ks.length+1) capX)),(65,Sp.is (.int .i64 ((q:Int)))),(66,Sp.is (.int .i64 (((q-1:Nat):Int)))),(67,Sp.is (pk ((bO aoX)) (oO aoX+(q-1)*33))),(68,Sp.is (Ft b1)),(69,Sp.is (pk ((bO aoX)) (oO aoX+(q-1)*33)))] rfl (by kernel_rfl) (by kernel_rfl) (by kernel_rfl) [3,4] (by kernel_rfl)
          ⟨ym r5,ym r5,Cm r6 (fun _=>E0 (by rw[A7 (by omega) (by omega)];omega)),ym r5,ym r5,ym r5,ym r5,BA rq8 (fun w=>CD Tryz.underlying34 (by kernel_rfl) (Sl.of_own ox) (by omega) (rfl) w),Bn r6 (fun _ g=>Ad (RQ a1) (Vq (Sl.of_own (ox.kn g)) hkm JU)),ym r5,ym r5,Cm r6 (fun _=>E0 (by rw[A7 (by omega) (by omega)];omega)),BA rq8 (fun w=>CD Tryz.underlying34 (by kernel_rfl) (Sl.of_own ox) (by omega) (rfl) w),Bn r6 (fun _ g=>Ad (RQ b1) (Vq (Sl.of_own (ox.kn g)) hkm1 Iz)),BA rq8 (fun w=>CD Tryz.underlying34 (by kernel_rfl) (Sl.of_own ox) (by omega) (rfl) w),AIA⟩ ⟨fun o ho=>by obtain rfl:=Option.some.inj ho;exact NY 6 58 (.inl rfl) rfl rfl trivial (fun _ _ h=>h),fun o ho=>by obtain rfl:=Option.some.inj ho;exact NY 7 59 (.inl rfl) rfl rfl trivial (fun _ _ h=>h),AIA⟩
          [] (by kernel_rfl) trivial ⟨.inl rfl,.inl rfl,.inl rfl,.inl rfl,.inl rfl,.inl rfl,.inl rfl,.inl rfl,.inl rfl,.inl rfl,.inl rfl,.inl rfl,.inl rfl,.inl rfl,.inl rfl,AIA⟩ (by kernel_rfl) fun a45 w45 g45 st45 nd45=>?_
         obtain⟨hn45,hd45,e45_55,e45_56,e45_57,e45_58,e45_59,e45_60,e45_61,e45_62,e45_63,e45_64,e45_65,e45_66,e45_67,e45_68,e45_69,e45_37,e45_38,e45_39,e45_40,e45_41,e45_42,e45_43,e45_44,e45_45,e45_46,e45_47,e45_48,e45_49,e45_50,e45_51,e45_52,e45_7,e45_34,e45_35,e45_36,e45_6,e45_33,e45_17,e45_18,e45_19,e45_20,e45_12,e45_13,e45_14,e45_15,e45_8,e45_9,e45_10,e45_5,e45_4,e45_3,e45_2,e45_0,e45_1,e45_25,e45_32,-⟩:=st45
         have EQ:Sv 78 [] [(37,_),(38,_),(39,_),(40,_),(41,_),(42,_),(43,_),(44,_),(45,_),(46,_),(47,_),(48,_),(49,_),(50,_),(51,_),(52,_),(7,_),(34,_),(35,_),(36,_),(6,_),(33,_),(17,_),(18,_),(19,_),(20,_),(12,_),(13,_),(14,_),(15,_),(8,_),(9,_),(10,_),(5,_),(4,_),(3,_),(2,_),(0,_),(1,_),(25,_),(32,_),(58,_),(59,_),(63,_),(68,_),(69,_)] a45:=⟨hn45,hd45,e45_37,e45_38,e45_39,e45_40,e45_41,e45_42,e45_43,e45_44,e45_45,e45_46,e45_47,e45_48,e45_49,e45_50,e45_51,e45_52,e45_7,e45_34,e45_35,e45_36,e45_6,e45_33,e45_17,e45_18,e45_19,e45_20,e45_12,e45_13,e45_14,e45_15,e45_8,e45_9,e45_10,e45_5,e45_4,e45_3,e45_2,e45_0,e45_1,e45_25,e45_32,e45_58,e45_59,e45_63,e45_68,e45_69,AIA⟩
         replace ox:=ox.kn g45
         refine IS (c:=Ac) (el:=a1) EQ rfl rfl rfl rfl rfl rfl rfl (RQ a1) ox Cp (by decide) (by first|omega|(simp only[List.length_set];omega)) rfl fun w46 g46 h46=>?_
         replace AH:=AF g46 (AC g45 (AC g42 AH)) (fun e=>GZ _ (Cx (j:=(q-1)) ox (by omega) rfl) (Option.some.inj e).symm)
         replace AL:=AF g46 (AC g45 (AC g42 AL)) (fun e=>Ga _ (Cx (j:=(q-1)) ox (by omega) rfl) (Option.some.inj e).symm)
         replace AN:=AF g46 (AC g45 (AC g42 AN)) (fun e=>Ed _ (Cx (j:=(q-1)) ox (by omega) rfl) (Option.some.inj e).symm)
         replace hr:=((hr.kn g42).kn g45).offR g46 (fun k hk e=>ap_hr_ox k hk (Cx (j:=(q-1)) ox (by omega) e))
         replace rt:=((rt.kn g42).kn g45).offR g46 (fun k hk e=>ap_rt_ox k hk (Cx (j:=(q-1)) ox (by omega) e))
         replace kr:=((kr.kn g42).kn g45).offR g46 (fun k hk e=>ap_kr_ox k hk (Cx (j:=(q-1)) ox (by omega) e))
         replace HG:=CN (AA (AA HG g42) g45) g46 fun k e=>lo_ox k (Cx (j:=(q-1)) ox (by omega) e)
         replace ox:=h46
         refine AK EQ 1 [(70,pk ((bO aoX)) (oO aoX+q*33))]
          ⟨BA rq8 (fun w=>CD Tryz.underlying34 (by kernel_rfl) (Sl.of_own ox) (by omega) (rfl) w),AIA⟩ fun a47 w47 g47 LS=>?_
         replace ox:=ox.kn g47
         refine IS (c:=Ac) (el:=b1) LS rfl rfl rfl rfl rfl rfl rfl (RQ b1) ox Cp (by decide) (by first|omega|(simp only[List.length_set];omega)) rfl fun w48 g48 h48=>?_
         replace AH:=AF g48 (AC g47 AH) (fun e=>GZ _ (Cx (j:=q) ox (by omega) rfl) (Option.some.inj e).symm)
         replace AL:=AF g48 (AC g47 AL) (fun e=>Ga _ (Cx (j:=q) ox (by omega) rfl) (Option.some.inj e).symm)
         replace AN:=AF g48 (AC g47 AN) (fun e=>Ed _ (Cx (j:=q) ox (by omega) rfl) (Option.some.inj e).symm)
         replace hr:=(hr.kn g47).offR g48 (fun k hk e=>ap_hr_ox k hk (Cx (j:=q) ox (by omega) e))
         replace rt:=(rt.kn g47).offR g48 (fun k hk e=>ap_rt_ox k hk (Cx (j:=q) ox (by omega) e))
         replace kr:=(kr.kn g47).offR g48 (fun k hk e=>ap_kr_ox k hk (Cx (j:=q) ox (by omega) e))
         replace HG:=CN (AA HG g47) g48 fun k e=>lo_ox k (Cx (j:=q) ox (by omega) e)
         have J8:Sv _ _ [_,_,_,_,_,_,_,_,_,_,_,_,_,_,_,_,_,_,_,_,_,_,_,_,_,_,_,_,_,_,_,_,_,_,_,_,_,_,_,_,_] _:=LS.dl [70,58,59,63,68,69]
         refine AE ?_
         have kr2:=kr.sub (ns:=(ms.set (q-1) a1).set q b1) fun x hx=>Jw hkm hkm1 JU Iz hx
         have T8:∀k,DG ((ms.set (q-1) a1).set q b1) k→k≠CJ:=fun k hk=>Ec k (JT (fun x hx=>Jw hkm hkm1 JU Iz hx) hk)
         have T9:∀k,DG ((ms.set (q-1) a1).set q b1) k→k≠Bw:=fun k hk=>Kn k (JT (fun x hx=>Jw hkm hkm1 JU Iz hx) hk)
         have UA:∀k,DG ((ms.set (q-1) a1).set q b1) k→k≠FG:=fun k hk=>Da k (JT (fun x hx=>Jw hkm hkm1 JU Iz hx) hk)
         have ap_kr2_ox:∀k,DG ((ms.set (q-1) a1).set q b1) k→¬BO (.slice aoX (ks.length+1) capX) k:=fun k hk=>ap_kr_ox k (JT (fun x hx=>Jw hkm hkm1 JU Iz hx) hk)
         refine y44 _ _ ?_
         refine k43 _ _ ?_
         refine AH3 ?_
         refine AK J8 2 [(53,.int .i64 ((q:Int))),(54,.int .i64 (((q-1:Nat):Int)))]
          ⟨ym r5,Cm r6 (fun _=>E0 (by rw[A7 (by omega) (by omega)];omega)),AIA⟩ fun a50 w50 g50 Rd=>?_
         refine AZ (v:=.int .i64 (((q-1:Nat):Int))) Rd r6 fun a51 ED=>?_
         refine AE ?_
         replace AH:=AC g50 AH
         replace AL:=AC g50 AL
         replace AN:=AC g50 AN
         replace hr:=hr.kn g50
         replace rt:=rt.kn g50
         replace ox:=h48.kn g50
         replace kr2:=kr2.kn g50
         replace HG:=AA HG g50
         exact⟨⟨q-1,(ms.set (q-1) a1).set q b1,by omega,AAr hput (by omega) hk0 hkm hkm1 JU Iz,by rw[List.length_set,List.length_set];exact hml,fun j h1 h2=>if e:j=q-1 then e▸hc2 else haft j (by omega) h2,fun b h=>hfp b (JT (fun x hx=>Jw hkm hkm1 JU Iz hx) h),⟨ED.1,ED.2.1,ED.2.2.1,(AJ (AJ ED)).2.2.2.2.2.1,(AJ (AJ ED)).2.2.2.2.2.2.1,(AJ (AJ ED)).2.2.2.2.2.2.2.1,(AJ (AJ (AJ ED))).1,(AJ (AJ (AJ ED))).2.1,(AJ (AJ (AJ ED))).2.2.1,(AJ (AJ (AJ ED))).2.2.2.1,(AJ (AJ (AJ ED))).2.2.2.2.1,(AJ (AJ (AJ ED))).2.2.2.2.2.1,(AJ (AJ (AJ ED))).2.2.2.2.2.2.1,(AJ (AJ (AJ ED))).2.2.2.2.2.2.2.1,(AJ (AJ (AJ (AJ ED)))).1,(AJ (AJ (AJ (AJ ED)))).2.1,(AJ (AJ (AJ (AJ ED)))).2.2.1,(AJ (AJ (AJ (AJ ED)))).2.2.2.1,(AJ (AJ (AJ (AJ ED)))).2.2.2.2.1,(AJ (AJ (AJ (AJ ED)))).2.2.2.2.2.1,(AJ (AJ (AJ (AJ ED)))).2.2.2.2.2.2.1,(AJ (AJ (AJ (AJ ED)))).2.2.2.2.2.2.2.1,(AJ (AJ (AJ (AJ (AJ ED))))).1,(AJ (AJ (AJ (AJ (AJ ED))))).2.1,(AJ (AJ (AJ (AJ (AJ ED))))).2.2.1,(AJ (AJ (AJ (AJ (AJ ED))))).2.2.2.1,(AJ (AJ (AJ (AJ (AJ ED))))).2.2.2.2.1,AIA⟩,HG,AH,AL,AN,hr,rt,ox,kr2,GZ,Ga,Ed,ap_hr_ox,ap_rt_ox,ap_kr2_ox,lo_ox,T8,T9,UA⟩,by rw[show _=_ from ED.2.2.1,show _=_ from LO.2.2.1];simp[intOf];omega⟩
       · have hbo:=AAq hput (by omega) hk0 hkm1 Iz
         have hpos:=T7 hs hf (by omega) (fun j h1 h2=>haft j h1 (by omega)) (.inr (by rw[←hao,←hbo];exact hc))
         refine Cn LO [(37,.int .i64 ((q:Int))),(38,.bool true),(39,.bool true),(40,.slice aoX (ks.length+1) capX),(41,.int .i64 ((q:Int))),(42,pk ((bO aoX)) (oO aoX+q*33)),(43,pk ((bO aoX)) (oO aoX+q*33)),(44,AP a1.o),(45,.slice aoX (ks.length+1) capX),(46,.int .i64 ((q:Int))),(47,.int .i64 (((q-1:Nat):Int))),(48,pk ((bO aoX)) (oO aoX+(q-1)*33)),(49,pk ((bO aoX)) (oO aoX+(q-1)*33)),(50,AP b1.o),(51,.bool false),(52,.bool false)]
          ⟨ym r5,Cm r6 (fun _=>Cj (decide_eq_true (by omega))),ym r5,Ar rq8,Ar rq8,CZ rfl rfl (gy rfl rfl rfl) (oy rfl rfl) (oy rfl rfl) (fun w=>CD Tryz.underlying34 (by kernel_rfl) (Sl.of_own ox) (by omega) (rfl) w) (fun _=>rfl),BK rq9 (fun _=>by kernel_rfl),Au rq9 (fun _ g=>Ad (Bj a1.o a1.ho.1) (Jv (Sl.of_own (ox.kn g)) hkm JU)),Ar rq8,Ar rq8,BD rq9 (fun _=>E0 (by rw[A7 (by omega) (by omega)];omega)),CZ rfl rfl (gy rfl rfl rfl) (oy rfl rfl) (oy rfl rfl) (fun w=>CD Tryz.underlying34 (by kernel_rfl) (Sl.of_own ox) (by omega) (rfl) w) (fun _=>rfl),BK rq9 (fun _=>by kernel_rfl),Au rq9 (fun _ g=>Ad (Bj b1.o b1.ho.1) (Jv (Sl.of_own (ox.kn g)) hkm1 Iz)),Bq [AP a1.o,AP b1.o] Tryz.func86 (by kernel_rfl) r7 ⟨(oy rfl rfl),(oy rfl rfl),AIA⟩ (Ao fun W g=>AAs hc a1.ho b1.ho W),A1 rq9,AIA⟩ fun a52 w52 g52 Rc=>?_
         refine k36 _ _ ?_
         refine Ax Rc rfl rfl ?_
         refine wp_exit ?_
         repeat refine CH ?_
         refine x33 _ _ ?_
         refine k29 _ _ ?_
         refine AH4 fun K53 k53=>?_
         replace AH:=AC g52 AH
         replace AL:=AC g52 AL
         replace AN:=AC g52 AN
         refine C6 (Rc.st w52) (by kernel_rfl) 7 [(71,Sp.is (pt CJ)),(72,Sp.is (AP sa)),(73,Sp.is (pk CJ 32)),(74,Sp.is (AP po)),(75,Sp.is (AP ((kd 276 po)))),(76,Sp.is (.slice aoX (ks.length+1) capX)),(77,Sp.is (An sa ((kd 276 po)) (.slice aoX (ks.length+1) capX)))] rfl (by kernel_rfl) (by kernel_rfl) (by kernel_rfl) [] (by kernel_rfl)
          ⟨yf r6 (fun _=>by kernel_rfl),yp (i:=0) r6 (Bj sa hsa.1) AH rfl rfl,yf r6 (fun _=>by kernel_rfl),yp (i:=1) r6 (Bj po hpo.1) AH rfl (by simp[AI,AU,hsa.1,hpo.1]),Ah [.int .u64 276,AP po,.slice none 0 0] Tryz.func35 (by kernel_rfl) rq4 ⟨rfl,(oy rfl rfl),rfl,AIA⟩ (Ao fun W g=>JR (n:=276) (by decide) rfl hpo W),ym r5,BM (vs:=[AP sa,AP ((kd 276 po)),.slice aoX (ks.length+1) capX]) rfl rfl trivial ⟨(oy rfl rfl),(oy rfl rfl),(oy rfl rfl),AIA⟩ (fun _=>bV3 hsa (BE _ _) _ _ _ _) (fun _=>rfl),AIA⟩ trivial
          [] (by kernel_rfl) trivial ⟨.inl rfl,.inl rfl,.inl rfl,.inl rfl,.inl rfl,.inl rfl,.inl rfl,AIA⟩ (by kernel_rfl) fun a54 w54 g54 st54 nd54=>?_
         obtain⟨hn54,hd54,e54_71,e54_72,e54_73,e54_74,e54_75,e54_76,e54_77,e54_37,e54_38,e54_39,e54_40,e54_41,e54_42,e54_43,e54_44,e54_45,e54_46,e54_47,e54_48,e54_49,e54_50,e54_51,e54_52,e54_7,e54_34,e54_35,e54_36,e54_6,e54_33,e54_17,e54_18,e54_19,e54_20,e54_12,e54_13,e54_14,e54_15,e54_8,e54_9,e54_10,e54_5,e54_4,e54_3,e54_2,e54_0,e54_1,e54_25,e54_32,-⟩:=st54
         have Pk:Sv 78 [] [(37,_),(38,_),(39,_),(40,_),(41,_),(42,_),(43,_),(44,_),(45,_),(46,_),(47,_),(48,_),(49,_),(50,_),(51,_),(52,_),(7,_),(34,_),(35,_),(36,_),(6,_),(33,_),(17,_),(18,_),(19,_),(20,_),(12,_),(13,_),(14,_),(15,_),(8,_),(9,_),(10,_),(5,_),(4,_),(3,_),(2,_),(0,_),(1,_),(25,_),(32,_),(77,_)] a54:=⟨hn54,hd54,e54_37,e54_38,e54_39,e54_40,e54_41,e54_42,e54_43,e54_44,e54_45,e54_46,e54_47,e54_48,e54_49,e54_50,e54_51,e54_52,e54_7,e54_34,e54_35,e54_36,e54_6,e54_33,e54_17,e54_18,e54_19,e54_20,e54_12,e54_13,e54_14,e54_15,e54_8,e54_9,e54_10,e54_5,e54_4,e54_3,e54_2,e54_0,e54_1,e54_25,e54_32,e54_77,AIA⟩
         refine Am Pk r7 (Bm hsa (BE _ _) (.slice aoX (ks.length+1) capX) rfl) (AC g54 AN) (by first|rfl|simp[Ac,AI,AU,hsa.1,(BE _ _).1]) fun w55 g55 h55=>?_
         replace AH:=Ak g54 g55 AH (Ne.symm A8)
         replace AL:=Ak g54 g55 AL (Ne.symm BJ)
         replace hr:=((hr.kn g52).kn g54).offR g55 (AQ Bo)
         replace rt:=((rt.kn g52).kn g54).offR g55 (AQ GY)
         replace ox:=((ox.kn g52).kn g54).offR g55 (AQ Ed)
         replace kr:=((kr.kn g52).kn g54).offR g55 (AQ Da)
         replace HG:=AD (AA (AA HG g52) g54) g55 B7
         replace AN:=h55
         refine AZ (v:=.int .i64 0) Pk r6 fun a56 Pl=>?_
         refine AE ?_
         refine k53 _ _ ?_
         refine AH7 ?_
         repeat refine AM ?_
         refine A3 (fn:=Tryz.f39) Pl (FL (p:=4) (q:=5) Tryz.results39 Pl rfl rfl rfl rfl (Bm hsa (BE _ _) (.slice aoX (ks.length+1) capX) rfl) AN) ?_
         exact VRes.mk2 (P:=KU (ks.map VK.p) o T) (by unfold J4;rw[if_pos hv,if_neg (by rw[hf];simp),if_neg (by simpa using hfull)]) (by rw[LJ,hpos];exact hput) ox kr (fun k hk=>(hfp k hk).elim (fun h=>.inl (.inr h)) (fun h=>.inr (rt.2 k h))) HG
   · refine AH3 ?_
     refine AK Dx 4 [(12,An sa po (.slice ao ks.length cap)),(13,AP o),(14,.int .i64 ((i:Int))),(15,.bool true)]
       ⟨yl r6 (Bm hsa hpo (.slice ao ks.length cap) rfl) AH,yl r6 (Bj o ho.1) AL,Ah [An sa po (.slice ao ks.length cap),AP o] Tryz.func84 (by kernel_rfl) rq4 ⟨(oy rfl rfl),(oy rfl rfl),AIA⟩ (Ao fun W g=>AF1 hsa hpo ho (hr.kn g) hv (AEx hf hi)),Cm r6 (fun _=>EP (decide_eq_true (by omega))),AIA⟩ fun a57 w57 g57 AAt=>?_
     refine AE ?_
     refine k15 _ _ ?_
     refine Aq AAt rfl rfl ?_
     refine AH4 fun K58 k58=>?_
     refine AH3 ?_
     refine AK AAt 1 [(16,An sa po (.slice ao ks.length cap))]
       ⟨yl r6 (Bm hsa hpo (.slice ao ks.length cap) rfl) (AC g57 AH),AIA⟩ fun a59 w59 g59 D0=>?_
     have LU:=AA g57 g59
     refine Am D0 r7 (Bm hsa hpo (.slice ao ks.length cap) rfl) (AC LU AN) (by first|rfl|simp[Ac,AI,AU,hsa.1,hpo.1]) fun w60 g60 h60=>?_
     replace hr:=(hr.kn LU).offR g60 (AQ Bo)
     replace HG:=AD (AA HG LU) g60 B7
     replace AN:=h60
     refine AZ (v:=.int .i64 0) D0 r6 fun a61 OO=>?_
     refine AE ?_
     refine k58 _ _ ?_
     refine AH7 ?_
     repeat refine AM ?_
     refine A3 (fn:=Tryz.f39) OO (FL (p:=4) (q:=5) Tryz.results39 OO rfl rfl rfl rfl (Bm hsa hpo (.slice ao ks.length cap) rfl) AN) ?_
     exact VRes.same (P:=ks.map VK.p) (by unfold J4;rw[if_pos hv,if_pos hf]) rfl hr (fun k hk=>hk) HG
end Go.Proofs.YtbfjfnbcmojpiaaGreat
namespace Go.Proofs.YtbfjfnbcmojpiaaGreat
open Go.RowKit
section
variable {P:Program} {ops:Array Oper} {S:World→Prop} {Kt:Act→Prop} {o:Oper} {r:List Oper} {a:Act} {n:Nat} {D:List Deferred} {K:List (Nat×Value)}
theorem ACy (sv:Sv n D K a) (hgd:o.guard=none) {T:TypeId} {x:Operand} {d:Nat} {p v:Value} (ho:o.op=.load T x) (hd:o.dst=some d) (hdn:decide (d<n)=true) (hx:KX K x=true∧KY K x=p) (hr:∀w,S w→(Instr.loadAt T p).run P w=.ok v w)
  (h:∀a',Sv n D ((d,v)::Hw d K) a'→Fq P ops S Kt r a'):Fq P ops S Kt (o::r) a:=
 YO hgd T x ho (sv.ev hx.1 hx.2) hr (by rw[hd];exact h _ (sv.put (of_decide_eq_true hdn) v))
theorem AD4 (w0:World) (sv:Sv n D K a) {v:Value} {d:Nat} (hd:o.dst=some d) (hc:(decide (d<n)&&!(o.looksAt ops).contains d)=true) (hp:PX P ops (PG ((d,Sp.is v)::N6 K)) n w0 o)
  (h:∀a',Sv n D ((d,v)::Hw d K) a'→Fq P ops S Kt r a'):Fq P ops S Kt (o::r) a:=by
 simp only[Bool.and_eq_true,decide_eq_true_eq,Bool.not_eq_true'] at hc
 obtain⟨u,hy,hu⟩:=hp a w0 (World.grownBy.refl _ _) (fun t ht htn=>by
  have hne:(Nat.beq d t)=false:=by
   cases e:Nat.beq d t with
   | false=>rfl
   | true =>
    have:=Nat.eq_of_beq_eq_true e
    subst this
    have h2:=hc.2
    rw[←Bool.not_eq_true,List.contains_iff_mem] at h2
    exact absurd ht h2
  have h1:=(sv.st w0).2.2.at t
  unfold PG
  rw[hne]
  exact h1) sv.1
 have e:u=v:=by
  have:=hu d hd
  unfold PG at this
  have hb:Nat.beq d d=true:=Nat.beq_refl d
  rw[hb] at this
  exact this
 subst e
 exact⟨_,hy.yieldsIf,by rw[hd];exact h _ (sv.put hc.1 _)⟩
end
section
variable {w w':World} {s v:Value} {l:List Nd}
end
end Go.Proofs.YtbfjfnbcmojpiaaGreat
namespace Go.Proofs.YtbfjfnbcmojpiaaGreat
open Go.RowKit Go.Shelf
theorem AER (n:Nat):∀b∈QU n,b<256:=by
 induction n using Nat.strongRecOn with
 | _ n ih =>
  by_cases h:n<128
  · rw[FI h];intro b hb;simp at hb;omega
  · rw[IK h]
    intro b hb
    rcases List.mem_cons.1 hb with rfl|hb
    · omega
    · exact ih (n/128) (by omega) b hb
theorem Np (n:Int):∀b∈enc n,b<256:=AER _
theorem AB2 (s:ByteArray):∀b∈U7 s,b<256:=fun b hb=>by
 rcases List.mem_append.1 hb with h|h
 · exact Np _ b h
 · exact ADn s b h
theorem AB3 (v:V):∀b∈PK v,b<256:=fun b hb=>by
 unfold PK at hb
 rcases List.mem_append.1 hb with h|h
 · exact Np _ b h
 · split at h
   · exact Np _ b h
   · split at h
     · exact AB2 _ b h
     · cases h
def vc (v:V):List Value:=[.int .i64 v.kind,.int .i64 v.int,.string v.text]
theorem DY (v:V):TY Tryz.prog 25 (vc v) (Bi v):=tyV v
theorem Fx (v:Value) (h:v.oneCell'=true):TY Tryz.prog 29 [v] v:=TY.one' Tryz.underlying29 rfl (by kernel_rfl) h
theorem Dj {w w':World} {v':Value} (h:Step w L9 w' v'):w.grownBy w' none∧∀k,BO v' k→w.heap.size≤k:=⟨Step.none h,fun k hk=>(h.2 k hk).elim (fun h=>by simp[L9,Value.ownBlock] at h) id⟩
def NwR (w w':World) (xs:List Nat) (e:Ending):Prop:=∃v,e=.returned v∧w.grownBy w' none∧(Sp.row w.heap.size 5 1 xs.length (bv xs)).on w' v
end Go.Proofs.YtbfjfnbcmojpiaaGreat
namespace Go.Proofs.YtbfjfnbcmojpiaaGreat
open Go.RowKit
theorem OP {w w':World} {fp p:Nat→Prop} (g:w.grownBy w' none) (h:∀k,p k→fp k∨TagV w k):∀k,p k→fp k∨TagV w' k:=fun k hk=>(h k hk).imp id (·.keep g (by simp))
def Sp.vt (r:VV×Int) (fp:Nat→Prop):Sp:=⟨fun w v=>∃ao cap ks,v=.tuple #[An r.1.2.1 r.1.2.2 (.slice ao (List.length ks) cap),.int .i64 r.2]∧ks.map VK.p=r.1.1∧RdK w (.slice ao (List.length ks) cap) ks∧∀k,Kh (.slice ao (List.length ks) cap) ks k→fp k∨TagV w k,fun _ _ _ hg ⟨ao,cap,ks,h1,h2,h3,h4⟩=>⟨ao,cap,ks,h1,h2,h3.kn hg,OP hg h4⟩⟩
theorem VRes.on {w w':World} {r:VV×Int} {fp:Nat→Prop} {e:Ending} (h:VRes w w' r fp e):∃v,e=.returned v∧w.grownBy w' none∧(Sp.vt r fp).on w' v:=by
 obtain⟨ao,cap,ks,h1,h2,h3,h4,h5⟩:=h
 exact⟨_,h1,h5,ao,cap,ks,rfl,h2,h3,h4⟩
section
variable {w0:World} {ks:List VK} {ao:Option Addr} {cap:Nat} {sa po o:List Nat} {P:List VP} {r:VV×Int} {a:Int}
theorem AE0 (hsa:Dg sa) (hpo:Dg po) (ho:Dg o) (hk:RdK w0 (.slice ao ks.length cap) ks) (hm:ks.map VK.p=P) {T:List Nd} (hT:tree (kd 275 po) []=T) (hres:J4 (P,sa,po) o T (kd 276 po)=r) :
  ∀W,w0.grownBy W none→Calls Tryz.prog 36 #[An sa po (.slice ao ks.length cap),AP o] W fun e W'=>∃v,e=.returned v∧W.grownBy W' none∧(Sp.vt r fun _=>False).on W' v:=fun W g=>by
 subst hres hm
 exact(AAm ks ao cap sa po hsa hpo o ho T hT W (hk.kn g)).mono fun e W' h=>h.on
theorem ACz (hsa:Dg sa) (hpo:Dg po) (ho:Dg o) (hk:RdK w0 (.slice ao ks.length cap) ks) (hm:ks.map VK.p=P) {T:List Nd} (hT:tree (kd 275 po) []=T) (hres:J4 (P,sa,po) o T (kd 276 po)=r) :
  ∀W,w0.grownBy W none→Calls Tryz.prog 39 #[An sa po (.slice ao ks.length cap),AP o] W fun e W'=>∃v,e=.returned v∧W.grownBy W' none∧(Sp.vt r (Kh (.slice ao ks.length cap) ks)).on W' v:=fun W g=>by
 subst hres hm
 exact(Ys ks ao cap sa po hsa hpo o ho T hT W (hk.kn g)).mono fun e W' h=>h.on
theorem AF6 {w:World} {q:List Nat×Int} (hsa:Dg sa) (hpo:Dg po) (ho:Dg o) (hk:RdK w (.slice ao ks.length cap) ks) (hm:ks.map VK.p=P) (hres:Cl P o a=q) :
  Calls Tryz.prog 32 #[An sa po (.slice ao ks.length cap),AP o,.int .i64 a] w fun e w'=>e=.returned (.tuple #[AP q.1,.int .i64 q.2])∧w.grownBy w' none:=by
 subst hres hm
 exact AAh ks ao cap sa po hsa hpo o ho a w hk
theorem LV {w:World} {b:Bool} (hsa:Dg sa) (hpo:Dg po) (hk:RdK w (.slice ao ks.length cap) ks) (hm:ks.map VK.p=P) (hb:CR P=b):Calls Tryz.prog 51 #[An sa po (.slice ao ks.length cap)] w fun e w'=>e=.returned (.bool b)∧w.grownBy w' none:=by
 subst hm
 exact JS hsa hpo hk hb
end
end Go.Proofs.YtbfjfnbcmojpiaaGreat
namespace Go.Proofs.YtbfjfnbcmojpiaaGreat
def By (l:List Nat):Prop:=∀x∈l,x<256
def Io (a b:List Nat):List Nat:=List.zipWith (fun x y=>x ^^^ y) a b
theorem LY {a b:List Nat} (h:a.length≤b.length):(Io a b).length=a.length:=by unfold Io;rw[List.length_zipWith];omega
theorem XL {a b:List Nat} (ha:By a) (hb:By b):By (Io a b):=fun x hx=>by
 unfold Io at hx
 rw[List.mem_iff_getElem] at hx
 obtain⟨i,hi,rfl⟩:=hx
 rw[List.getElem_zipWith]
 exact Nat.xor_lt_two_pow (n:=8) (ha _ (List.getElem_mem _)) (hb _ (List.getElem_mem _))
theorem MY:∀{a b:List Nat},a.length≤b.length→Io (Io a b) b=a
 | [],_,_=>rfl
 | _::_,[],h=>by simp at h
 | x::a,y::b,h=>by
  have ih:=MY (a:=a) (b:=b) (by simpa using h)
  unfold Io at ih ⊢
  simp only[List.zipWith_cons_cons,ih,Nat.xor_assoc,Nat.xor_self,Nat.xor_zero]
def Sn (all:Bool) (keys:List (List Nat)):List Nat:=PM (BitVec.ofNat 64 (if all then 282 else 281)) keys.flatten
def msk (k:List Nat):List Nat:=LB (BitVec.ofNat 64 283) k []
def L8 (c k:List Nat):List Nat:=Io c (msk k)
def IB (b c:List Nat):List Nat:=Io b (sq (Fp (BitVec.ofNat 64 284) c) b.length)
def So (c:List Nat) (a:Int) (b:List Nat):List Nat:=LB (BitVec.ofNat 64 285) c (enc a++b)
def Yw (a:Int) (b:List Nat):List Nat:=PM (BitVec.ofNat 64 280) (enc a++b)
structure Sd where
 addr:Int
 own:List (List Nat)
 joint:Int
 wr:List (List Nat)
 body:List Nat
 tag:List Nat
def Sd.zero:Sd:=⟨0,[],0,[],[],AS⟩
def KH (l:List (List Nat)) (i:Nat):List Nat:=(l[i]?).getD []
theorem WG {l:List (List Nat)} {i:Nat} (h:i<l.length):KH l i=l[i]:=by unfold KH;rw[List.getElem?_eq_getElem h];rfl
def WH (l:List (List Nat)) (i:Nat):Bool:=decide (i=0)||Dk (KH l (i-1)) (KH l i)
def asc (l:List (List Nat)):Bool:=(List.range l.length).all (WH l)
theorem XM {l:List (List Nat)}:asc l=true↔∀i,i<l.length→WH l i=true:=by unfold asc;simp[List.all_eq_true,List.mem_range]
theorem AE2 {l:List (List Nat)} {i:Nat} (h:i<l.length) (hc:WH l i=false):asc l=false:=by
 cases h2:asc l with
 | false=>rfl
 | true=>rw[XM.1 h2 i h] at hc;cases hc
theorem AC1 {l:List (List Nat)} (h:∀i,i<l.length→WH l i=true):asc l=true:=XM.2 h
def hd (own:List (List Nat)) (joint addr:Int):Bool:=CQ addr&&(decide (joint=0)||decide (joint=1))&&decide (own.length≤16)&&asc own
def EE (s:Sd):Bool:=hd s.own s.joint s.addr&&decide (s.body.length≤64)&&decide (s.wr.length=if s.joint=1 then s.own.length else 0)
def Ca (P:List VP) (a:Int):List (List Nat)→List (List Nat)×Int
 | []=>([],0)
 | o::l=>if (Cl P o a).2=0 then ((Cl P o a).1::(Ca P a l).1,(Ca P a l).2) else ([],(Cl P o a).2)
def E6 (P:List VP) (own:List (List Nat)) (joint addr:Int) (x:V):Sd×Int:=
 if hd own joint addr&&CR P then
   (if own=[] then (⟨addr,[],joint,[],BV x,Yw addr (BV x)⟩,0)
   else if (Ca P addr own).2=0 then
     (⟨addr,own,joint,if joint=1 then (Ca P addr own).1.map (L8 (Sn (decide (joint=1)) (Ca P addr own).1)) else [],
       IB (BV x) (Sn (decide (joint=1)) (Ca P addr own).1),So (Sn (decide (joint=1)) (Ca P addr own).1) addr (IB (BV x) (Sn (decide (joint=1)) (Ca P addr own).1))⟩,0)
   else (Sd.zero,(Ca P addr own).2))
 else (Sd.zero,1)
end Go.Proofs.YtbfjfnbcmojpiaaGreat
