import Derived.Test.YtbfjfnbcmojpiaaGreatAlV9
import Derived.OrdersHeld
import Derived.Test.YtbfjfnbcmojpiaaGreatAlSG
set_option linter.unusedSimpArgs false
set_option linter.unusedVariables false
set_option maxRecDepth 100000
set_option maxHeartbeats 4000000
namespace Go.Proofs.YtbfjfnbcmojpiaaGreat
open Go.RowKit Go.Shelf
def Sp.lit1T (B:Nat) (o:List Nat) (l:List Nd):Sp:=⟨fun w v=>∃(A:Nat) (x:VK),v=.slice (some ⟨A,0,none⟩) 1 1∧w.heap[A]?=some (.cells (Af x).toArray 58 (0,0))∧x.o=o∧x.l=l∧RdTg w x.s x.l∧(∀k,Mx x.s k→B≤k)∧B≤A,fun _ _ _ hg ⟨A,x,h1,h2,h3,h4,h5,h7,h8⟩=>⟨A,x,h1,AF hg h2 (by simp),h3,h4,h5.kn hg,h7,h8⟩⟩
theorem AEs {B:Nat} {o:List Nat} {l:List Nd} {w:World} {v:Value} (hB:B≤w.heap.size) (h:(Sp.ck B o l).on w v):∃cs:List Value,(Instr.buildSlice 34 1 #[(0,v)]).run Tryz.prog w=.ok (.slice (some ⟨w.heap.size,0,none⟩) 1 1) (w.alloc (.cells cs.toArray 58)) ∧
  ∀w',w.grownBy w' none→w'.heap[w.heap.size]?=some (.cells cs.toArray 58 (0,0))→(Sp.lit1T B o l).on w' (.slice (some ⟨w.heap.size,0,none⟩) 1 1):=by
 obtain⟨x,rfl,h2,h3,h4,h6⟩:=h
 exact⟨Af x,AJ6 x w,fun w' g hb=>⟨_,x,rfl,hb,h2,h3,h4.kn g,h6,hB⟩⟩
theorem AKD {P:List VP} {ms:List VK} {k:Nat} {o:List Nat} {T:List Nd} (h:ms.map VK.p=Hf P k (o,T)) (hk:k≤P.length) (hm:k<ms.length) {z:VK} (hz:ms[k]=z):z.o=o:=by
 have h1:(ms.map VK.p)[k]?=some z.p:=by rw[List.getElem?_map,List.getElem?_eq_getElem hm,hz];rfl
 rw[h,Gl hk,if_neg (by omega),if_pos rfl] at h1
 exact(congrArg Prod.fst (Option.some.inj h1)).symm
theorem AEt {P:List VP} {ms:List VK} {k:Nat} {x:VP} (h:ms.map VK.p=Hf P k x) (hk:k≤P.length) (h0:0<k) (hm:k-1<ms.length) {z:VK} (hz:ms[k-1]=z):z.o=od P (k-1):=by
 have h1:(ms.map VK.p)[k-1]?=some z.p:=by rw[List.getElem?_map,List.getElem?_eq_getElem hm,hz];rfl
 rw[h,Gl hk,if_pos (by omega)] at h1
 rw[(It h1).1]
 rfl
theorem AEu {P:List VP} {ms:List VK} {k:Nat} {x:VP} (h:ms.map VK.p=Hf P k x) (hk:k≤P.length) (h0:0<k) (hm:k<ms.length) (hm1:k-1<ms.length) {a b:VK} (ha:ms[k]=a) (hb:ms[k-1]=b):((ms.set (k-1) a).set k b).map VK.p=Hf P (k-1) x:=by
 rw[List.map_set,List.map_set,h]
 refine AAS h0 hk x _ _ ?_ ?_
 · rw[←h,List.getElem?_map,List.getElem?_eq_getElem hm,ha];rfl
 · rw[←h,List.getElem?_map,List.getElem?_eq_getElem hm1,hb];rfl
theorem Lr {ms:List VK} {k:Nat} (hm:k<ms.length) (hm1:k-1<ms.length) {a b:VK} (ha:ms[k]=a) (hb:ms[k-1]=b) {x:VK} (hx:x∈(ms.set (k-1) a).set k b):x∈ms:=by
 rcases List.mem_or_eq_of_mem_set hx with h|h
 · rcases List.mem_or_eq_of_mem_set h with h|h
   · exact h
   · rw[h,←ha];exact List.getElem_mem hm
 · rw[h,←hb];exact List.getElem_mem hm1
theorem KsR.sub {w:World} {ms ns:List VK} (h:KsR w ms) (hs:∀x∈ns,x∈ms):KsR w ns:=fun k hk=>h k (hs k hk)
theorem LK {ms ns:List VK} (hs:∀x∈ns,x∈ms) {b:Nat} (h:DR ns b):DR ms b:=by
 obtain⟨k,hk,hb⟩:=h
 exact⟨k,hs k hk,hb⟩
theorem KsR.snoc {w:World} {ms:List VK} (h:KsR w ms) {x:VK} (hx:RdT w x.s x.l):KsR w (ms++[x]):=fun k hk=>by
 rcases List.mem_append.1 hk with hk|hk
 · exact h k hk
 · obtain rfl:=List.mem_singleton.1 hk;exact hx
theorem JZ {ms:List VK} {x:VK} {b:Nat} (h:DR (ms++[x]) b):DR ms b∨Mx x.s b:=by
 obtain⟨k,hk,hb⟩:=h
 rcases List.mem_append.1 hk with hk|hk
 · exact .inl ⟨k,hk,hb⟩
 · obtain rfl:=List.mem_singleton.1 hk;exact .inr hb
theorem AEv {x y:List Nat} {b:Bool} (hb:Eg x y=b) (hx:Dg x) (hy:Dg y) (w:World):Calls Tryz.prog 86 #[AP x,AP y] w fun e w'=>e=.returned (.bool b)∧w.grownBy w' none:=Mj hb hx hy w
theorem AGy (ks:List VK) (y:VK):ks.flatMap Af++Af y=(ks++[y]).flatMap Af:=by rw[List.flatMap_append];simp
theorem AGz {w:World} {A:Nat} {x:VK} (h:w.heap[A]?=some (.cells (Af x).toArray 58 (0,0))):Sl w 33 (.slice (some ⟨A,0,none⟩) 1 1) 1 (Af x):=AEh h
theorem ACq (ks:List VK) (ao:Option Addr) (cap:Nat) (sa po:List Nat) (hsa:Dg sa) (hpo:Dg po) (o:List Nat) (ho:Dg o) (T:List Nd) (hT:tree (kd 275 po) []=T) (w:World) (hr:RdK w (.slice ao ks.length cap) ks) :
   Calls Tryz.prog 39 #[Am sa po (.slice ao ks.length cap),AP o] w fun e w'=>VRes w w' (L8 (ks.map VK.p,sa,po) o T (kd 276 po)) (Mh (.slice ao ks.length cap) ks) e:=by
 have hlt0:=hr.lt
 have hmap:(ks.map VK.p).length=ks.length:=List.length_map _
 refine BZ Tryz.func39 rfl Tryz.ntmps39 rfl fun a0 sv0=>?_
 have HG:=World.grownBy.refl w none
 replace sv0:Sv 78 [] [(0,Am sa po (.slice ao ks.length cap)),(1,AP o)] a0:=sv0
 refine ALz fun K1 k1=>?_
 refine ALy ?_
 refine Bj sv0 r6 (Bb hsa hpo (.slice ao ks.length cap) rfl) fun a2 w2 Ci Dh g2 z2 AK sv2=>?_
 have AAT:=Au (hr.lt) Dh
 replace hr:=hr.kn g2
 refine Bj sv2 r6 (B6 o ho.1) fun a3 w3 CX Fd g3 z3 AN sv3=>?_
 have AAU:=Au (hr.lt) Fd
 replace AK:=AC g3 AK
 replace hr:=hr.kn g3
 replace HG:=AA (AA HG g2) g3
 refine Ar (T:=36) (Z:=([bv AR,bv AR,[.slice none 0 0]].flatten)) sv3 rfl rfl rfl (fun a w=>by kernel_rfl) fun a4 w4 GV CM g4 z4 AQ sv4=>?_
 have BO:=An AK CM
 have Bd:=An AN CM
 have CP:=Bt HG CM
 have CB:=Au (hr.lt) CM
 replace AK:=AC g4 AK
 replace AN:=AC g4 AN
 replace hr:=hr.kn g4
 replace HG:=AA HG g4
 refine AY (v:=.int .i64 0) sv4 r6 fun a5 sv5=>?_
 refine AE ?_
 refine k1 _ _ ?_
 refine ALz fun K6 k6=>?_
 refine ALz fun K7 k7=>?_
 cases hv:CK (ks.map VK.p)
 · refine ALy ?_
   refine AJ sv5 3 [(8,Am sa po (.slice ao ks.length cap)),(9,.bool false),(10,.bool true)]
     ⟨yl r6 (Bb hsa hpo (.slice ao ks.length cap) rfl) AK,Ae [Am sa po (.slice ao ks.length cap)] Tryz.func40 (by kernel_rfl) rq4 ⟨(oy rfl rfl),AL5⟩ (Ap fun W g=>Ud hsa hpo (hr.kn g) hv),DG r6 (fun _=>Bf),AL5⟩ fun a8 w8 g8 sv8=>?_
   refine AE ?_
   refine k7 _ _ ?_
   refine Aw sv8 rfl rfl ?_
   refine ALz fun K9 k9=>?_
   refine ALy ?_
   replace AK:=AC g8 AK
   replace AN:=AC g8 AN
   replace AQ:=AC g8 AQ
   refine AJ sv8 1 [(11,Am AR AR (.slice none 0 0))]
     ⟨BU (vs:=[]) rfl rfl trivial trivial (fun _=>bV0 _) (fun _=>rfl),AL5⟩ fun a10 w10 g10 Cb=>?_
   refine Ao Cb r7 (Bb AO AO (.slice none 0 0) rfl) (AC g10 AQ) (by first|rfl|simp[Af,AI,AV,AO.1,AO.1]) fun w11 g11 h11=>?_
   replace AK:=Aj g10 g11 AK (Ne.symm BO)
   replace AN:=Aj g10 g11 AN (Ne.symm Bd)
   replace hr:=((hr.kn g8).kn g10).offR g11 (AU CB)
   replace HG:=AD (AA (AA HG g8) g10) g11 CP
   replace AQ:=h11
   refine AY (v:=.int .i64 1) Cb r6 fun a12 DL=>?_
   refine AE ?_
   refine k9 _ _ ?_
   refine AL2 ?_
   repeat refine AL ?_
   refine BI (fn:=Tryz.f39) DL (Gd (p:=4) (q:=5) Tryz.results39 DL rfl rfl rfl rfl (Bb AO AO (.slice none 0 0) rfl) AQ) ?_
   exact VRes.zero (by unfold L8;rw[if_neg (by rw[hv];simp)]) HG
 · obtain⟨i,hi⟩:∃i,pos (ks.map VK.p) o=i:=⟨_,rfl⟩
   have h64:ks.length≤64:=by have:=(Eh.1 hv).1;simpa using this
   have hs:=Srt.of hv
   refine ALy ?_
   refine AJ sv5 3 [(8,Am sa po (.slice ao ks.length cap)),(9,.bool true),(10,.bool false)]
     ⟨yl r6 (Bb hsa hpo (.slice ao ks.length cap) rfl) AK,Ae [Am sa po (.slice ao ks.length cap)] Tryz.func40 (by kernel_rfl) rq4 ⟨(oy rfl rfl),AL5⟩ (Ap fun W g=>Ud hsa hpo (hr.kn g) hv),DG r6 (fun _=>Bf),AL5⟩ fun a13 w13 g13 Dy=>?_
   refine AE ?_
   refine k7 _ _ ?_
   refine A1 Dy rfl rfl ?_
   refine AL3 ?_
   refine k6 _ _ ?_
   refine ALz fun K14 k14=>?_
   refine ALz fun K15 k15=>?_
   replace AK:=AC g13 AK
   replace AN:=AC g13 AN
   replace AQ:=AC g13 AQ
   replace hr:=hr.kn g13
   replace HG:=AA HG g13
   cases hf:Hv (ks.map VK.p) o
   · refine ALy ?_
     refine AJ Dy 4 [(12,Am sa po (.slice ao ks.length cap)),(13,AP o),(14,.int .i64 ((-1))),(15,.bool false)]
       ⟨yl r6 (Bb hsa hpo (.slice ao ks.length cap) rfl) AK,yl r6 (B6 o ho.1) AN,Ae [Am sa po (.slice ao ks.length cap),AP o] Tryz.func84 (by kernel_rfl) rq4 ⟨(oy rfl rfl),(oy rfl rfl),AL5⟩ (Ap fun W g=>AJ9 hsa hpo ho (hr.kn g) hv (AKA hf)),Cz r6 (fun _=>FS (by decide)),AL5⟩ fun a16 w16 g16 DJ=>?_
     refine AE ?_
     refine k15 _ _ ?_
     refine A1 DJ rfl rfl ?_
     refine AL3 ?_
     refine k14 _ _ ?_
     refine ALz fun K17 k17=>?_
     refine ALz fun K18 k18=>?_
     replace AK:=AC g16 AK
     replace AN:=AC g16 AN
     replace AQ:=AC g16 AQ
     replace hr:=hr.kn g16
     replace HG:=AA HG g16
     by_cases hfull:64≤ks.length
     · refine ALy ?_
       refine AJ DJ 4 [(17,pk Ci 64),(18,.slice ao ks.length cap),(19,.int .i64 ((ks.length:Nat))),(20,.bool true)]
         ⟨yf r6 (fun _=>by kernel_rfl),yp (i:=2) r6 (EP (.slice ao ks.length cap) rfl) AK rfl (by simp[AI,AV,hsa.1,hpo.1]),Bv (Tryz.underlying34) rfl rfl trivial (oy rfl rfl) (fun _=>rfl),Cz r6 (fun _=>FS (decide_eq_true (by omega))),AL5⟩ fun a19 w19 g19 EQ=>?_
       refine AE ?_
       refine k18 _ _ ?_
       refine Aw EQ rfl rfl ?_
       refine ALz fun K20 k20=>?_
       refine ALy ?_
       replace AK:=AC g19 AK
       replace AN:=AC g19 AN
       replace AQ:=AC g19 AQ
       refine AJ EQ 1 [(21,Am AR AR (.slice none 0 0))]
         ⟨BU (vs:=[]) rfl rfl trivial trivial (fun _=>bV0 _) (fun _=>rfl),AL5⟩ fun a21 w21 g21 Di=>?_
       refine Ao Di r7 (Bb AO AO (.slice none 0 0) rfl) (AC g21 AQ) (by first|rfl|simp[Af,AI,AV,AO.1,AO.1]) fun w22 g22 h22=>?_
       replace AK:=Aj g21 g22 AK (Ne.symm BO)
       replace AN:=Aj g21 g22 AN (Ne.symm Bd)
       replace hr:=((hr.kn g19).kn g21).offR g22 (AU CB)
       replace HG:=AD (AA (AA HG g19) g21) g22 CP
       replace AQ:=h22
       refine AY (v:=.int .i64 8) Di r6 fun a23 Cw=>?_
       refine AE ?_
       refine k20 _ _ ?_
       refine AL2 ?_
       repeat refine AL ?_
       refine BI (fn:=Tryz.f39) Cw (Gd (p:=4) (q:=5) Tryz.results39 Cw rfl rfl rfl rfl (Bb AO AO (.slice none 0 0) rfl) AQ) ?_
       exact VRes.zero (by unfold L8;rw[if_pos hv,if_neg (by rw[hf];simp),if_pos (by simpa using hfull)]) HG
     · refine ALy ?_
       refine AJ DJ 4 [(17,pk Ci 64),(18,.slice ao ks.length cap),(19,.int .i64 ((ks.length:Nat))),(20,.bool false)]
         ⟨yf r6 (fun _=>by kernel_rfl),yp (i:=2) r6 (EP (.slice ao ks.length cap) rfl) AK rfl (by simp[AI,AV,hsa.1,hpo.1]),Bv (Tryz.underlying34) rfl rfl trivial (oy rfl rfl) (fun _=>rfl),Cz r6 (fun _=>FS (decide_eq_false (by omega))),AL5⟩ fun a24 w24 g24 ER=>?_
       refine AE ?_
       refine k18 _ _ ?_
       refine A1 ER rfl rfl ?_
       refine AL3 ?_
       refine k17 _ _ ?_
       refine ALz fun K25 k25=>?_
       replace AK:=AC g24 AK
       replace AN:=AC g24 AN
       replace AQ:=AC g24 AQ
       replace hr:=hr.kn g24
       replace HG:=AA HG g24
       refine DW (ER.st w24) (by kernel_rfl) 11 [(22,Sp.lit0 w24.heap.size 58),(23,Sp.is (pk Ci 64)),(24,Sp.is (.slice ao ks.length cap)),(25,Sp.row w24.heap.size 58 33 ks.length (ks.flatMap Af)),(26,Sp.is (AP o)),(27,Sp.is (pk Ci 32)),(28,Sp.is (AP po)),(29,Sp.is (AP ((kd 275 po)))),(30,Sp.ct w24.heap.size T),(31,Sp.ck w24.heap.size o T),(32,Sp.lit1T w24.heap.size o T)] rfl (by kernel_rfl) (by kernel_rfl) (by kernel_rfl) [] (by kernel_rfl)
         ⟨VF (t:=0) rfl trivial (Nat.le_refl _) (fun a w=>by kernel_rfl) (fun _ _ h=>h),yf r6 (fun _=>by kernel_rfl),yp (i:=2) r6 (EP (.slice ao ks.length cap) rfl) AK rfl (by simp[AI,AV,hsa.1,hpo.1]),VG (news:=ks.flatMap Af) Xs rfl rfl trivial rfl (fun _ _ h=>h) (oy rfl rfl) (fun _ g=>(hr.kn g).1.1) (Qu ks) (by omega) (Nat.le_refl _) (fun _ _ h=>h),yl r6 (B6 o ho.1) AN,yf r6 (fun _=>by kernel_rfl),yp (i:=1) r6 (B6 po hpo.1) AK rfl (by simp[AI,AV,hsa.1,hpo.1]),Ae [.int .u64 275,AP po,.slice none 0 0] Tryz.func35 (by kernel_rfl) rq4 ⟨rfl,(oy rfl rfl),rfl,AL5⟩ (Ap fun W g=>JW (n:=275) (by decide) rfl hpo W),Ae [AP ((kd 275 po))] Tryz.func85 (by kernel_rfl) rq4 ⟨(oy rfl rfl),AL5⟩ (AEV (BR _ _) hT),Ll rfl rfl trivial rfl (fun W _ av h=>match av,h with|[u,t],⟨h1,h2,_⟩=>AET ho h1 h2),QC rfl rfl trivial (Nat.le_refl _) rfl (fun W hw v h=>AEs hw.size h.1),AL5⟩ trivial
         [] (by kernel_rfl) trivial ⟨.inl rfl,.inl rfl,.inl rfl,.inl rfl,.inl rfl,.inl rfl,.inl rfl,.inl rfl,.inl rfl,.inl rfl,.inl rfl,AL5⟩ (by kernel_rfl) fun a26 w26 g26 st26 nd26=>?_
       obtain⟨hn26,hd26,e26_22,e26_23,e26_24,e26_25,e26_26,e26_27,e26_28,e26_29,e26_30,e26_31,e26_32,e26_17,e26_18,e26_19,e26_20,e26_12,e26_13,e26_14,e26_15,e26_8,e26_9,e26_10,e26_5,e26_4,e26_3,e26_2,e26_0,e26_1,-⟩:=st26
       obtain⟨aoW,capW,e26_25q,ow,frW⟩:=e26_25
       obtain⟨V,y,e26_32q,HV,hyo,hyl,rt,frB,geV⟩:=e26_32
       have Gi:=CJ frW AK
       have RL:=CJ frW AN
       have Gj:=CJ frW AQ
       have ap_hr_ow:=AES (hr.lt) frW
       have lo_ow:=KP HG frW
       have J2:=CJ frB AK
       have AAV:=CJ frB AN
       have IW:=CJ frB AQ
       have OH:V≠Ci:=Nat.ne_of_gt (Nat.lt_of_lt_of_le (Array.getElem?_eq_some_iff.1 AK).1 geV)
       have ACm:V≠CX:=Nat.ne_of_gt (Nat.lt_of_lt_of_le (Array.getElem?_eq_some_iff.1 AN).1 geV)
       have Ug:V≠GV:=Nat.ne_of_gt (Nat.lt_of_lt_of_le (Array.getElem?_eq_some_iff.1 AQ).1 geV)
       have lo_V:w.heap.size≤V:=Nat.le_trans HG.size geV
       replace AK:=AC g26 AK
       replace AN:=AC g26 AN
       replace AQ:=AC g26 AQ
       replace hr:=hr.kn g26
       replace HG:=AA HG g26
       have ap_rt_ow:=rt.2.own ow (by decide)
       have Cr:Sv 78 [] [(17,_),(18,_),(19,_),(20,_),(12,_),(13,_),(14,_),(15,_),(8,_),(9,_),(10,_),(5,_),(4,_),(3,_),(2,_),(0,_),(1,_),(25,_),(32,_)] a26:=⟨hn26,hd26,e26_17,e26_18,e26_19,e26_20,e26_12,e26_13,e26_14,e26_15,e26_8,e26_9,e26_10,e26_5,e26_4,e26_3,e26_2,e26_0,e26_1,e26_25q,e26_32q,AL5⟩
       refine Mg Xs Cr rfl rfl rfl rfl rfl rfl rfl rfl ow (AGz HV) (List.all_eq_true.2 (IP y)) (by omega) fun a27 aoX capX w27 ox Cj JG=>?_
       have IX:∀k,Bk (.slice aoX (ks.length+1) capX) k→k≠Ci:=fun k hk=>(Cj.2 k hk).elim (Gi k) (fun h=>Nat.ne_of_gt (Nat.lt_of_lt_of_le (Array.getElem?_eq_some_iff.1 AK).1 h))
       have IY:∀k,Bk (.slice aoX (ks.length+1) capX) k→k≠CX:=fun k hk=>(Cj.2 k hk).elim (RL k) (fun h=>Nat.ne_of_gt (Nat.lt_of_lt_of_le (Array.getElem?_eq_some_iff.1 AN).1 h))
       have Fh:∀k,Bk (.slice aoX (ks.length+1) capX) k→k≠GV:=fun k hk=>(Cj.2 k hk).elim (Gj k) (fun h=>Nat.ne_of_gt (Nat.lt_of_lt_of_le (Array.getElem?_eq_some_iff.1 AQ).1 h))
       have ap_hr_ox:∀k,Mh (.slice ao ks.length cap) ks k→¬Bk (.slice aoX (ks.length+1) capX) k:=fun k hk hx=>(Cj.2 k hx).elim (ap_hr_ow k hk) (fun h=>absurd (hr.lt k hk) (Nat.not_lt.2 h))
       have ap_rt_ox:∀k,Mx (VK.s y) k→¬Bk (.slice aoX (ks.length+1) capX) k:=fun k hk hx=>(Cj.2 k hx).elim (ap_rt_ow k hk) (fun h=>absurd (rt.lt k hk) (Nat.not_lt.2 h))
       have lo_ox:=Zz Cj.2 lo_ow HG
       replace AK:=AF Cj.1 AK (fun e=>Gi _ e.symm rfl)
       replace AN:=AF Cj.1 AN (fun e=>RL _ e.symm rfl)
       replace AQ:=AF Cj.1 AQ (fun e=>Gj _ e.symm rfl)
       replace hr:=hr.offR Cj.1 (fun k hk e=>ap_hr_ow k hk (e))
       replace rt:=rt.offR Cj.1 (fun k hk e=>ap_rt_ow k hk (e))
       replace HG:=Bi HG Cj.1 fun k e=>lo_ow k (e)
       rw[AGy] at ox
       refine AY (v:=.slice aoX (ks.length+1) capX) JG r6 fun a28 Js=>?_
       refine AE ?_
       have kr:=KsR.snoc hr.2 rt.1
       have Fg:∀k,DR (ks++[y]) k→k≠Ci:=fun k hk=>(JZ hk).elim (fun h=>AAT k (.inr h)) (J2 k)
       have Mp:∀k,DR (ks++[y]) k→k≠CX:=fun k hk=>(JZ hk).elim (fun h=>AAU k (.inr h)) (AAV k)
       have EW:∀k,DR (ks++[y]) k→k≠GV:=fun k hk=>(JZ hk).elim (fun h=>CB k (.inr h)) (IW k)
       have ap_kr_ox:∀k,DR (ks++[y]) k→¬Bk (.slice aoX (ks.length+1) capX) k:=fun k hk=>(JZ hk).elim (fun h=>ap_hr_ox k (.inr h)) (ap_rt_ox k)
       refine k25 _ _ ?_
       refine ALz fun K29 k29=>?_
       refine ALz fun K30 k30=>?_
       refine ALy ?_
       refine AJ Js 3 [(34,.slice aoX (ks.length+1) capX),(35,.int .i64 (((ks.length+1):Nat))),(36,.int .i64 ((ks.length:Int)))]
         ⟨ym r5,Bv (Tryz.underlying34) rfl rfl trivial (oy rfl rfl) (fun _=>rfl),Cz r6 (fun _=>F6 (by rw[BG (by omega) (by omega)];omega)),AL5⟩ fun a31 w31 g31 He=>?_
       refine AY (v:=.int .i64 ((ks.length:Int))) He r6 fun a32 Cl=>?_
       refine AE ?_
       refine k30 _ _ ?_
       refine BM fun Q33 x33 y33 r33 o33=>?_
       replace AK:=AC g31 AK
       replace AN:=AC g31 AN
       replace AQ:=AC g31 AQ
       replace hr:=hr.kn g31
       replace rt:=rt.kn g31
       replace ox:=ox.kn g31
       replace kr:=kr.kn g31
       replace HG:=AA HG g31
       have hput0:(ks++[y]).map VK.p=Hf (ks.map VK.p) ks.length (o,T):=by rw[show ks.length=(ks.map VK.p).length from hmap.symm,ACr,List.map_append];simp[VK.p,hyo,hyl]
       refine wp_loop (fun a w'=>∃(q:Nat) (ms:List VK),(q≤ks.length)∧(ms.map VK.p=Hf (ks.map VK.p) q (o,T))∧(ms.length=ks.length+1)∧(∀j,q≤j→j<ks.length→Eg o (od (ks.map VK.p) j)=true)∧(∀b,DR ms b→DR ks b∨Mx y.s b)∧Sv 78 [] [(7,.int .i64 ((q:Int))),(34,.slice aoX (ks.length+1) capX),(35,.int .i64 (((ks.length+1):Nat))),(36,.int .i64 ((ks.length:Int))),(6,.slice aoX (ks.length+1) capX),(33,.slice aoX (ks.length+1) capX),(17,pk Ci 64),(18,.slice ao ks.length cap),(19,.int .i64 ((ks.length:Nat))),(20,.bool false),(12,Am sa po (.slice ao ks.length cap)),(13,AP o),(14,.int .i64 ((-1))),(15,.bool false),(8,Am sa po (.slice ao ks.length cap)),(9,.bool true),(10,.bool false),(5,.int .i64 0),(4,pt GV),(3,pt CX),(2,pt Ci),(0,Am sa po (.slice ao ks.length cap)),(1,AP o),(25,.slice aoW ks.length capW),(32,.slice ((some ⟨V,0,none⟩)) 1 1)] a∧w.grownBy w' none∧w'.heap[Ci]?=some (.cells ([bv sa,bv po,[.slice ao ks.length cap]].flatten).toArray 36 (0,0))∧w'.heap[CX]?=some (.cells (bv o).toArray 23 (0,0))∧w'.heap[GV]?=some (.cells (([bv AR,bv AR,[.slice none 0 0]].flatten)).toArray 36 (0,0))∧RdK w' (.slice ao ks.length cap) ks∧RdTg w' (VK.s y) y.l∧Own w' 58 33 (.slice aoX (ks.length+1) capX) ((ks.length+1)) (ms.flatMap Af)∧KsR w' ms∧(∀k,Bk (.slice aoX (ks.length+1) capX) k→k≠Ci)∧(∀k,Bk (.slice aoX (ks.length+1) capX) k→k≠CX)∧(∀k,Bk (.slice aoX (ks.length+1) capX) k→k≠GV)∧(∀k,Mh (.slice ao ks.length cap) ks k→¬Bk (.slice aoX (ks.length+1) capX) k)∧(∀k,Mx (VK.s y) k→¬Bk (.slice aoX (ks.length+1) capX) k)∧(∀k,DR ms k→¬Bk (.slice aoX (ks.length+1) capX) k)∧(∀k,Bk (.slice aoX (ks.length+1) capX) k→w.heap.size≤k)∧(∀k,DR ms k→k≠Ci)∧(∀k,DR ms k→k≠CX)∧(∀k,DR ms k→k≠GV)) (fun a _=>(intOf (a.tmps.getD 7 undef)).toNat) ⟨ks.length,ks++[y],Nat.le_refl _,hput0,by simp,fun j h1 h2=>by omega,fun b h=>JZ h,⟨Cl.1,Cl.2.1,Cl.2.2.1,Cl.2.2.2.1,Cl.2.2.2.2.1,Cl.2.2.2.2.2.1,Cl.2.2.2.2.2.2.1,Cl.2.2.2.2.2.2.2.1,(AG Cl).1,(AG Cl).2.1,(AG Cl).2.2.1,(AG Cl).2.2.2.1,(AG Cl).2.2.2.2.1,(AG Cl).2.2.2.2.2.1,(AG Cl).2.2.2.2.2.2.1,(AG Cl).2.2.2.2.2.2.2.1,(AG (AG Cl)).1,(AG (AG Cl)).2.1,(AG (AG Cl)).2.2.1,(AG (AG Cl)).2.2.2.1,(AG (AG Cl)).2.2.2.2.1,(AG (AG Cl)).2.2.2.2.2.1,(AG (AG Cl)).2.2.2.2.2.2.1,(AG (AG Cl)).2.2.2.2.2.2.2.1,(AG (AG (AG Cl))).1,(AG (AG (AG Cl))).2.1,(AG (AG (AG Cl))).2.2.1,AL5⟩,HG,AK,AN,AQ,hr,rt,ox,kr,IX,IY,Fh,ap_hr_ox,ap_rt_ox,ap_kr_ox,lo_ox,Fg,Mp,EW⟩ fun a34 w34 hI34=>?_
       clear AK
       clear AN
       clear AQ
       clear hr
       clear rt
       clear ox
       clear kr
       clear HG
       obtain⟨q,ms,hkn,hput,hml,haft,hfp,MB,HG,AK,AN,AQ,hr,rt,ox,kr,IX,IY,Fh,ap_hr_ox,ap_rt_ox,ap_kr_ox,lo_ox,Fg,Mp,EW⟩:=hI34
       refine ALz fun K35 k35=>?_
       refine ALz fun K36 k36=>?_
       have hkm:q<ms.length:=by omega
       have hkm1:q-1<ms.length:=by omega
       obtain⟨a1,LL⟩:∃x,ms[q]'hkm=x:=⟨_,rfl⟩
       obtain⟨b1,KQ⟩:∃x,ms[(q-1)]'hkm1=x:=⟨_,rfl⟩
       have hao:=AKD hput (by omega) hkm LL
       rcases(show q=0∨(0<q∧Eg a1.o b1.o=true)∨(0<q∧Eg a1.o b1.o=false) by rcases Nat.eq_zero_or_pos q with h|h<;>cases Eg a1.o b1.o<;>simp[h]) with hk0|⟨hk0,hc⟩|⟨hk0,hc⟩
       · have hpos:=YU hs hf (by omega) (fun j h1 h2=>haft j h1 (by omega)) (.inl hk0)
         refine DM MB [(37,.int .i64 ((q:Int))),(38,.bool false),(39,.bool false),(40,undef),(41,undef),(42,undef),(43,undef),(44,undef),(45,undef),(46,undef),(47,undef),(48,undef),(49,undef),(50,undef),(51,undef),(52,.bool false)]
          ⟨ym r5,Cz r6 (fun _=>DI (decide_eq_false (by omega))),ym r5,AZ r6,AZ r6,AZ r6,AZ r6,AZ r6,AZ r6,AZ r6,AZ r6,AZ r6,AZ r6,AZ r6,AZ r6,CL r7,AL5⟩ fun a37 w37 g37 IR=>?_
         refine k36 _ _ ?_
         refine A1 IR rfl rfl ?_
         refine wp_exit ?_
         repeat refine CY ?_
         refine x33 _ _ ?_
         refine k29 _ _ ?_
         refine ALz fun K38 k38=>?_
         replace AK:=AC g37 AK
         replace AN:=AC g37 AN
         replace AQ:=AC g37 AQ
         refine DW (IR.st w37) (by kernel_rfl) 7 [(71,Sp.is (pt Ci)),(72,Sp.is (AP sa)),(73,Sp.is (pk Ci 32)),(74,Sp.is (AP po)),(75,Sp.is (AP ((kd 276 po)))),(76,Sp.is (.slice aoX (ks.length+1) capX)),(77,Sp.is (Am sa ((kd 276 po)) (.slice aoX (ks.length+1) capX)))] rfl (by kernel_rfl) (by kernel_rfl) (by kernel_rfl) [] (by kernel_rfl)
          ⟨yf r6 (fun _=>by kernel_rfl),yp (i:=0) r6 (B6 sa hsa.1) AK rfl rfl,yf r6 (fun _=>by kernel_rfl),yp (i:=1) r6 (B6 po hpo.1) AK rfl (by simp[AI,AV,hsa.1,hpo.1]),Ae [.int .u64 276,AP po,.slice none 0 0] Tryz.func35 (by kernel_rfl) rq4 ⟨rfl,(oy rfl rfl),rfl,AL5⟩ (Ap fun W g=>JW (n:=276) (by decide) rfl hpo W),ym r5,BU (vs:=[AP sa,AP ((kd 276 po)),.slice aoX (ks.length+1) capX]) rfl rfl trivial ⟨(oy rfl rfl),(oy rfl rfl),(oy rfl rfl),AL5⟩ (fun _=>bV3 hsa (BR _ _) _ _ _ _) (fun _=>rfl),AL5⟩ trivial
          [] (by kernel_rfl) trivial ⟨.inl rfl,.inl rfl,.inl rfl,.inl rfl,.inl rfl,.inl rfl,.inl rfl,AL5⟩ (by kernel_rfl) fun a39 w39 g39 st39 nd39=>?_
         obtain⟨hn39,hd39,e39_71,e39_72,e39_73,e39_74,e39_75,e39_76,e39_77,e39_37,e39_38,e39_39,e39_40,e39_41,e39_42,e39_43,e39_44,e39_45,e39_46,e39_47,e39_48,e39_49,e39_50,e39_51,e39_52,e39_7,e39_34,e39_35,e39_36,e39_6,e39_33,e39_17,e39_18,e39_19,e39_20,e39_12,e39_13,e39_14,e39_15,e39_8,e39_9,e39_10,e39_5,e39_4,e39_3,e39_2,e39_0,e39_1,e39_25,e39_32,-⟩:=st39
         have JV:Sv 78 [] [(37,_),(38,_),(39,_),(40,_),(41,_),(42,_),(43,_),(44,_),(45,_),(46,_),(47,_),(48,_),(49,_),(50,_),(51,_),(52,_),(7,_),(34,_),(35,_),(36,_),(6,_),(33,_),(17,_),(18,_),(19,_),(20,_),(12,_),(13,_),(14,_),(15,_),(8,_),(9,_),(10,_),(5,_),(4,_),(3,_),(2,_),(0,_),(1,_),(25,_),(32,_),(77,_)] a39:=⟨hn39,hd39,e39_37,e39_38,e39_39,e39_40,e39_41,e39_42,e39_43,e39_44,e39_45,e39_46,e39_47,e39_48,e39_49,e39_50,e39_51,e39_52,e39_7,e39_34,e39_35,e39_36,e39_6,e39_33,e39_17,e39_18,e39_19,e39_20,e39_12,e39_13,e39_14,e39_15,e39_8,e39_9,e39_10,e39_5,e39_4,e39_3,e39_2,e39_0,e39_1,e39_25,e39_32,e39_77,AL5⟩
         refine Ao JV r7 (Bb hsa (BR _ _) (.slice aoX (ks.length+1) capX) rfl) (AC g39 AQ) (by first|rfl|simp[Af,AI,AV,hsa.1,(BR _ _).1]) fun w40 g40 h40=>?_
         replace AK:=Aj g39 g40 AK (Ne.symm BO)
         replace AN:=Aj g39 g40 AN (Ne.symm Bd)
         replace hr:=((hr.kn g37).kn g39).offR g40 (AU CB)
         replace rt:=((rt.kn g37).kn g39).offR g40 (AU IW)
         replace ox:=((ox.kn g37).kn g39).offR g40 (AU Fh)
         replace kr:=((kr.kn g37).kn g39).offR g40 (AU EW)
         replace HG:=AD (AA (AA HG g37) g39) g40 CP
         replace AQ:=h40
         refine AY (v:=.int .i64 0) JV r6 fun a41 OB=>?_
         refine AE ?_
         refine k38 _ _ ?_
         refine AL2 ?_
         repeat refine AL ?_
         refine BI (fn:=Tryz.f39) OB (Gd (p:=4) (q:=5) Tryz.results39 OB rfl rfl rfl rfl (Bb hsa (BR _ _) (.slice aoX (ks.length+1) capX) rfl) AQ) ?_
         exact VRes.mk2 (P:=Mb (ks.map VK.p) o T) (by unfold L8;rw[if_pos hv,if_neg (by rw[hf];simp),if_neg (by simpa using hfull)]) (by rw[NB,hpos];exact hput) ox kr (fun k hk=>(hfp k hk).elim (fun h=>.inl (.inr h)) (fun h=>.inr (rt.2 k h))) HG
       · have hbo:=AEt hput (by omega) hk0 hkm1 KQ
         have hc2:Eg o (od (ks.map VK.p) (q-1))=true:=by rw[←hao,←hbo];exact hc
         refine DM MB [(37,.int .i64 ((q:Int))),(38,.bool true),(39,.bool true),(40,.slice aoX (ks.length+1) capX),(41,.int .i64 ((q:Int))),(42,pk ((bO aoX)) (oO aoX+q*33)),(43,pk ((bO aoX)) (oO aoX+q*33)),(44,AP a1.o),(45,.slice aoX (ks.length+1) capX),(46,.int .i64 ((q:Int))),(47,.int .i64 (((q-1:Nat):Int))),(48,pk ((bO aoX)) (oO aoX+(q-1)*33)),(49,pk ((bO aoX)) (oO aoX+(q-1)*33)),(50,AP b1.o),(51,.bool true),(52,.bool true)]
          ⟨ym r5,Cz r6 (fun _=>DI (decide_eq_true (by omega))),ym r5,Az rq8,Az rq8,Cq rfl rfl (gy rfl rfl rfl) (oy rfl rfl) (oy rfl rfl) (fun w=>CU Tryz.underlying34 (by kernel_rfl) (Sl.of_own ox) (by omega) (rfl) w) (fun _=>rfl),BX rq9 (fun _=>by kernel_rfl),Aq rq9 (fun _ g=>Ab (B6 a1.o a1.ho.1) (Lp (Sl.of_own (ox.kn g)) hkm LL)),Az rq8,Az rq8,BJ rq9 (fun _=>F6 (by rw[BG (by omega) (by omega)];omega)),Cq rfl rfl (gy rfl rfl rfl) (oy rfl rfl) (oy rfl rfl) (fun w=>CU Tryz.underlying34 (by kernel_rfl) (Sl.of_own ox) (by omega) (rfl) w) (fun _=>rfl),BX rq9 (fun _=>by kernel_rfl),Aq rq9 (fun _ g=>Ab (B6 b1.o b1.ho.1) (Lp (Sl.of_own (ox.kn g)) hkm1 KQ)),B7 [AP a1.o,AP b1.o] Tryz.func86 (by kernel_rfl) r7 ⟨(oy rfl rfl),(oy rfl rfl),AL5⟩ (Ap fun W g=>AEv hc a1.ho b1.ho W),A2 rq9,AL5⟩ fun a42 w42 g42 Hl=>?_
         refine k36 _ _ ?_
         refine Aw Hl rfl rfl ?_
         refine AL3 ?_
         refine k35 _ _ ?_
         refine ALz fun K43 k43=>?_
         refine BM fun Q44 x44 y44 r44 o44=>?_
         replace ox:=ox.kn g42
         refine DW (Hl.st w42) (by kernel_rfl) 15 [(55,Sp.is (.slice aoX (ks.length+1) capX)),(56,Sp.is (.int .i64 ((q:Int)))),(57,Sp.is (.int .i64 (((q-1:Nat):Int)))),(58,Sp.is (.slice aoX (ks.length+1) capX)),(59,Sp.is (.int .i64 ((q:Int)))),(60,Sp.is (.slice aoX (ks.length+1) capX)),(61,Sp.is (.int .i64 ((q:Int)))),(62,Sp.is (pk ((bO aoX)) (oO aoX+q*33))),(63,Sp.is (Hk a1)),(64,Sp.is (.slice aoX (ks.length+1) capX)),(65,Sp.is (.int .i64 ((q:Int)))),(66,Sp.is (.int .i64 (((q-1:Nat):Int)))),(67,Sp.is (pk ((bO aoX)) (oO aoX+(q-1)*33))),(68,Sp.is (Hk b1)),(69,Sp.is (pk ((bO aoX)) (oO aoX+(q-1)*33)))] rfl (by kernel_rfl) (by kernel_rfl) (by kernel_rfl) [3,4] (by kernel_rfl)
          ⟨ym r5,ym r5,Cz r6 (fun _=>F6 (by rw[BG (by omega) (by omega)];omega)),ym r5,ym r5,ym r5,ym r5,BA rq8 (fun w=>CU Tryz.underlying34 (by kernel_rfl) (Sl.of_own ox) (by omega) (rfl) w),Bu r6 (fun _ g=>Ab (VJ a1) (AAD (Sl.of_own (ox.kn g)) hkm LL)),ym r5,ym r5,Cz r6 (fun _=>F6 (by rw[BG (by omega) (by omega)];omega)),BA rq8 (fun w=>CU Tryz.underlying34 (by kernel_rfl) (Sl.of_own ox) (by omega) (rfl) w),Bu r6 (fun _ g=>Ab (VJ b1) (AAD (Sl.of_own (ox.kn g)) hkm1 KQ)),BA rq8 (fun w=>CU Tryz.underlying34 (by kernel_rfl) (Sl.of_own ox) (by omega) (rfl) w),AL5⟩ ⟨fun o ho=>by obtain rfl:=Option.some.inj ho;exact QE 6 58 (.inl rfl) rfl rfl trivial (fun _ _ h=>h),fun o ho=>by obtain rfl:=Option.some.inj ho;exact QE 7 59 (.inl rfl) rfl rfl trivial (fun _ _ h=>h),AL5⟩
          [] (by kernel_rfl) trivial ⟨.inl rfl,.inl rfl,.inl rfl,.inl rfl,.inl rfl,.inl rfl,.inl rfl,.inl rfl,.inl rfl,.inl rfl,.inl rfl,.inl rfl,.inl rfl,.inl rfl,.inl rfl,AL5⟩ (by kernel_rfl) fun a45 w45 g45 st45 nd45=>?_
         obtain⟨hn45,hd45,e45_55,e45_56,e45_57,e45_58,e45_59,e45_60,e45_61,e45_62,e45_63,e45_64,e45_65,e45_66,e45_67,e45_68,e45_69,e45_37,e45_38,e45_39,e45_40,e45_41,e45_42,e45_43,e45_44,e45_45,e45_46,e45_47,e45_48,e45_49,e45_50,e45_51,e45_52,e45_7,e45_34,e45_35,e45_36,e45_6,e45_33,e45_17,e45_18,e45_19,e45_20,e45_12,e45_13,e45_14,e45_15,e45_8,e45_9,e45_10,e45_5,e45_4,e45_3,e45_2,e45_0,e45_1,e45_25,e45_32,-⟩:=st45
         have Ev:Sv 78 [] [(37,_),(38,_),(39,_),(40,_),(41,_),(42,_),(43,_),(44,_),(45,_),(46,_),(47,_),(48,_),(49,_),(50,_),(51,_),(52,_),(7,_),(34,_),(35,_),(36,_),(6,_),(33,_),(17,_),(18,_),(19,_),(20,_),(12,_),(13,_),(14,_),(15,_),(8,_),(9,_),(10,_),(5,_),(4,_),(3,_),(2,_),(0,_),(1,_),(25,_),(32,_),(58,_),(59,_),(63,_),(68,_),(69,_)] a45:=⟨hn45,hd45,e45_37,e45_38,e45_39,e45_40,e45_41,e45_42,e45_43,e45_44,e45_45,e45_46,e45_47,e45_48,e45_49,e45_50,e45_51,e45_52,e45_7,e45_34,e45_35,e45_36,e45_6,e45_33,e45_17,e45_18,e45_19,e45_20,e45_12,e45_13,e45_14,e45_15,e45_8,e45_9,e45_10,e45_5,e45_4,e45_3,e45_2,e45_0,e45_1,e45_25,e45_32,e45_58,e45_59,e45_63,e45_68,e45_69,AL5⟩
         replace ox:=ox.kn g45
         refine Jn (c:=Af) (el:=a1) Ev rfl rfl rfl rfl rfl rfl rfl (VJ a1) ox C3 (by decide) (by first|omega|(simp only[List.length_set];omega)) rfl fun w46 g46 h46=>?_
         replace AK:=AF g46 (AC g45 (AC g42 AK)) (fun e=>IX _ (Cp (j:=(q-1)) ox (by omega) rfl) (Option.some.inj e).symm)
         replace AN:=AF g46 (AC g45 (AC g42 AN)) (fun e=>IY _ (Cp (j:=(q-1)) ox (by omega) rfl) (Option.some.inj e).symm)
         replace AQ:=AF g46 (AC g45 (AC g42 AQ)) (fun e=>Fh _ (Cp (j:=(q-1)) ox (by omega) rfl) (Option.some.inj e).symm)
         replace hr:=((hr.kn g42).kn g45).offR g46 (fun k hk e=>ap_hr_ox k hk (Cp (j:=(q-1)) ox (by omega) e))
         replace rt:=((rt.kn g42).kn g45).offR g46 (fun k hk e=>ap_rt_ox k hk (Cp (j:=(q-1)) ox (by omega) e))
         replace kr:=((kr.kn g42).kn g45).offR g46 (fun k hk e=>ap_kr_ox k hk (Cp (j:=(q-1)) ox (by omega) e))
         replace HG:=Bi (AA (AA HG g42) g45) g46 fun k e=>lo_ox k (Cp (j:=(q-1)) ox (by omega) e)
         replace ox:=h46
         refine AJ Ev 1 [(70,pk ((bO aoX)) (oO aoX+q*33))]
          ⟨BA rq8 (fun w=>CU Tryz.underlying34 (by kernel_rfl) (Sl.of_own ox) (by omega) (rfl) w),AL5⟩ fun a47 w47 g47 LG=>?_
         replace ox:=ox.kn g47
         refine Jn (c:=Af) (el:=b1) LG rfl rfl rfl rfl rfl rfl rfl (VJ b1) ox C3 (by decide) (by first|omega|(simp only[List.length_set];omega)) rfl fun w48 g48 h48=>?_
         replace AK:=AF g48 (AC g47 AK) (fun e=>IX _ (Cp (j:=q) ox (by omega) rfl) (Option.some.inj e).symm)
         replace AN:=AF g48 (AC g47 AN) (fun e=>IY _ (Cp (j:=q) ox (by omega) rfl) (Option.some.inj e).symm)
         replace AQ:=AF g48 (AC g47 AQ) (fun e=>Fh _ (Cp (j:=q) ox (by omega) rfl) (Option.some.inj e).symm)
         replace hr:=(hr.kn g47).offR g48 (fun k hk e=>ap_hr_ox k hk (Cp (j:=q) ox (by omega) e))
         replace rt:=(rt.kn g47).offR g48 (fun k hk e=>ap_rt_ox k hk (Cp (j:=q) ox (by omega) e))
         replace kr:=(kr.kn g47).offR g48 (fun k hk e=>ap_kr_ox k hk (Cp (j:=q) ox (by omega) e))
         replace HG:=Bi (AA HG g47) g48 fun k e=>lo_ox k (Cp (j:=q) ox (by omega) e)
         have JH:Sv _ _ [_,_,_,_,_,_,_,_,_,_,_,_,_,_,_,_,_,_,_,_,_,_,_,_,_,_,_,_,_,_,_,_,_,_,_,_,_,_,_,_,_] _:=LG.dl [70,58,59,63,68,69]
         refine AE ?_
         have kr2:=kr.sub (ns:=(ms.set (q-1) a1).set q b1) fun x hx=>Lr hkm hkm1 LL KQ hx
         have YV:∀k,DR ((ms.set (q-1) a1).set q b1) k→k≠Ci:=fun k hk=>Fg k (LK (fun x hx=>Lr hkm hkm1 LL KQ hx) hk)
         have YW:∀k,DR ((ms.set (q-1) a1).set q b1) k→k≠CX:=fun k hk=>Mp k (LK (fun x hx=>Lr hkm hkm1 LL KQ hx) hk)
         have YX:∀k,DR ((ms.set (q-1) a1).set q b1) k→k≠GV:=fun k hk=>EW k (LK (fun x hx=>Lr hkm hkm1 LL KQ hx) hk)
         have ap_kr2_ox:∀k,DR ((ms.set (q-1) a1).set q b1) k→¬Bk (.slice aoX (ks.length+1) capX) k:=fun k hk=>ap_kr_ox k (LK (fun x hx=>Lr hkm hkm1 LL KQ hx) hk)
         refine y44 _ _ ?_
         refine k43 _ _ ?_
         refine ALy ?_
         refine AJ JH 2 [(53,.int .i64 ((q:Int))),(54,.int .i64 (((q-1:Nat):Int)))]
          ⟨ym r5,Cz r6 (fun _=>F6 (by rw[BG (by omega) (by omega)];omega)),AL5⟩ fun a50 w50 g50 Va=>?_
         refine AY (v:=.int .i64 (((q-1:Nat):Int))) Va r6 fun a51 EI=>?_
         refine AE ?_
         replace AK:=AC g50 AK
         replace AN:=AC g50 AN
         replace AQ:=AC g50 AQ
         replace hr:=hr.kn g50
         replace rt:=rt.kn g50
         replace ox:=h48.kn g50
         replace kr2:=kr2.kn g50
         replace HG:=AA HG g50
         exact⟨⟨q-1,(ms.set (q-1) a1).set q b1,by omega,AEu hput (by omega) hk0 hkm hkm1 LL KQ,by rw[List.length_set,List.length_set];exact hml,fun j h1 h2=>if e:j=q-1 then e▸hc2 else haft j (by omega) h2,fun b h=>hfp b (LK (fun x hx=>Lr hkm hkm1 LL KQ hx) h),⟨EI.1,EI.2.1,EI.2.2.1,(AG (AG EI)).2.2.2.2.2.1,(AG (AG EI)).2.2.2.2.2.2.1,(AG (AG EI)).2.2.2.2.2.2.2.1,(AG (AG (AG EI))).1,(AG (AG (AG EI))).2.1,(AG (AG (AG EI))).2.2.1,(AG (AG (AG EI))).2.2.2.1,(AG (AG (AG EI))).2.2.2.2.1,(AG (AG (AG EI))).2.2.2.2.2.1,(AG (AG (AG EI))).2.2.2.2.2.2.1,(AG (AG (AG EI))).2.2.2.2.2.2.2.1,(AG (AG (AG (AG EI)))).1,(AG (AG (AG (AG EI)))).2.1,(AG (AG (AG (AG EI)))).2.2.1,(AG (AG (AG (AG EI)))).2.2.2.1,(AG (AG (AG (AG EI)))).2.2.2.2.1,(AG (AG (AG (AG EI)))).2.2.2.2.2.1,(AG (AG (AG (AG EI)))).2.2.2.2.2.2.1,(AG (AG (AG (AG EI)))).2.2.2.2.2.2.2.1,(AG (AG (AG (AG (AG EI))))).1,(AG (AG (AG (AG (AG EI))))).2.1,(AG (AG (AG (AG (AG EI))))).2.2.1,(AG (AG (AG (AG (AG EI))))).2.2.2.1,(AG (AG (AG (AG (AG EI))))).2.2.2.2.1,AL5⟩,HG,AK,AN,AQ,hr,rt,ox,kr2,IX,IY,Fh,ap_hr_ox,ap_rt_ox,ap_kr2_ox,lo_ox,YV,YW,YX⟩,by rw[show _=_ from EI.2.2.1,show _=_ from MB.2.2.1];simp[intOf];omega⟩
       · have hbo:=AEt hput (by omega) hk0 hkm1 KQ
         have hpos:=YU hs hf (by omega) (fun j h1 h2=>haft j h1 (by omega)) (.inr (by rw[←hao,←hbo];exact hc))
         refine DM MB [(37,.int .i64 ((q:Int))),(38,.bool true),(39,.bool true),(40,.slice aoX (ks.length+1) capX),(41,.int .i64 ((q:Int))),(42,pk ((bO aoX)) (oO aoX+q*33)),(43,pk ((bO aoX)) (oO aoX+q*33)),(44,AP a1.o),(45,.slice aoX (ks.length+1) capX),(46,.int .i64 ((q:Int))),(47,.int .i64 (((q-1:Nat):Int))),(48,pk ((bO aoX)) (oO aoX+(q-1)*33)),(49,pk ((bO aoX)) (oO aoX+(q-1)*33)),(50,AP b1.o),(51,.bool false),(52,.bool false)]
          ⟨ym r5,Cz r6 (fun _=>DI (decide_eq_true (by omega))),ym r5,Az rq8,Az rq8,Cq rfl rfl (gy rfl rfl rfl) (oy rfl rfl) (oy rfl rfl) (fun w=>CU Tryz.underlying34 (by kernel_rfl) (Sl.of_own ox) (by omega) (rfl) w) (fun _=>rfl),BX rq9 (fun _=>by kernel_rfl),Aq rq9 (fun _ g=>Ab (B6 a1.o a1.ho.1) (Lp (Sl.of_own (ox.kn g)) hkm LL)),Az rq8,Az rq8,BJ rq9 (fun _=>F6 (by rw[BG (by omega) (by omega)];omega)),Cq rfl rfl (gy rfl rfl rfl) (oy rfl rfl) (oy rfl rfl) (fun w=>CU Tryz.underlying34 (by kernel_rfl) (Sl.of_own ox) (by omega) (rfl) w) (fun _=>rfl),BX rq9 (fun _=>by kernel_rfl),Aq rq9 (fun _ g=>Ab (B6 b1.o b1.ho.1) (Lp (Sl.of_own (ox.kn g)) hkm1 KQ)),B7 [AP a1.o,AP b1.o] Tryz.func86 (by kernel_rfl) r7 ⟨(oy rfl rfl),(oy rfl rfl),AL5⟩ (Ap fun W g=>AEv hc a1.ho b1.ho W),A2 rq9,AL5⟩ fun a52 w52 g52 RA=>?_
         refine k36 _ _ ?_
         refine A1 RA rfl rfl ?_
         refine wp_exit ?_
         repeat refine CY ?_
         refine x33 _ _ ?_
         refine k29 _ _ ?_
         refine ALz fun K53 k53=>?_
         replace AK:=AC g52 AK
         replace AN:=AC g52 AN
         replace AQ:=AC g52 AQ
         refine DW (RA.st w52) (by kernel_rfl) 7 [(71,Sp.is (pt Ci)),(72,Sp.is (AP sa)),(73,Sp.is (pk Ci 32)),(74,Sp.is (AP po)),(75,Sp.is (AP ((kd 276 po)))),(76,Sp.is (.slice aoX (ks.length+1) capX)),(77,Sp.is (Am sa ((kd 276 po)) (.slice aoX (ks.length+1) capX)))] rfl (by kernel_rfl) (by kernel_rfl) (by kernel_rfl) [] (by kernel_rfl)
          ⟨yf r6 (fun _=>by kernel_rfl),yp (i:=0) r6 (B6 sa hsa.1) AK rfl rfl,yf r6 (fun _=>by kernel_rfl),yp (i:=1) r6 (B6 po hpo.1) AK rfl (by simp[AI,AV,hsa.1,hpo.1]),Ae [.int .u64 276,AP po,.slice none 0 0] Tryz.func35 (by kernel_rfl) rq4 ⟨rfl,(oy rfl rfl),rfl,AL5⟩ (Ap fun W g=>JW (n:=276) (by decide) rfl hpo W),ym r5,BU (vs:=[AP sa,AP ((kd 276 po)),.slice aoX (ks.length+1) capX]) rfl rfl trivial ⟨(oy rfl rfl),(oy rfl rfl),(oy rfl rfl),AL5⟩ (fun _=>bV3 hsa (BR _ _) _ _ _ _) (fun _=>rfl),AL5⟩ trivial
          [] (by kernel_rfl) trivial ⟨.inl rfl,.inl rfl,.inl rfl,.inl rfl,.inl rfl,.inl rfl,.inl rfl,AL5⟩ (by kernel_rfl) fun a54 w54 g54 st54 nd54=>?_
         obtain⟨hn54,hd54,e54_71,e54_72,e54_73,e54_74,e54_75,e54_76,e54_77,e54_37,e54_38,e54_39,e54_40,e54_41,e54_42,e54_43,e54_44,e54_45,e54_46,e54_47,e54_48,e54_49,e54_50,e54_51,e54_52,e54_7,e54_34,e54_35,e54_36,e54_6,e54_33,e54_17,e54_18,e54_19,e54_20,e54_12,e54_13,e54_14,e54_15,e54_8,e54_9,e54_10,e54_5,e54_4,e54_3,e54_2,e54_0,e54_1,e54_25,e54_32,-⟩:=st54
         have MC:Sv 78 [] [(37,_),(38,_),(39,_),(40,_),(41,_),(42,_),(43,_),(44,_),(45,_),(46,_),(47,_),(48,_),(49,_),(50,_),(51,_),(52,_),(7,_),(34,_),(35,_),(36,_),(6,_),(33,_),(17,_),(18,_),(19,_),(20,_),(12,_),(13,_),(14,_),(15,_),(8,_),(9,_),(10,_),(5,_),(4,_),(3,_),(2,_),(0,_),(1,_),(25,_),(32,_),(77,_)] a54:=⟨hn54,hd54,e54_37,e54_38,e54_39,e54_40,e54_41,e54_42,e54_43,e54_44,e54_45,e54_46,e54_47,e54_48,e54_49,e54_50,e54_51,e54_52,e54_7,e54_34,e54_35,e54_36,e54_6,e54_33,e54_17,e54_18,e54_19,e54_20,e54_12,e54_13,e54_14,e54_15,e54_8,e54_9,e54_10,e54_5,e54_4,e54_3,e54_2,e54_0,e54_1,e54_25,e54_32,e54_77,AL5⟩
         refine Ao MC r7 (Bb hsa (BR _ _) (.slice aoX (ks.length+1) capX) rfl) (AC g54 AQ) (by first|rfl|simp[Af,AI,AV,hsa.1,(BR _ _).1]) fun w55 g55 h55=>?_
         replace AK:=Aj g54 g55 AK (Ne.symm BO)
         replace AN:=Aj g54 g55 AN (Ne.symm Bd)
         replace hr:=((hr.kn g52).kn g54).offR g55 (AU CB)
         replace rt:=((rt.kn g52).kn g54).offR g55 (AU IW)
         replace ox:=((ox.kn g52).kn g54).offR g55 (AU Fh)
         replace kr:=((kr.kn g52).kn g54).offR g55 (AU EW)
         replace HG:=AD (AA (AA HG g52) g54) g55 CP
         replace AQ:=h55
         refine AY (v:=.int .i64 0) MC r6 fun a56 Pd=>?_
         refine AE ?_
         refine k53 _ _ ?_
         refine AL2 ?_
         repeat refine AL ?_
         refine BI (fn:=Tryz.f39) Pd (Gd (p:=4) (q:=5) Tryz.results39 Pd rfl rfl rfl rfl (Bb hsa (BR _ _) (.slice aoX (ks.length+1) capX) rfl) AQ) ?_
         exact VRes.mk2 (P:=Mb (ks.map VK.p) o T) (by unfold L8;rw[if_pos hv,if_neg (by rw[hf];simp),if_neg (by simpa using hfull)]) (by rw[NB,hpos];exact hput) ox kr (fun k hk=>(hfp k hk).elim (fun h=>.inl (.inr h)) (fun h=>.inr (rt.2 k h))) HG
   · refine ALy ?_
     refine AJ Dy 4 [(12,Am sa po (.slice ao ks.length cap)),(13,AP o),(14,.int .i64 ((i:Int))),(15,.bool true)]
       ⟨yl r6 (Bb hsa hpo (.slice ao ks.length cap) rfl) AK,yl r6 (B6 o ho.1) AN,Ae [Am sa po (.slice ao ks.length cap),AP o] Tryz.func84 (by kernel_rfl) rq4 ⟨(oy rfl rfl),(oy rfl rfl),AL5⟩ (Ap fun W g=>AJ9 hsa hpo ho (hr.kn g) hv (AIz hf hi)),Cz r6 (fun _=>FS (decide_eq_true (by omega))),AL5⟩ fun a57 w57 g57 AAW=>?_
     refine AE ?_
     refine k15 _ _ ?_
     refine Aw AAW rfl rfl ?_
     refine ALz fun K58 k58=>?_
     refine ALy ?_
     refine AJ AAW 1 [(16,Am sa po (.slice ao ks.length cap))]
       ⟨yl r6 (Bb hsa hpo (.slice ao ks.length cap) rfl) (AC g57 AK),AL5⟩ fun a59 w59 g59 Ew=>?_
     have NM:=AA g57 g59
     refine Ao Ew r7 (Bb hsa hpo (.slice ao ks.length cap) rfl) (AC NM AQ) (by first|rfl|simp[Af,AI,AV,hsa.1,hpo.1]) fun w60 g60 h60=>?_
     replace hr:=(hr.kn NM).offR g60 (AU CB)
     replace HG:=AD (AA HG NM) g60 CP
     replace AQ:=h60
     refine AY (v:=.int .i64 0) Ew r6 fun a61 NK=>?_
     refine AE ?_
     refine k58 _ _ ?_
     refine AL2 ?_
     repeat refine AL ?_
     refine BI (fn:=Tryz.f39) NK (Gd (p:=4) (q:=5) Tryz.results39 NK rfl rfl rfl rfl (Bb hsa hpo (.slice ao ks.length cap) rfl) AQ) ?_
     exact VRes.same (P:=ks.map VK.p) (by unfold L8;rw[if_pos hv,if_pos hf]) rfl hr (fun k hk=>hk) HG
end Go.Proofs.YtbfjfnbcmojpiaaGreat
namespace Go.Proofs.YtbfjfnbcmojpiaaGreat
open Go.RowKit
section
variable {P:Program} {ops:Array Oper} {S:World→Prop} {Kt:Act→Prop} {o:Oper} {r:List Oper} {a:Act} {n:Nat} {D:List Deferred} {K:List (Nat×Value)}
theorem AG0 (sv:Sv n D K a) (hgd:o.guard=none) {T:TypeId} {x:Operand} {d:Nat} {p v:Value} (ho:o.op=.load T x) (hd:o.dst=some d) (hdn:decide (d<n)=true) (hx:Me K x=true∧Mf K x=p) (hr:∀w,S w→(Instr.loadAt T p).run P w=.ok v w)
  (h:∀a',Sv n D ((d,v)::JS d K) a'→Fz P ops S Kt r a'):Fz P ops S Kt (o::r) a:=
 UP hgd T x ho (sv.ev hx.1 hx.2) hr (by rw[hd];exact h _ (sv.put (of_decide_eq_true hdn) v))
theorem AH5 (w0:World) (sv:Sv n D K a) {v:Value} {d:Nat} (hd:o.dst=some d) (hc:(decide (d<n)&&!(o.looksAt ops).contains d)=true) (hp:PX P ops (Sm ((d,Sp.is v)::Qp K)) n w0 o)
  (h:∀a',Sv n D ((d,v)::JS d K) a'→Fz P ops S Kt r a'):Fz P ops S Kt (o::r) a:=by
 simp only[Bool.and_eq_true,decide_eq_true_eq,Bool.not_eq_true'] at hc
 obtain⟨u,hy,hu⟩:=hp a w0 (World.grownBy.refl _ _) (fun t ht htn=>by
  have hne:(Nat.beq d t)=false:=by
   cases e:Nat.beq d t with
   | false=>rfl
   | true =>
    have:=Nat.eq_of_beq_eq_true e
    subst this
    have h2:=hc.2
    rw[←Bool.not_eq_true,List.contains_iff_mem] at h2
    exact absurd ht h2
  have h1:=(sv.st w0).2.2.at t
  unfold Sm
  rw[hne]
  exact h1) sv.1
 have e:u=v:=by
  have:=hu d hd
  unfold Sm at this
  have hb:Nat.beq d d=true:=Nat.beq_refl d
  rw[hb] at this
  exact this
 subst e
 exact⟨_,hy.yieldsIf,by rw[hd];exact h _ (sv.put hc.1 _)⟩
end
end Go.Proofs.YtbfjfnbcmojpiaaGreat
namespace Go.Proofs.YtbfjfnbcmojpiaaGreat
open Go.RowKit Go.Shelf
theorem AIX (n:Nat):∀b∈UH n,b<256:=by
 induction n using Nat.strongRecOn with
 | _ n ih =>
  by_cases h:n<128
  · rw[GZ h];intro b hb;simp at hb;omega
  · rw[Jh h]
    intro b hb
    rcases List.mem_cons.1 hb with rfl|hb
    · omega
    · exact ih (n/128) (by omega) b hb
theorem QR (n:Int):∀b∈enc n,b<256:=AIX _
theorem AF4 (s:ByteArray):∀b∈Za s,b<256:=fun b hb=>by
 rcases List.mem_append.1 hb with h|h
 · exact QR _ b h
 · exact AHp s b h
theorem AF5 (v:V):∀b∈Sr v,b<256:=fun b hb=>by
 unfold Sr at hb
 rcases List.mem_append.1 hb with h|h
 · exact QR _ b h
 · split at h
   · exact QR _ b h
   · split at h
     · exact AF4 _ b h
     · cases h
def vc (v:V):List Value:=[.int .i64 v.kind,.int .i64 v.int,.string v.text]
theorem En (v:V):TY Tryz.prog 25 (vc v) (CH v):=tyV v
theorem Ho (v:Value) (h:v.oneCell'=true):TY Tryz.prog 29 [v] v:=TY.one' Tryz.underlying29 rfl (by kernel_rfl) h
theorem D1 {w w':World} {v':Value} (h:Step w My w' v'):w.grownBy w' none∧∀k,Bk v' k→w.heap.size≤k:=⟨Step.none h,fun k hk=>(h.2 k hk).elim (fun h=>by simp[My,Value.ownBlock] at h) id⟩
def NwR (w w':World) (xs:List Nat) (e:Ending):Prop:=∃v,e=.returned v∧w.grownBy w' none∧(Sp.row w.heap.size 5 1 xs.length (bv xs)).on w' v
end Go.Proofs.YtbfjfnbcmojpiaaGreat
namespace Go.Proofs.YtbfjfnbcmojpiaaGreat
open Go.RowKit
theorem RM {w w':World} {fp p:Nat→Prop} (g:w.grownBy w' none) (h:∀k,p k→fp k∨TagV w k):∀k,p k→fp k∨TagV w' k:=fun k hk=>(h k hk).imp id (·.keep g (by simp))
def Sp.vt (r:VV×Int) (fp:Nat→Prop):Sp:=⟨fun w v=>∃ao cap ks,v=.tuple #[Am r.1.2.1 r.1.2.2 (.slice ao (List.length ks) cap),.int .i64 r.2]∧ks.map VK.p=r.1.1∧RdK w (.slice ao (List.length ks) cap) ks∧∀k,Mh (.slice ao (List.length ks) cap) ks k→fp k∨TagV w k,fun _ _ _ hg ⟨ao,cap,ks,h1,h2,h3,h4⟩=>⟨ao,cap,ks,h1,h2,h3.kn hg,RM hg h4⟩⟩
theorem VRes.on {w w':World} {r:VV×Int} {fp:Nat→Prop} {e:Ending} (h:VRes w w' r fp e):∃v,e=.returned v∧w.grownBy w' none∧(Sp.vt r fp).on w' v:=by
 obtain⟨ao,cap,ks,h1,h2,h3,h4,h5⟩:=h
 exact⟨_,h1,h5,ao,cap,ks,rfl,h2,h3,h4⟩
section
variable {w0:World} {ks:List VK} {ao:Option Addr} {cap:Nat} {sa po o:List Nat} {P:List VP} {r:VV×Int} {a:Int}
theorem AI2 (hsa:Dg sa) (hpo:Dg po) (ho:Dg o) (hk:RdK w0 (.slice ao ks.length cap) ks) (hm:ks.map VK.p=P) {T:List Nd} (hT:tree (kd 275 po) []=T) (hres:L8 (P,sa,po) o T (kd 276 po)=r) :
  ∀W,w0.grownBy W none→Calls Tryz.prog 36 #[Am sa po (.slice ao ks.length cap),AP o] W fun e W'=>∃v,e=.returned v∧W.grownBy W' none∧(Sp.vt r fun _=>False).on W' v:=fun W g=>by
 subst hres hm
 exact(AEn ks ao cap sa po hsa hpo o ho T hT W (hk.kn g)).mono fun e W' h=>h.on
theorem AG1 (hsa:Dg sa) (hpo:Dg po) (ho:Dg o) (hk:RdK w0 (.slice ao ks.length cap) ks) (hm:ks.map VK.p=P) {T:List Nd} (hT:tree (kd 275 po) []=T) (hres:L8 (P,sa,po) o T (kd 276 po)=r) :
  ∀W,w0.grownBy W none→Calls Tryz.prog 39 #[Am sa po (.slice ao ks.length cap),AP o] W fun e W'=>∃v,e=.returned v∧W.grownBy W' none∧(Sp.vt r (Mh (.slice ao ks.length cap) ks)).on W' v:=fun W g=>by
 subst hres hm
 exact(ACq ks ao cap sa po hsa hpo o ho T hT W (hk.kn g)).mono fun e W' h=>h.on
theorem AI3 (hsa:Dg sa) (hpo:Dg po) (ho:Dg o) (hk:RdK w0 (.slice ao ks.length cap) ks) (hm:ks.map VK.p=P) (hres:Pc (P,sa,po) o a=r) :
  ∀W,w0.grownBy W none→Calls Tryz.prog 31 #[Am sa po (.slice ao ks.length cap),AP o,.int .i64 a] W fun e W'=>∃v,e=.returned v∧W.grownBy W' none∧(Sp.vt r fun _=>False).on W' v:=fun W g=>by
 subst hres hm
 exact(AEr ks ao cap sa po hsa hpo o ho a W (hk.kn g)).mono fun e W' h=>h.on
theorem AH6 {w:World} {q:List Nat×Int} (hsa:Dg sa) (hpo:Dg po) (ho:Dg o) (hk:RdK w (.slice ao ks.length cap) ks) (hm:ks.map VK.p=P) (hres:Co P o a=q) :
  Calls Tryz.prog 32 #[Am sa po (.slice ao ks.length cap),AP o,.int .i64 a] w fun e w'=>e=.returned (.tuple #[AP q.1,.int .i64 q.2])∧w.grownBy w' none:=by
 subst hres hm
 exact AEk ks ao cap sa po hsa hpo o ho a w hk
theorem NN {w:World} {b:Bool} (hsa:Dg sa) (hpo:Dg po) (hk:RdK w (.slice ao ks.length cap) ks) (hm:ks.map VK.p=P) (hb:CK P=b):Calls Tryz.prog 51 #[Am sa po (.slice ao ks.length cap)] w fun e w'=>e=.returned (.bool b)∧w.grownBy w' none:=by
 subst hm
 exact IS hsa hpo hk hb
end
end Go.Proofs.YtbfjfnbcmojpiaaGreat
namespace Go.Proofs.YtbfjfnbcmojpiaaGreat
def By (l:List Nat):Prop:=∀x∈l,x<256
def Ip (a b:List Nat):List Nat:=List.zipWith (fun x y=>x ^^^ y) a b
theorem NO {a b:List Nat} (h:a.length≤b.length):(Ip a b).length=a.length:=by unfold Ip;rw[List.length_zipWith];omega
theorem ABW {a b:List Nat} (ha:By a) (hb:By b):By (Ip a b):=fun x hx=>by
 unfold Ip at hx
 rw[List.mem_iff_getElem] at hx
 obtain⟨i,hi,rfl⟩:=hx
 rw[List.getElem_zipWith]
 exact Nat.xor_lt_two_pow (n:=8) (ha _ (List.getElem_mem _)) (hb _ (List.getElem_mem _))
theorem OK:∀{a b:List Nat},a.length≤b.length→Ip (Ip a b) b=a
 | [],_,_=>rfl
 | _::_,[],h=>by simp at h
 | x::a,y::b,h=>by
  have ih:=OK (a:=a) (b:=b) (by simpa using h)
  unfold Ip at ih ⊢
  simp only[List.zipWith_cons_cons,ih,Nat.xor_assoc,Nat.xor_self,Nat.xor_zero]
def Wp (all:Bool) (keys:List (List Nat)):List Nat:=PN (BitVec.ofNat 64 (if all then 282 else 281)) keys.flatten
def msk (k:List Nat):List Nat:=M4 (BitVec.ofNat 64 283) k []
def Mr (c k:List Nat):List Nat:=Ip c (msk k)
def Ja (b c:List Nat):List Nat:=Ip b (sq (Ga (BitVec.ofNat 64 284) c) b.length)
def Wq (c:List Nat) (a:Int) (b:List Nat):List Nat:=M4 (BitVec.ofNat 64 285) c (enc a++b)
def tgC (a:Int) (b:List Nat):List Nat:=PN (BitVec.ofNat 64 280) (enc a++b)
structure Sd where
 addr:Int
 own:List (List Nat)
 joint:Int
 wr:List (List Nat)
 body:List Nat
 tag:List Nat
def Sd.zero:Sd:=⟨0,[],0,[],[],AR⟩
def Ls (l:List (List Nat)) (i:Nat):List Nat:=(l[i]?).getD []
theorem AAX {l:List (List Nat)} {i:Nat} (h:i<l.length):Ls l i=l[i]:=by unfold Ls;rw[List.getElem?_eq_getElem h];rfl
def AAY (l:List (List Nat)) (i:Nat):Bool:=decide (i=0)||Eg (Ls l (i-1)) (Ls l i)
def asc (l:List (List Nat)):Bool:=(List.range l.length).all (AAY l)
theorem ABX {l:List (List Nat)}:asc l=true↔∀i,i<l.length→AAY l i=true:=by unfold asc;simp[List.all_eq_true,List.mem_range]
theorem AI5 {l:List (List Nat)} {i:Nat} (h:i<l.length) (hc:AAY l i=false):asc l=false:=by
 cases h2:asc l with
 | false=>rfl
 | true=>rw[ABX.1 h2 i h] at hc;cases hc
theorem AG2 {l:List (List Nat)} (h:∀i,i<l.length→AAY l i=true):asc l=true:=ABX.2 h
def hd (own:List (List Nat)) (joint addr:Int):Bool:=Br addr&&(decide (joint=0)||decide (joint=1))&&decide (own.length≤16)&&asc own
def FK (s:Sd):Bool:=hd s.own s.joint s.addr&&decide (s.body.length≤64)&&decide (s.wr.length=if s.joint=1 then s.own.length else 0)
def Ck (P:List VP) (a:Int):List (List Nat)→List (List Nat)×Int
 | []=>([],0)
 | o::l=>if (Co P o a).2=0 then ((Co P o a).1::(Ck P a l).1,(Ck P a l).2) else ([],(Co P o a).2)
def Fm (P:List VP) (own:List (List Nat)) (joint addr:Int) (x:V):Sd×Int:=
 if hd own joint addr&&CK P then
   (if own=[] then (⟨addr,[],joint,[],Bq x,tgC addr (Bq x)⟩,0)
   else if (Ck P addr own).2=0 then
     (⟨addr,own,joint,if joint=1 then (Ck P addr own).1.map (Mr (Wp (decide (joint=1)) (Ck P addr own).1)) else [],
       Ja (Bq x) (Wp (decide (joint=1)) (Ck P addr own).1),Wq (Wp (decide (joint=1)) (Ck P addr own).1) addr (Ja (Bq x) (Wp (decide (joint=1)) (Ck P addr own).1))⟩,0)
   else (Sd.zero,(Ck P addr own).2))
 else (Sd.zero,1)
end Go.Proofs.YtbfjfnbcmojpiaaGreat
