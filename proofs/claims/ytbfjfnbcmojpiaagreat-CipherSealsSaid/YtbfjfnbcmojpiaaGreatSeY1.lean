import Derived.Test.YtbfjfnbcmojpiaaGreatSeV9
import Derived.OrdersHeld
import Derived.Test.YtbfjfnbcmojpiaaGreatSeSG
set_option linter.unusedSimpArgs false
set_option linter.unusedVariables false
set_option maxRecDepth 100000
set_option maxHeartbeats 4000000
namespace Go.Proofs.YtbfjfnbcmojpiaaGreat
open Go.RowKit Go.Shelf
def Sp.lit1T (B:Nat) (o:List Nat) (l:List Nd):Sp:=⟨fun w v=>∃(A:Nat) (x:VK),v=.slice (some ⟨A,0,none⟩) 1 1∧w.heap[A]?=some (.cells (Ak x).toArray 58 (0,0))∧x.o=o∧x.l=l∧RdTg w x.s x.l∧(∀k,Mv x.s k→B≤k)∧B≤A,fun _ _ _ hg ⟨A,x,h1,h2,h3,h4,h5,h7,h8⟩=>⟨A,x,h1,AF hg h2 (by simp),h3,h4,h5.kn hg,h7,h8⟩⟩
theorem AEi {B:Nat} {o:List Nat} {l:List Nd} {w:World} {v:Value} (hB:B≤w.heap.size) (h:(Sp.ck B o l).on w v):∃cs:List Value,(Instr.buildSlice 34 1 #[(0,v)]).run Tryz.prog w=.ok (.slice (some ⟨w.heap.size,0,none⟩) 1 1) (w.alloc (.cells cs.toArray 58)) ∧
  ∀w',w.grownBy w' none→w'.heap[w.heap.size]?=some (.cells cs.toArray 58 (0,0))→(Sp.lit1T B o l).on w' (.slice (some ⟨w.heap.size,0,none⟩) 1 1):=by
 obtain⟨x,rfl,h2,h3,h4,h6⟩:=h
 exact⟨Ak x,AJi x w,fun w' g hb=>⟨_,x,rfl,hb,h2,h3,h4.kn g,h6,hB⟩⟩
theorem AJp {P:List VP} {ms:List VK} {k:Nat} {o:List Nat} {T:List Nd} (h:ms.map VK.p=Hx P k (o,T)) (hk:k≤P.length) (hm:k<ms.length) {z:VK} (hz:ms[k]=z):z.o=o:=by
 have h1:(ms.map VK.p)[k]?=some z.p:=by rw[List.getElem?_map,List.getElem?_eq_getElem hm,hz];rfl
 rw[h,HH hk,if_neg (by omega),if_pos rfl] at h1
 exact(congrArg Prod.fst (Option.some.inj h1)).symm
theorem AEj {P:List VP} {ms:List VK} {k:Nat} {x:VP} (h:ms.map VK.p=Hx P k x) (hk:k≤P.length) (h0:0<k) (hm:k-1<ms.length) {z:VK} (hz:ms[k-1]=z):z.o=od P (k-1):=by
 have h1:(ms.map VK.p)[k-1]?=some z.p:=by rw[List.getElem?_map,List.getElem?_eq_getElem hm,hz];rfl
 rw[h,HH hk,if_pos (by omega)] at h1
 rw[(Pc h1).1]
 rfl
theorem AEk {P:List VP} {ms:List VK} {k:Nat} {x:VP} (h:ms.map VK.p=Hx P k x) (hk:k≤P.length) (h0:0<k) (hm:k<ms.length) (hm1:k-1<ms.length) {a b:VK} (ha:ms[k]=a) (hb:ms[k-1]=b):((ms.set (k-1) a).set k b).map VK.p=Hx P (k-1) x:=by
 rw[List.map_set,List.map_set,h]
 refine AAL h0 hk x _ _ ?_ ?_
 · rw[←h,List.getElem?_map,List.getElem?_eq_getElem hm,ha];rfl
 · rw[←h,List.getElem?_map,List.getElem?_eq_getElem hm1,hb];rfl
theorem Lx {ms:List VK} {k:Nat} (hm:k<ms.length) (hm1:k-1<ms.length) {a b:VK} (ha:ms[k]=a) (hb:ms[k-1]=b) {x:VK} (hx:x∈(ms.set (k-1) a).set k b):x∈ms:=by
 rcases List.mem_or_eq_of_mem_set hx with h|h
 · rcases List.mem_or_eq_of_mem_set h with h|h
   · exact h
   · rw[h,←ha];exact List.getElem_mem hm
 · rw[h,←hb];exact List.getElem_mem hm1
theorem KsR.sub {w:World} {ms ns:List VK} (h:KsR w ms) (hs:∀x∈ns,x∈ms):KsR w ns:=fun k hk=>h k (hs k hk)
theorem LP {ms ns:List VK} (hs:∀x∈ns,x∈ms) {b:Nat} (h:D5 ns b):D5 ms b:=by
 obtain⟨k,hk,hb⟩:=h
 exact⟨k,hs k hk,hb⟩
theorem KsR.snoc {w:World} {ms:List VK} (h:KsR w ms) {x:VK} (hx:RdT w x.s x.l):KsR w (ms++[x]):=fun k hk=>by
 rcases List.mem_append.1 hk with hk|hk
 · exact h k hk
 · obtain rfl:=List.mem_singleton.1 hk;exact hx
theorem Jp {ms:List VK} {x:VK} {b:Nat} (h:D5 (ms++[x]) b):D5 ms b∨Mv x.s b:=by
 obtain⟨k,hk,hb⟩:=h
 rcases List.mem_append.1 hk with hk|hk
 · exact .inl ⟨k,hk,hb⟩
 · obtain rfl:=List.mem_singleton.1 hk;exact .inr hb
theorem AEl {x y:List Nat} {b:Bool} (hb:Ea x y=b) (hx:Dg x) (hy:Dg y) (w:World):Calls Tryz.prog 86 #[AO x,AO y] w fun e w'=>e=.returned (.bool b)∧w.grownBy w' none:=Ip hb hx hy w
theorem AGn (ks:List VK) (y:VK):ks.flatMap Ak++Ak y=(ks++[y]).flatMap Ak:=by rw[List.flatMap_append];simp
theorem AGo {w:World} {A:Nat} {x:VK} (h:w.heap[A]?=some (.cells (Ak x).toArray 58 (0,0))):Sl w 33 (.slice (some ⟨A,0,none⟩) 1 1) 1 (Ak x):=AEY h
theorem ACn (ks:List VK) (ao:Option Addr) (cap:Nat) (sa po:List Nat) (hsa:Dg sa) (hpo:Dg po) (o:List Nat) (ho:Dg o) (T:List Nd) (hT:tree (kd 275 po) []=T) (w:World) (hr:RdK w (.slice ao ks.length cap) ks) :
   Calls Tryz.prog 39 #[Aw sa po (.slice ao ks.length cap),AO o] w fun e w'=>VRes w w' (ME (ks.map VK.p,sa,po) o T (kd 276 po)) (Kv (.slice ao ks.length cap) ks) e:=by
 have hlt0:=hr.lt
 have hmap:(ks.map VK.p).length=ks.length:=List.length_map _
 refine BF Tryz.func39 rfl Tryz.ntmps39 rfl fun a0 sv0=>?_
 have HG:=World.grownBy.refl w none
 replace sv0:Sv 78 [] [(0,Aw sa po (.slice ao ks.length cap)),(1,AO o)] a0:=sv0
 refine ALa fun K1 k1=>?_
 refine ALZ ?_
 refine BZ sv0 r6 (Bq hsa hpo (.slice ao ks.length cap) rfl) fun a2 w2 CO DP g2 z2 AK sv2=>?_
 have AAM:=Ay (hr.lt) DP
 replace hr:=hr.kn g2
 refine BZ sv2 r6 (BV o ho.1) fun a3 w3 CG E2 g3 z3 AN sv3=>?_
 have AAN:=Ay (hr.lt) E2
 replace AK:=AC g3 AK
 replace hr:=hr.kn g3
 replace HG:=AA (AA HG g2) g3
 refine Az (T:=36) (Z:=([bv AM,bv AM,[.slice none 0 0]].flatten)) sv3 rfl rfl rfl (fun a w=>by kernel_rfl) fun a4 w4 Fp CB g4 z4 AU sv4=>?_
 have BT:=Ax AK CB
 have Bf:=Ax AN CB
 have CL:=Bk HG CB
 have CI:=Ay (hr.lt) CB
 replace AK:=AC g4 AK
 replace AN:=AC g4 AN
 replace hr:=hr.kn g4
 replace HG:=AA HG g4
 refine AX (v:=.int .i64 0) sv4 r6 fun a5 sv5=>?_
 refine AE ?_
 refine k1 _ _ ?_
 refine ALa fun K6 k6=>?_
 refine ALa fun K7 k7=>?_
 cases hv:CZ (ks.map VK.p)
 · refine ALZ ?_
   refine AH sv5 3 [(8,Aw sa po (.slice ao ks.length cap)),(9,.bool false),(10,.bool true)]
     ⟨yl r6 (Bq hsa hpo (.slice ao ks.length cap) rfl) AK,Ae [Aw sa po (.slice ao ks.length cap)] Tryz.func40 (by kernel_rfl) rq4 ⟨(oy rfl rfl),ALg⟩ (Au fun W g=>Gy hsa hpo (hr.kn g) hv),Cr r6 (fun _=>Ba),ALg⟩ fun a8 w8 g8 sv8=>?_
   refine AE ?_
   refine k7 _ _ ?_
   refine Av sv8 rfl rfl ?_
   refine ALa fun K9 k9=>?_
   refine ALZ ?_
   replace AK:=AC g8 AK
   replace AN:=AC g8 AN
   replace AU:=AC g8 AU
   refine AH sv8 1 [(11,Aw AM AM (.slice none 0 0))]
     ⟨BR (vs:=[]) rfl rfl trivial trivial (fun _=>bV0 _) (fun _=>rfl),ALg⟩ fun a10 w10 g10 Bj=>?_
   refine As Bj r7 (Bq AP AP (.slice none 0 0) rfl) (AC g10 AU) (by first|rfl|simp[Ak,AL,AZ,AP.1,AP.1]) fun w11 g11 h11=>?_
   replace AK:=Af g10 g11 AK (Ne.symm BT)
   replace AN:=Af g10 g11 AN (Ne.symm Bf)
   replace hr:=((hr.kn g8).kn g10).offR g11 (AR CI)
   replace HG:=AD (AA (AA HG g8) g10) g11 CL
   replace AU:=h11
   refine AX (v:=.int .i64 1) Bj r6 fun a12 Cx=>?_
   refine AE ?_
   refine k9 _ _ ?_
   refine ALd ?_
   repeat refine AJ ?_
   refine Ar (fn:=Tryz.f39) Cx (DY (p:=4) (q:=5) Tryz.results39 Cx rfl rfl rfl rfl (Bq AP AP (.slice none 0 0) rfl) AU) ?_
   exact VRes.zero (by unfold ME;rw[if_neg (by rw[hv];simp)]) HG
 · obtain⟨i,hi⟩:∃i,pos (ks.map VK.p) o=i:=⟨_,rfl⟩
   have h64:ks.length≤64:=by have:=(FH.1 hv).1;simpa using this
   have hs:=Srt.of hv
   refine ALZ ?_
   refine AH sv5 3 [(8,Aw sa po (.slice ao ks.length cap)),(9,.bool true),(10,.bool false)]
     ⟨yl r6 (Bq hsa hpo (.slice ao ks.length cap) rfl) AK,Ae [Aw sa po (.slice ao ks.length cap)] Tryz.func40 (by kernel_rfl) rq4 ⟨(oy rfl rfl),ALg⟩ (Au fun W g=>Gy hsa hpo (hr.kn g) hv),Cr r6 (fun _=>Ba),ALg⟩ fun a13 w13 g13 Cl=>?_
   refine AE ?_
   refine k7 _ _ ?_
   refine A1 Cl rfl rfl ?_
   refine ALe ?_
   refine k6 _ _ ?_
   refine ALa fun K14 k14=>?_
   refine ALa fun K15 k15=>?_
   replace AK:=AC g13 AK
   replace AN:=AC g13 AN
   replace AU:=AC g13 AU
   replace hr:=hr.kn g13
   replace HG:=AA HG g13
   cases hf:J5 (ks.map VK.p) o
   · refine ALZ ?_
     refine AH Cl 4 [(12,Aw sa po (.slice ao ks.length cap)),(13,AO o),(14,.int .i64 ((-1))),(15,.bool false)]
       ⟨yl r6 (Bq hsa hpo (.slice ao ks.length cap) rfl) AK,yl r6 (BV o ho.1) AN,Ae [Aw sa po (.slice ao ks.length cap),AO o] Tryz.func84 (by kernel_rfl) rq4 ⟨(oy rfl rfl),(oy rfl rfl),ALg⟩ (Au fun W g=>AGi hsa hpo ho (hr.kn g) hv (AHq hf)),Cm r6 (fun _=>DG (by decide)),ALg⟩ fun a16 w16 g16 Ch=>?_
     refine AE ?_
     refine k15 _ _ ?_
     refine A1 Ch rfl rfl ?_
     refine ALe ?_
     refine k14 _ _ ?_
     refine ALa fun K17 k17=>?_
     refine ALa fun K18 k18=>?_
     replace AK:=AC g16 AK
     replace AN:=AC g16 AN
     replace AU:=AC g16 AU
     replace hr:=hr.kn g16
     replace HG:=AA HG g16
     by_cases hfull:64≤ks.length
     · refine ALZ ?_
       refine AH Ch 4 [(17,pk CO 64),(18,.slice ao ks.length cap),(19,.int .i64 ((ks.length:Nat))),(20,.bool true)]
         ⟨yf r6 (fun _=>by kernel_rfl),yp (i:=2) r6 (Eo (.slice ao ks.length cap) rfl) AK rfl (by simp[AL,AZ,hsa.1,hpo.1]),BI (Tryz.underlying34) rfl rfl trivial (oy rfl rfl) (fun _=>rfl),Cm r6 (fun _=>DG (decide_eq_true (by omega))),ALg⟩ fun a19 w19 g19 Cs=>?_
       refine AE ?_
       refine k18 _ _ ?_
       refine Av Cs rfl rfl ?_
       refine ALa fun K20 k20=>?_
       refine ALZ ?_
       replace AK:=AC g19 AK
       replace AN:=AC g19 AN
       replace AU:=AC g19 AU
       refine AH Cs 1 [(21,Aw AM AM (.slice none 0 0))]
         ⟨BR (vs:=[]) rfl rfl trivial trivial (fun _=>bV0 _) (fun _=>rfl),ALg⟩ fun a21 w21 g21 Di=>?_
       refine As Di r7 (Bq AP AP (.slice none 0 0) rfl) (AC g21 AU) (by first|rfl|simp[Ak,AL,AZ,AP.1,AP.1]) fun w22 g22 h22=>?_
       replace AK:=Af g21 g22 AK (Ne.symm BT)
       replace AN:=Af g21 g22 AN (Ne.symm Bf)
       replace hr:=((hr.kn g19).kn g21).offR g22 (AR CI)
       replace HG:=AD (AA (AA HG g19) g21) g22 CL
       replace AU:=h22
       refine AX (v:=.int .i64 8) Di r6 fun a23 CS=>?_
       refine AE ?_
       refine k20 _ _ ?_
       refine ALd ?_
       repeat refine AJ ?_
       refine Ar (fn:=Tryz.f39) CS (DY (p:=4) (q:=5) Tryz.results39 CS rfl rfl rfl rfl (Bq AP AP (.slice none 0 0) rfl) AU) ?_
       exact VRes.zero (by unfold ME;rw[if_pos hv,if_neg (by rw[hf];simp),if_pos (by simpa using hfull)]) HG
     · refine ALZ ?_
       refine AH Ch 4 [(17,pk CO 64),(18,.slice ao ks.length cap),(19,.int .i64 ((ks.length:Nat))),(20,.bool false)]
         ⟨yf r6 (fun _=>by kernel_rfl),yp (i:=2) r6 (Eo (.slice ao ks.length cap) rfl) AK rfl (by simp[AL,AZ,hsa.1,hpo.1]),BI (Tryz.underlying34) rfl rfl trivial (oy rfl rfl) (fun _=>rfl),Cm r6 (fun _=>DG (decide_eq_false (by omega))),ALg⟩ fun a24 w24 g24 ER=>?_
       refine AE ?_
       refine k18 _ _ ?_
       refine A1 ER rfl rfl ?_
       refine ALe ?_
       refine k17 _ _ ?_
       refine ALa fun K25 k25=>?_
       replace AK:=AC g24 AK
       replace AN:=AC g24 AN
       replace AU:=AC g24 AU
       replace hr:=hr.kn g24
       replace HG:=AA HG g24
       refine DM (ER.st w24) (by kernel_rfl) 11 [(22,Sp.lit0 w24.heap.size 58),(23,Sp.is (pk CO 64)),(24,Sp.is (.slice ao ks.length cap)),(25,Sp.row w24.heap.size 58 33 ks.length (ks.flatMap Ak)),(26,Sp.is (AO o)),(27,Sp.is (pk CO 32)),(28,Sp.is (AO po)),(29,Sp.is (AO ((kd 275 po)))),(30,Sp.ct w24.heap.size T),(31,Sp.ck w24.heap.size o T),(32,Sp.lit1T w24.heap.size o T)] rfl (by kernel_rfl) (by kernel_rfl) (by kernel_rfl) [] (by kernel_rfl)
         ⟨Uo (t:=0) rfl trivial (Nat.le_refl _) (fun a w=>by kernel_rfl) (fun _ _ h=>h),yf r6 (fun _=>by kernel_rfl),yp (i:=2) r6 (Eo (.slice ao ks.length cap) rfl) AK rfl (by simp[AL,AZ,hsa.1,hpo.1]),Up (news:=ks.flatMap Ak) Xd rfl rfl trivial rfl (fun _ _ h=>h) (oy rfl rfl) (fun _ g=>(hr.kn g).1.1) (QK ks) (by omega) (Nat.le_refl _) (fun _ _ h=>h),yl r6 (BV o ho.1) AN,yf r6 (fun _=>by kernel_rfl),yp (i:=1) r6 (BV po hpo.1) AK rfl (by simp[AL,AZ,hsa.1,hpo.1]),Ae [.int .u64 275,AO po,.slice none 0 0] Tryz.func35 (by kernel_rfl) rq4 ⟨rfl,(oy rfl rfl),rfl,ALg⟩ (Au fun W g=>Jn (n:=275) (by decide) rfl hpo W),Ae [AO ((kd 275 po))] Tryz.func85 (by kernel_rfl) rq4 ⟨(oy rfl rfl),ALg⟩ (AEO (Be _ _) hT),Ls rfl rfl trivial rfl (fun W _ av h=>match av,h with|[u,t],⟨h1,h2,_⟩=>AEM ho h1 h2),NB rfl rfl trivial (Nat.le_refl _) rfl (fun W hw v h=>AEi hw.size h.1),ALg⟩ trivial
         [] (by kernel_rfl) trivial ⟨.inl rfl,.inl rfl,.inl rfl,.inl rfl,.inl rfl,.inl rfl,.inl rfl,.inl rfl,.inl rfl,.inl rfl,.inl rfl,ALg⟩ (by kernel_rfl) fun a26 w26 g26 st26 nd26=>?_
       obtain⟨hn26,hd26,e26_22,e26_23,e26_24,e26_25,e26_26,e26_27,e26_28,e26_29,e26_30,e26_31,e26_32,e26_17,e26_18,e26_19,e26_20,e26_12,e26_13,e26_14,e26_15,e26_8,e26_9,e26_10,e26_5,e26_4,e26_3,e26_2,e26_0,e26_1,-⟩:=st26
       obtain⟨aoW,capW,e26_25q,ow,frW⟩:=e26_25
       obtain⟨V,y,e26_32q,HV,hyo,hyl,rt,frB,geV⟩:=e26_32
       have Gz:=Ca frW AK
       have QV:=Ca frW AN
       have G0:=Ca frW AU
       have ap_hr_ow:=AHl (hr.lt) frW
       have lo_ow:=Gk HG frW
       have KP:=Ca frB AK
       have AAO:=Ca frB AN
       have Iu:=Ca frB AU
       have N8:V≠CO:=Nat.ne_of_gt (Nat.lt_of_lt_of_le (Array.getElem?_eq_some_iff.1 AK).1 geV)
       have ACk:V≠CG:=Nat.ne_of_gt (Nat.lt_of_lt_of_le (Array.getElem?_eq_some_iff.1 AN).1 geV)
       have Tv:V≠Fp:=Nat.ne_of_gt (Nat.lt_of_lt_of_le (Array.getElem?_eq_some_iff.1 AU).1 geV)
       have lo_V:w.heap.size≤V:=Nat.le_trans HG.size geV
       replace AK:=AC g26 AK
       replace AN:=AC g26 AN
       replace AU:=AC g26 AU
       replace hr:=hr.kn g26
       replace HG:=AA HG g26
       have ap_rt_ow:=rt.2.own ow (by decide)
       have Cp:Sv 78 [] [(17,_),(18,_),(19,_),(20,_),(12,_),(13,_),(14,_),(15,_),(8,_),(9,_),(10,_),(5,_),(4,_),(3,_),(2,_),(0,_),(1,_),(25,_),(32,_)] a26:=⟨hn26,hd26,e26_17,e26_18,e26_19,e26_20,e26_12,e26_13,e26_14,e26_15,e26_8,e26_9,e26_10,e26_5,e26_4,e26_3,e26_2,e26_0,e26_1,e26_25q,e26_32q,ALg⟩
       refine GV Xd Cp rfl rfl rfl rfl rfl rfl rfl rfl ow (AGo HV) (List.all_eq_true.2 (Im y)) (by omega) fun a27 aoX capX w27 ox Bh GF=>?_
       have Iv:∀k,BM (.slice aoX (ks.length+1) capX) k→k≠CO:=fun k hk=>(Bh.2 k hk).elim (Gz k) (fun h=>Nat.ne_of_gt (Nat.lt_of_lt_of_le (Array.getElem?_eq_some_iff.1 AK).1 h))
       have Iw:∀k,BM (.slice aoX (ks.length+1) capX) k→k≠CG:=fun k hk=>(Bh.2 k hk).elim (QV k) (fun h=>Nat.ne_of_gt (Nat.lt_of_lt_of_le (Array.getElem?_eq_some_iff.1 AN).1 h))
       have Fs:∀k,BM (.slice aoX (ks.length+1) capX) k→k≠Fp:=fun k hk=>(Bh.2 k hk).elim (G0 k) (fun h=>Nat.ne_of_gt (Nat.lt_of_lt_of_le (Array.getElem?_eq_some_iff.1 AU).1 h))
       have ap_hr_ox:∀k,Kv (.slice ao ks.length cap) ks k→¬BM (.slice aoX (ks.length+1) capX) k:=fun k hk hx=>(Bh.2 k hx).elim (ap_hr_ow k hk) (fun h=>absurd (hr.lt k hk) (Nat.not_lt.2 h))
       have ap_rt_ox:∀k,Mv (VK.s y) k→¬BM (.slice aoX (ks.length+1) capX) k:=fun k hk hx=>(Bh.2 k hx).elim (ap_rt_ow k hk) (fun h=>absurd (rt.lt k hk) (Nat.not_lt.2 h))
       have lo_ox:=Oz Bh.2 lo_ow HG
       replace AK:=AF Bh.1 AK (fun e=>Gz _ e.symm rfl)
       replace AN:=AF Bh.1 AN (fun e=>QV _ e.symm rfl)
       replace AU:=AF Bh.1 AU (fun e=>G0 _ e.symm rfl)
       replace hr:=hr.offR Bh.1 (fun k hk e=>ap_hr_ow k hk (e))
       replace rt:=rt.offR Bh.1 (fun k hk e=>ap_rt_ow k hk (e))
       replace HG:=Br HG Bh.1 fun k e=>lo_ow k (e)
       rw[AGn] at ox
       refine AX (v:=.slice aoX (ks.length+1) capX) GF r6 fun a28 Dp=>?_
       refine AE ?_
       have kr:=KsR.snoc hr.2 rt.1
       have Fq:∀k,D5 (ks++[y]) k→k≠CO:=fun k hk=>(Jp hk).elim (fun h=>AAM k (.inr h)) (KP k)
       have Mo:∀k,D5 (ks++[y]) k→k≠CG:=fun k hk=>(Jp hk).elim (fun h=>AAN k (.inr h)) (AAO k)
       have Eb:∀k,D5 (ks++[y]) k→k≠Fp:=fun k hk=>(Jp hk).elim (fun h=>CI k (.inr h)) (Iu k)
       have ap_kr_ox:∀k,D5 (ks++[y]) k→¬BM (.slice aoX (ks.length+1) capX) k:=fun k hk=>(Jp hk).elim (fun h=>ap_hr_ox k (.inr h)) (ap_rt_ox k)
       refine k25 _ _ ?_
       refine ALa fun K29 k29=>?_
       refine ALa fun K30 k30=>?_
       refine ALZ ?_
       refine AH Dp 3 [(34,.slice aoX (ks.length+1) capX),(35,.int .i64 (((ks.length+1):Nat))),(36,.int .i64 ((ks.length:Int)))]
         ⟨ym r5,BI (Tryz.underlying34) rfl rfl trivial (oy rfl rfl) (fun _=>rfl),Cm r6 (fun _=>Fa (by rw[BG (by omega) (by omega)];omega)),ALg⟩ fun a31 w31 g31 Hv=>?_
       refine AX (v:=.int .i64 ((ks.length:Int))) Hv r6 fun a32 Ci=>?_
       refine AE ?_
       refine k30 _ _ ?_
       refine A8 fun Q33 x33 y33 r33 o33=>?_
       replace AK:=AC g31 AK
       replace AN:=AC g31 AN
       replace AU:=AC g31 AU
       replace hr:=hr.kn g31
       replace rt:=rt.kn g31
       replace ox:=ox.kn g31
       replace kr:=kr.kn g31
       replace HG:=AA HG g31
       have hput0:(ks++[y]).map VK.p=Hx (ks.map VK.p) ks.length (o,T):=by rw[show ks.length=(ks.map VK.p).length from hmap.symm,ACo,List.map_append];simp[VK.p,hyo,hyl]
       refine wp_loop (fun a w'=>∃(q:Nat) (ms:List VK),(q≤ks.length)∧(ms.map VK.p=Hx (ks.map VK.p) q (o,T))∧(ms.length=ks.length+1)∧(∀j,q≤j→j<ks.length→Ea o (od (ks.map VK.p) j)=true)∧(∀b,D5 ms b→D5 ks b∨Mv y.s b)∧Sv 78 [] [(7,.int .i64 ((q:Int))),(34,.slice aoX (ks.length+1) capX),(35,.int .i64 (((ks.length+1):Nat))),(36,.int .i64 ((ks.length:Int))),(6,.slice aoX (ks.length+1) capX),(33,.slice aoX (ks.length+1) capX),(17,pk CO 64),(18,.slice ao ks.length cap),(19,.int .i64 ((ks.length:Nat))),(20,.bool false),(12,Aw sa po (.slice ao ks.length cap)),(13,AO o),(14,.int .i64 ((-1))),(15,.bool false),(8,Aw sa po (.slice ao ks.length cap)),(9,.bool true),(10,.bool false),(5,.int .i64 0),(4,pt Fp),(3,pt CG),(2,pt CO),(0,Aw sa po (.slice ao ks.length cap)),(1,AO o),(25,.slice aoW ks.length capW),(32,.slice ((some ⟨V,0,none⟩)) 1 1)] a∧w.grownBy w' none∧w'.heap[CO]?=some (.cells ([bv sa,bv po,[.slice ao ks.length cap]].flatten).toArray 36 (0,0))∧w'.heap[CG]?=some (.cells (bv o).toArray 23 (0,0))∧w'.heap[Fp]?=some (.cells (([bv AM,bv AM,[.slice none 0 0]].flatten)).toArray 36 (0,0))∧RdK w' (.slice ao ks.length cap) ks∧RdTg w' (VK.s y) y.l∧Own w' 58 33 (.slice aoX (ks.length+1) capX) ((ks.length+1)) (ms.flatMap Ak)∧KsR w' ms∧(∀k,BM (.slice aoX (ks.length+1) capX) k→k≠CO)∧(∀k,BM (.slice aoX (ks.length+1) capX) k→k≠CG)∧(∀k,BM (.slice aoX (ks.length+1) capX) k→k≠Fp)∧(∀k,Kv (.slice ao ks.length cap) ks k→¬BM (.slice aoX (ks.length+1) capX) k)∧(∀k,Mv (VK.s y) k→¬BM (.slice aoX (ks.length+1) capX) k)∧(∀k,D5 ms k→¬BM (.slice aoX (ks.length+1) capX) k)∧(∀k,BM (.slice aoX (ks.length+1) capX) k→w.heap.size≤k)∧(∀k,D5 ms k→k≠CO)∧(∀k,D5 ms k→k≠CG)∧(∀k,D5 ms k→k≠Fp)) (fun a _=>(intOf (a.tmps.getD 7 undef)).toNat) ⟨ks.length,ks++[y],Nat.le_refl _,hput0,by simp,fun j h1 h2=>by omega,fun b h=>Jp h,⟨Ci.1,Ci.2.1,Ci.2.2.1,Ci.2.2.2.1,Ci.2.2.2.2.1,Ci.2.2.2.2.2.1,Ci.2.2.2.2.2.2.1,Ci.2.2.2.2.2.2.2.1,(AG Ci).1,(AG Ci).2.1,(AG Ci).2.2.1,(AG Ci).2.2.2.1,(AG Ci).2.2.2.2.1,(AG Ci).2.2.2.2.2.1,(AG Ci).2.2.2.2.2.2.1,(AG Ci).2.2.2.2.2.2.2.1,(AG (AG Ci)).1,(AG (AG Ci)).2.1,(AG (AG Ci)).2.2.1,(AG (AG Ci)).2.2.2.1,(AG (AG Ci)).2.2.2.2.1,(AG (AG Ci)).2.2.2.2.2.1,(AG (AG Ci)).2.2.2.2.2.2.1,(AG (AG Ci)).2.2.2.2.2.2.2.1,(AG (AG (AG Ci))).1,(AG (AG (AG Ci))).2.1,(AG (AG (AG Ci))).2.2.1,ALg⟩,HG,AK,AN,AU,hr,rt,ox,kr,Iv,Iw,Fs,ap_hr_ox,ap_rt_ox,ap_kr_ox,lo_ox,Fq,Mo,Eb⟩ fun a34 w34 hI34=>?_
       clear AK
       clear AN
       clear AU
       clear hr
       clear rt
       clear ox
       clear kr
       clear HG
       obtain⟨q,ms,hkn,hput,hml,haft,hfp,Hw,HG,AK,AN,AU,hr,rt,ox,kr,Iv,Iw,Fs,ap_hr_ox,ap_rt_ox,ap_kr_ox,lo_ox,Fq,Mo,Eb⟩:=hI34
       refine ALa fun K35 k35=>?_
       refine ALa fun K36 k36=>?_
       have hkm:q<ms.length:=by omega
       have hkm1:q-1<ms.length:=by omega
       obtain⟨a1,LQ⟩:∃x,ms[q]'hkm=x:=⟨_,rfl⟩
       obtain⟨b1,Ki⟩:∃x,ms[(q-1)]'hkm1=x:=⟨_,rfl⟩
       have hao:=AJp hput (by omega) hkm LQ
       rcases(show q=0∨(0<q∧Ea a1.o b1.o=true)∨(0<q∧Ea a1.o b1.o=false) by rcases Nat.eq_zero_or_pos q with h|h<;>cases Ea a1.o b1.o<;>simp[h]) with hk0|⟨hk0,hc⟩|⟨hk0,hc⟩
       · have hpos:=Xq hs hf (by omega) (fun j h1 h2=>haft j h1 (by omega)) (.inl hk0)
         refine DK Hw [(37,.int .i64 ((q:Int))),(38,.bool false),(39,.bool false),(40,undef),(41,undef),(42,undef),(43,undef),(44,undef),(45,undef),(46,undef),(47,undef),(48,undef),(49,undef),(50,undef),(51,undef),(52,.bool false)]
          ⟨ym r5,Cm r6 (fun _=>C4 (decide_eq_false (by omega))),ym r5,AS r6,AS r6,AS r6,AS r6,AS r6,AS r6,AS r6,AS r6,AS r6,AS r6,AS r6,AS r6,BQ r7,ALg⟩ fun a37 w37 g37 Gx=>?_
         refine k36 _ _ ?_
         refine A1 Gx rfl rfl ?_
         refine wp_exit ?_
         repeat refine Bo ?_
         refine x33 _ _ ?_
         refine k29 _ _ ?_
         refine ALa fun K38 k38=>?_
         replace AK:=AC g37 AK
         replace AN:=AC g37 AN
         replace AU:=AC g37 AU
         refine DM (Gx.st w37) (by kernel_rfl) 7 [(71,Sp.is (pt CO)),(72,Sp.is (AO sa)),(73,Sp.is (pk CO 32)),(74,Sp.is (AO po)),(75,Sp.is (AO ((kd 276 po)))),(76,Sp.is (.slice aoX (ks.length+1) capX)),(77,Sp.is (Aw sa ((kd 276 po)) (.slice aoX (ks.length+1) capX)))] rfl (by kernel_rfl) (by kernel_rfl) (by kernel_rfl) [] (by kernel_rfl)
          ⟨yf r6 (fun _=>by kernel_rfl),yp (i:=0) r6 (BV sa hsa.1) AK rfl rfl,yf r6 (fun _=>by kernel_rfl),yp (i:=1) r6 (BV po hpo.1) AK rfl (by simp[AL,AZ,hsa.1,hpo.1]),Ae [.int .u64 276,AO po,.slice none 0 0] Tryz.func35 (by kernel_rfl) rq4 ⟨rfl,(oy rfl rfl),rfl,ALg⟩ (Au fun W g=>Jn (n:=276) (by decide) rfl hpo W),ym r5,BR (vs:=[AO sa,AO ((kd 276 po)),.slice aoX (ks.length+1) capX]) rfl rfl trivial ⟨(oy rfl rfl),(oy rfl rfl),(oy rfl rfl),ALg⟩ (fun _=>bV3 hsa (Be _ _) _ _ _ _) (fun _=>rfl),ALg⟩ trivial
          [] (by kernel_rfl) trivial ⟨.inl rfl,.inl rfl,.inl rfl,.inl rfl,.inl rfl,.inl rfl,.inl rfl,ALg⟩ (by kernel_rfl) fun a39 w39 g39 st39 nd39=>?_
         obtain⟨hn39,hd39,e39_71,e39_72,e39_73,e39_74,e39_75,e39_76,e39_77,e39_37,e39_38,e39_39,e39_40,e39_41,e39_42,e39_43,e39_44,e39_45,e39_46,e39_47,e39_48,e39_49,e39_50,e39_51,e39_52,e39_7,e39_34,e39_35,e39_36,e39_6,e39_33,e39_17,e39_18,e39_19,e39_20,e39_12,e39_13,e39_14,e39_15,e39_8,e39_9,e39_10,e39_5,e39_4,e39_3,e39_2,e39_0,e39_1,e39_25,e39_32,-⟩:=st39
         have Jl:Sv 78 [] [(37,_),(38,_),(39,_),(40,_),(41,_),(42,_),(43,_),(44,_),(45,_),(46,_),(47,_),(48,_),(49,_),(50,_),(51,_),(52,_),(7,_),(34,_),(35,_),(36,_),(6,_),(33,_),(17,_),(18,_),(19,_),(20,_),(12,_),(13,_),(14,_),(15,_),(8,_),(9,_),(10,_),(5,_),(4,_),(3,_),(2,_),(0,_),(1,_),(25,_),(32,_),(77,_)] a39:=⟨hn39,hd39,e39_37,e39_38,e39_39,e39_40,e39_41,e39_42,e39_43,e39_44,e39_45,e39_46,e39_47,e39_48,e39_49,e39_50,e39_51,e39_52,e39_7,e39_34,e39_35,e39_36,e39_6,e39_33,e39_17,e39_18,e39_19,e39_20,e39_12,e39_13,e39_14,e39_15,e39_8,e39_9,e39_10,e39_5,e39_4,e39_3,e39_2,e39_0,e39_1,e39_25,e39_32,e39_77,ALg⟩
         refine As Jl r7 (Bq hsa (Be _ _) (.slice aoX (ks.length+1) capX) rfl) (AC g39 AU) (by first|rfl|simp[Ak,AL,AZ,hsa.1,(Be _ _).1]) fun w40 g40 h40=>?_
         replace AK:=Af g39 g40 AK (Ne.symm BT)
         replace AN:=Af g39 g40 AN (Ne.symm Bf)
         replace hr:=((hr.kn g37).kn g39).offR g40 (AR CI)
         replace rt:=((rt.kn g37).kn g39).offR g40 (AR Iu)
         replace ox:=((ox.kn g37).kn g39).offR g40 (AR Fs)
         replace kr:=((kr.kn g37).kn g39).offR g40 (AR Eb)
         replace HG:=AD (AA (AA HG g37) g39) g40 CL
         replace AU:=h40
         refine AX (v:=.int .i64 0) Jl r6 fun a41 N2=>?_
         refine AE ?_
         refine k38 _ _ ?_
         refine ALd ?_
         repeat refine AJ ?_
         refine Ar (fn:=Tryz.f39) N2 (DY (p:=4) (q:=5) Tryz.results39 N2 rfl rfl rfl rfl (Bq hsa (Be _ _) (.slice aoX (ks.length+1) capX) rfl) AU) ?_
         exact VRes.mk2 (P:=Me (ks.map VK.p) o T) (by unfold ME;rw[if_pos hv,if_neg (by rw[hf];simp),if_neg (by simpa using hfull)]) (by rw[M8,hpos];exact hput) ox kr (fun k hk=>(hfp k hk).elim (fun h=>.inl (.inr h)) (fun h=>.inr (rt.2 k h))) HG
       · have hbo:=AEj hput (by omega) hk0 hkm1 Ki
         have hc2:Ea o (od (ks.map VK.p) (q-1))=true:=by rw[←hao,←hbo];exact hc
         refine DK Hw [(37,.int .i64 ((q:Int))),(38,.bool true),(39,.bool true),(40,.slice aoX (ks.length+1) capX),(41,.int .i64 ((q:Int))),(42,pk ((bO aoX)) (oO aoX+q*33)),(43,pk ((bO aoX)) (oO aoX+q*33)),(44,AO a1.o),(45,.slice aoX (ks.length+1) capX),(46,.int .i64 ((q:Int))),(47,.int .i64 (((q-1:Nat):Int))),(48,pk ((bO aoX)) (oO aoX+(q-1)*33)),(49,pk ((bO aoX)) (oO aoX+(q-1)*33)),(50,AO b1.o),(51,.bool true),(52,.bool true)]
          ⟨ym r5,Cm r6 (fun _=>C4 (decide_eq_true (by omega))),ym r5,Aa rq8,Aa rq8,DE rfl rfl (gy rfl rfl rfl) (oy rfl rfl) (oy rfl rfl) (fun w=>B8 Tryz.underlying34 (by kernel_rfl) (Sl.of_own ox) (by omega) (rfl) w) (fun _=>rfl),BH rq9 (fun _=>by kernel_rfl),A2 rq9 (fun _ g=>Ab (BV a1.o a1.ho.1) (Lw (Sl.of_own (ox.kn g)) hkm LQ)),Aa rq8,Aa rq8,Ap rq9 (fun _=>Fa (by rw[BG (by omega) (by omega)];omega)),DE rfl rfl (gy rfl rfl rfl) (oy rfl rfl) (oy rfl rfl) (fun w=>B8 Tryz.underlying34 (by kernel_rfl) (Sl.of_own ox) (by omega) (rfl) w) (fun _=>rfl),BH rq9 (fun _=>by kernel_rfl),A2 rq9 (fun _ g=>Ab (BV b1.o b1.ho.1) (Lw (Sl.of_own (ox.kn g)) hkm1 Ki)),Bn [AO a1.o,AO b1.o] Tryz.func86 (by kernel_rfl) r7 ⟨(oy rfl rfl),(oy rfl rfl),ALg⟩ (Au fun W g=>AEl hc a1.ho b1.ho W),Ag rq9,ALg⟩ fun a42 w42 g42 GH=>?_
         refine k36 _ _ ?_
         refine Av GH rfl rfl ?_
         refine ALe ?_
         refine k35 _ _ ?_
         refine ALa fun K43 k43=>?_
         refine A8 fun Q44 x44 y44 r44 o44=>?_
         replace ox:=ox.kn g42
         refine DM (GH.st w42) (by kernel_rfl) 15 [(55,Sp.is (.slice aoX (ks.length+1) capX)),(56,Sp.is (.int .i64 ((q:Int)))),(57,Sp.is (.int .i64 (((q-1:Nat):Int)))),(58,Sp.is (.slice aoX (ks.length+1) capX)),(59,Sp.is (.int .i64 ((q:Int)))),(60,Sp.is (.slice aoX (ks.length+1) capX)),(61,Sp.is (.int .i64 ((q:Int)))),(62,Sp.is (pk ((bO aoX)) (oO aoX+q*33))),(63,Sp.is (IE a1)),(64,Sp.is (.slice aoX (ks.length+1) capX)),(65,Sp.is (.int .i64 ((q:Int)))),(66,Sp.is (.int .i64 (((q-1:Nat):Int)))),(67,Sp.is (pk ((bO aoX)) (oO aoX+(q-1)*33))),(68,Sp.is (IE b1)),(69,Sp.is (pk ((bO aoX)) (oO aoX+(q-1)*33)))] rfl (by kernel_rfl) (by kernel_rfl) (by kernel_rfl) [3,4] (by kernel_rfl)
          ⟨ym r5,ym r5,Cm r6 (fun _=>Fa (by rw[BG (by omega) (by omega)];omega)),ym r5,ym r5,ym r5,ym r5,BA rq8 (fun w=>B8 Tryz.underlying34 (by kernel_rfl) (Sl.of_own ox) (by omega) (rfl) w),Bc r6 (fun _ g=>Ab (Uq a1) (AAA (Sl.of_own (ox.kn g)) hkm LQ)),ym r5,ym r5,Cm r6 (fun _=>Fa (by rw[BG (by omega) (by omega)];omega)),BA rq8 (fun w=>B8 Tryz.underlying34 (by kernel_rfl) (Sl.of_own ox) (by omega) (rfl) w),Bc r6 (fun _ g=>Ab (Uq b1) (AAA (Sl.of_own (ox.kn g)) hkm1 Ki)),BA rq8 (fun w=>B8 Tryz.underlying34 (by kernel_rfl) (Sl.of_own ox) (by omega) (rfl) w),ALg⟩ ⟨fun o ho=>by obtain rfl:=Option.some.inj ho;exact GR 6 58 (.inl rfl) rfl rfl trivial (fun _ _ h=>h),fun o ho=>by obtain rfl:=Option.some.inj ho;exact GR 7 59 (.inl rfl) rfl rfl trivial (fun _ _ h=>h),ALg⟩
          [] (by kernel_rfl) trivial ⟨.inl rfl,.inl rfl,.inl rfl,.inl rfl,.inl rfl,.inl rfl,.inl rfl,.inl rfl,.inl rfl,.inl rfl,.inl rfl,.inl rfl,.inl rfl,.inl rfl,.inl rfl,ALg⟩ (by kernel_rfl) fun a45 w45 g45 st45 nd45=>?_
         obtain⟨hn45,hd45,e45_55,e45_56,e45_57,e45_58,e45_59,e45_60,e45_61,e45_62,e45_63,e45_64,e45_65,e45_66,e45_67,e45_68,e45_69,e45_37,e45_38,e45_39,e45_40,e45_41,e45_42,e45_43,e45_44,e45_45,e45_46,e45_47,e45_48,e45_49,e45_50,e45_51,e45_52,e45_7,e45_34,e45_35,e45_36,e45_6,e45_33,e45_17,e45_18,e45_19,e45_20,e45_12,e45_13,e45_14,e45_15,e45_8,e45_9,e45_10,e45_5,e45_4,e45_3,e45_2,e45_0,e45_1,e45_25,e45_32,-⟩:=st45
         have Ep:Sv 78 [] [(37,_),(38,_),(39,_),(40,_),(41,_),(42,_),(43,_),(44,_),(45,_),(46,_),(47,_),(48,_),(49,_),(50,_),(51,_),(52,_),(7,_),(34,_),(35,_),(36,_),(6,_),(33,_),(17,_),(18,_),(19,_),(20,_),(12,_),(13,_),(14,_),(15,_),(8,_),(9,_),(10,_),(5,_),(4,_),(3,_),(2,_),(0,_),(1,_),(25,_),(32,_),(58,_),(59,_),(63,_),(68,_),(69,_)] a45:=⟨hn45,hd45,e45_37,e45_38,e45_39,e45_40,e45_41,e45_42,e45_43,e45_44,e45_45,e45_46,e45_47,e45_48,e45_49,e45_50,e45_51,e45_52,e45_7,e45_34,e45_35,e45_36,e45_6,e45_33,e45_17,e45_18,e45_19,e45_20,e45_12,e45_13,e45_14,e45_15,e45_8,e45_9,e45_10,e45_5,e45_4,e45_3,e45_2,e45_0,e45_1,e45_25,e45_32,e45_58,e45_59,e45_63,e45_68,e45_69,ALg⟩
         replace ox:=ox.kn g45
         refine J9 (c:=Ak) (el:=a1) Ep rfl rfl rfl rfl rfl rfl rfl (Uq a1) ox DZ (by decide) (by first|omega|(simp only[List.length_set];omega)) rfl fun w46 g46 h46=>?_
         replace AK:=AF g46 (AC g45 (AC g42 AK)) (fun e=>Iv _ (Dl (j:=(q-1)) ox (by omega) rfl) (Option.some.inj e).symm)
         replace AN:=AF g46 (AC g45 (AC g42 AN)) (fun e=>Iw _ (Dl (j:=(q-1)) ox (by omega) rfl) (Option.some.inj e).symm)
         replace AU:=AF g46 (AC g45 (AC g42 AU)) (fun e=>Fs _ (Dl (j:=(q-1)) ox (by omega) rfl) (Option.some.inj e).symm)
         replace hr:=((hr.kn g42).kn g45).offR g46 (fun k hk e=>ap_hr_ox k hk (Dl (j:=(q-1)) ox (by omega) e))
         replace rt:=((rt.kn g42).kn g45).offR g46 (fun k hk e=>ap_rt_ox k hk (Dl (j:=(q-1)) ox (by omega) e))
         replace kr:=((kr.kn g42).kn g45).offR g46 (fun k hk e=>ap_kr_ox k hk (Dl (j:=(q-1)) ox (by omega) e))
         replace HG:=Br (AA (AA HG g42) g45) g46 fun k e=>lo_ox k (Dl (j:=(q-1)) ox (by omega) e)
         replace ox:=h46
         refine AH Ep 1 [(70,pk ((bO aoX)) (oO aoX+q*33))]
          ⟨BA rq8 (fun w=>B8 Tryz.underlying34 (by kernel_rfl) (Sl.of_own ox) (by omega) (rfl) w),ALg⟩ fun a47 w47 g47 Kq=>?_
         replace ox:=ox.kn g47
         refine J9 (c:=Ak) (el:=b1) Kq rfl rfl rfl rfl rfl rfl rfl (Uq b1) ox DZ (by decide) (by first|omega|(simp only[List.length_set];omega)) rfl fun w48 g48 h48=>?_
         replace AK:=AF g48 (AC g47 AK) (fun e=>Iv _ (Dl (j:=q) ox (by omega) rfl) (Option.some.inj e).symm)
         replace AN:=AF g48 (AC g47 AN) (fun e=>Iw _ (Dl (j:=q) ox (by omega) rfl) (Option.some.inj e).symm)
         replace AU:=AF g48 (AC g47 AU) (fun e=>Fs _ (Dl (j:=q) ox (by omega) rfl) (Option.some.inj e).symm)
         replace hr:=(hr.kn g47).offR g48 (fun k hk e=>ap_hr_ox k hk (Dl (j:=q) ox (by omega) e))
         replace rt:=(rt.kn g47).offR g48 (fun k hk e=>ap_rt_ox k hk (Dl (j:=q) ox (by omega) e))
         replace kr:=(kr.kn g47).offR g48 (fun k hk e=>ap_kr_ox k hk (Dl (j:=q) ox (by omega) e))
         replace HG:=Br (AA HG g47) g48 fun k e=>lo_ox k (Dl (j:=q) ox (by omega) e)
         have ES:Sv _ _ [_,_,_,_,_,_,_,_,_,_,_,_,_,_,_,_,_,_,_,_,_,_,_,_,_,_,_,_,_,_,_,_,_,_,_,_,_,_,_,_,_] _:=Kq.dl [70,58,59,63,68,69]
         refine AE ?_
         have kr2:=kr.sub (ns:=(ms.set (q-1) a1).set q b1) fun x hx=>Lx hkm hkm1 LQ Ki hx
         have Xr:∀k,D5 ((ms.set (q-1) a1).set q b1) k→k≠CO:=fun k hk=>Fq k (LP (fun x hx=>Lx hkm hkm1 LQ Ki hx) hk)
         have Xs:∀k,D5 ((ms.set (q-1) a1).set q b1) k→k≠CG:=fun k hk=>Mo k (LP (fun x hx=>Lx hkm hkm1 LQ Ki hx) hk)
         have Xt:∀k,D5 ((ms.set (q-1) a1).set q b1) k→k≠Fp:=fun k hk=>Eb k (LP (fun x hx=>Lx hkm hkm1 LQ Ki hx) hk)
         have ap_kr2_ox:∀k,D5 ((ms.set (q-1) a1).set q b1) k→¬BM (.slice aoX (ks.length+1) capX) k:=fun k hk=>ap_kr_ox k (LP (fun x hx=>Lx hkm hkm1 LQ Ki hx) hk)
         refine y44 _ _ ?_
         refine k43 _ _ ?_
         refine ALZ ?_
         refine AH ES 2 [(53,.int .i64 ((q:Int))),(54,.int .i64 (((q-1:Nat):Int)))]
          ⟨ym r5,Cm r6 (fun _=>Fa (by rw[BG (by omega) (by omega)];omega)),ALg⟩ fun a50 w50 g50 PA=>?_
         refine AX (v:=.int .i64 (((q-1:Nat):Int))) PA r6 fun a51 FJ=>?_
         refine AE ?_
         replace AK:=AC g50 AK
         replace AN:=AC g50 AN
         replace AU:=AC g50 AU
         replace hr:=hr.kn g50
         replace rt:=rt.kn g50
         replace ox:=h48.kn g50
         replace kr2:=kr2.kn g50
         replace HG:=AA HG g50
         exact⟨⟨q-1,(ms.set (q-1) a1).set q b1,by omega,AEk hput (by omega) hk0 hkm hkm1 LQ Ki,by rw[List.length_set,List.length_set];exact hml,fun j h1 h2=>if e:j=q-1 then e▸hc2 else haft j (by omega) h2,fun b h=>hfp b (LP (fun x hx=>Lx hkm hkm1 LQ Ki hx) h),⟨FJ.1,FJ.2.1,FJ.2.2.1,(AG (AG FJ)).2.2.2.2.2.1,(AG (AG FJ)).2.2.2.2.2.2.1,(AG (AG FJ)).2.2.2.2.2.2.2.1,(AG (AG (AG FJ))).1,(AG (AG (AG FJ))).2.1,(AG (AG (AG FJ))).2.2.1,(AG (AG (AG FJ))).2.2.2.1,(AG (AG (AG FJ))).2.2.2.2.1,(AG (AG (AG FJ))).2.2.2.2.2.1,(AG (AG (AG FJ))).2.2.2.2.2.2.1,(AG (AG (AG FJ))).2.2.2.2.2.2.2.1,(AG (AG (AG (AG FJ)))).1,(AG (AG (AG (AG FJ)))).2.1,(AG (AG (AG (AG FJ)))).2.2.1,(AG (AG (AG (AG FJ)))).2.2.2.1,(AG (AG (AG (AG FJ)))).2.2.2.2.1,(AG (AG (AG (AG FJ)))).2.2.2.2.2.1,(AG (AG (AG (AG FJ)))).2.2.2.2.2.2.1,(AG (AG (AG (AG FJ)))).2.2.2.2.2.2.2.1,(AG (AG (AG (AG (AG FJ))))).1,(AG (AG (AG (AG (AG FJ))))).2.1,(AG (AG (AG (AG (AG FJ))))).2.2.1,(AG (AG (AG (AG (AG FJ))))).2.2.2.1,(AG (AG (AG (AG (AG FJ))))).2.2.2.2.1,ALg⟩,HG,AK,AN,AU,hr,rt,ox,kr2,Iv,Iw,Fs,ap_hr_ox,ap_rt_ox,ap_kr2_ox,lo_ox,Xr,Xs,Xt⟩,by rw[show _=_ from FJ.2.2.1,show _=_ from Hw.2.2.1];simp[intOf];omega⟩
       · have hbo:=AEj hput (by omega) hk0 hkm1 Ki
         have hpos:=Xq hs hf (by omega) (fun j h1 h2=>haft j h1 (by omega)) (.inr (by rw[←hao,←hbo];exact hc))
         refine DK Hw [(37,.int .i64 ((q:Int))),(38,.bool true),(39,.bool true),(40,.slice aoX (ks.length+1) capX),(41,.int .i64 ((q:Int))),(42,pk ((bO aoX)) (oO aoX+q*33)),(43,pk ((bO aoX)) (oO aoX+q*33)),(44,AO a1.o),(45,.slice aoX (ks.length+1) capX),(46,.int .i64 ((q:Int))),(47,.int .i64 (((q-1:Nat):Int))),(48,pk ((bO aoX)) (oO aoX+(q-1)*33)),(49,pk ((bO aoX)) (oO aoX+(q-1)*33)),(50,AO b1.o),(51,.bool false),(52,.bool false)]
          ⟨ym r5,Cm r6 (fun _=>C4 (decide_eq_true (by omega))),ym r5,Aa rq8,Aa rq8,DE rfl rfl (gy rfl rfl rfl) (oy rfl rfl) (oy rfl rfl) (fun w=>B8 Tryz.underlying34 (by kernel_rfl) (Sl.of_own ox) (by omega) (rfl) w) (fun _=>rfl),BH rq9 (fun _=>by kernel_rfl),A2 rq9 (fun _ g=>Ab (BV a1.o a1.ho.1) (Lw (Sl.of_own (ox.kn g)) hkm LQ)),Aa rq8,Aa rq8,Ap rq9 (fun _=>Fa (by rw[BG (by omega) (by omega)];omega)),DE rfl rfl (gy rfl rfl rfl) (oy rfl rfl) (oy rfl rfl) (fun w=>B8 Tryz.underlying34 (by kernel_rfl) (Sl.of_own ox) (by omega) (rfl) w) (fun _=>rfl),BH rq9 (fun _=>by kernel_rfl),A2 rq9 (fun _ g=>Ab (BV b1.o b1.ho.1) (Lw (Sl.of_own (ox.kn g)) hkm1 Ki)),Bn [AO a1.o,AO b1.o] Tryz.func86 (by kernel_rfl) r7 ⟨(oy rfl rfl),(oy rfl rfl),ALg⟩ (Au fun W g=>AEl hc a1.ho b1.ho W),Ag rq9,ALg⟩ fun a52 w52 g52 O9=>?_
         refine k36 _ _ ?_
         refine A1 O9 rfl rfl ?_
         refine wp_exit ?_
         repeat refine Bo ?_
         refine x33 _ _ ?_
         refine k29 _ _ ?_
         refine ALa fun K53 k53=>?_
         replace AK:=AC g52 AK
         replace AN:=AC g52 AN
         replace AU:=AC g52 AU
         refine DM (O9.st w52) (by kernel_rfl) 7 [(71,Sp.is (pt CO)),(72,Sp.is (AO sa)),(73,Sp.is (pk CO 32)),(74,Sp.is (AO po)),(75,Sp.is (AO ((kd 276 po)))),(76,Sp.is (.slice aoX (ks.length+1) capX)),(77,Sp.is (Aw sa ((kd 276 po)) (.slice aoX (ks.length+1) capX)))] rfl (by kernel_rfl) (by kernel_rfl) (by kernel_rfl) [] (by kernel_rfl)
          ⟨yf r6 (fun _=>by kernel_rfl),yp (i:=0) r6 (BV sa hsa.1) AK rfl rfl,yf r6 (fun _=>by kernel_rfl),yp (i:=1) r6 (BV po hpo.1) AK rfl (by simp[AL,AZ,hsa.1,hpo.1]),Ae [.int .u64 276,AO po,.slice none 0 0] Tryz.func35 (by kernel_rfl) rq4 ⟨rfl,(oy rfl rfl),rfl,ALg⟩ (Au fun W g=>Jn (n:=276) (by decide) rfl hpo W),ym r5,BR (vs:=[AO sa,AO ((kd 276 po)),.slice aoX (ks.length+1) capX]) rfl rfl trivial ⟨(oy rfl rfl),(oy rfl rfl),(oy rfl rfl),ALg⟩ (fun _=>bV3 hsa (Be _ _) _ _ _ _) (fun _=>rfl),ALg⟩ trivial
          [] (by kernel_rfl) trivial ⟨.inl rfl,.inl rfl,.inl rfl,.inl rfl,.inl rfl,.inl rfl,.inl rfl,ALg⟩ (by kernel_rfl) fun a54 w54 g54 st54 nd54=>?_
         obtain⟨hn54,hd54,e54_71,e54_72,e54_73,e54_74,e54_75,e54_76,e54_77,e54_37,e54_38,e54_39,e54_40,e54_41,e54_42,e54_43,e54_44,e54_45,e54_46,e54_47,e54_48,e54_49,e54_50,e54_51,e54_52,e54_7,e54_34,e54_35,e54_36,e54_6,e54_33,e54_17,e54_18,e54_19,e54_20,e54_12,e54_13,e54_14,e54_15,e54_8,e54_9,e54_10,e54_5,e54_4,e54_3,e54_2,e54_0,e54_1,e54_25,e54_32,-⟩:=st54
         have N9:Sv 78 [] [(37,_),(38,_),(39,_),(40,_),(41,_),(42,_),(43,_),(44,_),(45,_),(46,_),(47,_),(48,_),(49,_),(50,_),(51,_),(52,_),(7,_),(34,_),(35,_),(36,_),(6,_),(33,_),(17,_),(18,_),(19,_),(20,_),(12,_),(13,_),(14,_),(15,_),(8,_),(9,_),(10,_),(5,_),(4,_),(3,_),(2,_),(0,_),(1,_),(25,_),(32,_),(77,_)] a54:=⟨hn54,hd54,e54_37,e54_38,e54_39,e54_40,e54_41,e54_42,e54_43,e54_44,e54_45,e54_46,e54_47,e54_48,e54_49,e54_50,e54_51,e54_52,e54_7,e54_34,e54_35,e54_36,e54_6,e54_33,e54_17,e54_18,e54_19,e54_20,e54_12,e54_13,e54_14,e54_15,e54_8,e54_9,e54_10,e54_5,e54_4,e54_3,e54_2,e54_0,e54_1,e54_25,e54_32,e54_77,ALg⟩
         refine As N9 r7 (Bq hsa (Be _ _) (.slice aoX (ks.length+1) capX) rfl) (AC g54 AU) (by first|rfl|simp[Ak,AL,AZ,hsa.1,(Be _ _).1]) fun w55 g55 h55=>?_
         replace AK:=Af g54 g55 AK (Ne.symm BT)
         replace AN:=Af g54 g55 AN (Ne.symm Bf)
         replace hr:=((hr.kn g52).kn g54).offR g55 (AR CI)
         replace rt:=((rt.kn g52).kn g54).offR g55 (AR Iu)
         replace ox:=((ox.kn g52).kn g54).offR g55 (AR Fs)
         replace kr:=((kr.kn g52).kn g54).offR g55 (AR Eb)
         replace HG:=AD (AA (AA HG g52) g54) g55 CL
         replace AU:=h55
         refine AX (v:=.int .i64 0) N9 r6 fun a56 SC=>?_
         refine AE ?_
         refine k53 _ _ ?_
         refine ALd ?_
         repeat refine AJ ?_
         refine Ar (fn:=Tryz.f39) SC (DY (p:=4) (q:=5) Tryz.results39 SC rfl rfl rfl rfl (Bq hsa (Be _ _) (.slice aoX (ks.length+1) capX) rfl) AU) ?_
         exact VRes.mk2 (P:=Me (ks.map VK.p) o T) (by unfold ME;rw[if_pos hv,if_neg (by rw[hf];simp),if_neg (by simpa using hfull)]) (by rw[M8,hpos];exact hput) ox kr (fun k hk=>(hfp k hk).elim (fun h=>.inl (.inr h)) (fun h=>.inr (rt.2 k h))) HG
   · refine ALZ ?_
     refine AH Cl 4 [(12,Aw sa po (.slice ao ks.length cap)),(13,AO o),(14,.int .i64 ((i:Int))),(15,.bool true)]
       ⟨yl r6 (Bq hsa hpo (.slice ao ks.length cap) rfl) AK,yl r6 (BV o ho.1) AN,Ae [Aw sa po (.slice ao ks.length cap),AO o] Tryz.func84 (by kernel_rfl) rq4 ⟨(oy rfl rfl),(oy rfl rfl),ALg⟩ (Au fun W g=>AGi hsa hpo ho (hr.kn g) hv (AEa hf hi)),Cm r6 (fun _=>DG (decide_eq_true (by omega))),ALg⟩ fun a57 w57 g57 AAP=>?_
     refine AE ?_
     refine k15 _ _ ?_
     refine Av AAP rfl rfl ?_
     refine ALa fun K58 k58=>?_
     refine ALZ ?_
     refine AH AAP 1 [(16,Aw sa po (.slice ao ks.length cap))]
       ⟨yl r6 (Bq hsa hpo (.slice ao ks.length cap) rfl) (AC g57 AK),ALg⟩ fun a59 w59 g59 Er=>?_
     have NH:=AA g57 g59
     refine As Er r7 (Bq hsa hpo (.slice ao ks.length cap) rfl) (AC NH AU) (by first|rfl|simp[Ak,AL,AZ,hsa.1,hpo.1]) fun w60 g60 h60=>?_
     replace hr:=(hr.kn NH).offR g60 (AR CI)
     replace HG:=AD (AA HG NH) g60 CL
     replace AU:=h60
     refine AX (v:=.int .i64 0) Er r6 fun a61 OA=>?_
     refine AE ?_
     refine k58 _ _ ?_
     refine ALd ?_
     repeat refine AJ ?_
     refine Ar (fn:=Tryz.f39) OA (DY (p:=4) (q:=5) Tryz.results39 OA rfl rfl rfl rfl (Bq hsa hpo (.slice ao ks.length cap) rfl) AU) ?_
     exact VRes.same (P:=ks.map VK.p) (by unfold ME;rw[if_pos hv,if_pos hf]) rfl hr (fun k hk=>hk) HG
end Go.Proofs.YtbfjfnbcmojpiaaGreat
namespace Go.Proofs.YtbfjfnbcmojpiaaGreat
open Go.RowKit
section
variable {P:Program} {ops:Array Oper} {S:World→Prop} {Kt:Act→Prop} {o:Oper} {r:List Oper} {a:Act} {n:Nat} {D:List Deferred} {K:List (Nat×Value)}
theorem Pd (sv:Sv n D K a) (hgd:o.guard=none) {T:TypeId} {x:Operand} {d:Nat} {p v:Value} (ho:o.op=.load T x) (hd:o.dst=some d) (hdn:decide (d<n)=true) (hx:Mg K x=true∧Mh K x=p) (hr:∀w,S w→(Instr.loadAt T p).run P w=.ok v w)
  (h:∀a',Sv n D ((d,v)::JU d K) a'→IA P ops S Kt r a'):IA P ops S Kt (o::r) a:=
 ACJ hgd T x ho (sv.ev hx.1 hx.2) hr (by rw[hd];exact h _ (sv.put (of_decide_eq_true hdn) v))
theorem Kj (w0:World) (sv:Sv n D K a) {v:Value} {d:Nat} (hd:o.dst=some d) (hc:(decide (d<n)&&!(o.looksAt ops).contains d)=true) (hp:PX P ops (Rj ((d,Sp.is v)::QE K)) n w0 o)
  (h:∀a',Sv n D ((d,v)::JU d K) a'→IA P ops S Kt r a'):IA P ops S Kt (o::r) a:=by
 simp only[Bool.and_eq_true,decide_eq_true_eq,Bool.not_eq_true'] at hc
 obtain⟨u,hy,hu⟩:=hp a w0 (World.grownBy.refl _ _) (fun t ht htn=>by
  have hne:(Nat.beq d t)=false:=by
   cases e:Nat.beq d t with
   | false=>rfl
   | true =>
    have:=Nat.eq_of_beq_eq_true e
    subst this
    have h2:=hc.2
    rw[←Bool.not_eq_true,List.contains_iff_mem] at h2
    exact absurd ht h2
  have h1:=(sv.st w0).2.2.at t
  unfold Rj
  rw[hne]
  exact h1) sv.1
 have e:u=v:=by
  have:=hu d hd
  unfold Rj at this
  have hb:Nat.beq d d=true:=Nat.beq_refl d
  rw[hb] at this
  exact this
 subst e
 exact⟨_,hy.yieldsIf,by rw[hd];exact h _ (sv.put hc.1 _)⟩
end
end Go.Proofs.YtbfjfnbcmojpiaaGreat
namespace Go.Proofs.YtbfjfnbcmojpiaaGreat
open Go.RowKit Go.Shelf
theorem AIC (n:Nat):∀b∈TW n,b<256:=by
 induction n using Nat.strongRecOn with
 | _ n ih =>
  by_cases h:n<128
  · rw[Gm h];intro b hb;simp at hb;omega
  · rw[Jz h]
    intro b hb
    rcases List.mem_cons.1 hb with rfl|hb
    · omega
    · exact ih (n/128) (by omega) b hb
theorem MY (n:Int):∀b∈enc n,b<256:=AIC _
theorem AFz (s:ByteArray):∀b∈Pu s,b<256:=fun b hb=>by
 rcases List.mem_append.1 hb with h|h
 · exact MY _ b h
 · exact AHc s b h
theorem AF0 (v:V):∀b∈Nt v,b<256:=fun b hb=>by
 unfold Nt at hb
 rcases List.mem_append.1 hb with h|h
 · exact MY _ b h
 · split at h
   · exact MY _ b h
   · split at h
     · exact AFz _ b h
     · cases h
def vc (v:V):List Value:=[.int .i64 v.kind,.int .i64 v.int,.string v.text]
theorem ED (v:V):TY Tryz.prog 25 (vc v) (Bp v):=tyV v
theorem E8 (v:Value) (h:v.oneCell'=true):TY Tryz.prog 29 [v] v:=TY.one' Tryz.underlying29 rfl (by kernel_rfl) h
theorem Cq {w w':World} {v':Value} (h:Step w Np w' v'):w.grownBy w' none∧∀k,BM v' k→w.heap.size≤k:=⟨Step.none h,fun k hk=>(h.2 k hk).elim (fun h=>by simp[Np,Value.ownBlock] at h) id⟩
def NwR (w w':World) (xs:List Nat) (e:Ending):Prop:=∃v,e=.returned v∧w.grownBy w' none∧(Sp.row w.heap.size 5 1 xs.length (bv xs)).on w' v
end Go.Proofs.YtbfjfnbcmojpiaaGreat
namespace Go.Proofs.YtbfjfnbcmojpiaaGreat
open Go.RowKit
theorem QW {w w':World} {fp p:Nat→Prop} (g:w.grownBy w' none) (h:∀k,p k→fp k∨TagV w k):∀k,p k→fp k∨TagV w' k:=fun k hk=>(h k hk).imp id (·.keep g (by simp))
def Sp.vt (r:VV×Int) (fp:Nat→Prop):Sp:=⟨fun w v=>∃ao cap ks,v=.tuple #[Aw r.1.2.1 r.1.2.2 (.slice ao (List.length ks) cap),.int .i64 r.2]∧ks.map VK.p=r.1.1∧RdK w (.slice ao (List.length ks) cap) ks∧∀k,Kv (.slice ao (List.length ks) cap) ks k→fp k∨TagV w k,fun _ _ _ hg ⟨ao,cap,ks,h1,h2,h3,h4⟩=>⟨ao,cap,ks,h1,h2,h3.kn hg,QW hg h4⟩⟩
theorem VRes.on {w w':World} {r:VV×Int} {fp:Nat→Prop} {e:Ending} (h:VRes w w' r fp e):∃v,e=.returned v∧w.grownBy w' none∧(Sp.vt r fp).on w' v:=by
 obtain⟨ao,cap,ks,h1,h2,h3,h4,h5⟩:=h
 exact⟨_,h1,h5,ao,cap,ks,rfl,h2,h3,h4⟩
section
variable {w0:World} {ks:List VK} {ao:Option Addr} {cap:Nat} {sa po o:List Nat} {P:List VP} {r:VV×Int} {a:Int}
theorem AIl (hsa:Dg sa) (hpo:Dg po) (ho:Dg o) (hk:RdK w0 (.slice ao ks.length cap) ks) (hm:ks.map VK.p=P) {T:List Nd} (hT:tree (kd 275 po) []=T) (hres:ME (P,sa,po) o T (kd 276 po)=r) :
  ∀W,w0.grownBy W none→Calls Tryz.prog 36 #[Aw sa po (.slice ao ks.length cap),AO o] W fun e W'=>∃v,e=.returned v∧W.grownBy W' none∧(Sp.vt r fun _=>False).on W' v:=fun W g=>by
 subst hres hm
 exact(AEf ks ao cap sa po hsa hpo o ho T hT W (hk.kn g)).mono fun e W' h=>h.on
theorem AGp (hsa:Dg sa) (hpo:Dg po) (ho:Dg o) (hk:RdK w0 (.slice ao ks.length cap) ks) (hm:ks.map VK.p=P) {T:List Nd} (hT:tree (kd 275 po) []=T) (hres:ME (P,sa,po) o T (kd 276 po)=r) :
  ∀W,w0.grownBy W none→Calls Tryz.prog 39 #[Aw sa po (.slice ao ks.length cap),AO o] W fun e W'=>∃v,e=.returned v∧W.grownBy W' none∧(Sp.vt r (Kv (.slice ao ks.length cap) ks)).on W' v:=fun W g=>by
 subst hres hm
 exact(ACn ks ao cap sa po hsa hpo o ho T hT W (hk.kn g)).mono fun e W' h=>h.on
theorem AJq {w:World} {q:List Nat×Int} (hsa:Dg sa) (hpo:Dg po) (ho:Dg o) (hk:RdK w (.slice ao ks.length cap) ks) (hm:ks.map VK.p=P) (hres:DI P o a=q) :
  Calls Tryz.prog 32 #[Aw sa po (.slice ao ks.length cap),AO o,.int .i64 a] w fun e w'=>e=.returned (.tuple #[AO q.1,.int .i64 q.2])∧w.grownBy w' none:=by
 subst hres hm
 exact AEb ks ao cap sa po hsa hpo o ho a w hk
theorem AIm {w:World} {q:List Nat×Int} (hsa:Dg sa) (hpo:Dg po) (ho:Dg o) (hk:RdK w (.slice ao ks.length cap) ks) (hm:ks.map VK.p=P) (hres:DI P o a=q) :
  Calls Tryz.prog 42 #[Aw sa po (.slice ao ks.length cap),AO o,.int .i64 a] w fun e w'=>e=.returned (.tuple #[AO q.1,.int .i64 q.2])∧w.grownBy w' none:=by
 subst hres hm
 exact ACh ks ao cap sa po hsa hpo o ho a w hk
theorem NI {w:World} {b:Bool} (hsa:Dg sa) (hpo:Dg po) (hk:RdK w (.slice ao ks.length cap) ks) (hm:ks.map VK.p=P) (hb:CZ P=b):Calls Tryz.prog 51 #[Aw sa po (.slice ao ks.length cap)] w fun e w'=>e=.returned (.bool b)∧w.grownBy w' none:=by
 subst hm
 exact LN hsa hpo hk hb
theorem Ly {w:World} {b:Bool} (hsa:Dg sa) (hpo:Dg po) (hk:RdK w (.slice ao ks.length cap) ks) (hm:ks.map VK.p=P) (hb:CZ P=b):Calls Tryz.prog 40 #[Aw sa po (.slice ao ks.length cap)] w fun e w'=>e=.returned (.bool b)∧w.grownBy w' none:=by
 subst hm
 exact Gy hsa hpo hk hb
end
end Go.Proofs.YtbfjfnbcmojpiaaGreat
namespace Go.Proofs.YtbfjfnbcmojpiaaGreat
def By (l:List Nat):Prop:=∀x∈l,x<256
def Hy (a b:List Nat):List Nat:=List.zipWith (fun x y=>x ^^^ y) a b
theorem LS {a b:List Nat} (h:a.length≤b.length):(Hy a b).length=a.length:=by unfold Hy;rw[List.length_zipWith];omega
theorem ABR {a b:List Nat} (ha:By a) (hb:By b):By (Hy a b):=fun x hx=>by
 unfold Hy at hx
 rw[List.mem_iff_getElem] at hx
 obtain⟨i,hi,rfl⟩:=hx
 rw[List.getElem_zipWith]
 exact Nat.xor_lt_two_pow (n:=8) (ha _ (List.getElem_mem _)) (hb _ (List.getElem_mem _))
theorem Tw:∀{a b:List Nat},a.length≤b.length→Hy (Hy a b) b=a
 | [],_,_=>rfl
 | _::_,[],h=>by simp at h
 | x::a,y::b,h=>by
  have ih:=Tw (a:=a) (b:=b) (by simpa using h)
  unfold Hy at ih ⊢
  simp only[List.zipWith_cons_cons,ih,Nat.xor_assoc,Nat.xor_self,Nat.xor_zero]
def Tx (all:Bool) (keys:List (List Nat)):List Nat:=OZ (BitVec.ofNat 64 (if all then 282 else 281)) keys.flatten
def msk (k:List Nat):List Nat:=MM (BitVec.ofNat 64 283) k []
def OD (c k:List Nat):List Nat:=Hy c (msk k)
def Fv (b c:List Nat):List Nat:=Hy b (sq (Gn (BitVec.ofNat 64 284) c) b.length)
def QZ (c:List Nat) (a:Int) (b:List Nat):List Nat:=MM (BitVec.ofNat 64 285) c (enc a++b)
def Wf (a:Int) (b:List Nat):List Nat:=OZ (BitVec.ofNat 64 280) (enc a++b)
structure Sd where
 addr:Int
 own:List (List Nat)
 joint:Int
 wr:List (List Nat)
 body:List Nat
 tag:List Nat
def Sd.zero:Sd:=⟨0,[],0,[],[],AM⟩
def No (l:List (List Nat)) (i:Nat):List Nat:=(l[i]?).getD []
theorem AEn {l:List (List Nat)} {i:Nat} (h:i<l.length):No l i=l[i]:=by unfold No;rw[List.getElem?_eq_getElem h];rfl
def U0 (l:List (List Nat)) (i:Nat):Bool:=decide (i=0)||Ea (No l (i-1)) (No l i)
def ZQ (l:List (List Nat)):Bool:=(List.range l.length).all (U0 l)
theorem ABS {l:List (List Nat)}:ZQ l=true↔∀i,i<l.length→U0 l i=true:=by unfold ZQ;simp[List.all_eq_true,List.mem_range]
theorem AEo {l:List (List Nat)} {i:Nat} (h:i<l.length) (hc:U0 l i=false):ZQ l=false:=by
 cases h2:ZQ l with
 | false=>rfl
 | true=>rw[ABS.1 h2 i h] at hc;cases hc
theorem ABT {l:List (List Nat)} (h:∀i,i<l.length→U0 l i=true):ZQ l=true:=ABS.2 h
def hd (own:List (List Nat)) (joint addr:Int):Bool:=Cg addr&&(decide (joint=0)||decide (joint=1))&&decide (own.length≤16)&&ZQ own
def Gi (s:Sd):Bool:=hd s.own s.joint s.addr&&decide (s.body.length≤64)&&decide (s.wr.length=if s.joint=1 then s.own.length else 0)
def Df (P:List VP) (a:Int):List (List Nat)→List (List Nat)×Int
 | []=>([],0)
 | o::l=>if (DI P o a).2=0 then ((DI P o a).1::(Df P a l).1,(Df P a l).2) else ([],(DI P o a).2)
def Fg (P:List VP) (own:List (List Nat)) (joint addr:Int) (x:V):Sd×Int:=
 if hd own joint addr&&CZ P then
   (if own=[] then (⟨addr,[],joint,[],BD x,Wf addr (BD x)⟩,0)
   else if (Df P addr own).2=0 then
     (⟨addr,own,joint,if joint=1 then (Df P addr own).1.map (OD (Tx (decide (joint=1)) (Df P addr own).1)) else [],
       Fv (BD x) (Tx (decide (joint=1)) (Df P addr own).1),QZ (Tx (decide (joint=1)) (Df P addr own).1) addr (Fv (BD x) (Tx (decide (joint=1)) (Df P addr own).1))⟩,0)
   else (Sd.zero,(Df P addr own).2))
 else (Sd.zero,1)
end Go.Proofs.YtbfjfnbcmojpiaaGreat
