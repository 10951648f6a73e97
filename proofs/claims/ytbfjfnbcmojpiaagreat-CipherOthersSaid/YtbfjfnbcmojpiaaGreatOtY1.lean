import Derived.Test.YtbfjfnbcmojpiaaGreatOtV9
import Derived.OrdersHeld
import Derived.Test.YtbfjfnbcmojpiaaGreatOtSG
set_option linter.unusedSimpArgs false
set_option linter.unusedVariables false
set_option maxRecDepth 100000
set_option maxHeartbeats 4000000
namespace Go.Proofs.YtbfjfnbcmojpiaaGreat
open Go.RowKit Go.Shelf
def Sp.lit1T (B:Nat) (o:List Nat) (l:List Nd):Sp:=⟨fun w v=>∃(A:Nat) (x:VK),v=.slice (some ⟨A,0,none⟩) 1 1∧w.heap[A]?=some (.cells (AY x).toArray 58 (0,0))∧x.o=o∧x.l=l∧RdTg w x.s x.l∧(∀k,NA x.s k→B≤k)∧B≤A,fun _ _ _ hg ⟨A,x,h1,h2,h3,h4,h5,h7,h8⟩=>⟨A,x,h1,AF hg h2 (by simp),h3,h4,h5.kn hg,h7,h8⟩⟩
theorem AEi {B:Nat} {o:List Nat} {l:List Nd} {w:World} {v:Value} (hB:B≤w.heap.size) (h:(Sp.ck B o l).on w v):∃cs:List Value,(Instr.buildSlice 34 1 #[(0,v)]).run Tryz.prog w=.ok (.slice (some ⟨w.heap.size,0,none⟩) 1 1) (w.alloc (.cells cs.toArray 58)) ∧
  ∀w',w.grownBy w' none→w'.heap[w.heap.size]?=some (.cells cs.toArray 58 (0,0))→(Sp.lit1T B o l).on w' (.slice (some ⟨w.heap.size,0,none⟩) 1 1):=by
 obtain⟨x,rfl,h2,h3,h4,h6⟩:=h
 exact⟨AY x,AJo x w,fun w' g hb=>⟨_,x,rfl,hb,h2,h3,h4.kn g,h6,hB⟩⟩
theorem AJw {P:List VP} {ms:List VK} {k:Nat} {o:List Nat} {T:List Nd} (h:ms.map VK.p=Hi P k (o,T)) (hk:k≤P.length) (hm:k<ms.length) {z:VK} (hz:ms[k]=z):z.o=o:=by
 have h1:(ms.map VK.p)[k]?=some z.p:=by rw[List.getElem?_map,List.getElem?_eq_getElem hm,hz];rfl
 rw[h,Gn hk,if_neg (by omega),if_pos rfl] at h1
 exact(congrArg Prod.fst (Option.some.inj h1)).symm
theorem AEj {P:List VP} {ms:List VK} {k:Nat} {x:VP} (h:ms.map VK.p=Hi P k x) (hk:k≤P.length) (h0:0<k) (hm:k-1<ms.length) {z:VK} (hz:ms[k-1]=z):z.o=od P (k-1):=by
 have h1:(ms.map VK.p)[k-1]?=some z.p:=by rw[List.getElem?_map,List.getElem?_eq_getElem hm,hz];rfl
 rw[h,Gn hk,if_pos (by omega)] at h1
 rw[(JD h1).1]
 rfl
theorem AEk {P:List VP} {ms:List VK} {k:Nat} {x:VP} (h:ms.map VK.p=Hi P k x) (hk:k≤P.length) (h0:0<k) (hm:k<ms.length) (hm1:k-1<ms.length) {a b:VK} (ha:ms[k]=a) (hb:ms[k-1]=b):((ms.set (k-1) a).set k b).map VK.p=Hi P (k-1) x:=by
 rw[List.map_set,List.map_set,h]
 refine AAI h0 hk x _ _ ?_ ?_
 · rw[←h,List.getElem?_map,List.getElem?_eq_getElem hm,ha];rfl
 · rw[←h,List.getElem?_map,List.getElem?_eq_getElem hm1,hb];rfl
theorem MF {ms:List VK} {k:Nat} (hm:k<ms.length) (hm1:k-1<ms.length) {a b:VK} (ha:ms[k]=a) (hb:ms[k-1]=b) {x:VK} (hx:x∈(ms.set (k-1) a).set k b):x∈ms:=by
 rcases List.mem_or_eq_of_mem_set hx with h|h
 · rcases List.mem_or_eq_of_mem_set h with h|h
   · exact h
   · rw[h,←ha];exact List.getElem_mem hm
 · rw[h,←hb];exact List.getElem_mem hm1
theorem KsR.sub {w:World} {ms ns:List VK} (h:KsR w ms) (hs:∀x∈ns,x∈ms):KsR w ns:=fun k hk=>h k (hs k hk)
theorem Lc {ms ns:List VK} (hs:∀x∈ns,x∈ms) {b:Nat} (h:DI ns b):DI ms b:=by
 obtain⟨k,hk,hb⟩:=h
 exact⟨k,hs k hk,hb⟩
theorem KsR.snoc {w:World} {ms:List VK} (h:KsR w ms) {x:VK} (hx:RdT w x.s x.l):KsR w (ms++[x]):=fun k hk=>by
 rcases List.mem_append.1 hk with hk|hk
 · exact h k hk
 · obtain rfl:=List.mem_singleton.1 hk;exact hx
theorem Jv {ms:List VK} {x:VK} {b:Nat} (h:DI (ms++[x]) b):DI ms b∨NA x.s b:=by
 obtain⟨k,hk,hb⟩:=h
 rcases List.mem_append.1 hk with hk|hk
 · exact .inl ⟨k,hk,hb⟩
 · obtain rfl:=List.mem_singleton.1 hk;exact .inr hb
theorem AEl {x y:List Nat} {b:Bool} (hb:Ej x y=b) (hx:Dg x) (hy:Dg y) (w:World):Calls Tryz.prog 86 #[AR x,AR y] w fun e w'=>e=.returned (.bool b)∧w.grownBy w' none:=M0 hb hx hy w
theorem AGk (ks:List VK) (y:VK):ks.flatMap AY++AY y=(ks++[y]).flatMap AY:=by rw[List.flatMap_append];simp
theorem AGl {w:World} {A:Nat} {x:VK} (h:w.heap[A]?=some (.cells (AY x).toArray 58 (0,0))):Sl w 33 (.slice (some ⟨A,0,none⟩) 1 1) 1 (AY x):=AEV h
theorem ACf (ks:List VK) (ao:Option Addr) (cap:Nat) (sa po:List Nat) (hsa:Dg sa) (hpo:Dg po) (o:List Nat) (ho:Dg o) (T:List Nd) (hT:tree (kd 275 po) []=T) (w:World) (hr:RdK w (.slice ao ks.length cap) ks) :
   Calls Tryz.prog 39 #[Ao sa po (.slice ao ks.length cap),AR o] w fun e w'=>VRes w w' (MS (ks.map VK.p,sa,po) o T (kd 276 po)) (JZ (.slice ao ks.length cap) ks) e:=by
 have hlt0:=hr.lt
 have hmap:(ks.map VK.p).length=ks.length:=List.length_map _
 refine Be Tryz.func39 rfl Tryz.ntmps39 rfl fun a0 sv0=>?_
 have HG:=World.grownBy.refl w none
 replace sv0:Sv 78 [] [(0,Ao sa po (.slice ao ks.length cap)),(1,AR o)] a0:=sv0
 refine ALl fun K1 k1=>?_
 refine ALk ?_
 refine Bm sv0 r6 (BR hsa hpo (.slice ao ks.length cap) rfl) fun a2 w2 Cf DV g2 z2 AJ sv2=>?_
 have AAJ:=A2 (hr.lt) DV
 replace hr:=hr.kn g2
 refine Bm sv2 r6 (CB o ho.1) fun a3 w3 CX FI g3 z3 AL sv3=>?_
 have AAK:=A2 (hr.lt) FI
 replace AJ:=AC g3 AJ
 replace hr:=hr.kn g3
 replace HG:=AA (AA HG g2) g3
 refine Ax (T:=36) (Z:=([bv AS,bv AS,[.slice none 0 0]].flatten)) sv3 rfl rfl rfl (fun a w=>by kernel_rfl) fun a4 w4 Fa B9 g4 z4 AP sv4=>?_
 have A3:=Au AJ B9
 have BO:=Au AL B9
 have CG:=B7 HG B9
 have Bw:=A2 (hr.lt) B9
 replace AJ:=AC g4 AJ
 replace AL:=AC g4 AL
 replace hr:=hr.kn g4
 replace HG:=AA HG g4
 refine Aa (v:=.int .i64 0) sv4 r6 fun a5 sv5=>?_
 refine AE ?_
 refine k1 _ _ ?_
 refine ALl fun K6 k6=>?_
 refine ALl fun K7 k7=>?_
 cases hv:CI (ks.map VK.p)
 · refine ALk ?_
   refine AK sv5 3 [(8,Ao sa po (.slice ao ks.length cap)),(9,.bool false),(10,.bool true)]
     ⟨yl r6 (BR hsa hpo (.slice ao ks.length cap) rfl) AJ,Ad [Ao sa po (.slice ao ks.length cap)] Tryz.func40 (by kernel_rfl) rq4 ⟨(oy rfl rfl),ALr⟩ (As fun W g=>UH hsa hpo (hr.kn g) hv),Cu r6 (fun _=>Bc),ALr⟩ fun a8 w8 g8 sv8=>?_
   refine AE ?_
   refine k7 _ _ ?_
   refine Ar sv8 rfl rfl ?_
   refine ALl fun K9 k9=>?_
   refine ALk ?_
   replace AJ:=AC g8 AJ
   replace AL:=AC g8 AL
   replace AP:=AC g8 AP
   refine AK sv8 1 [(11,Ao AS AS (.slice none 0 0))]
     ⟨BV (vs:=[]) rfl rfl trivial trivial (fun _=>bV0 _) (fun _=>rfl),ALr⟩ fun a10 w10 g10 Cj=>?_
   refine Ap Cj r7 (BR AN AN (.slice none 0 0) rfl) (AC g10 AP) (by first|rfl|simp[AY,AI,AQ,AN.1,AN.1]) fun w11 g11 h11=>?_
   replace AJ:=Ah g10 g11 AJ (Ne.symm A3)
   replace AL:=Ah g10 g11 AL (Ne.symm BO)
   replace hr:=((hr.kn g8).kn g10).offR g11 (AU Bw)
   replace HG:=AD (AA (AA HG g8) g10) g11 CG
   replace AP:=h11
   refine Aa (v:=.int .i64 1) Cj r6 fun a12 Df=>?_
   refine AE ?_
   refine k9 _ _ ?_
   refine ALo ?_
   repeat refine AM ?_
   refine BQ (fn:=Tryz.f39) Df (Gf (p:=4) (q:=5) Tryz.results39 Df rfl rfl rfl rfl (BR AN AN (.slice none 0 0) rfl) AP) ?_
   exact VRes.zero (by unfold MS;rw[if_neg (by rw[hv];simp)]) HG
 · obtain⟨i,hi⟩:∃i,pos (ks.map VK.p) o=i:=⟨_,rfl⟩
   have h64:ks.length≤64:=by have:=(Dq.1 hv).1;simpa using this
   have hs:=Srt.of hv
   refine ALk ?_
   refine AK sv5 3 [(8,Ao sa po (.slice ao ks.length cap)),(9,.bool true),(10,.bool false)]
     ⟨yl r6 (BR hsa hpo (.slice ao ks.length cap) rfl) AJ,Ad [Ao sa po (.slice ao ks.length cap)] Tryz.func40 (by kernel_rfl) rq4 ⟨(oy rfl rfl),ALr⟩ (As fun W g=>UH hsa hpo (hr.kn g) hv),Cu r6 (fun _=>Bc),ALr⟩ fun a13 w13 g13 Dh=>?_
   refine AE ?_
   refine k7 _ _ ?_
   refine Av Dh rfl rfl ?_
   refine ALp ?_
   refine k6 _ _ ?_
   refine ALl fun K14 k14=>?_
   refine ALl fun K15 k15=>?_
   replace AJ:=AC g13 AJ
   replace AL:=AC g13 AL
   replace AP:=AC g13 AP
   replace hr:=hr.kn g13
   replace HG:=AA HG g13
   cases hf:Gx (ks.map VK.p) o
   · refine ALk ?_
     refine AK Dh 4 [(12,Ao sa po (.slice ao ks.length cap)),(13,AR o),(14,.int .i64 ((-1))),(15,.bool false)]
       ⟨yl r6 (BR hsa hpo (.slice ao ks.length cap) rfl) AJ,yl r6 (CB o ho.1) AL,Ad [Ao sa po (.slice ao ks.length cap),AR o] Tryz.func84 (by kernel_rfl) rq4 ⟨(oy rfl rfl),(oy rfl rfl),ALr⟩ (As fun W g=>AJs hsa hpo ho (hr.kn g) hv (AJt hf)),Cq r6 (fun _=>FQ (by decide)),ALr⟩ fun a16 w16 g16 Cp=>?_
     refine AE ?_
     refine k15 _ _ ?_
     refine Av Cp rfl rfl ?_
     refine ALp ?_
     refine k14 _ _ ?_
     refine ALl fun K17 k17=>?_
     refine ALl fun K18 k18=>?_
     replace AJ:=AC g16 AJ
     replace AL:=AC g16 AL
     replace AP:=AC g16 AP
     replace hr:=hr.kn g16
     replace HG:=AA HG g16
     by_cases hfull:64≤ks.length
     · refine ALk ?_
       refine AK Cp 4 [(17,pk Cf 64),(18,.slice ao ks.length cap),(19,.int .i64 ((ks.length:Nat))),(20,.bool true)]
         ⟨yf r6 (fun _=>by kernel_rfl),yp (i:=2) r6 (EC (.slice ao ks.length cap) rfl) AJ rfl (by simp[AI,AQ,hsa.1,hpo.1]),Bv (Tryz.underlying34) rfl rfl trivial (oy rfl rfl) (fun _=>rfl),Cq r6 (fun _=>FQ (decide_eq_true (by omega))),ALr⟩ fun a19 w19 g19 Er=>?_
       refine AE ?_
       refine k18 _ _ ?_
       refine Ar Er rfl rfl ?_
       refine ALl fun K20 k20=>?_
       refine ALk ?_
       replace AJ:=AC g19 AJ
       replace AL:=AC g19 AL
       replace AP:=AC g19 AP
       refine AK Er 1 [(21,Ao AS AS (.slice none 0 0))]
         ⟨BV (vs:=[]) rfl rfl trivial trivial (fun _=>bV0 _) (fun _=>rfl),ALr⟩ fun a21 w21 g21 Db=>?_
       refine Ap Db r7 (BR AN AN (.slice none 0 0) rfl) (AC g21 AP) (by first|rfl|simp[AY,AI,AQ,AN.1,AN.1]) fun w22 g22 h22=>?_
       replace AJ:=Ah g21 g22 AJ (Ne.symm A3)
       replace AL:=Ah g21 g22 AL (Ne.symm BO)
       replace hr:=((hr.kn g19).kn g21).offR g22 (AU Bw)
       replace HG:=AD (AA (AA HG g19) g21) g22 CG
       replace AP:=h22
       refine Aa (v:=.int .i64 8) Db r6 fun a23 Cy=>?_
       refine AE ?_
       refine k20 _ _ ?_
       refine ALo ?_
       repeat refine AM ?_
       refine BQ (fn:=Tryz.f39) Cy (Gf (p:=4) (q:=5) Tryz.results39 Cy rfl rfl rfl rfl (BR AN AN (.slice none 0 0) rfl) AP) ?_
       exact VRes.zero (by unfold MS;rw[if_pos hv,if_neg (by rw[hf];simp),if_pos (by simpa using hfull)]) HG
     · refine ALk ?_
       refine AK Cp 4 [(17,pk Cf 64),(18,.slice ao ks.length cap),(19,.int .i64 ((ks.length:Nat))),(20,.bool false)]
         ⟨yf r6 (fun _=>by kernel_rfl),yp (i:=2) r6 (EC (.slice ao ks.length cap) rfl) AJ rfl (by simp[AI,AQ,hsa.1,hpo.1]),Bv (Tryz.underlying34) rfl rfl trivial (oy rfl rfl) (fun _=>rfl),Cq r6 (fun _=>FQ (decide_eq_false (by omega))),ALr⟩ fun a24 w24 g24 Cn=>?_
       refine AE ?_
       refine k18 _ _ ?_
       refine Av Cn rfl rfl ?_
       refine ALp ?_
       refine k17 _ _ ?_
       refine ALl fun K25 k25=>?_
       replace AJ:=AC g24 AJ
       replace AL:=AC g24 AL
       replace AP:=AC g24 AP
       replace hr:=hr.kn g24
       replace HG:=AA HG g24
       refine DU (Cn.st w24) (by kernel_rfl) 11 [(22,Sp.lit0 w24.heap.size 58),(23,Sp.is (pk Cf 64)),(24,Sp.is (.slice ao ks.length cap)),(25,Sp.row w24.heap.size 58 33 ks.length (ks.flatMap AY)),(26,Sp.is (AR o)),(27,Sp.is (pk Cf 32)),(28,Sp.is (AR po)),(29,Sp.is (AR ((kd 275 po)))),(30,Sp.ct w24.heap.size T),(31,Sp.ck w24.heap.size o T),(32,Sp.lit1T w24.heap.size o T)] rfl (by kernel_rfl) (by kernel_rfl) (by kernel_rfl) [] (by kernel_rfl)
         ⟨Uo (t:=0) rfl trivial (Nat.le_refl _) (fun a w=>by kernel_rfl) (fun _ _ h=>h),yf r6 (fun _=>by kernel_rfl),yp (i:=2) r6 (EC (.slice ao ks.length cap) rfl) AJ rfl (by simp[AI,AQ,hsa.1,hpo.1]),Up (news:=ks.flatMap AY) RF rfl rfl trivial rfl (fun _ _ h=>h) (oy rfl rfl) (fun _ g=>(hr.kn g).1.1) (My ks) (by omega) (Nat.le_refl _) (fun _ _ h=>h),yl r6 (CB o ho.1) AL,yf r6 (fun _=>by kernel_rfl),yp (i:=1) r6 (CB po hpo.1) AJ rfl (by simp[AI,AQ,hsa.1,hpo.1]),Ad [.int .u64 275,AR po,.slice none 0 0] Tryz.func35 (by kernel_rfl) rq4 ⟨rfl,(oy rfl rfl),rfl,ALr⟩ (As fun W g=>LY (n:=275) (by decide) rfl hpo W),Ad [AR ((kd 275 po))] Tryz.func85 (by kernel_rfl) rq4 ⟨(oy rfl rfl),ALr⟩ (AEJ (Bb _ _) hT),MB rfl rfl trivial rfl (fun W _ av h=>match av,h with|[u,t],⟨h1,h2,_⟩=>AEH ho h1 h2),QI rfl rfl trivial (Nat.le_refl _) rfl (fun W hw v h=>AEi hw.size h.1),ALr⟩ trivial
         [] (by kernel_rfl) trivial ⟨.inl rfl,.inl rfl,.inl rfl,.inl rfl,.inl rfl,.inl rfl,.inl rfl,.inl rfl,.inl rfl,.inl rfl,.inl rfl,ALr⟩ (by kernel_rfl) fun a26 w26 g26 st26 nd26=>?_
       obtain⟨hn26,hd26,e26_22,e26_23,e26_24,e26_25,e26_26,e26_27,e26_28,e26_29,e26_30,e26_31,e26_32,e26_17,e26_18,e26_19,e26_20,e26_12,e26_13,e26_14,e26_15,e26_8,e26_9,e26_10,e26_5,e26_4,e26_3,e26_2,e26_0,e26_1,-⟩:=st26
       obtain⟨aoW,capW,e26_25q,ow,frW⟩:=e26_25
       obtain⟨V,y,e26_32q,HV,hyo,hyl,rt,frB,geV⟩:=e26_32
       have D1:=CA frW AJ
       have KN:=CA frW AL
       have EX:=CA frW AP
       have ap_hr_ow:=AEG (hr.lt) frW
       have lo_ow:=Jp HG frW
       have KJ:=CA frB AJ
       have AAL:=CA frB AL
       have Ik:=CA frB AP
       have Oi:V≠Cf:=Nat.ne_of_gt (Nat.lt_of_lt_of_le (Array.getElem?_eq_some_iff.1 AJ).1 geV)
       have ACa:V≠CX:=Nat.ne_of_gt (Nat.lt_of_lt_of_le (Array.getElem?_eq_some_iff.1 AL).1 geV)
       have UJ:V≠Fa:=Nat.ne_of_gt (Nat.lt_of_lt_of_le (Array.getElem?_eq_some_iff.1 AP).1 geV)
       have lo_V:w.heap.size≤V:=Nat.le_trans HG.size geV
       replace AJ:=AC g26 AJ
       replace AL:=AC g26 AL
       replace AP:=AC g26 AP
       replace hr:=hr.kn g26
       replace HG:=AA HG g26
       have ap_rt_ow:=rt.2.own ow (by decide)
       have Co:Sv 78 [] [(17,_),(18,_),(19,_),(20,_),(12,_),(13,_),(14,_),(15,_),(8,_),(9,_),(10,_),(5,_),(4,_),(3,_),(2,_),(0,_),(1,_),(25,_),(32,_)] a26:=⟨hn26,hd26,e26_17,e26_18,e26_19,e26_20,e26_12,e26_13,e26_14,e26_15,e26_8,e26_9,e26_10,e26_5,e26_4,e26_3,e26_2,e26_0,e26_1,e26_25q,e26_32q,ALr⟩
       refine Mx RF Co rfl rfl rfl rfl rfl rfl rfl rfl ow (AGl HV) (List.all_eq_true.2 (Ie y)) (by omega) fun a27 aoX capX w27 ox Cl Gj=>?_
       have Il:∀k,Bi (.slice aoX (ks.length+1) capX) k→k≠Cf:=fun k hk=>(Cl.2 k hk).elim (D1 k) (fun h=>Nat.ne_of_gt (Nat.lt_of_lt_of_le (Array.getElem?_eq_some_iff.1 AJ).1 h))
       have Im:∀k,Bi (.slice aoX (ks.length+1) capX) k→k≠CX:=fun k hk=>(Cl.2 k hk).elim (KN k) (fun h=>Nat.ne_of_gt (Nat.lt_of_lt_of_le (Array.getElem?_eq_some_iff.1 AL).1 h))
       have Fj:∀k,Bi (.slice aoX (ks.length+1) capX) k→k≠Fa:=fun k hk=>(Cl.2 k hk).elim (EX k) (fun h=>Nat.ne_of_gt (Nat.lt_of_lt_of_le (Array.getElem?_eq_some_iff.1 AP).1 h))
       have ap_hr_ox:∀k,JZ (.slice ao ks.length cap) ks k→¬Bi (.slice aoX (ks.length+1) capX) k:=fun k hk hx=>(Cl.2 k hx).elim (ap_hr_ow k hk) (fun h=>absurd (hr.lt k hk) (Nat.not_lt.2 h))
       have ap_rt_ox:∀k,NA (VK.s y) k→¬Bi (.slice aoX (ks.length+1) capX) k:=fun k hk hx=>(Cl.2 k hx).elim (ap_rt_ow k hk) (fun h=>absurd (rt.lt k hk) (Nat.not_lt.2 h))
       have lo_ox:=Zm Cl.2 lo_ow HG
       replace AJ:=AF Cl.1 AJ (fun e=>D1 _ e.symm rfl)
       replace AL:=AF Cl.1 AL (fun e=>KN _ e.symm rfl)
       replace AP:=AF Cl.1 AP (fun e=>EX _ e.symm rfl)
       replace hr:=hr.offR Cl.1 (fun k hk e=>ap_hr_ow k hk (e))
       replace rt:=rt.offR Cl.1 (fun k hk e=>ap_rt_ow k hk (e))
       replace HG:=Bh HG Cl.1 fun k e=>lo_ow k (e)
       rw[AGk] at ox
       refine Aa (v:=.slice aoX (ks.length+1) capX) Gj r6 fun a28 LU=>?_
       refine AE ?_
       have kr:=KsR.snoc hr.2 rt.1
       have D4:∀k,DI (ks++[y]) k→k≠Cf:=fun k hk=>(Jv hk).elim (fun h=>AAJ k (.inr h)) (KJ k)
       have M3:∀k,DI (ks++[y]) k→k≠CX:=fun k hk=>(Jv hk).elim (fun h=>AAK k (.inr h)) (AAL k)
       have Dj:∀k,DI (ks++[y]) k→k≠Fa:=fun k hk=>(Jv hk).elim (fun h=>Bw k (.inr h)) (Ik k)
       have ap_kr_ox:∀k,DI (ks++[y]) k→¬Bi (.slice aoX (ks.length+1) capX) k:=fun k hk=>(Jv hk).elim (fun h=>ap_hr_ox k (.inr h)) (ap_rt_ox k)
       refine k25 _ _ ?_
       refine ALl fun K29 k29=>?_
       refine ALl fun K30 k30=>?_
       refine ALk ?_
       refine AK LU 3 [(34,.slice aoX (ks.length+1) capX),(35,.int .i64 (((ks.length+1):Nat))),(36,.int .i64 ((ks.length:Int)))]
         ⟨ym r5,Bv (Tryz.underlying34) rfl rfl trivial (oy rfl rfl) (fun _=>rfl),Cq r6 (fun _=>F5 (by rw[BA (by omega) (by omega)];omega)),ALr⟩ fun a31 w31 g31 GO=>?_
       refine Aa (v:=.int .i64 ((ks.length:Int))) GO r6 fun a32 Ck=>?_
       refine AE ?_
       refine k30 _ _ ?_
       refine BF fun Q33 x33 y33 r33 o33=>?_
       replace AJ:=AC g31 AJ
       replace AL:=AC g31 AL
       replace AP:=AC g31 AP
       replace hr:=hr.kn g31
       replace rt:=rt.kn g31
       replace ox:=ox.kn g31
       replace kr:=kr.kn g31
       replace HG:=AA HG g31
       have hput0:(ks++[y]).map VK.p=Hi (ks.map VK.p) ks.length (o,T):=by rw[show ks.length=(ks.map VK.p).length from hmap.symm,ACg,List.map_append];simp[VK.p,hyo,hyl]
       refine wp_loop (fun a w'=>∃(q:Nat) (ms:List VK),(q≤ks.length)∧(ms.map VK.p=Hi (ks.map VK.p) q (o,T))∧(ms.length=ks.length+1)∧(∀j,q≤j→j<ks.length→Ej o (od (ks.map VK.p) j)=true)∧(∀b,DI ms b→DI ks b∨NA y.s b)∧Sv 78 [] [(7,.int .i64 ((q:Int))),(34,.slice aoX (ks.length+1) capX),(35,.int .i64 (((ks.length+1):Nat))),(36,.int .i64 ((ks.length:Int))),(6,.slice aoX (ks.length+1) capX),(33,.slice aoX (ks.length+1) capX),(17,pk Cf 64),(18,.slice ao ks.length cap),(19,.int .i64 ((ks.length:Nat))),(20,.bool false),(12,Ao sa po (.slice ao ks.length cap)),(13,AR o),(14,.int .i64 ((-1))),(15,.bool false),(8,Ao sa po (.slice ao ks.length cap)),(9,.bool true),(10,.bool false),(5,.int .i64 0),(4,pt Fa),(3,pt CX),(2,pt Cf),(0,Ao sa po (.slice ao ks.length cap)),(1,AR o),(25,.slice aoW ks.length capW),(32,.slice ((some ⟨V,0,none⟩)) 1 1)] a∧w.grownBy w' none∧w'.heap[Cf]?=some (.cells ([bv sa,bv po,[.slice ao ks.length cap]].flatten).toArray 36 (0,0))∧w'.heap[CX]?=some (.cells (bv o).toArray 23 (0,0))∧w'.heap[Fa]?=some (.cells (([bv AS,bv AS,[.slice none 0 0]].flatten)).toArray 36 (0,0))∧RdK w' (.slice ao ks.length cap) ks∧RdTg w' (VK.s y) y.l∧Own w' 58 33 (.slice aoX (ks.length+1) capX) ((ks.length+1)) (ms.flatMap AY)∧KsR w' ms∧(∀k,Bi (.slice aoX (ks.length+1) capX) k→k≠Cf)∧(∀k,Bi (.slice aoX (ks.length+1) capX) k→k≠CX)∧(∀k,Bi (.slice aoX (ks.length+1) capX) k→k≠Fa)∧(∀k,JZ (.slice ao ks.length cap) ks k→¬Bi (.slice aoX (ks.length+1) capX) k)∧(∀k,NA (VK.s y) k→¬Bi (.slice aoX (ks.length+1) capX) k)∧(∀k,DI ms k→¬Bi (.slice aoX (ks.length+1) capX) k)∧(∀k,Bi (.slice aoX (ks.length+1) capX) k→w.heap.size≤k)∧(∀k,DI ms k→k≠Cf)∧(∀k,DI ms k→k≠CX)∧(∀k,DI ms k→k≠Fa)) (fun a _=>(intOf (a.tmps.getD 7 undef)).toNat) ⟨ks.length,ks++[y],Nat.le_refl _,hput0,by simp,fun j h1 h2=>by omega,fun b h=>Jv h,⟨Ck.1,Ck.2.1,Ck.2.2.1,Ck.2.2.2.1,Ck.2.2.2.2.1,Ck.2.2.2.2.2.1,Ck.2.2.2.2.2.2.1,Ck.2.2.2.2.2.2.2.1,(AH Ck).1,(AH Ck).2.1,(AH Ck).2.2.1,(AH Ck).2.2.2.1,(AH Ck).2.2.2.2.1,(AH Ck).2.2.2.2.2.1,(AH Ck).2.2.2.2.2.2.1,(AH Ck).2.2.2.2.2.2.2.1,(AH (AH Ck)).1,(AH (AH Ck)).2.1,(AH (AH Ck)).2.2.1,(AH (AH Ck)).2.2.2.1,(AH (AH Ck)).2.2.2.2.1,(AH (AH Ck)).2.2.2.2.2.1,(AH (AH Ck)).2.2.2.2.2.2.1,(AH (AH Ck)).2.2.2.2.2.2.2.1,(AH (AH (AH Ck))).1,(AH (AH (AH Ck))).2.1,(AH (AH (AH Ck))).2.2.1,ALr⟩,HG,AJ,AL,AP,hr,rt,ox,kr,Il,Im,Fj,ap_hr_ox,ap_rt_ox,ap_kr_ox,lo_ox,D4,M3,Dj⟩ fun a34 w34 hI34=>?_
       clear AJ
       clear AL
       clear AP
       clear hr
       clear rt
       clear ox
       clear kr
       clear HG
       obtain⟨q,ms,hkn,hput,hml,haft,hfp,Kv,HG,AJ,AL,AP,hr,rt,ox,kr,Il,Im,Fj,ap_hr_ox,ap_rt_ox,ap_kr_ox,lo_ox,D4,M3,Dj⟩:=hI34
       refine ALl fun K35 k35=>?_
       refine ALl fun K36 k36=>?_
       have hkm:q<ms.length:=by omega
       have hkm1:q-1<ms.length:=by omega
       obtain⟨a1,Ld⟩:∃x,ms[q]'hkm=x:=⟨_,rfl⟩
       obtain⟨b1,Kj⟩:∃x,ms[(q-1)]'hkm1=x:=⟨_,rfl⟩
       have hao:=AJw hput (by omega) hkm Ld
       rcases(show q=0∨(0<q∧Ej a1.o b1.o=true)∨(0<q∧Ej a1.o b1.o=false) by rcases Nat.eq_zero_or_pos q with h|h<;>cases Ej a1.o b1.o<;>simp[h]) with hk0|⟨hk0,hc⟩|⟨hk0,hc⟩
       · have hpos:=Xu hs hf (by omega) (fun j h1 h2=>haft j h1 (by omega)) (.inl hk0)
         refine DP Kv [(37,.int .i64 ((q:Int))),(38,.bool false),(39,.bool false),(40,undef),(41,undef),(42,undef),(43,undef),(44,undef),(45,undef),(46,undef),(47,undef),(48,undef),(49,undef),(50,undef),(51,undef),(52,.bool false)]
          ⟨ym r5,Cq r6 (fun _=>DJ (decide_eq_false (by omega))),ym r5,Ab r6,Ab r6,Ab r6,Ab r6,Ab r6,Ab r6,Ab r6,Ab r6,Ab r6,Ab r6,Ab r6,Ab r6,CK r7,ALr⟩ fun a37 w37 g37 IG=>?_
         refine k36 _ _ ?_
         refine Av IG rfl rfl ?_
         refine wp_exit ?_
         repeat refine CJ ?_
         refine x33 _ _ ?_
         refine k29 _ _ ?_
         refine ALl fun K38 k38=>?_
         replace AJ:=AC g37 AJ
         replace AL:=AC g37 AL
         replace AP:=AC g37 AP
         refine DU (IG.st w37) (by kernel_rfl) 7 [(71,Sp.is (pt Cf)),(72,Sp.is (AR sa)),(73,Sp.is (pk Cf 32)),(74,Sp.is (AR po)),(75,Sp.is (AR ((kd 276 po)))),(76,Sp.is (.slice aoX (ks.length+1) capX)),(77,Sp.is (Ao sa ((kd 276 po)) (.slice aoX (ks.length+1) capX)))] rfl (by kernel_rfl) (by kernel_rfl) (by kernel_rfl) [] (by kernel_rfl)
          ⟨yf r6 (fun _=>by kernel_rfl),yp (i:=0) r6 (CB sa hsa.1) AJ rfl rfl,yf r6 (fun _=>by kernel_rfl),yp (i:=1) r6 (CB po hpo.1) AJ rfl (by simp[AI,AQ,hsa.1,hpo.1]),Ad [.int .u64 276,AR po,.slice none 0 0] Tryz.func35 (by kernel_rfl) rq4 ⟨rfl,(oy rfl rfl),rfl,ALr⟩ (As fun W g=>LY (n:=276) (by decide) rfl hpo W),ym r5,BV (vs:=[AR sa,AR ((kd 276 po)),.slice aoX (ks.length+1) capX]) rfl rfl trivial ⟨(oy rfl rfl),(oy rfl rfl),(oy rfl rfl),ALr⟩ (fun _=>bV3 hsa (Bb _ _) _ _ _ _) (fun _=>rfl),ALr⟩ trivial
          [] (by kernel_rfl) trivial ⟨.inl rfl,.inl rfl,.inl rfl,.inl rfl,.inl rfl,.inl rfl,.inl rfl,ALr⟩ (by kernel_rfl) fun a39 w39 g39 st39 nd39=>?_
         obtain⟨hn39,hd39,e39_71,e39_72,e39_73,e39_74,e39_75,e39_76,e39_77,e39_37,e39_38,e39_39,e39_40,e39_41,e39_42,e39_43,e39_44,e39_45,e39_46,e39_47,e39_48,e39_49,e39_50,e39_51,e39_52,e39_7,e39_34,e39_35,e39_36,e39_6,e39_33,e39_17,e39_18,e39_19,e39_20,e39_12,e39_13,e39_14,e39_15,e39_8,e39_9,e39_10,e39_5,e39_4,e39_3,e39_2,e39_0,e39_1,e39_25,e39_32,-⟩:=st39
         have Js:Sv 78 [] [(37,_),(38,_),(39,_),(40,_),(41,_),(42,_),(43,_),(44,_),(45,_),(46,_),(47,_),(48,_),(49,_),(50,_),(51,_),(52,_),(7,_),(34,_),(35,_),(36,_),(6,_),(33,_),(17,_),(18,_),(19,_),(20,_),(12,_),(13,_),(14,_),(15,_),(8,_),(9,_),(10,_),(5,_),(4,_),(3,_),(2,_),(0,_),(1,_),(25,_),(32,_),(77,_)] a39:=⟨hn39,hd39,e39_37,e39_38,e39_39,e39_40,e39_41,e39_42,e39_43,e39_44,e39_45,e39_46,e39_47,e39_48,e39_49,e39_50,e39_51,e39_52,e39_7,e39_34,e39_35,e39_36,e39_6,e39_33,e39_17,e39_18,e39_19,e39_20,e39_12,e39_13,e39_14,e39_15,e39_8,e39_9,e39_10,e39_5,e39_4,e39_3,e39_2,e39_0,e39_1,e39_25,e39_32,e39_77,ALr⟩
         refine Ap Js r7 (BR hsa (Bb _ _) (.slice aoX (ks.length+1) capX) rfl) (AC g39 AP) (by first|rfl|simp[AY,AI,AQ,hsa.1,(Bb _ _).1]) fun w40 g40 h40=>?_
         replace AJ:=Ah g39 g40 AJ (Ne.symm A3)
         replace AL:=Ah g39 g40 AL (Ne.symm BO)
         replace hr:=((hr.kn g37).kn g39).offR g40 (AU Bw)
         replace rt:=((rt.kn g37).kn g39).offR g40 (AU Ik)
         replace ox:=((ox.kn g37).kn g39).offR g40 (AU Fj)
         replace kr:=((kr.kn g37).kn g39).offR g40 (AU Dj)
         replace HG:=AD (AA (AA HG g37) g39) g40 CG
         replace AP:=h40
         refine Aa (v:=.int .i64 0) Js r6 fun a41 Et=>?_
         refine AE ?_
         refine k38 _ _ ?_
         refine ALo ?_
         repeat refine AM ?_
         refine BQ (fn:=Tryz.f39) Et (Gf (p:=4) (q:=5) Tryz.results39 Et rfl rfl rfl rfl (BR hsa (Bb _ _) (.slice aoX (ks.length+1) capX) rfl) AP) ?_
         exact VRes.mk2 (P:=Ms (ks.map VK.p) o T) (by unfold MS;rw[if_pos hv,if_neg (by rw[hf];simp),if_neg (by simpa using hfull)]) (by rw[NP,hpos];exact hput) ox kr (fun k hk=>(hfp k hk).elim (fun h=>.inl (.inr h)) (fun h=>.inr (rt.2 k h))) HG
       · have hbo:=AEj hput (by omega) hk0 hkm1 Kj
         have hc2:Ej o (od (ks.map VK.p) (q-1))=true:=by rw[←hao,←hbo];exact hc
         refine DP Kv [(37,.int .i64 ((q:Int))),(38,.bool true),(39,.bool true),(40,.slice aoX (ks.length+1) capX),(41,.int .i64 ((q:Int))),(42,pk ((bO aoX)) (oO aoX+q*33)),(43,pk ((bO aoX)) (oO aoX+q*33)),(44,AR a1.o),(45,.slice aoX (ks.length+1) capX),(46,.int .i64 ((q:Int))),(47,.int .i64 (((q-1:Nat):Int))),(48,pk ((bO aoX)) (oO aoX+(q-1)*33)),(49,pk ((bO aoX)) (oO aoX+(q-1)*33)),(50,AR b1.o),(51,.bool true),(52,.bool true)]
          ⟨ym r5,Cq r6 (fun _=>DJ (decide_eq_true (by omega))),ym r5,A1 rq8,A1 rq8,C3 rfl rfl (gy rfl rfl rfl) (oy rfl rfl) (oy rfl rfl) (fun w=>CW Tryz.underlying34 (by kernel_rfl) (Sl.of_own ox) (by omega) (rfl) w) (fun _=>rfl),Bl rq9 (fun _=>by kernel_rfl),A9 rq9 (fun _ g=>Ae (CB a1.o a1.ho.1) (ME (Sl.of_own (ox.kn g)) hkm Ld)),A1 rq8,A1 rq8,BZ rq9 (fun _=>F5 (by rw[BA (by omega) (by omega)];omega)),C3 rfl rfl (gy rfl rfl rfl) (oy rfl rfl) (oy rfl rfl) (fun w=>CW Tryz.underlying34 (by kernel_rfl) (Sl.of_own ox) (by omega) (rfl) w) (fun _=>rfl),Bl rq9 (fun _=>by kernel_rfl),A9 rq9 (fun _ g=>Ae (CB b1.o b1.ho.1) (ME (Sl.of_own (ox.kn g)) hkm1 Kj)),CL [AR a1.o,AR b1.o] Tryz.func86 (by kernel_rfl) r7 ⟨(oy rfl rfl),(oy rfl rfl),ALr⟩ (As fun W g=>AEl hc a1.ho b1.ho W),BC rq9,ALr⟩ fun a42 w42 g42 GR=>?_
         refine k36 _ _ ?_
         refine Ar GR rfl rfl ?_
         refine ALp ?_
         refine k35 _ _ ?_
         refine ALl fun K43 k43=>?_
         refine BF fun Q44 x44 y44 r44 o44=>?_
         replace ox:=ox.kn g42
         refine DU (GR.st w42) (by kernel_rfl) 15 [(55,Sp.is (.slice aoX (ks.length+1) capX)),(56,Sp.is (.int .i64 ((q:Int)))),(57,Sp.is (.int .i64 (((q-1:Nat):Int)))),(58,Sp.is (.slice aoX (ks.length+1) capX)),(59,Sp.is (.int .i64 ((q:Int)))),(60,Sp.is (.slice aoX (ks.length+1) capX)),(61,Sp.is (.int .i64 ((q:Int)))),(62,Sp.is (pk ((bO aoX)) (oO aoX+q*33))),(63,Sp.is (Hp a1)),(64,Sp.is (.slice aoX (ks.length+1) capX)),(65,Sp.is (.int .i64 ((q:Int)))),(66,Sp.is (.int .i64 (((q-1:Nat):Int)))),(67,Sp.is (pk ((bO aoX)) (oO aoX+(q-1)*33))),(68,Sp.is (Hp b1)),(69,Sp.is (pk ((bO aoX)) (oO aoX+(q-1)*33)))] rfl (by kernel_rfl) (by kernel_rfl) (by kernel_rfl) [3,4] (by kernel_rfl)
          ⟨ym r5,ym r5,Cq r6 (fun _=>F5 (by rw[BA (by omega) (by omega)];omega)),ym r5,ym r5,ym r5,ym r5,BJ rq8 (fun w=>CW Tryz.underlying34 (by kernel_rfl) (Sl.of_own ox) (by omega) (rfl) w),CD r6 (fun _ g=>Ae (Uq a1) (Zu (Sl.of_own (ox.kn g)) hkm Ld)),ym r5,ym r5,Cq r6 (fun _=>F5 (by rw[BA (by omega) (by omega)];omega)),BJ rq8 (fun w=>CW Tryz.underlying34 (by kernel_rfl) (Sl.of_own ox) (by omega) (rfl) w),CD r6 (fun _ g=>Ae (Uq b1) (Zu (Sl.of_own (ox.kn g)) hkm1 Kj)),BJ rq8 (fun w=>CW Tryz.underlying34 (by kernel_rfl) (Sl.of_own ox) (by omega) (rfl) w),ALr⟩ ⟨fun o ho=>by obtain rfl:=Option.some.inj ho;exact QK 6 58 (.inl rfl) rfl rfl trivial (fun _ _ h=>h),fun o ho=>by obtain rfl:=Option.some.inj ho;exact QK 7 59 (.inl rfl) rfl rfl trivial (fun _ _ h=>h),ALr⟩
          [] (by kernel_rfl) trivial ⟨.inl rfl,.inl rfl,.inl rfl,.inl rfl,.inl rfl,.inl rfl,.inl rfl,.inl rfl,.inl rfl,.inl rfl,.inl rfl,.inl rfl,.inl rfl,.inl rfl,.inl rfl,ALr⟩ (by kernel_rfl) fun a45 w45 g45 st45 nd45=>?_
         obtain⟨hn45,hd45,e45_55,e45_56,e45_57,e45_58,e45_59,e45_60,e45_61,e45_62,e45_63,e45_64,e45_65,e45_66,e45_67,e45_68,e45_69,e45_37,e45_38,e45_39,e45_40,e45_41,e45_42,e45_43,e45_44,e45_45,e45_46,e45_47,e45_48,e45_49,e45_50,e45_51,e45_52,e45_7,e45_34,e45_35,e45_36,e45_6,e45_33,e45_17,e45_18,e45_19,e45_20,e45_12,e45_13,e45_14,e45_15,e45_8,e45_9,e45_10,e45_5,e45_4,e45_3,e45_2,e45_0,e45_1,e45_25,e45_32,-⟩:=st45
         have FT:Sv 78 [] [(37,_),(38,_),(39,_),(40,_),(41,_),(42,_),(43,_),(44,_),(45,_),(46,_),(47,_),(48,_),(49,_),(50,_),(51,_),(52,_),(7,_),(34,_),(35,_),(36,_),(6,_),(33,_),(17,_),(18,_),(19,_),(20,_),(12,_),(13,_),(14,_),(15,_),(8,_),(9,_),(10,_),(5,_),(4,_),(3,_),(2,_),(0,_),(1,_),(25,_),(32,_),(58,_),(59,_),(63,_),(68,_),(69,_)] a45:=⟨hn45,hd45,e45_37,e45_38,e45_39,e45_40,e45_41,e45_42,e45_43,e45_44,e45_45,e45_46,e45_47,e45_48,e45_49,e45_50,e45_51,e45_52,e45_7,e45_34,e45_35,e45_36,e45_6,e45_33,e45_17,e45_18,e45_19,e45_20,e45_12,e45_13,e45_14,e45_15,e45_8,e45_9,e45_10,e45_5,e45_4,e45_3,e45_2,e45_0,e45_1,e45_25,e45_32,e45_58,e45_59,e45_63,e45_68,e45_69,ALr⟩
         replace ox:=ox.kn g45
         refine J5 (c:=AY) (el:=a1) FT rfl rfl rfl rfl rfl rfl rfl (Uq a1) ox C6 (by decide) (by first|omega|(simp only[List.length_set];omega)) rfl fun w46 g46 h46=>?_
         replace AJ:=AF g46 (AC g45 (AC g42 AJ)) (fun e=>Il _ (Ct (j:=(q-1)) ox (by omega) rfl) (Option.some.inj e).symm)
         replace AL:=AF g46 (AC g45 (AC g42 AL)) (fun e=>Im _ (Ct (j:=(q-1)) ox (by omega) rfl) (Option.some.inj e).symm)
         replace AP:=AF g46 (AC g45 (AC g42 AP)) (fun e=>Fj _ (Ct (j:=(q-1)) ox (by omega) rfl) (Option.some.inj e).symm)
         replace hr:=((hr.kn g42).kn g45).offR g46 (fun k hk e=>ap_hr_ox k hk (Ct (j:=(q-1)) ox (by omega) e))
         replace rt:=((rt.kn g42).kn g45).offR g46 (fun k hk e=>ap_rt_ox k hk (Ct (j:=(q-1)) ox (by omega) e))
         replace kr:=((kr.kn g42).kn g45).offR g46 (fun k hk e=>ap_kr_ox k hk (Ct (j:=(q-1)) ox (by omega) e))
         replace HG:=Bh (AA (AA HG g42) g45) g46 fun k e=>lo_ox k (Ct (j:=(q-1)) ox (by omega) e)
         replace ox:=h46
         refine AK FT 1 [(70,pk ((bO aoX)) (oO aoX+q*33))]
          ⟨BJ rq8 (fun w=>CW Tryz.underlying34 (by kernel_rfl) (Sl.of_own ox) (by omega) (rfl) w),ALr⟩ fun a47 w47 g47 MV=>?_
         replace ox:=ox.kn g47
         refine J5 (c:=AY) (el:=b1) MV rfl rfl rfl rfl rfl rfl rfl (Uq b1) ox C6 (by decide) (by first|omega|(simp only[List.length_set];omega)) rfl fun w48 g48 h48=>?_
         replace AJ:=AF g48 (AC g47 AJ) (fun e=>Il _ (Ct (j:=q) ox (by omega) rfl) (Option.some.inj e).symm)
         replace AL:=AF g48 (AC g47 AL) (fun e=>Im _ (Ct (j:=q) ox (by omega) rfl) (Option.some.inj e).symm)
         replace AP:=AF g48 (AC g47 AP) (fun e=>Fj _ (Ct (j:=q) ox (by omega) rfl) (Option.some.inj e).symm)
         replace hr:=(hr.kn g47).offR g48 (fun k hk e=>ap_hr_ox k hk (Ct (j:=q) ox (by omega) e))
         replace rt:=(rt.kn g47).offR g48 (fun k hk e=>ap_rt_ox k hk (Ct (j:=q) ox (by omega) e))
         replace kr:=(kr.kn g47).offR g48 (fun k hk e=>ap_kr_ox k hk (Ct (j:=q) ox (by omega) e))
         replace HG:=Bh (AA HG g47) g48 fun k e=>lo_ox k (Ct (j:=q) ox (by omega) e)
         have KF:Sv _ _ [_,_,_,_,_,_,_,_,_,_,_,_,_,_,_,_,_,_,_,_,_,_,_,_,_,_,_,_,_,_,_,_,_,_,_,_,_,_,_,_,_] _:=MV.dl [70,58,59,63,68,69]
         refine AE ?_
         have kr2:=kr.sub (ns:=(ms.set (q-1) a1).set q b1) fun x hx=>MF hkm hkm1 Ld Kj hx
         have Xv:∀k,DI ((ms.set (q-1) a1).set q b1) k→k≠Cf:=fun k hk=>D4 k (Lc (fun x hx=>MF hkm hkm1 Ld Kj hx) hk)
         have Xw:∀k,DI ((ms.set (q-1) a1).set q b1) k→k≠CX:=fun k hk=>M3 k (Lc (fun x hx=>MF hkm hkm1 Ld Kj hx) hk)
         have Xx:∀k,DI ((ms.set (q-1) a1).set q b1) k→k≠Fa:=fun k hk=>Dj k (Lc (fun x hx=>MF hkm hkm1 Ld Kj hx) hk)
         have ap_kr2_ox:∀k,DI ((ms.set (q-1) a1).set q b1) k→¬Bi (.slice aoX (ks.length+1) capX) k:=fun k hk=>ap_kr_ox k (Lc (fun x hx=>MF hkm hkm1 Ld Kj hx) hk)
         refine y44 _ _ ?_
         refine k43 _ _ ?_
         refine ALk ?_
         refine AK KF 2 [(53,.int .i64 ((q:Int))),(54,.int .i64 (((q-1:Nat):Int)))]
          ⟨ym r5,Cq r6 (fun _=>F5 (by rw[BA (by omega) (by omega)];omega)),ALr⟩ fun a50 w50 g50 Po=>?_
         refine Aa (v:=.int .i64 (((q-1:Nat):Int))) Po r6 fun a51 EE=>?_
         refine AE ?_
         replace AJ:=AC g50 AJ
         replace AL:=AC g50 AL
         replace AP:=AC g50 AP
         replace hr:=hr.kn g50
         replace rt:=rt.kn g50
         replace ox:=h48.kn g50
         replace kr2:=kr2.kn g50
         replace HG:=AA HG g50
         exact⟨⟨q-1,(ms.set (q-1) a1).set q b1,by omega,AEk hput (by omega) hk0 hkm hkm1 Ld Kj,by rw[List.length_set,List.length_set];exact hml,fun j h1 h2=>if e:j=q-1 then e▸hc2 else haft j (by omega) h2,fun b h=>hfp b (Lc (fun x hx=>MF hkm hkm1 Ld Kj hx) h),⟨EE.1,EE.2.1,EE.2.2.1,(AH (AH EE)).2.2.2.2.2.1,(AH (AH EE)).2.2.2.2.2.2.1,(AH (AH EE)).2.2.2.2.2.2.2.1,(AH (AH (AH EE))).1,(AH (AH (AH EE))).2.1,(AH (AH (AH EE))).2.2.1,(AH (AH (AH EE))).2.2.2.1,(AH (AH (AH EE))).2.2.2.2.1,(AH (AH (AH EE))).2.2.2.2.2.1,(AH (AH (AH EE))).2.2.2.2.2.2.1,(AH (AH (AH EE))).2.2.2.2.2.2.2.1,(AH (AH (AH (AH EE)))).1,(AH (AH (AH (AH EE)))).2.1,(AH (AH (AH (AH EE)))).2.2.1,(AH (AH (AH (AH EE)))).2.2.2.1,(AH (AH (AH (AH EE)))).2.2.2.2.1,(AH (AH (AH (AH EE)))).2.2.2.2.2.1,(AH (AH (AH (AH EE)))).2.2.2.2.2.2.1,(AH (AH (AH (AH EE)))).2.2.2.2.2.2.2.1,(AH (AH (AH (AH (AH EE))))).1,(AH (AH (AH (AH (AH EE))))).2.1,(AH (AH (AH (AH (AH EE))))).2.2.1,(AH (AH (AH (AH (AH EE))))).2.2.2.1,(AH (AH (AH (AH (AH EE))))).2.2.2.2.1,ALr⟩,HG,AJ,AL,AP,hr,rt,ox,kr2,Il,Im,Fj,ap_hr_ox,ap_rt_ox,ap_kr2_ox,lo_ox,Xv,Xw,Xx⟩,by rw[show _=_ from EE.2.2.1,show _=_ from Kv.2.2.1];simp[intOf];omega⟩
       · have hbo:=AEj hput (by omega) hk0 hkm1 Kj
         have hpos:=Xu hs hf (by omega) (fun j h1 h2=>haft j h1 (by omega)) (.inr (by rw[←hao,←hbo];exact hc))
         refine DP Kv [(37,.int .i64 ((q:Int))),(38,.bool true),(39,.bool true),(40,.slice aoX (ks.length+1) capX),(41,.int .i64 ((q:Int))),(42,pk ((bO aoX)) (oO aoX+q*33)),(43,pk ((bO aoX)) (oO aoX+q*33)),(44,AR a1.o),(45,.slice aoX (ks.length+1) capX),(46,.int .i64 ((q:Int))),(47,.int .i64 (((q-1:Nat):Int))),(48,pk ((bO aoX)) (oO aoX+(q-1)*33)),(49,pk ((bO aoX)) (oO aoX+(q-1)*33)),(50,AR b1.o),(51,.bool false),(52,.bool false)]
          ⟨ym r5,Cq r6 (fun _=>DJ (decide_eq_true (by omega))),ym r5,A1 rq8,A1 rq8,C3 rfl rfl (gy rfl rfl rfl) (oy rfl rfl) (oy rfl rfl) (fun w=>CW Tryz.underlying34 (by kernel_rfl) (Sl.of_own ox) (by omega) (rfl) w) (fun _=>rfl),Bl rq9 (fun _=>by kernel_rfl),A9 rq9 (fun _ g=>Ae (CB a1.o a1.ho.1) (ME (Sl.of_own (ox.kn g)) hkm Ld)),A1 rq8,A1 rq8,BZ rq9 (fun _=>F5 (by rw[BA (by omega) (by omega)];omega)),C3 rfl rfl (gy rfl rfl rfl) (oy rfl rfl) (oy rfl rfl) (fun w=>CW Tryz.underlying34 (by kernel_rfl) (Sl.of_own ox) (by omega) (rfl) w) (fun _=>rfl),Bl rq9 (fun _=>by kernel_rfl),A9 rq9 (fun _ g=>Ae (CB b1.o b1.ho.1) (ME (Sl.of_own (ox.kn g)) hkm1 Kj)),CL [AR a1.o,AR b1.o] Tryz.func86 (by kernel_rfl) r7 ⟨(oy rfl rfl),(oy rfl rfl),ALr⟩ (As fun W g=>AEl hc a1.ho b1.ho W),BC rq9,ALr⟩ fun a52 w52 g52 Uz=>?_
         refine k36 _ _ ?_
         refine Av Uz rfl rfl ?_
         refine wp_exit ?_
         repeat refine CJ ?_
         refine x33 _ _ ?_
         refine k29 _ _ ?_
         refine ALl fun K53 k53=>?_
         replace AJ:=AC g52 AJ
         replace AL:=AC g52 AL
         replace AP:=AC g52 AP
         refine DU (Uz.st w52) (by kernel_rfl) 7 [(71,Sp.is (pt Cf)),(72,Sp.is (AR sa)),(73,Sp.is (pk Cf 32)),(74,Sp.is (AR po)),(75,Sp.is (AR ((kd 276 po)))),(76,Sp.is (.slice aoX (ks.length+1) capX)),(77,Sp.is (Ao sa ((kd 276 po)) (.slice aoX (ks.length+1) capX)))] rfl (by kernel_rfl) (by kernel_rfl) (by kernel_rfl) [] (by kernel_rfl)
          ⟨yf r6 (fun _=>by kernel_rfl),yp (i:=0) r6 (CB sa hsa.1) AJ rfl rfl,yf r6 (fun _=>by kernel_rfl),yp (i:=1) r6 (CB po hpo.1) AJ rfl (by simp[AI,AQ,hsa.1,hpo.1]),Ad [.int .u64 276,AR po,.slice none 0 0] Tryz.func35 (by kernel_rfl) rq4 ⟨rfl,(oy rfl rfl),rfl,ALr⟩ (As fun W g=>LY (n:=276) (by decide) rfl hpo W),ym r5,BV (vs:=[AR sa,AR ((kd 276 po)),.slice aoX (ks.length+1) capX]) rfl rfl trivial ⟨(oy rfl rfl),(oy rfl rfl),(oy rfl rfl),ALr⟩ (fun _=>bV3 hsa (Bb _ _) _ _ _ _) (fun _=>rfl),ALr⟩ trivial
          [] (by kernel_rfl) trivial ⟨.inl rfl,.inl rfl,.inl rfl,.inl rfl,.inl rfl,.inl rfl,.inl rfl,ALr⟩ (by kernel_rfl) fun a54 w54 g54 st54 nd54=>?_
         obtain⟨hn54,hd54,e54_71,e54_72,e54_73,e54_74,e54_75,e54_76,e54_77,e54_37,e54_38,e54_39,e54_40,e54_41,e54_42,e54_43,e54_44,e54_45,e54_46,e54_47,e54_48,e54_49,e54_50,e54_51,e54_52,e54_7,e54_34,e54_35,e54_36,e54_6,e54_33,e54_17,e54_18,e54_19,e54_20,e54_12,e54_13,e54_14,e54_15,e54_8,e54_9,e54_10,e54_5,e54_4,e54_3,e54_2,e54_0,e54_1,e54_25,e54_32,-⟩:=st54
         have E8:Sv 78 [] [(37,_),(38,_),(39,_),(40,_),(41,_),(42,_),(43,_),(44,_),(45,_),(46,_),(47,_),(48,_),(49,_),(50,_),(51,_),(52,_),(7,_),(34,_),(35,_),(36,_),(6,_),(33,_),(17,_),(18,_),(19,_),(20,_),(12,_),(13,_),(14,_),(15,_),(8,_),(9,_),(10,_),(5,_),(4,_),(3,_),(2,_),(0,_),(1,_),(25,_),(32,_),(77,_)] a54:=⟨hn54,hd54,e54_37,e54_38,e54_39,e54_40,e54_41,e54_42,e54_43,e54_44,e54_45,e54_46,e54_47,e54_48,e54_49,e54_50,e54_51,e54_52,e54_7,e54_34,e54_35,e54_36,e54_6,e54_33,e54_17,e54_18,e54_19,e54_20,e54_12,e54_13,e54_14,e54_15,e54_8,e54_9,e54_10,e54_5,e54_4,e54_3,e54_2,e54_0,e54_1,e54_25,e54_32,e54_77,ALr⟩
         refine Ap E8 r7 (BR hsa (Bb _ _) (.slice aoX (ks.length+1) capX) rfl) (AC g54 AP) (by first|rfl|simp[AY,AI,AQ,hsa.1,(Bb _ _).1]) fun w55 g55 h55=>?_
         replace AJ:=Ah g54 g55 AJ (Ne.symm A3)
         replace AL:=Ah g54 g55 AL (Ne.symm BO)
         replace hr:=((hr.kn g52).kn g54).offR g55 (AU Bw)
         replace rt:=((rt.kn g52).kn g54).offR g55 (AU Ik)
         replace ox:=((ox.kn g52).kn g54).offR g55 (AU Fj)
         replace kr:=((kr.kn g52).kn g54).offR g55 (AU Dj)
         replace HG:=AD (AA (AA HG g52) g54) g55 CG
         replace AP:=h55
         refine Aa (v:=.int .i64 0) E8 r6 fun a56 FU=>?_
         refine AE ?_
         refine k53 _ _ ?_
         refine ALo ?_
         repeat refine AM ?_
         refine BQ (fn:=Tryz.f39) FU (Gf (p:=4) (q:=5) Tryz.results39 FU rfl rfl rfl rfl (BR hsa (Bb _ _) (.slice aoX (ks.length+1) capX) rfl) AP) ?_
         exact VRes.mk2 (P:=Ms (ks.map VK.p) o T) (by unfold MS;rw[if_pos hv,if_neg (by rw[hf];simp),if_neg (by simpa using hfull)]) (by rw[NP,hpos];exact hput) ox kr (fun k hk=>(hfp k hk).elim (fun h=>.inl (.inr h)) (fun h=>.inr (rt.2 k h))) HG
   · refine ALk ?_
     refine AK Dh 4 [(12,Ao sa po (.slice ao ks.length cap)),(13,AR o),(14,.int .i64 ((i:Int))),(15,.bool true)]
       ⟨yl r6 (BR hsa hpo (.slice ao ks.length cap) rfl) AJ,yl r6 (CB o ho.1) AL,Ad [Ao sa po (.slice ao ks.length cap),AR o] Tryz.func84 (by kernel_rfl) rq4 ⟨(oy rfl rfl),(oy rfl rfl),ALr⟩ (As fun W g=>AJs hsa hpo ho (hr.kn g) hv (AId hf hi)),Cq r6 (fun _=>FQ (decide_eq_true (by omega))),ALr⟩ fun a57 w57 g57 AEm=>?_
     refine AE ?_
     refine k15 _ _ ?_
     refine Ar AEm rfl rfl ?_
     refine ALl fun K58 k58=>?_
     refine ALk ?_
     refine AK AEm 1 [(16,Ao sa po (.slice ao ks.length cap))]
       ⟨yl r6 (BR hsa hpo (.slice ao ks.length cap) rfl) (AC g57 AJ),ALr⟩ fun a59 w59 g59 Cz=>?_
     have Na:=AA g57 g59
     refine Ap Cz r7 (BR hsa hpo (.slice ao ks.length cap) rfl) (AC Na AP) (by first|rfl|simp[AY,AI,AQ,hsa.1,hpo.1]) fun w60 g60 h60=>?_
     replace hr:=(hr.kn Na).offR g60 (AU Bw)
     replace HG:=AD (AA HG Na) g60 CG
     replace AP:=h60
     refine Aa (v:=.int .i64 0) Cz r6 fun a61 KM=>?_
     refine AE ?_
     refine k58 _ _ ?_
     refine ALo ?_
     repeat refine AM ?_
     refine BQ (fn:=Tryz.f39) KM (Gf (p:=4) (q:=5) Tryz.results39 KM rfl rfl rfl rfl (BR hsa hpo (.slice ao ks.length cap) rfl) AP) ?_
     exact VRes.same (P:=ks.map VK.p) (by unfold MS;rw[if_pos hv,if_pos hf]) rfl hr (fun k hk=>hk) HG
end Go.Proofs.YtbfjfnbcmojpiaaGreat
namespace Go.Proofs.YtbfjfnbcmojpiaaGreat
open Go.RowKit
section
variable {P:Program} {ops:Array Oper} {S:World→Prop} {Kt:Act→Prop} {o:Oper} {r:List Oper} {a:Act} {n:Nat} {D:List Deferred} {K:List (Nat×Value)}
theorem AGm (sv:Sv n D K a) (hgd:o.guard=none) {T:TypeId} {x:Operand} {d:Nat} {p v:Value} (ho:o.op=.load T x) (hd:o.dst=some d) (hdn:decide (d<n)=true) (hx:Mv K x=true∧Mw K x=p) (hr:∀w,S w→(Instr.loadAt T p).run P w=.ok v w)
  (h:∀a',Sv n D ((d,v)::Jo d K) a'→Fy P ops S Kt r a'):Fy P ops S Kt (o::r) a:=
 Tz hgd T x ho (sv.ev hx.1 hx.2) hr (by rw[hd];exact h _ (sv.put (of_decide_eq_true hdn) v))
theorem AHk (w0:World) (sv:Sv n D K a) {v:Value} {d:Nat} (hd:o.dst=some d) (hc:(decide (d<n)&&!(o.looksAt ops).contains d)=true) (hp:PX P ops (SV ((d,Sp.is v)::Qy K)) n w0 o)
  (h:∀a',Sv n D ((d,v)::Jo d K) a'→Fy P ops S Kt r a'):Fy P ops S Kt (o::r) a:=by
 simp only[Bool.and_eq_true,decide_eq_true_eq,Bool.not_eq_true'] at hc
 obtain⟨u,hy,hu⟩:=hp a w0 (World.grownBy.refl _ _) (fun t ht htn=>by
  have hne:(Nat.beq d t)=false:=by
   cases e:Nat.beq d t with
   | false=>rfl
   | true =>
    have:=Nat.eq_of_beq_eq_true e
    subst this
    have h2:=hc.2
    rw[←Bool.not_eq_true,List.contains_iff_mem] at h2
    exact absurd ht h2
  have h1:=(sv.st w0).2.2.at t
  unfold SV
  rw[hne]
  exact h1) sv.1
 have e:u=v:=by
  have:=hu d hd
  unfold SV at this
  have hb:Nat.beq d d=true:=Nat.beq_refl d
  rw[hb] at this
  exact this
 subst e
 exact⟨_,hy.yieldsIf,by rw[hd];exact h _ (sv.put hc.1 _)⟩
end
section
variable {w w':World} {s v:Value} {l:List Nd}
end
end Go.Proofs.YtbfjfnbcmojpiaaGreat
namespace Go.Proofs.YtbfjfnbcmojpiaaGreat
open Go.RowKit Go.Shelf
theorem AIA (n:Nat):∀b∈Ts n,b<256:=by
 induction n using Nat.strongRecOn with
 | _ n ih =>
  by_cases h:n<128
  · rw[Gb h];intro b hb;simp at hb;omega
  · rw[J2 h]
    intro b hb
    rcases List.mem_cons.1 hb with rfl|hb
    · omega
    · exact ih (n/128) (by omega) b hb
theorem Qb (n:Int):∀b∈enc n,b<256:=AIA _
theorem AFq (s:ByteArray):∀b∈ZK s,b<256:=fun b hb=>by
 rcases List.mem_append.1 hb with h|h
 · exact Qb _ b h
 · exact AHV s b h
theorem AFr (v:V):∀b∈Sc v,b<256:=fun b hb=>by
 unfold Sc at hb
 rcases List.mem_append.1 hb with h|h
 · exact Qb _ b h
 · split at h
   · exact Qb _ b h
   · split at h
     · exact AFq _ b h
     · cases h
def vc (v:V):List Value:=[.int .i64 v.kind,.int .i64 v.int,.string v.text]
theorem EP (v:V):TY Tryz.prog 25 (vc v) (CE v):=tyV v
theorem Hu (v:Value) (h:v.oneCell'=true):TY Tryz.prog 29 [v] v:=TY.one' Tryz.underlying29 rfl (by kernel_rfl) h
theorem Ef {w w':World} {v':Value} (h:Step w NB w' v'):w.grownBy w' none∧∀k,Bi v' k→w.heap.size≤k:=⟨Step.none h,fun k hk=>(h.2 k hk).elim (fun h=>by simp[NB,Value.ownBlock] at h) id⟩
def NwR (w w':World) (xs:List Nat) (e:Ending):Prop:=∃v,e=.returned v∧w.grownBy w' none∧(Sp.row w.heap.size 5 1 xs.length (bv xs)).on w' v
end Go.Proofs.YtbfjfnbcmojpiaaGreat
namespace Go.Proofs.YtbfjfnbcmojpiaaGreat
open Go.RowKit
theorem RY {w w':World} {fp p:Nat→Prop} (g:w.grownBy w' none) (h:∀k,p k→fp k∨TagV w k):∀k,p k→fp k∨TagV w' k:=fun k hk=>(h k hk).imp id (·.keep g (by simp))
def Sp.vt (r:VV×Int) (fp:Nat→Prop):Sp:=⟨fun w v=>∃ao cap ks,v=.tuple #[Ao r.1.2.1 r.1.2.2 (.slice ao (List.length ks) cap),.int .i64 r.2]∧ks.map VK.p=r.1.1∧RdK w (.slice ao (List.length ks) cap) ks∧∀k,JZ (.slice ao (List.length ks) cap) ks k→fp k∨TagV w k,fun _ _ _ hg ⟨ao,cap,ks,h1,h2,h3,h4⟩=>⟨ao,cap,ks,h1,h2,h3.kn hg,RY hg h4⟩⟩
theorem VRes.on {w w':World} {r:VV×Int} {fp:Nat→Prop} {e:Ending} (h:VRes w w' r fp e):∃v,e=.returned v∧w.grownBy w' none∧(Sp.vt r fp).on w' v:=by
 obtain⟨ao,cap,ks,h1,h2,h3,h4,h5⟩:=h
 exact⟨_,h1,h5,ao,cap,ks,rfl,h2,h3,h4⟩
section
variable {w0:World} {ks:List VK} {ao:Option Addr} {cap:Nat} {sa po o:List Nat} {P:List VP} {r:VV×Int} {a:Int}
theorem AIh (hsa:Dg sa) (hpo:Dg po) (ho:Dg o) (hk:RdK w0 (.slice ao ks.length cap) ks) (hm:ks.map VK.p=P) {T:List Nd} (hT:tree (kd 275 po) []=T) (hres:MS (P,sa,po) o T (kd 276 po)=r) :
  ∀W,w0.grownBy W none→Calls Tryz.prog 36 #[Ao sa po (.slice ao ks.length cap),AR o] W fun e W'=>∃v,e=.returned v∧W.grownBy W' none∧(Sp.vt r fun _=>False).on W' v:=fun W g=>by
 subst hres hm
 exact(AEb ks ao cap sa po hsa hpo o ho T hT W (hk.kn g)).mono fun e W' h=>h.on
theorem AGn (hsa:Dg sa) (hpo:Dg po) (ho:Dg o) (hk:RdK w0 (.slice ao ks.length cap) ks) (hm:ks.map VK.p=P) {T:List Nd} (hT:tree (kd 275 po) []=T) (hres:MS (P,sa,po) o T (kd 276 po)=r) :
  ∀W,w0.grownBy W none→Calls Tryz.prog 39 #[Ao sa po (.slice ao ks.length cap),AR o] W fun e W'=>∃v,e=.returned v∧W.grownBy W' none∧(Sp.vt r (JZ (.slice ao ks.length cap) ks)).on W' v:=fun W g=>by
 subst hres hm
 exact(ACf ks ao cap sa po hsa hpo o ho T hT W (hk.kn g)).mono fun e W' h=>h.on
theorem AIi (hsa:Dg sa) (hpo:Dg po) (ho:Dg o) (hk:RdK w0 (.slice ao ks.length cap) ks) (hm:ks.map VK.p=P) (hres:RL (P,sa,po) o a=r) :
  ∀W,w0.grownBy W none→Calls Tryz.prog 31 #[Ao sa po (.slice ao ks.length cap),AR o,.int .i64 a] W fun e W'=>∃v,e=.returned v∧W.grownBy W' none∧(Sp.vt r fun _=>False).on W' v:=fun W g=>by
 subst hres hm
 exact(AEg ks ao cap sa po hsa hpo o ho a W (hk.kn g)).mono fun e W' h=>h.on
theorem AIj (hsa:Dg sa) (hpo:Dg po) (ho:Dg o) (hk:RdK w0 (.slice ao ks.length cap) ks) (hm:ks.map VK.p=P) (hres:Zf (P,sa,po) o=r) :
  ∀W,w0.grownBy W none→Calls Tryz.prog 29 #[Ao sa po (.slice ao ks.length cap),AR o] W fun e W'=>∃v,e=.returned v∧W.grownBy W' none∧(Sp.vt r fun _=>False).on W' v:=fun W g=>by
 subst hres hm
 exact(AEh ks ao cap sa po hsa hpo o ho W (hk.kn g)).mono fun e W' h=>h.on
theorem AJx {w:World} {q:List Nat×Int} (hsa:Dg sa) (hpo:Dg po) (ho:Dg o) (hk:RdK w (.slice ao ks.length cap) ks) (hm:ks.map VK.p=P) (hres:Cb P o a=q) :
  Calls Tryz.prog 32 #[Ao sa po (.slice ao ks.length cap),AR o,.int .i64 a] w fun e w'=>e=.returned (.tuple #[AR q.1,.int .i64 q.2])∧w.grownBy w' none:=by
 subst hres hm
 exact AEY ks ao cap sa po hsa hpo o ho a w hk
theorem Nb {w:World} {b:Bool} (hsa:Dg sa) (hpo:Dg po) (hk:RdK w (.slice ao ks.length cap) ks) (hm:ks.map VK.p=P) (hb:CI P=b):Calls Tryz.prog 51 #[Ao sa po (.slice ao ks.length cap)] w fun e w'=>e=.returned (.bool b)∧w.grownBy w' none:=by
 subst hm
 exact F8 hsa hpo hk hb
end
end Go.Proofs.YtbfjfnbcmojpiaaGreat
namespace Go.Proofs.YtbfjfnbcmojpiaaGreat
def By (l:List Nat):Prop:=∀x∈l,x<256
def KP (a b:List Nat):List Nat:=List.zipWith (fun x y=>x ^^^ y) a b
theorem Nc {a b:List Nat} (h:a.length≤b.length):(KP a b).length=a.length:=by unfold KP;rw[List.length_zipWith];omega
theorem ABH {a b:List Nat} (ha:By a) (hb:By b):By (KP a b):=fun x hx=>by
 unfold KP at hx
 rw[List.mem_iff_getElem] at hx
 obtain⟨i,hi,rfl⟩:=hx
 rw[List.getElem_zipWith]
 exact Nat.xor_lt_two_pow (n:=8) (ha _ (List.getElem_mem _)) (hb _ (List.getElem_mem _))
theorem Ok:∀{a b:List Nat},a.length≤b.length→KP (KP a b) b=a
 | [],_,_=>rfl
 | _::_,[],h=>by simp at h
 | x::a,y::b,h=>by
  have ih:=Ok (a:=a) (b:=b) (by simpa using h)
  unfold KP at ih ⊢
  simp only[List.zipWith_cons_cons,ih,Nat.xor_assoc,Nat.xor_self,Nat.xor_zero]
def U5 (all:Bool) (keys:List (List Nat)):List Nat:=Sf (BitVec.ofNat 64 (if all then 282 else 281)) keys.flatten
def msk (k:List Nat):List Nat:=NH (BitVec.ofNat 64 283) k []
def Md (c k:List Nat):List Nat:=KP c (msk k)
def Jb (b c:List Nat):List Nat:=KP b (sq (Hm (BitVec.ofNat 64 284) c) b.length)
def U6 (c:List Nat) (a:Int) (b:List Nat):List Nat:=NH (BitVec.ofNat 64 285) c (enc a++b)
def tgC (a:Int) (b:List Nat):List Nat:=Sf (BitVec.ofNat 64 280) (enc a++b)
structure Sd where
 addr:Int
 own:List (List Nat)
 joint:Int
 wr:List (List Nat)
 body:List Nat
 tag:List Nat
def Sd.zero:Sd:=⟨0,[],0,[],[],AS⟩
def IK (l:List (List Nat)) (i:Nat):List Nat:=(l[i]?).getD []
theorem Ol {l:List (List Nat)} {i:Nat} (h:i<l.length):IK l i=l[i]:=by unfold IK;rw[List.getElem?_eq_getElem h];rfl
def AAM (l:List (List Nat)) (i:Nat):Bool:=decide (i=0)||Ej (IK l (i-1)) (IK l i)
def asc (l:List (List Nat)):Bool:=(List.range l.length).all (AAM l)
theorem ABI {l:List (List Nat)}:asc l=true↔∀i,i<l.length→AAM l i=true:=by unfold asc;simp[List.all_eq_true,List.mem_range]
theorem AIl {l:List (List Nat)} {i:Nat} (h:i<l.length) (hc:AAM l i=false):asc l=false:=by
 cases h2:asc l with
 | false=>rfl
 | true=>rw[ABI.1 h2 i h] at hc;cases hc
theorem AGo {l:List (List Nat)} (h:∀i,i<l.length→AAM l i=true):asc l=true:=ABI.2 h
def hd (own:List (List Nat)) (joint addr:Int):Bool:=Bn addr&&(decide (joint=0)||decide (joint=1))&&decide (own.length≤16)&&asc own
def FK (s:Sd):Bool:=hd s.own s.joint s.addr&&decide (s.body.length≤64)&&decide (s.wr.length=if s.joint=1 then s.own.length else 0)
def Cg (P:List VP) (a:Int):List (List Nat)→List (List Nat)×Int
 | []=>([],0)
 | o::l=>if (Cb P o a).2=0 then ((Cb P o a).1::(Cg P a l).1,(Cg P a l).2) else ([],(Cb P o a).2)
def E9 (P:List VP) (own:List (List Nat)) (joint addr:Int) (x:V):Sd×Int:=
 if hd own joint addr&&CI P then
   (if own=[] then (⟨addr,[],joint,[],Bt x,tgC addr (Bt x)⟩,0)
   else if (Cg P addr own).2=0 then
     (⟨addr,own,joint,if joint=1 then (Cg P addr own).1.map (Md (U5 (decide (joint=1)) (Cg P addr own).1)) else [],
       Jb (Bt x) (U5 (decide (joint=1)) (Cg P addr own).1),U6 (U5 (decide (joint=1)) (Cg P addr own).1) addr (Jb (Bt x) (U5 (decide (joint=1)) (Cg P addr own).1))⟩,0)
   else (Sd.zero,(Cg P addr own).2))
 else (Sd.zero,1)
end Go.Proofs.YtbfjfnbcmojpiaaGreat
