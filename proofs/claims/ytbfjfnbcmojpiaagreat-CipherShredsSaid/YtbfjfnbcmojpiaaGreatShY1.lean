import Derived.Test.YtbfjfnbcmojpiaaGreatShV9
import Derived.OrdersHeld
import Derived.Test.YtbfjfnbcmojpiaaGreatShSG
set_option linter.unusedSimpArgs false
set_option linter.unusedVariables false
set_option maxRecDepth 100000
set_option maxHeartbeats 4000000
namespace Go.Proofs.YtbfjfnbcmojpiaaGreat
open Go.RowKit Go.Shelf
def Sp.lit1T (B:Nat) (o:List Nat) (l:List Nd):Sp:=⟨fun w v=>∃(A:Nat) (x:VK),v=.slice (some ⟨A,0,none⟩) 1 1∧w.heap[A]?=some (.cells (Ag x).toArray 58 (0,0))∧x.o=o∧x.l=l∧RdTg w x.s x.l∧(∀k,Nv x.s k→B≤k)∧B≤A,fun _ _ _ hg ⟨A,x,h1,h2,h3,h4,h5,h7,h8⟩=>⟨A,x,h1,AF hg h2 (by simp),h3,h4,h5.kn hg,h7,h8⟩⟩
theorem AEw {B:Nat} {o:List Nat} {l:List Nd} {w:World} {v:Value} (hB:B≤w.heap.size) (h:(Sp.ck B o l).on w v):∃cs:List Value,(Instr.buildSlice 34 1 #[(0,v)]).run Tryz.prog w=.ok (.slice (some ⟨w.heap.size,0,none⟩) 1 1) (w.alloc (.cells cs.toArray 58)) ∧
  ∀w',w.grownBy w' none→w'.heap[w.heap.size]?=some (.cells cs.toArray 58 (0,0))→(Sp.lit1T B o l).on w' (.slice (some ⟨w.heap.size,0,none⟩) 1 1):=by
 obtain⟨x,rfl,h2,h3,h4,h6⟩:=h
 exact⟨Ag x,AJy x w,fun w' g hb=>⟨_,x,rfl,hb,h2,h3,h4.kn g,h6,hB⟩⟩
theorem AJ5 {P:List VP} {ms:List VK} {k:Nat} {o:List Nat} {T:List Nd} (h:ms.map VK.p=Hv P k (o,T)) (hk:k≤P.length) (hm:k<ms.length) {z:VK} (hz:ms[k]=z):z.o=o:=by
 have h1:(ms.map VK.p)[k]?=some z.p:=by rw[List.getElem?_map,List.getElem?_eq_getElem hm,hz];rfl
 rw[h,Gz hk,if_neg (by omega),if_pos rfl] at h1
 exact(congrArg Prod.fst (Option.some.inj h1)).symm
theorem AEx {P:List VP} {ms:List VK} {k:Nat} {x:VP} (h:ms.map VK.p=Hv P k x) (hk:k≤P.length) (h0:0<k) (hm:k-1<ms.length) {z:VK} (hz:ms[k-1]=z):z.o=od P (k-1):=by
 have h1:(ms.map VK.p)[k-1]?=some z.p:=by rw[List.getElem?_map,List.getElem?_eq_getElem hm,hz];rfl
 rw[h,Gz hk,if_pos (by omega)] at h1
 rw[(JY h1).1]
 rfl
theorem AEy {P:List VP} {ms:List VK} {k:Nat} {x:VP} (h:ms.map VK.p=Hv P k x) (hk:k≤P.length) (h0:0<k) (hm:k<ms.length) (hm1:k-1<ms.length) {a b:VK} (ha:ms[k]=a) (hb:ms[k-1]=b):((ms.set (k-1) a).set k b).map VK.p=Hv P (k-1) x:=by
 rw[List.map_set,List.map_set,h]
 refine AAZ h0 hk x _ _ ?_ ?_
 · rw[←h,List.getElem?_map,List.getElem?_eq_getElem hm,ha];rfl
 · rw[←h,List.getElem?_map,List.getElem?_eq_getElem hm1,hb];rfl
theorem Mp {ms:List VK} {k:Nat} (hm:k<ms.length) (hm1:k-1<ms.length) {a b:VK} (ha:ms[k]=a) (hb:ms[k-1]=b) {x:VK} (hx:x∈(ms.set (k-1) a).set k b):x∈ms:=by
 rcases List.mem_or_eq_of_mem_set hx with h|h
 · rcases List.mem_or_eq_of_mem_set h with h|h
   · exact h
   · rw[h,←ha];exact List.getElem_mem hm
 · rw[h,←hb];exact List.getElem_mem hm1
theorem KsR.sub {w:World} {ms ns:List VK} (h:KsR w ms) (hs:∀x∈ns,x∈ms):KsR w ns:=fun k hk=>h k (hs k hk)
theorem MH {ms ns:List VK} (hs:∀x∈ns,x∈ms) {b:Nat} (h:DU ns b):DU ms b:=by
 obtain⟨k,hk,hb⟩:=h
 exact⟨k,hs k hk,hb⟩
theorem KsR.snoc {w:World} {ms:List VK} (h:KsR w ms) {x:VK} (hx:RdT w x.s x.l):KsR w (ms++[x]):=fun k hk=>by
 rcases List.mem_append.1 hk with hk|hk
 · exact h k hk
 · obtain rfl:=List.mem_singleton.1 hk;exact hx
theorem KG {ms:List VK} {x:VK} {b:Nat} (h:DU (ms++[x]) b):DU ms b∨Nv x.s b:=by
 obtain⟨k,hk,hb⟩:=h
 rcases List.mem_append.1 hk with hk|hk
 · exact .inl ⟨k,hk,hb⟩
 · obtain rfl:=List.mem_singleton.1 hk;exact .inr hb
theorem AEz {x y:List Nat} {b:Bool} (hb:Es x y=b) (hx:Dg x) (hy:Dg y) (w:World):Calls Tryz.prog 86 #[AP x,AP y] w fun e w'=>e=.returned (.bool b)∧w.grownBy w' none:=Nb hb hx hy w
theorem AGz (ks:List VK) (y:VK):ks.flatMap Ag++Ag y=(ks++[y]).flatMap Ag:=by rw[List.flatMap_append];simp
theorem AG0 {w:World} {A:Nat} {x:VK} (h:w.heap[A]?=some (.cells (Ag x).toArray 58 (0,0))):Sl w 33 (.slice (some ⟨A,0,none⟩) 1 1) 1 (Ag x):=AEk h
theorem ACt (ks:List VK) (ao:Option Addr) (cap:Nat) (sa po:List Nat) (hsa:Dg sa) (hpo:Dg po) (o:List Nat) (ho:Dg o) (T:List Nd) (hT:tree (kd 275 po) []=T) (w:World) (hr:RdK w (.slice ao ks.length cap) ks) :
   Calls Tryz.prog 39 #[Ao sa po (.slice ao ks.length cap),AP o] w fun e w'=>VRes w w' (M1 (ks.map VK.p,sa,po) o T (kd 276 po)) (KX (.slice ao ks.length cap) ks) e:=by
 have hlt0:=hr.lt
 have hmap:(ks.map VK.p).length=ks.length:=List.length_map _
 refine Bg Tryz.func39 rfl Tryz.ntmps39 rfl fun a0 sv0=>?_
 have HG:=World.grownBy.refl w none
 replace sv0:Sv 78 [] [(0,Ao sa po (.slice ao ks.length cap)),(1,AP o)] a0:=sv0
 refine ALo fun K1 k1=>?_
 refine ALn ?_
 refine Bn sv0 r6 (BX hsa hpo (.slice ao ks.length cap) rfl) fun a2 w2 Cp Ds g2 z2 AK sv2=>?_
 have AAa:=A1 (hr.lt) Ds
 replace hr:=hr.kn g2
 refine Bn sv2 r6 (CD o ho.1) fun a3 w3 Cc Fl g3 z3 AN sv3=>?_
 have AAb:=A1 (hr.lt) Fl
 replace AK:=AC g3 AK
 replace hr:=hr.kn g3
 replace HG:=AA (AA HG g2) g3
 refine Av (T:=36) (Z:=([bv AQ,bv AQ,[.slice none 0 0]].flatten)) sv3 rfl rfl rfl (fun a w=>by kernel_rfl) fun a4 w4 Gg CS g4 z4 AR sv4=>?_
 have BZ:=Ar AK CS
 have Bl:=Ar AN CS
 have CY:=Bt HG CS
 have CJ:=A1 (hr.lt) CS
 replace AK:=AC g4 AK
 replace AN:=AC g4 AN
 replace hr:=hr.kn g4
 replace HG:=AA HG g4
 refine Aa (v:=.int .i64 0) sv4 r6 fun a5 sv5=>?_
 refine AE ?_
 refine k1 _ _ ?_
 refine ALo fun K6 k6=>?_
 refine ALo fun K7 k7=>?_
 cases hv:CH (ks.map VK.p)
 · refine ALn ?_
   refine AI sv5 3 [(8,Ao sa po (.slice ao ks.length cap)),(9,.bool false),(10,.bool true)]
     ⟨yl r6 (BX hsa hpo (.slice ao ks.length cap) rfl) AK,Ae [Ao sa po (.slice ao ks.length cap)] Tryz.func40 (by kernel_rfl) rq4 ⟨(oy rfl rfl),ALu⟩ (Au fun W g=>Ug hsa hpo (hr.kn g) hv),Cl r6 (fun _=>BJ),ALu⟩ fun a8 w8 g8 sv8=>?_
   refine AE ?_
   refine k7 _ _ ?_
   refine Ay sv8 rfl rfl ?_
   refine ALo fun K9 k9=>?_
   refine ALn ?_
   replace AK:=AC g8 AK
   replace AN:=AC g8 AN
   replace AR:=AC g8 AR
   refine AI sv8 1 [(11,Ao AQ AQ (.slice none 0 0))]
     ⟨Ba (vs:=[]) rfl rfl trivial trivial (fun _=>bV0 _) (fun _=>rfl),ALu⟩ fun a10 w10 g10 Ci=>?_
   refine As Ci r7 (BX AO AO (.slice none 0 0) rfl) (AC g10 AR) (by first|rfl|simp[Ag,AJ,AU,AO.1,AO.1]) fun w11 g11 h11=>?_
   replace AK:=Al g10 g11 AK (Ne.symm BZ)
   replace AN:=Al g10 g11 AN (Ne.symm Bl)
   replace hr:=((hr.kn g8).kn g10).offR g11 (AV CJ)
   replace HG:=AD (AA (AA HG g8) g10) g11 CY
   replace AR:=h11
   refine Aa (v:=.int .i64 1) Ci r6 fun a12 DX=>?_
   refine AE ?_
   refine k9 _ _ ?_
   refine ALr ?_
   repeat refine AL ?_
   refine BH (fn:=Tryz.f39) DX (Gp (p:=4) (q:=5) Tryz.results39 DX rfl rfl rfl rfl (BX AO AO (.slice none 0 0) rfl) AR) ?_
   exact VRes.zero (by unfold M1;rw[if_neg (by rw[hv];simp)]) HG
 · obtain⟨i,hi⟩:∃i,pos (ks.map VK.p) o=i:=⟨_,rfl⟩
   have h64:ks.length≤64:=by have:=(Et.1 hv).1;simpa using this
   have hs:=Srt.of hv
   refine ALn ?_
   refine AI sv5 3 [(8,Ao sa po (.slice ao ks.length cap)),(9,.bool true),(10,.bool false)]
     ⟨yl r6 (BX hsa hpo (.slice ao ks.length cap) rfl) AK,Ae [Ao sa po (.slice ao ks.length cap)] Tryz.func40 (by kernel_rfl) rq4 ⟨(oy rfl rfl),ALu⟩ (Au fun W g=>Ug hsa hpo (hr.kn g) hv),Cl r6 (fun _=>BJ),ALu⟩ fun a13 w13 g13 EC=>?_
   refine AE ?_
   refine k7 _ _ ?_
   refine Az EC rfl rfl ?_
   refine ALs ?_
   refine k6 _ _ ?_
   refine ALo fun K14 k14=>?_
   refine ALo fun K15 k15=>?_
   replace AK:=AC g13 AK
   replace AN:=AC g13 AN
   replace AR:=AC g13 AR
   replace hr:=hr.kn g13
   replace HG:=AA HG g13
   cases hf:IT (ks.map VK.p) o
   · refine ALn ?_
     refine AI EC 4 [(12,Ao sa po (.slice ao ks.length cap)),(13,AP o),(14,.int .i64 ((-1))),(15,.bool false)]
       ⟨yl r6 (BX hsa hpo (.slice ao ks.length cap) rfl) AK,yl r6 (CD o ho.1) AN,Ae [Ao sa po (.slice ao ks.length cap),AP o] Tryz.func84 (by kernel_rfl) rq4 ⟨(oy rfl rfl),(oy rfl rfl),ALu⟩ (Au fun W g=>AJ1 hsa hpo ho (hr.kn g) hv (AJ2 hf)),CQ r6 (fun _=>FY (by decide)),ALu⟩ fun a16 w16 g16 Cu=>?_
     refine AE ?_
     refine k15 _ _ ?_
     refine Az Cu rfl rfl ?_
     refine ALs ?_
     refine k14 _ _ ?_
     refine ALo fun K17 k17=>?_
     refine ALo fun K18 k18=>?_
     replace AK:=AC g16 AK
     replace AN:=AC g16 AN
     replace AR:=AC g16 AR
     replace hr:=hr.kn g16
     replace HG:=AA HG g16
     by_cases hfull:64≤ks.length
     · refine ALn ?_
       refine AI Cu 4 [(17,pk Cp 64),(18,.slice ao ks.length cap),(19,.int .i64 ((ks.length:Nat))),(20,.bool true)]
         ⟨yf r6 (fun _=>by kernel_rfl),yp (i:=2) r6 (Eb (.slice ao ks.length cap) rfl) AK rfl (by simp[AJ,AU,hsa.1,hpo.1]),CB (Tryz.underlying34) rfl rfl trivial (oy rfl rfl) (fun _=>rfl),CQ r6 (fun _=>FY (decide_eq_true (by omega))),ALu⟩ fun a19 w19 g19 E3=>?_
       refine AE ?_
       refine k18 _ _ ?_
       refine Ay E3 rfl rfl ?_
       refine ALo fun K20 k20=>?_
       refine ALn ?_
       replace AK:=AC g19 AK
       replace AN:=AC g19 AN
       replace AR:=AC g19 AR
       refine AI E3 1 [(21,Ao AQ AQ (.slice none 0 0))]
         ⟨Ba (vs:=[]) rfl rfl trivial trivial (fun _=>bV0 _) (fun _=>rfl),ALu⟩ fun a21 w21 g21 Da=>?_
       refine As Da r7 (BX AO AO (.slice none 0 0) rfl) (AC g21 AR) (by first|rfl|simp[Ag,AJ,AU,AO.1,AO.1]) fun w22 g22 h22=>?_
       replace AK:=Al g21 g22 AK (Ne.symm BZ)
       replace AN:=Al g21 g22 AN (Ne.symm Bl)
       replace hr:=((hr.kn g19).kn g21).offR g22 (AV CJ)
       replace HG:=AD (AA (AA HG g19) g21) g22 CY
       replace AR:=h22
       refine Aa (v:=.int .i64 8) Da r6 fun a23 Cz=>?_
       refine AE ?_
       refine k20 _ _ ?_
       refine ALr ?_
       repeat refine AL ?_
       refine BH (fn:=Tryz.f39) Cz (Gp (p:=4) (q:=5) Tryz.results39 Cz rfl rfl rfl rfl (BX AO AO (.slice none 0 0) rfl) AR) ?_
       exact VRes.zero (by unfold M1;rw[if_pos hv,if_neg (by rw[hf];simp),if_pos (by simpa using hfull)]) HG
     · refine ALn ?_
       refine AI Cu 4 [(17,pk Cp 64),(18,.slice ao ks.length cap),(19,.int .i64 ((ks.length:Nat))),(20,.bool false)]
         ⟨yf r6 (fun _=>by kernel_rfl),yp (i:=2) r6 (Eb (.slice ao ks.length cap) rfl) AK rfl (by simp[AJ,AU,hsa.1,hpo.1]),CB (Tryz.underlying34) rfl rfl trivial (oy rfl rfl) (fun _=>rfl),CQ r6 (fun _=>FY (decide_eq_false (by omega))),ALu⟩ fun a24 w24 g24 CI=>?_
       refine AE ?_
       refine k18 _ _ ?_
       refine Az CI rfl rfl ?_
       refine ALs ?_
       refine k17 _ _ ?_
       refine ALo fun K25 k25=>?_
       replace AK:=AC g24 AK
       replace AN:=AC g24 AN
       replace AR:=AC g24 AR
       replace hr:=hr.kn g24
       replace HG:=AA HG g24
       refine DZ (CI.st w24) (by kernel_rfl) 11 [(22,Sp.lit0 w24.heap.size 58),(23,Sp.is (pk Cp 64)),(24,Sp.is (.slice ao ks.length cap)),(25,Sp.row w24.heap.size 58 33 ks.length (ks.flatMap Ag)),(26,Sp.is (AP o)),(27,Sp.is (pk Cp 32)),(28,Sp.is (AP po)),(29,Sp.is (AP ((kd 275 po)))),(30,Sp.ct w24.heap.size T),(31,Sp.ck w24.heap.size o T),(32,Sp.lit1T w24.heap.size o T)] rfl (by kernel_rfl) (by kernel_rfl) (by kernel_rfl) [] (by kernel_rfl)
         ⟨VL (t:=0) rfl trivial (Nat.le_refl _) (fun a w=>by kernel_rfl) (fun _ _ h=>h),yf r6 (fun _=>by kernel_rfl),yp (i:=2) r6 (Eb (.slice ao ks.length cap) rfl) AK rfl (by simp[AJ,AU,hsa.1,hpo.1]),VM (news:=ks.flatMap Ag) Xr rfl rfl trivial rfl (fun _ _ h=>h) (oy rfl rfl) (fun _ g=>(hr.kn g).1.1) (Rk ks) (by omega) (Nat.le_refl _) (fun _ _ h=>h),yl r6 (CD o ho.1) AN,yf r6 (fun _=>by kernel_rfl),yp (i:=1) r6 (CD po hpo.1) AK rfl (by simp[AJ,AU,hsa.1,hpo.1]),Ae [.int .u64 275,AP po,.slice none 0 0] Tryz.func35 (by kernel_rfl) rq4 ⟨rfl,(oy rfl rfl),rfl,ALu⟩ (Au fun W g=>MC (n:=275) (by decide) rfl hpo W),Ae [AP ((kd 275 po))] Tryz.func85 (by kernel_rfl) rq4 ⟨(oy rfl rfl),ALu⟩ (AEY (Be _ _) hT),Mm rfl rfl trivial rfl (fun W _ av h=>match av,h with|[u,t],⟨h1,h2,_⟩=>AEW ho h1 h2),Qn rfl rfl trivial (Nat.le_refl _) rfl (fun W hw v h=>AEw hw.size h.1),ALu⟩ trivial
         [] (by kernel_rfl) trivial ⟨.inl rfl,.inl rfl,.inl rfl,.inl rfl,.inl rfl,.inl rfl,.inl rfl,.inl rfl,.inl rfl,.inl rfl,.inl rfl,ALu⟩ (by kernel_rfl) fun a26 w26 g26 st26 nd26=>?_
       obtain⟨hn26,hd26,e26_22,e26_23,e26_24,e26_25,e26_26,e26_27,e26_28,e26_29,e26_30,e26_31,e26_32,e26_17,e26_18,e26_19,e26_20,e26_12,e26_13,e26_14,e26_15,e26_8,e26_9,e26_10,e26_5,e26_4,e26_3,e26_2,e26_0,e26_1,-⟩:=st26
       obtain⟨aoW,capW,e26_25q,ow,frW⟩:=e26_25
       obtain⟨V,y,e26_32q,HV,hyo,hyl,rt,frB,geV⟩:=e26_32
       have Gv:=CK frW AK
       have R5:=CK frW AN
       have Gx:=CK frW AR
       have ap_hr_ow:=AEV (hr.lt) frW
       have lo_ow:=LO HG frW
       have Kn:=CK frB AK
       have AAc:=CK frB AN
       have I2:=CK frB AR
       have PY:V≠Cp:=Nat.ne_of_gt (Nat.lt_of_lt_of_le (Array.getElem?_eq_some_iff.1 AK).1 geV)
       have ACp:V≠Cc:=Nat.ne_of_gt (Nat.lt_of_lt_of_le (Array.getElem?_eq_some_iff.1 AN).1 geV)
       have Uj:V≠Gg:=Nat.ne_of_gt (Nat.lt_of_lt_of_le (Array.getElem?_eq_some_iff.1 AR).1 geV)
       have lo_V:w.heap.size≤V:=Nat.le_trans HG.size geV
       replace AK:=AC g26 AK
       replace AN:=AC g26 AN
       replace AR:=AC g26 AR
       replace hr:=hr.kn g26
       replace HG:=AA HG g26
       have ap_rt_ow:=rt.2.own ow (by decide)
       have Cj:Sv 78 [] [(17,_),(18,_),(19,_),(20,_),(12,_),(13,_),(14,_),(15,_),(8,_),(9,_),(10,_),(5,_),(4,_),(3,_),(2,_),(0,_),(1,_),(25,_),(32,_)] a26:=⟨hn26,hd26,e26_17,e26_18,e26_19,e26_20,e26_12,e26_13,e26_14,e26_15,e26_8,e26_9,e26_10,e26_5,e26_4,e26_3,e26_2,e26_0,e26_1,e26_25q,e26_32q,ALu⟩
       refine NZ Xr Cj rfl rfl rfl rfl rfl rfl rfl rfl ow (AG0 HV) (List.all_eq_true.2 (Ix y)) (by omega) fun a27 aoX capX w27 ox Cq Jr=>?_
       have I3:∀k,Bq (.slice aoX (ks.length+1) capX) k→k≠Cp:=fun k hk=>(Cq.2 k hk).elim (Gv k) (fun h=>Nat.ne_of_gt (Nat.lt_of_lt_of_le (Array.getElem?_eq_some_iff.1 AK).1 h))
       have I6:∀k,Bq (.slice aoX (ks.length+1) capX) k→k≠Cc:=fun k hk=>(Cq.2 k hk).elim (R5 k) (fun h=>Nat.ne_of_gt (Nat.lt_of_lt_of_le (Array.getElem?_eq_some_iff.1 AN).1 h))
       have Fq:∀k,Bq (.slice aoX (ks.length+1) capX) k→k≠Gg:=fun k hk=>(Cq.2 k hk).elim (Gx k) (fun h=>Nat.ne_of_gt (Nat.lt_of_lt_of_le (Array.getElem?_eq_some_iff.1 AR).1 h))
       have ap_hr_ox:∀k,KX (.slice ao ks.length cap) ks k→¬Bq (.slice aoX (ks.length+1) capX) k:=fun k hk hx=>(Cq.2 k hx).elim (ap_hr_ow k hk) (fun h=>absurd (hr.lt k hk) (Nat.not_lt.2 h))
       have ap_rt_ox:∀k,Nv (VK.s y) k→¬Bq (.slice aoX (ks.length+1) capX) k:=fun k hk hx=>(Cq.2 k hx).elim (ap_rt_ow k hk) (fun h=>absurd (rt.lt k hk) (Nat.not_lt.2 h))
       have lo_ox:=AAD Cq.2 lo_ow HG
       replace AK:=AF Cq.1 AK (fun e=>Gv _ e.symm rfl)
       replace AN:=AF Cq.1 AN (fun e=>R5 _ e.symm rfl)
       replace AR:=AF Cq.1 AR (fun e=>Gx _ e.symm rfl)
       replace hr:=hr.offR Cq.1 (fun k hk e=>ap_hr_ow k hk (e))
       replace rt:=rt.offR Cq.1 (fun k hk e=>ap_rt_ow k hk (e))
       replace HG:=Bp HG Cq.1 fun k e=>lo_ow k (e)
       rw[AGz] at ox
       refine Aa (v:=.slice aoX (ks.length+1) capX) Jr r6 fun a28 L8=>?_
       refine AE ?_
       have kr:=KsR.snoc hr.2 rt.1
       have Fp:∀k,DU (ks++[y]) k→k≠Cp:=fun k hk=>(KG hk).elim (fun h=>AAa k (.inr h)) (Kn k)
       have Nh:∀k,DU (ks++[y]) k→k≠Cc:=fun k hk=>(KG hk).elim (fun h=>AAb k (.inr h)) (AAc k)
       have Ee:∀k,DU (ks++[y]) k→k≠Gg:=fun k hk=>(KG hk).elim (fun h=>CJ k (.inr h)) (I2 k)
       have ap_kr_ox:∀k,DU (ks++[y]) k→¬Bq (.slice aoX (ks.length+1) capX) k:=fun k hk=>(KG hk).elim (fun h=>ap_hr_ox k (.inr h)) (ap_rt_ox k)
       refine k25 _ _ ?_
       refine ALo fun K29 k29=>?_
       refine ALo fun K30 k30=>?_
       refine ALn ?_
       refine AI L8 3 [(34,.slice aoX (ks.length+1) capX),(35,.int .i64 (((ks.length+1):Nat))),(36,.int .i64 ((ks.length:Int)))]
         ⟨ym r5,CB (Tryz.underlying34) rfl rfl trivial (oy rfl rfl) (fun _=>rfl),CQ r6 (fun _=>GF (by rw[BG (by omega) (by omega)];omega)),ALu⟩ fun a31 w31 g31 Hu=>?_
       refine Aa (v:=.int .i64 ((ks.length:Int))) Hu r6 fun a32 Cr=>?_
       refine AE ?_
       refine k30 _ _ ?_
       refine BM fun Q33 x33 y33 r33 o33=>?_
       replace AK:=AC g31 AK
       replace AN:=AC g31 AN
       replace AR:=AC g31 AR
       replace hr:=hr.kn g31
       replace rt:=rt.kn g31
       replace ox:=ox.kn g31
       replace kr:=kr.kn g31
       replace HG:=AA HG g31
       have hput0:(ks++[y]).map VK.p=Hv (ks.map VK.p) ks.length (o,T):=by rw[show ks.length=(ks.map VK.p).length from hmap.symm,ACu,List.map_append];simp[VK.p,hyo,hyl]
       refine wp_loop (fun a w'=>∃(q:Nat) (ms:List VK),(q≤ks.length)∧(ms.map VK.p=Hv (ks.map VK.p) q (o,T))∧(ms.length=ks.length+1)∧(∀j,q≤j→j<ks.length→Es o (od (ks.map VK.p) j)=true)∧(∀b,DU ms b→DU ks b∨Nv y.s b)∧Sv 78 [] [(7,.int .i64 ((q:Int))),(34,.slice aoX (ks.length+1) capX),(35,.int .i64 (((ks.length+1):Nat))),(36,.int .i64 ((ks.length:Int))),(6,.slice aoX (ks.length+1) capX),(33,.slice aoX (ks.length+1) capX),(17,pk Cp 64),(18,.slice ao ks.length cap),(19,.int .i64 ((ks.length:Nat))),(20,.bool false),(12,Ao sa po (.slice ao ks.length cap)),(13,AP o),(14,.int .i64 ((-1))),(15,.bool false),(8,Ao sa po (.slice ao ks.length cap)),(9,.bool true),(10,.bool false),(5,.int .i64 0),(4,pt Gg),(3,pt Cc),(2,pt Cp),(0,Ao sa po (.slice ao ks.length cap)),(1,AP o),(25,.slice aoW ks.length capW),(32,.slice ((some ⟨V,0,none⟩)) 1 1)] a∧w.grownBy w' none∧w'.heap[Cp]?=some (.cells ([bv sa,bv po,[.slice ao ks.length cap]].flatten).toArray 36 (0,0))∧w'.heap[Cc]?=some (.cells (bv o).toArray 23 (0,0))∧w'.heap[Gg]?=some (.cells (([bv AQ,bv AQ,[.slice none 0 0]].flatten)).toArray 36 (0,0))∧RdK w' (.slice ao ks.length cap) ks∧RdTg w' (VK.s y) y.l∧Own w' 58 33 (.slice aoX (ks.length+1) capX) ((ks.length+1)) (ms.flatMap Ag)∧KsR w' ms∧(∀k,Bq (.slice aoX (ks.length+1) capX) k→k≠Cp)∧(∀k,Bq (.slice aoX (ks.length+1) capX) k→k≠Cc)∧(∀k,Bq (.slice aoX (ks.length+1) capX) k→k≠Gg)∧(∀k,KX (.slice ao ks.length cap) ks k→¬Bq (.slice aoX (ks.length+1) capX) k)∧(∀k,Nv (VK.s y) k→¬Bq (.slice aoX (ks.length+1) capX) k)∧(∀k,DU ms k→¬Bq (.slice aoX (ks.length+1) capX) k)∧(∀k,Bq (.slice aoX (ks.length+1) capX) k→w.heap.size≤k)∧(∀k,DU ms k→k≠Cp)∧(∀k,DU ms k→k≠Cc)∧(∀k,DU ms k→k≠Gg)) (fun a _=>(intOf (a.tmps.getD 7 undef)).toNat) ⟨ks.length,ks++[y],Nat.le_refl _,hput0,by simp,fun j h1 h2=>by omega,fun b h=>KG h,⟨Cr.1,Cr.2.1,Cr.2.2.1,Cr.2.2.2.1,Cr.2.2.2.2.1,Cr.2.2.2.2.2.1,Cr.2.2.2.2.2.2.1,Cr.2.2.2.2.2.2.2.1,(AH Cr).1,(AH Cr).2.1,(AH Cr).2.2.1,(AH Cr).2.2.2.1,(AH Cr).2.2.2.2.1,(AH Cr).2.2.2.2.2.1,(AH Cr).2.2.2.2.2.2.1,(AH Cr).2.2.2.2.2.2.2.1,(AH (AH Cr)).1,(AH (AH Cr)).2.1,(AH (AH Cr)).2.2.1,(AH (AH Cr)).2.2.2.1,(AH (AH Cr)).2.2.2.2.1,(AH (AH Cr)).2.2.2.2.2.1,(AH (AH Cr)).2.2.2.2.2.2.1,(AH (AH Cr)).2.2.2.2.2.2.2.1,(AH (AH (AH Cr))).1,(AH (AH (AH Cr))).2.1,(AH (AH (AH Cr))).2.2.1,ALu⟩,HG,AK,AN,AR,hr,rt,ox,kr,I3,I6,Fq,ap_hr_ox,ap_rt_ox,ap_kr_ox,lo_ox,Fp,Nh,Ee⟩ fun a34 w34 hI34=>?_
       clear AK
       clear AN
       clear AR
       clear hr
       clear rt
       clear ox
       clear kr
       clear HG
       obtain⟨q,ms,hkn,hput,hml,haft,hfp,M3,HG,AK,AN,AR,hr,rt,ox,kr,I3,I6,Fq,ap_hr_ox,ap_rt_ox,ap_kr_ox,lo_ox,Fp,Nh,Ee⟩:=hI34
       refine ALo fun K35 k35=>?_
       refine ALo fun K36 k36=>?_
       have hkm:q<ms.length:=by omega
       have hkm1:q-1<ms.length:=by omega
       obtain⟨a1,MI⟩:∃x,ms[q]'hkm=x:=⟨_,rfl⟩
       obtain⟨b1,LP⟩:∃x,ms[(q-1)]'hkm1=x:=⟨_,rfl⟩
       have hao:=AJ5 hput (by omega) hkm MI
       rcases(show q=0∨(0<q∧Es a1.o b1.o=true)∨(0<q∧Es a1.o b1.o=false) by rcases Nat.eq_zero_or_pos q with h|h<;>cases Es a1.o b1.o<;>simp[h]) with hk0|⟨hk0,hc⟩|⟨hk0,hc⟩
       · have hpos:=YT hs hf (by omega) (fun j h1 h2=>haft j h1 (by omega)) (.inl hk0)
         refine Ck M3 [(37,.int .i64 ((q:Int))),(38,.bool false),(39,.bool false),(40,undef),(41,undef),(42,undef),(43,undef),(44,undef),(45,undef),(46,undef),(47,undef),(48,undef),(49,undef),(50,undef),(51,undef),(52,.bool false)]
          ⟨ym r5,CQ r6 (fun _=>DQ (decide_eq_false (by omega))),ym r5,AX r6,AX r6,AX r6,AX r6,AX r6,AX r6,AX r6,AX r6,AX r6,AX r6,AX r6,AX r6,B8 r7,ALu⟩ fun a37 w37 g37 Jt=>?_
         refine k36 _ _ ?_
         refine Az Jt rfl rfl ?_
         refine wp_exit ?_
         repeat refine CW ?_
         refine x33 _ _ ?_
         refine k29 _ _ ?_
         refine ALo fun K38 k38=>?_
         replace AK:=AC g37 AK
         replace AN:=AC g37 AN
         replace AR:=AC g37 AR
         refine DZ (Jt.st w37) (by kernel_rfl) 7 [(71,Sp.is (pt Cp)),(72,Sp.is (AP sa)),(73,Sp.is (pk Cp 32)),(74,Sp.is (AP po)),(75,Sp.is (AP ((kd 276 po)))),(76,Sp.is (.slice aoX (ks.length+1) capX)),(77,Sp.is (Ao sa ((kd 276 po)) (.slice aoX (ks.length+1) capX)))] rfl (by kernel_rfl) (by kernel_rfl) (by kernel_rfl) [] (by kernel_rfl)
          ⟨yf r6 (fun _=>by kernel_rfl),yp (i:=0) r6 (CD sa hsa.1) AK rfl rfl,yf r6 (fun _=>by kernel_rfl),yp (i:=1) r6 (CD po hpo.1) AK rfl (by simp[AJ,AU,hsa.1,hpo.1]),Ae [.int .u64 276,AP po,.slice none 0 0] Tryz.func35 (by kernel_rfl) rq4 ⟨rfl,(oy rfl rfl),rfl,ALu⟩ (Au fun W g=>MC (n:=276) (by decide) rfl hpo W),ym r5,Ba (vs:=[AP sa,AP ((kd 276 po)),.slice aoX (ks.length+1) capX]) rfl rfl trivial ⟨(oy rfl rfl),(oy rfl rfl),(oy rfl rfl),ALu⟩ (fun _=>bV3 hsa (Be _ _) _ _ _ _) (fun _=>rfl),ALu⟩ trivial
          [] (by kernel_rfl) trivial ⟨.inl rfl,.inl rfl,.inl rfl,.inl rfl,.inl rfl,.inl rfl,.inl rfl,ALu⟩ (by kernel_rfl) fun a39 w39 g39 st39 nd39=>?_
         obtain⟨hn39,hd39,e39_71,e39_72,e39_73,e39_74,e39_75,e39_76,e39_77,e39_37,e39_38,e39_39,e39_40,e39_41,e39_42,e39_43,e39_44,e39_45,e39_46,e39_47,e39_48,e39_49,e39_50,e39_51,e39_52,e39_7,e39_34,e39_35,e39_36,e39_6,e39_33,e39_17,e39_18,e39_19,e39_20,e39_12,e39_13,e39_14,e39_15,e39_8,e39_9,e39_10,e39_5,e39_4,e39_3,e39_2,e39_0,e39_1,e39_25,e39_32,-⟩:=st39
         have L9:Sv 78 [] [(37,_),(38,_),(39,_),(40,_),(41,_),(42,_),(43,_),(44,_),(45,_),(46,_),(47,_),(48,_),(49,_),(50,_),(51,_),(52,_),(7,_),(34,_),(35,_),(36,_),(6,_),(33,_),(17,_),(18,_),(19,_),(20,_),(12,_),(13,_),(14,_),(15,_),(8,_),(9,_),(10,_),(5,_),(4,_),(3,_),(2,_),(0,_),(1,_),(25,_),(32,_),(77,_)] a39:=⟨hn39,hd39,e39_37,e39_38,e39_39,e39_40,e39_41,e39_42,e39_43,e39_44,e39_45,e39_46,e39_47,e39_48,e39_49,e39_50,e39_51,e39_52,e39_7,e39_34,e39_35,e39_36,e39_6,e39_33,e39_17,e39_18,e39_19,e39_20,e39_12,e39_13,e39_14,e39_15,e39_8,e39_9,e39_10,e39_5,e39_4,e39_3,e39_2,e39_0,e39_1,e39_25,e39_32,e39_77,ALu⟩
         refine As L9 r7 (BX hsa (Be _ _) (.slice aoX (ks.length+1) capX) rfl) (AC g39 AR) (by first|rfl|simp[Ag,AJ,AU,hsa.1,(Be _ _).1]) fun w40 g40 h40=>?_
         replace AK:=Al g39 g40 AK (Ne.symm BZ)
         replace AN:=Al g39 g40 AN (Ne.symm Bl)
         replace hr:=((hr.kn g37).kn g39).offR g40 (AV CJ)
         replace rt:=((rt.kn g37).kn g39).offR g40 (AV I2)
         replace ox:=((ox.kn g37).kn g39).offR g40 (AV Fq)
         replace kr:=((kr.kn g37).kn g39).offR g40 (AV Ee)
         replace HG:=AD (AA (AA HG g37) g39) g40 CY
         replace AR:=h40
         refine Aa (v:=.int .i64 0) L9 r6 fun a41 Kh=>?_
         refine AE ?_
         refine k38 _ _ ?_
         refine ALr ?_
         repeat refine AL ?_
         refine BH (fn:=Tryz.f39) Kh (Gp (p:=4) (q:=5) Tryz.results39 Kh rfl rfl rfl rfl (BX hsa (Be _ _) (.slice aoX (ks.length+1) capX) rfl) AR) ?_
         exact VRes.mk2 (P:=NT (ks.map VK.p) o T) (by unfold M1;rw[if_pos hv,if_neg (by rw[hf];simp),if_neg (by simpa using hfull)]) (by rw[OB,hpos];exact hput) ox kr (fun k hk=>(hfp k hk).elim (fun h=>.inl (.inr h)) (fun h=>.inr (rt.2 k h))) HG
       · have hbo:=AEx hput (by omega) hk0 hkm1 LP
         have hc2:Es o (od (ks.map VK.p) (q-1))=true:=by rw[←hao,←hbo];exact hc
         refine Ck M3 [(37,.int .i64 ((q:Int))),(38,.bool true),(39,.bool true),(40,.slice aoX (ks.length+1) capX),(41,.int .i64 ((q:Int))),(42,pk ((bO aoX)) (oO aoX+q*33)),(43,pk ((bO aoX)) (oO aoX+q*33)),(44,AP a1.o),(45,.slice aoX (ks.length+1) capX),(46,.int .i64 ((q:Int))),(47,.int .i64 (((q-1:Nat):Int))),(48,pk ((bO aoX)) (oO aoX+(q-1)*33)),(49,pk ((bO aoX)) (oO aoX+(q-1)*33)),(50,AP b1.o),(51,.bool true),(52,.bool true)]
          ⟨ym r5,CQ r6 (fun _=>DQ (decide_eq_true (by omega))),ym r5,Aw rq8,Aw rq8,C4 rfl rfl (gy rfl rfl rfl) (oy rfl rfl) (oy rfl rfl) (fun w=>Ce Tryz.underlying34 (by kernel_rfl) (Sl.of_own ox) (by omega) (rfl) w) (fun _=>rfl),BE rq9 (fun _=>by kernel_rfl),Ap rq9 (fun _ g=>Ac (CD a1.o a1.ho.1) (Mo (Sl.of_own (ox.kn g)) hkm MI)),Aw rq8,Aw rq8,Bc rq9 (fun _=>GF (by rw[BG (by omega) (by omega)];omega)),C4 rfl rfl (gy rfl rfl rfl) (oy rfl rfl) (oy rfl rfl) (fun w=>Ce Tryz.underlying34 (by kernel_rfl) (Sl.of_own ox) (by omega) (rfl) w) (fun _=>rfl),BE rq9 (fun _=>by kernel_rfl),Ap rq9 (fun _ g=>Ac (CD b1.o b1.ho.1) (Mo (Sl.of_own (ox.kn g)) hkm1 LP)),Bf [AP a1.o,AP b1.o] Tryz.func86 (by kernel_rfl) r7 ⟨(oy rfl rfl),(oy rfl rfl),ALu⟩ (Au fun W g=>AEz hc a1.ho b1.ho W),Ax rq9,ALu⟩ fun a42 w42 g42 GK=>?_
         refine k36 _ _ ?_
         refine Ay GK rfl rfl ?_
         refine ALs ?_
         refine k35 _ _ ?_
         refine ALo fun K43 k43=>?_
         refine BM fun Q44 x44 y44 r44 o44=>?_
         replace ox:=ox.kn g42
         refine DZ (GK.st w42) (by kernel_rfl) 15 [(55,Sp.is (.slice aoX (ks.length+1) capX)),(56,Sp.is (.int .i64 ((q:Int)))),(57,Sp.is (.int .i64 (((q-1:Nat):Int)))),(58,Sp.is (.slice aoX (ks.length+1) capX)),(59,Sp.is (.int .i64 ((q:Int)))),(60,Sp.is (.slice aoX (ks.length+1) capX)),(61,Sp.is (.int .i64 ((q:Int)))),(62,Sp.is (pk ((bO aoX)) (oO aoX+q*33))),(63,Sp.is (IA a1)),(64,Sp.is (.slice aoX (ks.length+1) capX)),(65,Sp.is (.int .i64 ((q:Int)))),(66,Sp.is (.int .i64 (((q-1:Nat):Int)))),(67,Sp.is (pk ((bO aoX)) (oO aoX+(q-1)*33))),(68,Sp.is (IA b1)),(69,Sp.is (pk ((bO aoX)) (oO aoX+(q-1)*33)))] rfl (by kernel_rfl) (by kernel_rfl) (by kernel_rfl) [3,4] (by kernel_rfl)
          ⟨ym r5,ym r5,CQ r6 (fun _=>GF (by rw[BG (by omega) (by omega)];omega)),ym r5,ym r5,ym r5,ym r5,BV rq8 (fun w=>Ce Tryz.underlying34 (by kernel_rfl) (Sl.of_own ox) (by omega) (rfl) w),CE r6 (fun _ g=>Ac (VN a1) (AAK (Sl.of_own (ox.kn g)) hkm MI)),ym r5,ym r5,CQ r6 (fun _=>GF (by rw[BG (by omega) (by omega)];omega)),BV rq8 (fun w=>Ce Tryz.underlying34 (by kernel_rfl) (Sl.of_own ox) (by omega) (rfl) w),CE r6 (fun _ g=>Ac (VN b1) (AAK (Sl.of_own (ox.kn g)) hkm1 LP)),BV rq8 (fun w=>Ce Tryz.underlying34 (by kernel_rfl) (Sl.of_own ox) (by omega) (rfl) w),ALu⟩ ⟨fun o ho=>by obtain rfl:=Option.some.inj ho;exact Qp 6 58 (.inl rfl) rfl rfl trivial (fun _ _ h=>h),fun o ho=>by obtain rfl:=Option.some.inj ho;exact Qp 7 59 (.inl rfl) rfl rfl trivial (fun _ _ h=>h),ALu⟩
          [] (by kernel_rfl) trivial ⟨.inl rfl,.inl rfl,.inl rfl,.inl rfl,.inl rfl,.inl rfl,.inl rfl,.inl rfl,.inl rfl,.inl rfl,.inl rfl,.inl rfl,.inl rfl,.inl rfl,.inl rfl,ALu⟩ (by kernel_rfl) fun a45 w45 g45 st45 nd45=>?_
         obtain⟨hn45,hd45,e45_55,e45_56,e45_57,e45_58,e45_59,e45_60,e45_61,e45_62,e45_63,e45_64,e45_65,e45_66,e45_67,e45_68,e45_69,e45_37,e45_38,e45_39,e45_40,e45_41,e45_42,e45_43,e45_44,e45_45,e45_46,e45_47,e45_48,e45_49,e45_50,e45_51,e45_52,e45_7,e45_34,e45_35,e45_36,e45_6,e45_33,e45_17,e45_18,e45_19,e45_20,e45_12,e45_13,e45_14,e45_15,e45_8,e45_9,e45_10,e45_5,e45_4,e45_3,e45_2,e45_0,e45_1,e45_25,e45_32,-⟩:=st45
         have CL:Sv 78 [] [(37,_),(38,_),(39,_),(40,_),(41,_),(42,_),(43,_),(44,_),(45,_),(46,_),(47,_),(48,_),(49,_),(50,_),(51,_),(52,_),(7,_),(34,_),(35,_),(36,_),(6,_),(33,_),(17,_),(18,_),(19,_),(20,_),(12,_),(13,_),(14,_),(15,_),(8,_),(9,_),(10,_),(5,_),(4,_),(3,_),(2,_),(0,_),(1,_),(25,_),(32,_),(58,_),(59,_),(63,_),(68,_),(69,_)] a45:=⟨hn45,hd45,e45_37,e45_38,e45_39,e45_40,e45_41,e45_42,e45_43,e45_44,e45_45,e45_46,e45_47,e45_48,e45_49,e45_50,e45_51,e45_52,e45_7,e45_34,e45_35,e45_36,e45_6,e45_33,e45_17,e45_18,e45_19,e45_20,e45_12,e45_13,e45_14,e45_15,e45_8,e45_9,e45_10,e45_5,e45_4,e45_3,e45_2,e45_0,e45_1,e45_25,e45_32,e45_58,e45_59,e45_63,e45_68,e45_69,ALu⟩
         replace ox:=ox.kn g45
         refine KV (c:=Ag) (el:=a1) CL rfl rfl rfl rfl rfl rfl rfl (VN a1) ox C7 (by decide) (by first|omega|(simp only[List.length_set];omega)) rfl fun w46 g46 h46=>?_
         replace AK:=AF g46 (AC g45 (AC g42 AK)) (fun e=>I3 _ (Ct (j:=(q-1)) ox (by omega) rfl) (Option.some.inj e).symm)
         replace AN:=AF g46 (AC g45 (AC g42 AN)) (fun e=>I6 _ (Ct (j:=(q-1)) ox (by omega) rfl) (Option.some.inj e).symm)
         replace AR:=AF g46 (AC g45 (AC g42 AR)) (fun e=>Fq _ (Ct (j:=(q-1)) ox (by omega) rfl) (Option.some.inj e).symm)
         replace hr:=((hr.kn g42).kn g45).offR g46 (fun k hk e=>ap_hr_ox k hk (Ct (j:=(q-1)) ox (by omega) e))
         replace rt:=((rt.kn g42).kn g45).offR g46 (fun k hk e=>ap_rt_ox k hk (Ct (j:=(q-1)) ox (by omega) e))
         replace kr:=((kr.kn g42).kn g45).offR g46 (fun k hk e=>ap_kr_ox k hk (Ct (j:=(q-1)) ox (by omega) e))
         replace HG:=Bp (AA (AA HG g42) g45) g46 fun k e=>lo_ox k (Ct (j:=(q-1)) ox (by omega) e)
         replace ox:=h46
         refine AI CL 1 [(70,pk ((bO aoX)) (oO aoX+q*33))]
          ⟨BV rq8 (fun w=>Ce Tryz.underlying34 (by kernel_rfl) (Sl.of_own ox) (by omega) (rfl) w),ALu⟩ fun a47 w47 g47 Ld=>?_
         replace ox:=ox.kn g47
         refine KV (c:=Ag) (el:=b1) Ld rfl rfl rfl rfl rfl rfl rfl (VN b1) ox C7 (by decide) (by first|omega|(simp only[List.length_set];omega)) rfl fun w48 g48 h48=>?_
         replace AK:=AF g48 (AC g47 AK) (fun e=>I3 _ (Ct (j:=q) ox (by omega) rfl) (Option.some.inj e).symm)
         replace AN:=AF g48 (AC g47 AN) (fun e=>I6 _ (Ct (j:=q) ox (by omega) rfl) (Option.some.inj e).symm)
         replace AR:=AF g48 (AC g47 AR) (fun e=>Fq _ (Ct (j:=q) ox (by omega) rfl) (Option.some.inj e).symm)
         replace hr:=(hr.kn g47).offR g48 (fun k hk e=>ap_hr_ox k hk (Ct (j:=q) ox (by omega) e))
         replace rt:=(rt.kn g47).offR g48 (fun k hk e=>ap_rt_ox k hk (Ct (j:=q) ox (by omega) e))
         replace kr:=(kr.kn g47).offR g48 (fun k hk e=>ap_kr_ox k hk (Ct (j:=q) ox (by omega) e))
         replace HG:=Bp (AA HG g47) g48 fun k e=>lo_ox k (Ct (j:=q) ox (by omega) e)
         have GL:Sv _ _ [_,_,_,_,_,_,_,_,_,_,_,_,_,_,_,_,_,_,_,_,_,_,_,_,_,_,_,_,_,_,_,_,_,_,_,_,_,_,_,_,_] _:=Ld.dl [70,58,59,63,68,69]
         refine AE ?_
         have kr2:=kr.sub (ns:=(ms.set (q-1) a1).set q b1) fun x hx=>Mp hkm hkm1 MI LP hx
         have YU:∀k,DU ((ms.set (q-1) a1).set q b1) k→k≠Cp:=fun k hk=>Fp k (MH (fun x hx=>Mp hkm hkm1 MI LP hx) hk)
         have YV:∀k,DU ((ms.set (q-1) a1).set q b1) k→k≠Cc:=fun k hk=>Nh k (MH (fun x hx=>Mp hkm hkm1 MI LP hx) hk)
         have YW:∀k,DU ((ms.set (q-1) a1).set q b1) k→k≠Gg:=fun k hk=>Ee k (MH (fun x hx=>Mp hkm hkm1 MI LP hx) hk)
         have ap_kr2_ox:∀k,DU ((ms.set (q-1) a1).set q b1) k→¬Bq (.slice aoX (ks.length+1) capX) k:=fun k hk=>ap_kr_ox k (MH (fun x hx=>Mp hkm hkm1 MI LP hx) hk)
         refine y44 _ _ ?_
         refine k43 _ _ ?_
         refine ALn ?_
         refine AI GL 2 [(53,.int .i64 ((q:Int))),(54,.int .i64 (((q-1:Nat):Int)))]
          ⟨ym r5,CQ r6 (fun _=>GF (by rw[BG (by omega) (by omega)];omega)),ALu⟩ fun a50 w50 g50 Vd=>?_
         refine Aa (v:=.int .i64 (((q-1:Nat):Int))) Vd r6 fun a51 ED=>?_
         refine AE ?_
         replace AK:=AC g50 AK
         replace AN:=AC g50 AN
         replace AR:=AC g50 AR
         replace hr:=hr.kn g50
         replace rt:=rt.kn g50
         replace ox:=h48.kn g50
         replace kr2:=kr2.kn g50
         replace HG:=AA HG g50
         exact⟨⟨q-1,(ms.set (q-1) a1).set q b1,by omega,AEy hput (by omega) hk0 hkm hkm1 MI LP,by rw[List.length_set,List.length_set];exact hml,fun j h1 h2=>if e:j=q-1 then e▸hc2 else haft j (by omega) h2,fun b h=>hfp b (MH (fun x hx=>Mp hkm hkm1 MI LP hx) h),⟨ED.1,ED.2.1,ED.2.2.1,(AH (AH ED)).2.2.2.2.2.1,(AH (AH ED)).2.2.2.2.2.2.1,(AH (AH ED)).2.2.2.2.2.2.2.1,(AH (AH (AH ED))).1,(AH (AH (AH ED))).2.1,(AH (AH (AH ED))).2.2.1,(AH (AH (AH ED))).2.2.2.1,(AH (AH (AH ED))).2.2.2.2.1,(AH (AH (AH ED))).2.2.2.2.2.1,(AH (AH (AH ED))).2.2.2.2.2.2.1,(AH (AH (AH ED))).2.2.2.2.2.2.2.1,(AH (AH (AH (AH ED)))).1,(AH (AH (AH (AH ED)))).2.1,(AH (AH (AH (AH ED)))).2.2.1,(AH (AH (AH (AH ED)))).2.2.2.1,(AH (AH (AH (AH ED)))).2.2.2.2.1,(AH (AH (AH (AH ED)))).2.2.2.2.2.1,(AH (AH (AH (AH ED)))).2.2.2.2.2.2.1,(AH (AH (AH (AH ED)))).2.2.2.2.2.2.2.1,(AH (AH (AH (AH (AH ED))))).1,(AH (AH (AH (AH (AH ED))))).2.1,(AH (AH (AH (AH (AH ED))))).2.2.1,(AH (AH (AH (AH (AH ED))))).2.2.2.1,(AH (AH (AH (AH (AH ED))))).2.2.2.2.1,ALu⟩,HG,AK,AN,AR,hr,rt,ox,kr2,I3,I6,Fq,ap_hr_ox,ap_rt_ox,ap_kr2_ox,lo_ox,YU,YV,YW⟩,by rw[show _=_ from ED.2.2.1,show _=_ from M3.2.2.1];simp[intOf];omega⟩
       · have hbo:=AEx hput (by omega) hk0 hkm1 LP
         have hpos:=YT hs hf (by omega) (fun j h1 h2=>haft j h1 (by omega)) (.inr (by rw[←hao,←hbo];exact hc))
         refine Ck M3 [(37,.int .i64 ((q:Int))),(38,.bool true),(39,.bool true),(40,.slice aoX (ks.length+1) capX),(41,.int .i64 ((q:Int))),(42,pk ((bO aoX)) (oO aoX+q*33)),(43,pk ((bO aoX)) (oO aoX+q*33)),(44,AP a1.o),(45,.slice aoX (ks.length+1) capX),(46,.int .i64 ((q:Int))),(47,.int .i64 (((q-1:Nat):Int))),(48,pk ((bO aoX)) (oO aoX+(q-1)*33)),(49,pk ((bO aoX)) (oO aoX+(q-1)*33)),(50,AP b1.o),(51,.bool false),(52,.bool false)]
          ⟨ym r5,CQ r6 (fun _=>DQ (decide_eq_true (by omega))),ym r5,Aw rq8,Aw rq8,C4 rfl rfl (gy rfl rfl rfl) (oy rfl rfl) (oy rfl rfl) (fun w=>Ce Tryz.underlying34 (by kernel_rfl) (Sl.of_own ox) (by omega) (rfl) w) (fun _=>rfl),BE rq9 (fun _=>by kernel_rfl),Ap rq9 (fun _ g=>Ac (CD a1.o a1.ho.1) (Mo (Sl.of_own (ox.kn g)) hkm MI)),Aw rq8,Aw rq8,Bc rq9 (fun _=>GF (by rw[BG (by omega) (by omega)];omega)),C4 rfl rfl (gy rfl rfl rfl) (oy rfl rfl) (oy rfl rfl) (fun w=>Ce Tryz.underlying34 (by kernel_rfl) (Sl.of_own ox) (by omega) (rfl) w) (fun _=>rfl),BE rq9 (fun _=>by kernel_rfl),Ap rq9 (fun _ g=>Ac (CD b1.o b1.ho.1) (Mo (Sl.of_own (ox.kn g)) hkm1 LP)),Bf [AP a1.o,AP b1.o] Tryz.func86 (by kernel_rfl) r7 ⟨(oy rfl rfl),(oy rfl rfl),ALu⟩ (Au fun W g=>AEz hc a1.ho b1.ho W),Ax rq9,ALu⟩ fun a52 w52 g52 VZ=>?_
         refine k36 _ _ ?_
         refine Az VZ rfl rfl ?_
         refine wp_exit ?_
         repeat refine CW ?_
         refine x33 _ _ ?_
         refine k29 _ _ ?_
         refine ALo fun K53 k53=>?_
         replace AK:=AC g52 AK
         replace AN:=AC g52 AN
         replace AR:=AC g52 AR
         refine DZ (VZ.st w52) (by kernel_rfl) 7 [(71,Sp.is (pt Cp)),(72,Sp.is (AP sa)),(73,Sp.is (pk Cp 32)),(74,Sp.is (AP po)),(75,Sp.is (AP ((kd 276 po)))),(76,Sp.is (.slice aoX (ks.length+1) capX)),(77,Sp.is (Ao sa ((kd 276 po)) (.slice aoX (ks.length+1) capX)))] rfl (by kernel_rfl) (by kernel_rfl) (by kernel_rfl) [] (by kernel_rfl)
          ⟨yf r6 (fun _=>by kernel_rfl),yp (i:=0) r6 (CD sa hsa.1) AK rfl rfl,yf r6 (fun _=>by kernel_rfl),yp (i:=1) r6 (CD po hpo.1) AK rfl (by simp[AJ,AU,hsa.1,hpo.1]),Ae [.int .u64 276,AP po,.slice none 0 0] Tryz.func35 (by kernel_rfl) rq4 ⟨rfl,(oy rfl rfl),rfl,ALu⟩ (Au fun W g=>MC (n:=276) (by decide) rfl hpo W),ym r5,Ba (vs:=[AP sa,AP ((kd 276 po)),.slice aoX (ks.length+1) capX]) rfl rfl trivial ⟨(oy rfl rfl),(oy rfl rfl),(oy rfl rfl),ALu⟩ (fun _=>bV3 hsa (Be _ _) _ _ _ _) (fun _=>rfl),ALu⟩ trivial
          [] (by kernel_rfl) trivial ⟨.inl rfl,.inl rfl,.inl rfl,.inl rfl,.inl rfl,.inl rfl,.inl rfl,ALu⟩ (by kernel_rfl) fun a54 w54 g54 st54 nd54=>?_
         obtain⟨hn54,hd54,e54_71,e54_72,e54_73,e54_74,e54_75,e54_76,e54_77,e54_37,e54_38,e54_39,e54_40,e54_41,e54_42,e54_43,e54_44,e54_45,e54_46,e54_47,e54_48,e54_49,e54_50,e54_51,e54_52,e54_7,e54_34,e54_35,e54_36,e54_6,e54_33,e54_17,e54_18,e54_19,e54_20,e54_12,e54_13,e54_14,e54_15,e54_8,e54_9,e54_10,e54_5,e54_4,e54_3,e54_2,e54_0,e54_1,e54_25,e54_32,-⟩:=st54
         have ME:Sv 78 [] [(37,_),(38,_),(39,_),(40,_),(41,_),(42,_),(43,_),(44,_),(45,_),(46,_),(47,_),(48,_),(49,_),(50,_),(51,_),(52,_),(7,_),(34,_),(35,_),(36,_),(6,_),(33,_),(17,_),(18,_),(19,_),(20,_),(12,_),(13,_),(14,_),(15,_),(8,_),(9,_),(10,_),(5,_),(4,_),(3,_),(2,_),(0,_),(1,_),(25,_),(32,_),(77,_)] a54:=⟨hn54,hd54,e54_37,e54_38,e54_39,e54_40,e54_41,e54_42,e54_43,e54_44,e54_45,e54_46,e54_47,e54_48,e54_49,e54_50,e54_51,e54_52,e54_7,e54_34,e54_35,e54_36,e54_6,e54_33,e54_17,e54_18,e54_19,e54_20,e54_12,e54_13,e54_14,e54_15,e54_8,e54_9,e54_10,e54_5,e54_4,e54_3,e54_2,e54_0,e54_1,e54_25,e54_32,e54_77,ALu⟩
         refine As ME r7 (BX hsa (Be _ _) (.slice aoX (ks.length+1) capX) rfl) (AC g54 AR) (by first|rfl|simp[Ag,AJ,AU,hsa.1,(Be _ _).1]) fun w55 g55 h55=>?_
         replace AK:=Al g54 g55 AK (Ne.symm BZ)
         replace AN:=Al g54 g55 AN (Ne.symm Bl)
         replace hr:=((hr.kn g52).kn g54).offR g55 (AV CJ)
         replace rt:=((rt.kn g52).kn g54).offR g55 (AV I2)
         replace ox:=((ox.kn g52).kn g54).offR g55 (AV Fq)
         replace kr:=((kr.kn g52).kn g54).offR g55 (AV Ee)
         replace HG:=AD (AA (AA HG g52) g54) g55 CY
         replace AR:=h55
         refine Aa (v:=.int .i64 0) ME r6 fun a56 QU=>?_
         refine AE ?_
         refine k53 _ _ ?_
         refine ALr ?_
         repeat refine AL ?_
         refine BH (fn:=Tryz.f39) QU (Gp (p:=4) (q:=5) Tryz.results39 QU rfl rfl rfl rfl (BX hsa (Be _ _) (.slice aoX (ks.length+1) capX) rfl) AR) ?_
         exact VRes.mk2 (P:=NT (ks.map VK.p) o T) (by unfold M1;rw[if_pos hv,if_neg (by rw[hf];simp),if_neg (by simpa using hfull)]) (by rw[OB,hpos];exact hput) ox kr (fun k hk=>(hfp k hk).elim (fun h=>.inl (.inr h)) (fun h=>.inr (rt.2 k h))) HG
   · refine ALn ?_
     refine AI EC 4 [(12,Ao sa po (.slice ao ks.length cap)),(13,AP o),(14,.int .i64 ((i:Int))),(15,.bool true)]
       ⟨yl r6 (BX hsa hpo (.slice ao ks.length cap) rfl) AK,yl r6 (CD o ho.1) AN,Ae [Ao sa po (.slice ao ks.length cap),AP o] Tryz.func84 (by kernel_rfl) rq4 ⟨(oy rfl rfl),(oy rfl rfl),ALu⟩ (Au fun W g=>AJ1 hsa hpo ho (hr.kn g) hv (AIs hf hi)),CQ r6 (fun _=>FY (decide_eq_true (by omega))),ALu⟩ fun a57 w57 g57 Ve=>?_
     refine AE ?_
     refine k15 _ _ ?_
     refine Ay Ve rfl rfl ?_
     refine ALo fun K58 k58=>?_
     refine ALn ?_
     refine AI Ve 1 [(16,Ao sa po (.slice ao ks.length cap))]
       ⟨yl r6 (BX hsa hpo (.slice ao ks.length cap) rfl) (AC g57 AK),ALu⟩ fun a59 w59 g59 FB=>?_
     have OQ:=AA g57 g59
     refine As FB r7 (BX hsa hpo (.slice ao ks.length cap) rfl) (AC OQ AR) (by first|rfl|simp[Ag,AJ,AU,hsa.1,hpo.1]) fun w60 g60 h60=>?_
     replace hr:=(hr.kn OQ).offR g60 (AV CJ)
     replace HG:=AD (AA HG OQ) g60 CY
     replace AR:=h60
     refine Aa (v:=.int .i64 0) FB r6 fun a61 Lg=>?_
     refine AE ?_
     refine k58 _ _ ?_
     refine ALr ?_
     repeat refine AL ?_
     refine BH (fn:=Tryz.f39) Lg (Gp (p:=4) (q:=5) Tryz.results39 Lg rfl rfl rfl rfl (BX hsa hpo (.slice ao ks.length cap) rfl) AR) ?_
     exact VRes.same (P:=ks.map VK.p) (by unfold M1;rw[if_pos hv,if_pos hf]) rfl hr (fun k hk=>hk) HG
end Go.Proofs.YtbfjfnbcmojpiaaGreat
namespace Go.Proofs.YtbfjfnbcmojpiaaGreat
open Go.RowKit
section
variable {P:Program} {ops:Array Oper} {S:World→Prop} {Kt:Act→Prop} {o:Oper} {r:List Oper} {a:Act} {n:Nat} {D:List Deferred} {K:List (Nat×Value)}
theorem AG1 (sv:Sv n D K a) (hgd:o.guard=none) {T:TypeId} {x:Operand} {d:Nat} {p v:Value} (ho:o.op=.load T x) (hd:o.dst=some d) (hdn:decide (d<n)=true) (hx:NX K x=true∧NY K x=p) (hr:∀w,S w→(Instr.loadAt T p).run P w=.ok v w)
  (h:∀a',Sv n D ((d,v)::KD d K) a'→F9 P ops S Kt r a'):F9 P ops S Kt (o::r) a:=
 US hgd T x ho (sv.ev hx.1 hx.2) hr (by rw[hd];exact h _ (sv.put (of_decide_eq_true hdn) v))
theorem AHy (w0:World) (sv:Sv n D K a) {v:Value} {d:Nat} (hd:o.dst=some d) (hc:(decide (d<n)&&!(o.looksAt ops).contains d)=true) (hp:PX P ops (S9 ((d,Sp.is v)::Rf K)) n w0 o)
  (h:∀a',Sv n D ((d,v)::KD d K) a'→F9 P ops S Kt r a'):F9 P ops S Kt (o::r) a:=by
 simp only[Bool.and_eq_true,decide_eq_true_eq,Bool.not_eq_true'] at hc
 obtain⟨u,hy,hu⟩:=hp a w0 (World.grownBy.refl _ _) (fun t ht htn=>by
  have hne:(Nat.beq d t)=false:=by
   cases e:Nat.beq d t with
   | false=>rfl
   | true =>
    have:=Nat.eq_of_beq_eq_true e
    subst this
    have h2:=hc.2
    rw[←Bool.not_eq_true,List.contains_iff_mem] at h2
    exact absurd ht h2
  have h1:=(sv.st w0).2.2.at t
  unfold S9
  rw[hne]
  exact h1) sv.1
 have e:u=v:=by
  have:=hu d hd
  unfold S9 at this
  have hb:Nat.beq d d=true:=Nat.beq_refl d
  rw[hb] at this
  exact this
 subst e
 exact⟨_,hy.yieldsIf,by rw[hd];exact h _ (sv.put hc.1 _)⟩
end
end Go.Proofs.YtbfjfnbcmojpiaaGreat
namespace Go.Proofs.YtbfjfnbcmojpiaaGreat
open Go.RowKit Go.Shelf
theorem AIQ (n:Nat):∀b∈UL n,b<256:=by
 induction n using Nat.strongRecOn with
 | _ n ih =>
  by_cases h:n<128
  · rw[Gk h];intro b hb;simp at hb;omega
  · rw[KP h]
    intro b hb
    rcases List.mem_cons.1 hb with rfl|hb
    · omega
    · exact ih (n/128) (by omega) b hb
theorem RC (n:Int):∀b∈enc n,b<256:=AIQ _
theorem AF6 (s:ByteArray):∀b∈Zh s,b<256:=fun b hb=>by
 rcases List.mem_append.1 hb with h|h
 · exact RC _ b h
 · exact AHi s b h
theorem AF7 (v:V):∀b∈TE v,b<256:=fun b hb=>by
 unfold TE at hb
 rcases List.mem_append.1 hb with h|h
 · exact RC _ b h
 · split at h
   · exact RC _ b h
   · split at h
     · exact AF6 _ b h
     · cases h
def vc (v:V):List Value:=[.int .i64 v.kind,.int .i64 v.int,.string v.text]
theorem C6 (v:V):TY Tryz.prog 25 (vc v) (BR v):=tyV v
theorem IR (v:Value) (h:v.oneCell'=true):TY Tryz.prog 29 [v] v:=TY.one' Tryz.underlying29 rfl (by kernel_rfl) h
theorem En {w w':World} {v':Value} (h:Step w Nw w' v'):w.grownBy w' none∧∀k,Bq v' k→w.heap.size≤k:=⟨Step.none h,fun k hk=>(h.2 k hk).elim (fun h=>by simp[Nw,Value.ownBlock] at h) id⟩
def NwR (w w':World) (xs:List Nat) (e:Ending):Prop:=∃v,e=.returned v∧w.grownBy w' none∧(Sp.row w.heap.size 5 1 xs.length (bv xs)).on w' v
end Go.Proofs.YtbfjfnbcmojpiaaGreat
namespace Go.Proofs.YtbfjfnbcmojpiaaGreat
open Go.RowKit
theorem R7 {w w':World} {fp p:Nat→Prop} (g:w.grownBy w' none) (h:∀k,p k→fp k∨TagV w k):∀k,p k→fp k∨TagV w' k:=fun k hk=>(h k hk).imp id (·.keep g (by simp))
def Sp.vt (r:VV×Int) (fp:Nat→Prop):Sp:=⟨fun w v=>∃ao cap ks,v=.tuple #[Ao r.1.2.1 r.1.2.2 (.slice ao (List.length ks) cap),.int .i64 r.2]∧ks.map VK.p=r.1.1∧RdK w (.slice ao (List.length ks) cap) ks∧∀k,KX (.slice ao (List.length ks) cap) ks k→fp k∨TagV w k,fun _ _ _ hg ⟨ao,cap,ks,h1,h2,h3,h4⟩=>⟨ao,cap,ks,h1,h2,h3.kn hg,R7 hg h4⟩⟩
theorem VRes.on {w w':World} {r:VV×Int} {fp:Nat→Prop} {e:Ending} (h:VRes w w' r fp e):∃v,e=.returned v∧w.grownBy w' none∧(Sp.vt r fp).on w' v:=by
 obtain⟨ao,cap,ks,h1,h2,h3,h4,h5⟩:=h
 exact⟨_,h1,h5,ao,cap,ks,rfl,h2,h3,h4⟩
section
variable {w0:World} {ks:List VK} {ao:Option Addr} {cap:Nat} {sa po o:List Nat} {P:List VP} {r:VV×Int} {a:Int}
theorem AIv (hsa:Dg sa) (hpo:Dg po) (ho:Dg o) (hk:RdK w0 (.slice ao ks.length cap) ks) (hm:ks.map VK.p=P) {T:List Nd} (hT:tree (kd 275 po) []=T) (hres:M1 (P,sa,po) o T (kd 276 po)=r) :
  ∀W,w0.grownBy W none→Calls Tryz.prog 36 #[Ao sa po (.slice ao ks.length cap),AP o] W fun e W'=>∃v,e=.returned v∧W.grownBy W' none∧(Sp.vt r fun _=>False).on W' v:=fun W g=>by
 subst hres hm
 exact(AEq ks ao cap sa po hsa hpo o ho T hT W (hk.kn g)).mono fun e W' h=>h.on
theorem AG2 (hsa:Dg sa) (hpo:Dg po) (ho:Dg o) (hk:RdK w0 (.slice ao ks.length cap) ks) (hm:ks.map VK.p=P) {T:List Nd} (hT:tree (kd 275 po) []=T) (hres:M1 (P,sa,po) o T (kd 276 po)=r) :
  ∀W,w0.grownBy W none→Calls Tryz.prog 39 #[Ao sa po (.slice ao ks.length cap),AP o] W fun e W'=>∃v,e=.returned v∧W.grownBy W' none∧(Sp.vt r (KX (.slice ao ks.length cap) ks)).on W' v:=fun W g=>by
 subst hres hm
 exact(ACt ks ao cap sa po hsa hpo o ho T hT W (hk.kn g)).mono fun e W' h=>h.on
theorem AE0 (hsa:Dg sa) (hpo:Dg po) (ho:Dg o) (hk:RdK w0 (.slice ao ks.length cap) ks) (hm:ks.map VK.p=P) (hres:QT (P,sa,po) o a=r) :
  ∀W,w0.grownBy W none→Calls Tryz.prog 31 #[Ao sa po (.slice ao ks.length cap),AP o,.int .i64 a] W fun e W'=>∃v,e=.returned v∧W.grownBy W' none∧(Sp.vt r fun _=>False).on W' v:=fun W g=>by
 subst hres hm
 exact(AEv ks ao cap sa po hsa hpo o ho a W (hk.kn g)).mono fun e W' h=>h.on
theorem AJ6 {w:World} {q:List Nat×Int} (hsa:Dg sa) (hpo:Dg po) (ho:Dg o) (hk:RdK w (.slice ao ks.length cap) ks) (hm:ks.map VK.p=P) (hres:CP P o a=q) :
  Calls Tryz.prog 32 #[Ao sa po (.slice ao ks.length cap),AP o,.int .i64 a] w fun e w'=>e=.returned (.tuple #[AP q.1,.int .i64 q.2])∧w.grownBy w' none:=by
 subst hres hm
 exact AEn ks ao cap sa po hsa hpo o ho a w hk
theorem OT {w:World} {b:Bool} (hsa:Dg sa) (hpo:Dg po) (hk:RdK w (.slice ao ks.length cap) ks) (hm:ks.map VK.p=P) (hb:CH P=b):Calls Tryz.prog 51 #[Ao sa po (.slice ao ks.length cap)] w fun e w'=>e=.returned (.bool b)∧w.grownBy w' none:=by
 subst hm
 exact Iy hsa hpo hk hb
end
end Go.Proofs.YtbfjfnbcmojpiaaGreat
namespace Go.Proofs.YtbfjfnbcmojpiaaGreat
def By (l:List Nat):Prop:=∀x∈l,x<256
def Ko (a b:List Nat):List Nat:=List.zipWith (fun x y=>x ^^^ y) a b
theorem OU {a b:List Nat} (h:a.length≤b.length):(Ko a b).length=a.length:=by unfold Ko;rw[List.length_zipWith];omega
theorem ABc {a b:List Nat} (ha:By a) (hb:By b):By (Ko a b):=fun x hx=>by
 unfold Ko at hx
 rw[List.mem_iff_getElem] at hx
 obtain⟨i,hi,rfl⟩:=hx
 rw[List.getElem_zipWith]
 exact Nat.xor_lt_two_pow (n:=8) (ha _ (List.getElem_mem _)) (hb _ (List.getElem_mem _))
theorem Pb:∀{a b:List Nat},a.length≤b.length→Ko (Ko a b) b=a
 | [],_,_=>rfl
 | _::_,[],h=>by simp at h
 | x::a,y::b,h=>by
  have ih:=Pb (a:=a) (b:=b) (by simpa using h)
  unfold Ko at ih ⊢
  simp only[List.zipWith_cons_cons,ih,Nat.xor_assoc,Nat.xor_self,Nat.xor_zero]
def Vf (all:Bool) (keys:List (List Nat)):List Nat:=TG (BitVec.ofNat 64 (if all then 282 else 281)) keys.flatten
def msk (k:List Nat):List Nat:=N2 (BitVec.ofNat 64 283) k []
def NC (c k:List Nat):List Nat:=Ko c (msk k)
def Jv (b c:List Nat):List Nat:=Ko b (sq (Hz (BitVec.ofNat 64 284) c) b.length)
def Vg (c:List Nat) (a:Int) (b:List Nat):List Nat:=N2 (BitVec.ofNat 64 285) c (enc a++b)
def tgC (a:Int) (b:List Nat):List Nat:=TG (BitVec.ofNat 64 280) (enc a++b)
structure Sd where
 addr:Int
 own:List (List Nat)
 joint:Int
 wr:List (List Nat)
 body:List Nat
 tag:List Nat
def Sd.zero:Sd:=⟨0,[],0,[],[],AQ⟩
def Hg (l:List (List Nat)) (i:Nat):List Nat:=(l[i]?).getD []
theorem MJ {l:List (List Nat)} {i:Nat} (h:i<l.length):Hg l i=l[i]:=by unfold Hg;rw[List.getElem?_eq_getElem h];rfl
def AAd (l:List (List Nat)) (i:Nat):Bool:=decide (i=0)||Es (Hg l (i-1)) (Hg l i)
def asc (l:List (List Nat)):Bool:=(List.range l.length).all (AAd l)
theorem ABd {l:List (List Nat)}:asc l=true↔∀i,i<l.length→AAd l i=true:=by unfold asc;simp[List.all_eq_true,List.mem_range]
theorem AIx {l:List (List Nat)} {i:Nat} (h:i<l.length) (hc:AAd l i=false):asc l=false:=by
 cases h2:asc l with
 | false=>rfl
 | true=>rw[ABd.1 h2 i h] at hc;cases hc
theorem AG3 {l:List (List Nat)} (h:∀i,i<l.length→AAd l i=true):asc l=true:=ABd.2 h
def hd (own:List (List Nat)) (joint addr:Int):Bool:=Br addr&&(decide (joint=0)||decide (joint=1))&&decide (own.length≤16)&&asc own
def FQ (s:Sd):Bool:=hd s.own s.joint s.addr&&decide (s.body.length≤64)&&decide (s.wr.length=if s.joint=1 then s.own.length else 0)
def Cf (P:List VP) (a:Int):List (List Nat)→List (List Nat)×Int
 | []=>([],0)
 | o::l=>if (CP P o a).2=0 then ((CP P o a).1::(Cf P a l).1,(Cf P a l).2) else ([],(CP P o a).2)
def Eu (P:List VP) (own:List (List Nat)) (joint addr:Int) (x:V):Sd×Int:=
 if hd own joint addr&&CH P then
   (if own=[] then (⟨addr,[],joint,[],B6 x,tgC addr (B6 x)⟩,0)
   else if (Cf P addr own).2=0 then
     (⟨addr,own,joint,if joint=1 then (Cf P addr own).1.map (NC (Vf (decide (joint=1)) (Cf P addr own).1)) else [],
       Jv (B6 x) (Vf (decide (joint=1)) (Cf P addr own).1),Vg (Vf (decide (joint=1)) (Cf P addr own).1) addr (Jv (B6 x) (Vf (decide (joint=1)) (Cf P addr own).1))⟩,0)
   else (Sd.zero,(Cf P addr own).2))
 else (Sd.zero,1)
end Go.Proofs.YtbfjfnbcmojpiaaGreat
