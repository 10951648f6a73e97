import Derived.Test.YtbfjfnbcmojpiaaGreatV9
namespace Go.Proofs.YtbfjfnbcmojpiaaGreat
open Go.RowKit Go.Shelf
set_option linter.unusedSimpArgs false
set_option linter.unusedVariables false
def Sp.lit1T (B:Nat) (o:List Nat) (l:List Nd):Sp:=⟨fun w v=>∃ (A:Nat) (x:VK),v=.slice (some ⟨A,0,none⟩) 1 1∧w.heap[A]?=some (.cells (kcells x).toArray 58 (0,0))∧x.o=o∧x.l=l∧RdTg w x.s x.l∧(∀ k,fpT x.s k→B≤k)∧B≤A,fun _ _ _ hg ⟨A,x,h1,h2,h3,h4,h5,h7,h8⟩=>⟨A,x,h1,row_of hg h2 (by simp),h3,h4,h5.kn hg,h7,h8⟩⟩
theorem lit1T_of {B:Nat} {o:List Nat} {l:List Nd} {w:World} {v:Value} (hB:B≤w.heap.size) (h:(Sp.ck B o l).on w v):∃ cs:List Value,(Instr.buildSlice 34 1 #[(0,v)]).run Tryz.prog w=.ok (.slice (some ⟨w.heap.size,0,none⟩) 1 1) (w.alloc (.cells cs.toArray 58)) ∧
   ∀ w',w.grownBy w' none→w'.heap[w.heap.size]?=some (.cells cs.toArray 58 (0,0))→(Sp.lit1T B o l).on w' (.slice (some ⟨w.heap.size,0,none⟩) 1 1):=by
 obtain ⟨x,rfl,h2,h3,h4,h6⟩:=h
 exact ⟨kcells x,bS1k x w,fun w' g hb=>⟨_,x,rfl,hb,h2,h3,h4.kn g,h6,hB⟩⟩
theorem put_k {P:List VP} {ms:List VK} {k:Nat} {o:List Nat} {T:List Nd} (h:ms.map VK.p=atPut P k (o,T)) (hk:k≤P.length) (hm:k < ms.length) {z:VK} (hz:ms[k]=z):z.o=o:=by
 have h1:(ms.map VK.p)[k]?=some z.p:=by rw [List.getElem?_map,List.getElem?_eq_getElem hm,hz];rfl
 rw [h,atPut_get hk,if_neg (by omega),if_pos rfl] at h1
 exact (congrArg Prod.fst (Option.some.inj h1)).symm
theorem put_k1 {P:List VP} {ms:List VK} {k:Nat} {x:VP} (h:ms.map VK.p=atPut P k x) (hk:k≤P.length) (h0:0 < k) (hm:k - 1 < ms.length) {z:VK} (hz:ms[k - 1]=z):z.o=od P (k - 1):=by
 have h1:(ms.map VK.p)[k - 1]?=some z.p:=by rw [List.getElem?_map,List.getElem?_eq_getElem hm,hz];rfl
 rw [h,atPut_get hk,if_pos (by omega)] at h1
 rw [(od_some h1).1]
 rfl
theorem put_swap {P:List VP} {ms:List VK} {k:Nat} {x:VP} (h:ms.map VK.p=atPut P k x) (hk:k≤P.length) (h0:0 < k) (hm:k < ms.length) (hm1:k - 1 < ms.length) {a b:VK} (ha:ms[k]=a) (hb:ms[k - 1]=b):((ms.set (k - 1) a).set k b).map VK.p=atPut P (k - 1) x:=by
 rw [List.map_set,List.map_set,h]
 refine atPut_swap h0 hk x _ _ ?_ ?_
 · rw [← h,List.getElem?_map,List.getElem?_eq_getElem hm,ha];rfl
 · rw [← h,List.getElem?_map,List.getElem?_eq_getElem hm1,hb];rfl
theorem swap_in {ms:List VK} {k:Nat} (hm:k < ms.length) (hm1:k - 1 < ms.length) {a b:VK} (ha:ms[k]=a) (hb:ms[k - 1]=b) {x:VK} (hx:x ∈ (ms.set (k - 1) a).set k b):x ∈ ms:=by
 rcases List.mem_or_eq_of_mem_set hx with h | h
 · rcases List.mem_or_eq_of_mem_set h with h | h
   · exact h
   · rw [h,← ha];exact List.getElem_mem hm
 · rw [h,← hb];exact List.getElem_mem hm1
theorem KsR.sub {w:World} {ms ns:List VK} (h:KsR w ms) (hs:∀ x ∈ ns,x ∈ ms):KsR w ns:=fun k hk=>h k (hs k hk)
theorem fpKs_sub {ms ns:List VK} (hs:∀ x ∈ ns,x ∈ ms) {b:Nat} (h:fpKs ns b):fpKs ms b:=by
 obtain ⟨k,hk,hb⟩:=h
 exact ⟨k,hs k hk,hb⟩
theorem KsR.snoc {w:World} {ms:List VK} (h:KsR w ms) {x:VK} (hx:RdT w x.s x.l):KsR w (ms ++ [x]):=fun k hk=>by
 rcases List.mem_append.1 hk with hk | hk
 · exact h k hk
 · obtain rfl:=List.mem_singleton.1 hk;exact hx
theorem fpKs_snoc {ms:List VK} {x:VK} {b:Nat} (h:fpKs (ms ++ [x]) b):fpKs ms b∨fpT x.s b:=by
 obtain ⟨k,hk,hb⟩:=h
 rcases List.mem_append.1 hk with hk | hk
 · exact .inl ⟨k,hk,hb⟩
 · obtain rfl:=List.mem_singleton.1 hk;exact .inr hb
theorem less_B {x y:List Nat} {b:Bool} (hb:blt x y=b) (hx:Dg x) (hy:Dg y) (w:World):Calls Tryz.prog 86 #[dval x,dval y] w fun e w'=>e=.returned (.bool b)∧w.grownBy w' none:=less_walkB hb hx hy w
theorem fl_snoc (ks:List VK) (y:VK):ks.flatMap kcells ++ kcells y=(ks ++ [y]).flatMap kcells:=by rw [List.flatMap_append];simp
theorem sl_tree {w:World} {A:Nat} {x:VK} (h:w.heap[A]?=some (.cells (kcells x).toArray 58 (0,0))):Sl w 33 (.slice (some ⟨A,0,none⟩) 1 1) 1 (kcells x):=sl_one h
set_option maxRecDepth 100000 in
set_option maxHeartbeats 4000000 in
theorem rens_walk (ks:List VK) (ao:Option Addr) (cap:Nat) (sa po:List Nat) (hsa:Dg sa) (hpo:Dg po) (o:List Nat) (ho:Dg o) (T:List Nd) (hT:tree (kd 275 po) []=T) (w:World) (hr:RdK w (.slice ao ks.length cap) ks) :
   Calls Tryz.prog 39 #[vval sa po (.slice ao ks.length cap),dval o] w fun e w'=>VRes w w' (ensO (ks.map VK.p,sa,po) o T (kd 276 po)) (fpK (.slice ao ks.length cap) ks) e:=by
 have hlt0:=hr.lt
 have hmap:(ks.map VK.p).length=ks.length:=List.length_map _
 refine cx_enter Tryz.func39 rfl Tryz.ntmps39 rfl fun a0 sv0=>?_
 have HG:=World.grownBy.refl w none
 replace sv0:Sv 78 [] [(0,vval sa po (.slice ao ks.length cap)),(1,dval o)] a0:=sv0
 refine wp_seq_k fun K1 k1=>?_
 refine wp_region_lit ?_
 refine tl_box sv0 rfl rfl rfl rfl rfl rfl (tyVa hsa hpo (.slice ao ks.length cap) rfl) fun a2 w2 B2_2 eq_B2_2 g2 z2 HB2_2 sv2=>?_
 have lo_B2_2:=nb_lo HG eq_B2_2
 have ap_hr_B2_2:=nb_ap (hr.lt) eq_B2_2
 replace hr:=hr.kn g2
 replace HG:=grown_trans HG g2
 refine tl_box sv2 rfl rfl rfl rfl rfl rfl (tyD o ho.1) fun a3 w3 B3_3 eq_B3_3 g3 z3 HB3_3 sv3=>?_
 have ne_B3_3_B2_2:=nb_ne HB2_2 eq_B3_3
 have lo_B3_3:=nb_lo HG eq_B3_3
 have ap_hr_B3_3:=nb_ap (hr.lt) eq_B3_3
 replace HB2_2:=rw_kn g3 HB2_2
 replace hr:=hr.kn g3
 replace HG:=grown_trans HG g3
 refine tl_alloc (T:=36) (Z:=([bv zero32,bv zero32,[.slice none 0 0]].flatten)) sv3 rfl rfl rfl (fun a w=>by kernel_rfl) fun a4 w4 B4_4 eq_B4_4 g4 z4 HB4_4 sv4=>?_
 have ne_B4_4_B2_2:=nb_ne HB2_2 eq_B4_4
 have ne_B4_4_B3_3:=nb_ne HB3_3 eq_B4_4
 have lo_B4_4:=nb_lo HG eq_B4_4
 have ap_hr_B4_4:=nb_ap (hr.lt) eq_B4_4
 replace HB2_2:=rw_kn g4 HB2_2
 replace HB3_3:=rw_kn g4 HB3_3
 replace hr:=hr.kn g4
 replace HG:=grown_trans HG g4
 refine tl_as (v:=.int .i64 0) sv4 r6 fun a5 sv5=>?_
 refine tl_nil ?_
 refine k1 _ _ ?_
 refine wp_seq_k fun K6 k6=>?_
 refine wp_seq_k fun K7 k7=>?_
 cases hv:vldV (ks.map VK.p)
 · refine wp_region_lit ?_
   refine sx_hv sv5 3 [(8,vval sa po (.slice ao ks.length cap)),(9,.bool false),(10,.bool true)]
     ⟨yl r6 (tyVa hsa hpo (.slice ao ks.length cap) rfl) HB2_2,ox_call (Sp.is (.bool false)) [vval sa po (.slice ao ks.length cap)] rfl rfl trivial ⟨(oy rfl rfl),trivial⟩ (is_on fun W g=>rvvalid_B hsa hpo (hr.kn g) hv) (fun _ _ h=>h) (enter_of Tryz.func40 (by kernel_rfl) rfl),ox_un rfl rfl trivial (oy rfl rfl) (fun _=>rn_not) (fun _=>rfl),trivial⟩ fun a8 w8 g8 sv8=>?_
   refine tl_nil ?_
   refine k7 _ _ ?_
   refine cx_ifT sv8 rfl rfl ?_
   refine wp_seq_k fun K9 k9=>?_
   refine wp_region_lit ?_
   replace HB2_2:=rw_kn g8 HB2_2
   replace HB3_3:=rw_kn g8 HB3_3
   replace HB4_4:=rw_kn g8 HB4_4
   replace hr:=hr.kn g8
   replace HG:=grown_trans HG g8
   refine sx_hv sv8 1 [(11,vval zero32 zero32 (.slice none 0 0))]
     ⟨ox_build (vs:=[]) rfl rfl trivial trivial (fun _=>bV0 _) (fun _=>rfl),trivial⟩ fun a10 w10 g10 sv10=>?_
   refine tl_sw sv10 r7 (tyVa zero32_dg zero32_dg (.slice none 0 0) rfl) (rw_kn g10 HB4_4) (by first | rfl | simp [kcells,bv_length,zero32_len,zero32_dg.1,zero32_dg.1]) fun w11 g11 h11=>?_
   replace HB2_2:=rw_s2 g10 g11 HB2_2 (Ne.symm ne_B4_4_B2_2)
   replace HB3_3:=rw_s2 g10 g11 HB3_3 (Ne.symm ne_B4_4_B3_3)
   replace hr:=(hr.kn g10).offR g11 (no_b ap_hr_B4_4)
   replace HG:=grown_newR (grown_trans HG g10) g11 lo_B4_4
   replace HB4_4:=h11
   refine tl_as (v:=.int .i64 1) sv10 r6 fun a12 sv12=>?_
   refine tl_nil ?_
   refine k9 _ _ ?_
   refine wp_ret ?_
   repeat refine then_ret ?_
   refine cx_ret (fn:=Tryz.f39) sv12 (res_ct (p:=4) (q:=5) Tryz.results39 sv12 rfl rfl rfl rfl (tyVa zero32_dg zero32_dg (.slice none 0 0) rfl) HB4_4) ?_
   exact VRes.zero (by unfold ensO;rw [if_neg (by rw [hv];simp)]) HG
 · obtain ⟨i,hi⟩:∃ i,pos (ks.map VK.p) o=i:=⟨_,rfl⟩
   have h64:ks.length≤64:=by have:=(vldV_iff.1 hv).1;simpa using this
   have hs:=Srt.of hv
   refine wp_region_lit ?_
   refine sx_hv sv5 3 [(8,vval sa po (.slice ao ks.length cap)),(9,.bool true),(10,.bool false)]
     ⟨yl r6 (tyVa hsa hpo (.slice ao ks.length cap) rfl) HB2_2,ox_call (Sp.is (.bool true)) [vval sa po (.slice ao ks.length cap)] rfl rfl trivial ⟨(oy rfl rfl),trivial⟩ (is_on fun W g=>rvvalid_B hsa hpo (hr.kn g) hv) (fun _ _ h=>h) (enter_of Tryz.func40 (by kernel_rfl) rfl),ox_un rfl rfl trivial (oy rfl rfl) (fun _=>rn_not) (fun _=>rfl),trivial⟩ fun a13 w13 g13 sv13=>?_
   refine tl_nil ?_
   refine k7 _ _ ?_
   refine cx_ifF sv13 rfl rfl ?_
   refine wp_skip ?_
   refine k6 _ _ ?_
   refine wp_seq_k fun K14 k14=>?_
   refine wp_seq_k fun K15 k15=>?_
   replace HB2_2:=rw_kn g13 HB2_2
   replace HB3_3:=rw_kn g13 HB3_3
   replace HB4_4:=rw_kn g13 HB4_4
   replace hr:=hr.kn g13
   replace HG:=grown_trans HG g13
   cases hf:fnd (ks.map VK.p) o
   · refine wp_region_lit ?_
     refine sx_hv sv13 4 [(12,vval sa po (.slice ao ks.length cap)),(13,dval o),(14,.int .i64 ((-1))),(15,.bool false)]
       ⟨yl r6 (tyVa hsa hpo (.slice ao ks.length cap) rfl) HB2_2,yl r6 (tyD o ho.1) HB3_3,ox_call (Sp.is (.int .i64 ((-1)))) [vval sa po (.slice ao ks.length cap),dval o] rfl rfl trivial ⟨(oy rfl rfl),(oy rfl rfl),trivial⟩ (is_on fun W g=>at_B hsa hpo ho (hr.kn g) hv (at_no hf)) (fun _ _ h=>h) (enter_of Tryz.func84 (by kernel_rfl) rfl),ybc r6 (fun _=>rn_geq (by decide)),trivial⟩ fun a16 w16 g16 sv16=>?_
     refine tl_nil ?_
     refine k15 _ _ ?_
     refine cx_ifF sv16 rfl rfl ?_
     refine wp_skip ?_
     refine k14 _ _ ?_
     refine wp_seq_k fun K17 k17=>?_
     refine wp_seq_k fun K18 k18=>?_
     replace HB2_2:=rw_kn g16 HB2_2
     replace HB3_3:=rw_kn g16 HB3_3
     replace HB4_4:=rw_kn g16 HB4_4
     replace hr:=hr.kn g16
     replace HG:=grown_trans HG g16
     by_cases hfull:64≤ks.length
     · refine wp_region_lit ?_
       refine sx_hv sv16 4 [(17,pk B2_2 64),(18,.slice ao ks.length cap),(19,.int .i64 ((ks.length:Nat))),(20,.bool true)]
         ⟨yf r6 (fun _=>by kernel_rfl),yp (i:=2) r6 (tyKs (.slice ao ks.length cap) rfl) HB2_2 rfl (by simp [bv_length,zero32_len,hsa.1,hpo.1]),ox_len (Tryz.underlying34) rfl rfl trivial (oy rfl rfl) (fun _=>rfl),ybc r6 (fun _=>rn_geq (decide_eq_true (by omega))),trivial⟩ fun a19 w19 g19 sv19=>?_
       refine tl_nil ?_
       refine k18 _ _ ?_
       refine cx_ifT sv19 rfl rfl ?_
       refine wp_seq_k fun K20 k20=>?_
       refine wp_region_lit ?_
       replace HB2_2:=rw_kn g19 HB2_2
       replace HB3_3:=rw_kn g19 HB3_3
       replace HB4_4:=rw_kn g19 HB4_4
       replace hr:=hr.kn g19
       replace HG:=grown_trans HG g19
       refine sx_hv sv19 1 [(21,vval zero32 zero32 (.slice none 0 0))]
         ⟨ox_build (vs:=[]) rfl rfl trivial trivial (fun _=>bV0 _) (fun _=>rfl),trivial⟩ fun a21 w21 g21 sv21=>?_
       refine tl_sw sv21 r7 (tyVa zero32_dg zero32_dg (.slice none 0 0) rfl) (rw_kn g21 HB4_4) (by first | rfl | simp [kcells,bv_length,zero32_len,zero32_dg.1,zero32_dg.1]) fun w22 g22 h22=>?_
       replace HB2_2:=rw_s2 g21 g22 HB2_2 (Ne.symm ne_B4_4_B2_2)
       replace HB3_3:=rw_s2 g21 g22 HB3_3 (Ne.symm ne_B4_4_B3_3)
       replace hr:=(hr.kn g21).offR g22 (no_b ap_hr_B4_4)
       replace HG:=grown_newR (grown_trans HG g21) g22 lo_B4_4
       replace HB4_4:=h22
       refine tl_as (v:=.int .i64 8) sv21 r6 fun a23 sv23=>?_
       refine tl_nil ?_
       refine k20 _ _ ?_
       refine wp_ret ?_
       repeat refine then_ret ?_
       refine cx_ret (fn:=Tryz.f39) sv23 (res_ct (p:=4) (q:=5) Tryz.results39 sv23 rfl rfl rfl rfl (tyVa zero32_dg zero32_dg (.slice none 0 0) rfl) HB4_4) ?_
       exact VRes.zero (by unfold ensO;rw [if_pos hv,if_neg (by rw [hf];simp),if_pos (by simpa using hfull)]) HG
     · refine wp_region_lit ?_
       refine sx_hv sv16 4 [(17,pk B2_2 64),(18,.slice ao ks.length cap),(19,.int .i64 ((ks.length:Nat))),(20,.bool false)]
         ⟨yf r6 (fun _=>by kernel_rfl),yp (i:=2) r6 (tyKs (.slice ao ks.length cap) rfl) HB2_2 rfl (by simp [bv_length,zero32_len,hsa.1,hpo.1]),ox_len (Tryz.underlying34) rfl rfl trivial (oy rfl rfl) (fun _=>rfl),ybc r6 (fun _=>rn_geq (decide_eq_false (by omega))),trivial⟩ fun a24 w24 g24 sv24=>?_
       refine tl_nil ?_
       refine k18 _ _ ?_
       refine cx_ifF sv24 rfl rfl ?_
       refine wp_skip ?_
       refine k17 _ _ ?_
       refine wp_seq_k fun K25 k25=>?_
       replace HB2_2:=rw_kn g24 HB2_2
       replace HB3_3:=rw_kn g24 HB3_3
       replace HB4_4:=rw_kn g24 HB4_4
       replace hr:=hr.kn g24
       replace HG:=grown_trans HG g24
       refine rx_tail (sv24.st w24) (by kernel_rfl) 11 [(22,Sp.lit0 w24.heap.size 58),(23,Sp.is (pk B2_2 64)),(24,Sp.is (.slice ao ks.length cap)),(25,Sp.row w24.heap.size 58 33 ks.length (ks.flatMap kcells)),(26,Sp.is (dval o)),(27,Sp.is (pk B2_2 32)),(28,Sp.is (dval po)),(29,Sp.is (dval ((kd 275 po)))),(30,Sp.ct w24.heap.size T),(31,Sp.ck w24.heap.size o T),(32,Sp.lit1T w24.heap.size o T)] rfl (by kernel_rfl) (by kernel_rfl) (by kernel_rfl) [] (by kernel_rfl)
         ⟨ox_lit0 (t:=0) rfl trivial (Nat.le_refl _) (fun a w=>by kernel_rfl) (fun _ _ h=>h),yf r6 (fun _=>by kernel_rfl),yp (i:=2) r6 (tyKs (.slice ao ks.length cap) rfl) HB2_2 rfl (by simp [bv_length,zero32_len,hsa.1,hpo.1]),ox_app0 (news:=ks.flatMap kcells) keysT rfl rfl trivial rfl (fun _ _ h=>h) (oy rfl rfl) (fun _ g=>(hr.kn g).1.1) (kcells_all ks) (by omega) (Nat.le_refl _) (fun _ _ h=>h),yl r6 (tyD o ho.1) HB3_3,yf r6 (fun _=>by kernel_rfl),yp (i:=1) r6 (tyD po hpo.1) HB2_2 rfl (by simp [bv_length,zero32_len,hsa.1,hpo.1]),ox_call (Sp.is (dval ((kd 275 po)))) [.int .u64 275,dval po,.slice none 0 0] rfl rfl trivial ⟨rfl,(oy rfl rfl),rfl,trivial⟩ (is_on fun W g=>rkeyed_c (n:=275) (by decide) rfl hpo W) (fun _ _ h=>h) (enter_of Tryz.func35 (by kernel_rfl) rfl),ox_call (Sp.ct w24.heap.size T) [dval ((kd 275 po))] rfl rfl trivial ⟨(oy rfl rfl),trivial⟩ (rnewt_on (kd_dg _ _) hT) (fun _ _ h=>h) (enter_of Tryz.func85 (by kernel_rfl) rfl),ox_buildY rfl rfl trivial rfl (fun W _ av h=>match av,h with | [u,t],⟨h1,h2,_⟩=>ck_of ho h1 h2),ox_lit1 rfl rfl trivial (Nat.le_refl _) rfl (fun W hw v h=>lit1T_of hw.size h.1),trivial⟩ trivial
         [] (by kernel_rfl) trivial ⟨.inl rfl,.inl rfl,.inl rfl,.inl rfl,.inl rfl,.inl rfl,.inl rfl,.inl rfl,.inl rfl,.inl rfl,.inl rfl,trivial⟩ (by kernel_rfl) fun a26 w26 g26 st26 nd26=>?_
       obtain ⟨hn26,hd26,e26_22,e26_23,e26_24,e26_25,e26_26,e26_27,e26_28,e26_29,e26_30,e26_31,e26_32,e26_17,e26_18,e26_19,e26_20,e26_12,e26_13,e26_14,e26_15,e26_8,e26_9,e26_10,e26_5,e26_4,e26_3,e26_2,e26_0,e26_1,-⟩:=st26
       obtain ⟨aoW,capW,e26_25q,ow,frW⟩:=e26_25
       obtain ⟨V,y,e26_32q,HV,hyo,hyl,rt,frB,geV⟩:=e26_32
       have ap_ow_B2_2:=fr_ap frW HB2_2
       have ap_ow_B3_3:=fr_ap frW HB3_3
       have ap_ow_B4_4:=fr_ap frW HB4_4
       have ap_hr_ow:∀ k,fpK (.slice ao ks.length cap) ks k→¬ fpS (.slice aoW ks.length capW) k:=fun k hzr hk=>absurd (hr.lt k hzr) (Nat.not_lt.2 (frW k hk))
       have lo_ow:∀ k,fpS (.slice aoW ks.length capW) k→w.heap.size≤k:=fun k hk=>Nat.le_trans HG.size (frW k hk)
       have ap_rt_B2_2:=fr_ap frB HB2_2
       have ap_rt_B3_3:=fr_ap frB HB3_3
       have ap_rt_B4_4:=fr_ap frB HB4_4
       have lo_rt:∀ k,fpT (VK.s y) k→w.heap.size≤k:=fun k hk=>Nat.le_trans HG.size (frB k hk)
       have ne_V_B2_2:V≠B2_2:=Nat.ne_of_gt (Nat.lt_of_lt_of_le (Array.getElem?_eq_some_iff.1 HB2_2).1 geV)
       have ne_V_B3_3:V≠B3_3:=Nat.ne_of_gt (Nat.lt_of_lt_of_le (Array.getElem?_eq_some_iff.1 HB3_3).1 geV)
       have ne_V_B4_4:V≠B4_4:=Nat.ne_of_gt (Nat.lt_of_lt_of_le (Array.getElem?_eq_some_iff.1 HB4_4).1 geV)
       have lo_V:w.heap.size≤V:=Nat.le_trans HG.size geV
       have ap_hr_V:=nh_ap (hr.lt) geV
       replace HB2_2:=rw_kn g26 HB2_2
       replace HB3_3:=rw_kn g26 HB3_3
       replace HB4_4:=rw_kn g26 HB4_4
       replace hr:=hr.kn g26
       replace HG:=grown_trans HG g26
       have ap_rt_ow:=rt.2.own ow (by decide)
       have ap_rt_V:=rt.2.ap HV (by decide)
       have sv26:Sv 78 [] [(17,_),(18,_),(19,_),(20,_),(12,_),(13,_),(14,_),(15,_),(8,_),(9,_),(10,_),(5,_),(4,_),(3,_),(2,_),(0,_),(1,_),(25,_),(32,_)] a26:=⟨hn26,hd26,e26_17,e26_18,e26_19,e26_20,e26_12,e26_13,e26_14,e26_15,e26_8,e26_9,e26_10,e26_5,e26_4,e26_3,e26_2,e26_0,e26_1,e26_25q,e26_32q,trivial⟩
       refine tl_app keysT sv26 rfl rfl rfl rfl rfl rfl rfl rfl ow (sl_tree HV) (List.all_eq_true.2 (kcells_one y)) (by omega) fun a27 aoX capX w27 ox stp sv27=>?_
       have ap_ox_B2_2:∀ k,fpS (.slice aoX (ks.length+1) capX) k→k≠B2_2:=fun k hk=>(stp.2 k hk).elim (ap_ow_B2_2 k) (fun h=>Nat.ne_of_gt (Nat.lt_of_lt_of_le (Array.getElem?_eq_some_iff.1 HB2_2).1 h))
       have ap_ox_B3_3:∀ k,fpS (.slice aoX (ks.length+1) capX) k→k≠B3_3:=fun k hk=>(stp.2 k hk).elim (ap_ow_B3_3 k) (fun h=>Nat.ne_of_gt (Nat.lt_of_lt_of_le (Array.getElem?_eq_some_iff.1 HB3_3).1 h))
       have ap_ox_B4_4:∀ k,fpS (.slice aoX (ks.length+1) capX) k→k≠B4_4:=fun k hk=>(stp.2 k hk).elim (ap_ow_B4_4 k) (fun h=>Nat.ne_of_gt (Nat.lt_of_lt_of_le (Array.getElem?_eq_some_iff.1 HB4_4).1 h))
       have ap_hr_ox:∀ k,fpK (.slice ao ks.length cap) ks k→¬ fpS (.slice aoX (ks.length+1) capX) k:=fun k hk hx=>(stp.2 k hx).elim (ap_hr_ow k hk) (fun h=>absurd (hr.lt k hk) (Nat.not_lt.2 h))
       have ap_rt_ox:∀ k,fpT (VK.s y) k→¬ fpS (.slice aoX (ks.length+1) capX) k:=fun k hk hx=>(stp.2 k hx).elim (ap_rt_ow k hk) (fun h=>absurd (rt.lt k hk) (Nat.not_lt.2 h))
       have lo_ox:∀ k,fpS (.slice aoX (ks.length+1) capX) k→w.heap.size≤k:=fun k hk=>(stp.2 k hk).elim (lo_ow k) (fun h=>Nat.le_trans HG.size h)
       replace HB2_2:=row_of stp.1 HB2_2 (fun e=>ap_ow_B2_2 _ e.symm rfl)
       replace HB3_3:=row_of stp.1 HB3_3 (fun e=>ap_ow_B3_3 _ e.symm rfl)
       replace HB4_4:=row_of stp.1 HB4_4 (fun e=>ap_ow_B4_4 _ e.symm rfl)
       replace hr:=hr.offR stp.1 (fun k hk e=>ap_hr_ow k hk (e))
       replace rt:=rt.offR stp.1 (fun k hk e=>ap_rt_ow k hk (e))
       replace HG:=grown_from HG stp.1 fun k e=>lo_ow k (e)
       rw [fl_snoc] at ox
       refine tl_as (v:=.slice aoX (ks.length+1) capX) sv27 r6 fun a28 sv28=>?_
       refine tl_nil ?_
       have kr:=KsR.snoc hr.2 rt.1
       have ap_kr_B2_2:∀ k,fpKs (ks ++ [y]) k→k≠B2_2:=fun k hk=>(fpKs_snoc hk).elim (fun h=>ap_hr_B2_2 k (.inr h)) (ap_rt_B2_2 k)
       have ap_kr_B3_3:∀ k,fpKs (ks ++ [y]) k→k≠B3_3:=fun k hk=>(fpKs_snoc hk).elim (fun h=>ap_hr_B3_3 k (.inr h)) (ap_rt_B3_3 k)
       have ap_kr_B4_4:∀ k,fpKs (ks ++ [y]) k→k≠B4_4:=fun k hk=>(fpKs_snoc hk).elim (fun h=>ap_hr_B4_4 k (.inr h)) (ap_rt_B4_4 k)
       have ap_kr_ox:∀ k,fpKs (ks ++ [y]) k→¬ fpS (.slice aoX (ks.length+1) capX) k:=fun k hk=>(fpKs_snoc hk).elim (fun h=>ap_hr_ox k (.inr h)) (ap_rt_ox k)
       refine k25 _ _ ?_
       refine wp_seq_k fun K29 k29=>?_
       refine wp_seq_k fun K30 k30=>?_
       refine wp_region_lit ?_
       refine sx_hv sv28 3 [(34,.slice aoX (ks.length+1) capX),(35,.int .i64 (((ks.length+1):Nat))),(36,.int .i64 ((ks.length:Int)))]
         ⟨ym r5,ox_len (Tryz.underlying34) rfl rfl trivial (oy rfl rfl) (fun _=>rfl),ybc r6 (fun _=>rn_sub (by rw [wrap_i64 (by omega) (by omega)];omega)),trivial⟩ fun a31 w31 g31 sv31=>?_
       refine tl_as (v:=.int .i64 ((ks.length:Int))) sv31 r6 fun a32 sv32=>?_
       refine tl_nil ?_
       refine k30 _ _ ?_
       refine cx_block fun Q33 x33 y33 r33 o33=>?_
       replace HB2_2:=rw_kn g31 HB2_2
       replace HB3_3:=rw_kn g31 HB3_3
       replace HB4_4:=rw_kn g31 HB4_4
       replace hr:=hr.kn g31
       replace rt:=rt.kn g31
       replace ox:=ox.kn g31
       replace kr:=kr.kn g31
       replace HG:=grown_trans HG g31
       have hput0:(ks ++ [y]).map VK.p=atPut (ks.map VK.p) ks.length (o,T):=by rw [show ks.length=(ks.map VK.p).length from hmap.symm,atPut_end,List.map_append];simp [VK.p,hyo,hyl]
       refine wp_loop (fun a w'=>∃ (q:Nat) (ms:List VK),(q≤ks.length)∧(ms.map VK.p=atPut (ks.map VK.p) q (o,T))∧(ms.length=ks.length+1)∧(∀ j,q≤j→j < ks.length→blt o (od (ks.map VK.p) j)=true)∧(∀ b,fpKs ms b→fpKs ks b∨fpT y.s b)∧Sv 78 [] [(7,.int .i64 ((q:Int))),(34,.slice aoX (ks.length+1) capX),(35,.int .i64 (((ks.length+1):Nat))),(36,.int .i64 ((ks.length:Int))),(6,.slice aoX (ks.length+1) capX),(33,.slice aoX (ks.length+1) capX),(17,pk B2_2 64),(18,.slice ao ks.length cap),(19,.int .i64 ((ks.length:Nat))),(20,.bool false),(12,vval sa po (.slice ao ks.length cap)),(13,dval o),(14,.int .i64 ((-1))),(15,.bool false),(8,vval sa po (.slice ao ks.length cap)),(9,.bool true),(10,.bool false),(5,.int .i64 0),(4,pt B4_4),(3,pt B3_3),(2,pt B2_2),(0,vval sa po (.slice ao ks.length cap)),(1,dval o),(25,.slice aoW ks.length capW),(32,.slice ((some ⟨V,0,none⟩)) 1 1)] a∧w.grownBy w' none∧w'.heap[B2_2]?=some (.cells ([bv sa,bv po,[.slice ao ks.length cap]].flatten).toArray 36 (0,0))∧w'.heap[B3_3]?=some (.cells (bv o).toArray 23 (0,0))∧w'.heap[B4_4]?=some (.cells (([bv zero32,bv zero32,[.slice none 0 0]].flatten)).toArray 36 (0,0))∧RdK w' (.slice ao ks.length cap) ks∧RdTg w' (VK.s y) y.l∧Own w' 58 33 (.slice aoX (ks.length+1) capX) ((ks.length+1)) (ms.flatMap kcells)∧KsR w' ms∧(∀ k,fpS (.slice aoX (ks.length+1) capX) k→k≠B2_2)∧(∀ k,fpS (.slice aoX (ks.length+1) capX) k→k≠B3_3)∧(∀ k,fpS (.slice aoX (ks.length+1) capX) k→k≠B4_4)∧(∀ k,fpK (.slice ao ks.length cap) ks k→¬ fpS (.slice aoX (ks.length+1) capX) k)∧(∀ k,fpT (VK.s y) k→¬ fpS (.slice aoX (ks.length+1) capX) k)∧(∀ k,fpKs ms k→¬ fpS (.slice aoX (ks.length+1) capX) k)∧(∀ k,fpS (.slice aoX (ks.length+1) capX) k→w.heap.size≤k)∧(∀ k,fpKs ms k→k≠B2_2)∧(∀ k,fpKs ms k→k≠B3_3)∧(∀ k,fpKs ms k→k≠B4_4)) (fun a _=>(intOf (a.tmps.getD 7 undef)).toNat) ⟨ks.length,ks ++ [y],Nat.le_refl _,hput0,by simp,fun j h1 h2=>by omega,fun b h=>fpKs_snoc h,⟨sv32.1,sv32.2.1,sv32.2.2.1,sv32.2.2.2.1,sv32.2.2.2.2.1,sv32.2.2.2.2.2.1,sv32.2.2.2.2.2.2.1,sv32.2.2.2.2.2.2.2.1,sv32.2.2.2.2.2.2.2.2.1,sv32.2.2.2.2.2.2.2.2.2.1,sv32.2.2.2.2.2.2.2.2.2.2.1,sv32.2.2.2.2.2.2.2.2.2.2.2.1,sv32.2.2.2.2.2.2.2.2.2.2.2.2.1,sv32.2.2.2.2.2.2.2.2.2.2.2.2.2.1,sv32.2.2.2.2.2.2.2.2.2.2.2.2.2.2.1,sv32.2.2.2.2.2.2.2.2.2.2.2.2.2.2.2.1,sv32.2.2.2.2.2.2.2.2.2.2.2.2.2.2.2.2.1,sv32.2.2.2.2.2.2.2.2.2.2.2.2.2.2.2.2.2.1,sv32.2.2.2.2.2.2.2.2.2.2.2.2.2.2.2.2.2.2.1,sv32.2.2.2.2.2.2.2.2.2.2.2.2.2.2.2.2.2.2.2.1,sv32.2.2.2.2.2.2.2.2.2.2.2.2.2.2.2.2.2.2.2.2.1,sv32.2.2.2.2.2.2.2.2.2.2.2.2.2.2.2.2.2.2.2.2.2.1,sv32.2.2.2.2.2.2.2.2.2.2.2.2.2.2.2.2.2.2.2.2.2.2.1,sv32.2.2.2.2.2.2.2.2.2.2.2.2.2.2.2.2.2.2.2.2.2.2.2.1,sv32.2.2.2.2.2.2.2.2.2.2.2.2.2.2.2.2.2.2.2.2.2.2.2.2.1,sv32.2.2.2.2.2.2.2.2.2.2.2.2.2.2.2.2.2.2.2.2.2.2.2.2.2.1,sv32.2.2.2.2.2.2.2.2.2.2.2.2.2.2.2.2.2.2.2.2.2.2.2.2.2.2.1,trivial⟩,HG,HB2_2,HB3_3,HB4_4,hr,rt,ox,kr,ap_ox_B2_2,ap_ox_B3_3,ap_ox_B4_4,ap_hr_ox,ap_rt_ox,ap_kr_ox,lo_ox,ap_kr_B2_2,ap_kr_B3_3,ap_kr_B4_4⟩ fun a34 w34 hI34=>?_
       clear HB2_2
       clear HB3_3
       clear HB4_4
       clear hr
       clear rt
       clear ox
       clear kr
       clear HG
       obtain ⟨q,ms,hkn,hput,hml,haft,hfp,sv34,HG,HB2_2,HB3_3,HB4_4,hr,rt,ox,kr,ap_ox_B2_2,ap_ox_B3_3,ap_ox_B4_4,ap_hr_ox,ap_rt_ox,ap_kr_ox,lo_ox,ap_kr_B2_2,ap_kr_B3_3,ap_kr_B4_4⟩:=hI34
       refine wp_seq_k fun K35 k35=>?_
       refine wp_seq_k fun K36 k36=>?_
       have hkm:q < ms.length:=by omega
       have hkm1:q - 1 < ms.length:=by omega
       obtain ⟨a1,hx_a1⟩:∃ x,ms[q]'hkm=x:=⟨_,rfl⟩
       obtain ⟨b1,hx_b1⟩:∃ x,ms[(q - 1)]'hkm1=x:=⟨_,rfl⟩
       have hao:=put_k hput (by omega) hkm hx_a1
       rcases (show q=0∨(0 < q∧blt a1.o b1.o=true)∨(0 < q∧blt a1.o b1.o=false) by rcases Nat.eq_zero_or_pos q with h | h <;> cases blt a1.o b1.o <;> simp [h]) with hk0 | ⟨hk0,hc⟩ | ⟨hk0,hc⟩
       · have hpos:=put_stop hs hf (by omega) (fun j h1 h2=>haft j h1 (by omega)) (.inl hk0)
         refine rx_av sv34 [(37,.int .i64 ((q:Int))),(38,.bool false),(39,.bool false),(40,undef),(41,undef),(42,undef),(43,undef),(44,undef),(45,undef),(46,undef),(47,undef),(48,undef),(49,undef),(50,undef),(51,undef),(52,.bool false)]
           ⟨ym r5,ybc r6 (fun _=>rn_gtr (decide_eq_false (by omega))),ym r5,ox_off (gn rfl rfl rfl) rfl (fun _=>rfl),ox_off (gn rfl rfl rfl) rfl (fun _=>rfl),ox_off (gn rfl rfl rfl) rfl (fun _=>rfl),ox_off (gn rfl rfl rfl) rfl (fun _=>rfl),ox_off (gn rfl rfl rfl) rfl (fun _=>rfl),ox_off (gn rfl rfl rfl) rfl (fun _=>rfl),ox_off (gn rfl rfl rfl) rfl (fun _=>rfl),ox_off (gn rfl rfl rfl) rfl (fun _=>rfl),ox_off (gn rfl rfl rfl) rfl (fun _=>rfl),ox_off (gn rfl rfl rfl) rfl (fun _=>rfl),ox_off (gn rfl rfl rfl) rfl (fun _=>rfl),ox_off (gn rfl rfl rfl) rfl (fun _=>rfl),ox_pick rfl rfl trivial (oy rfl rfl) rfl (fun _=>rfl),trivial⟩ fun a37 w37 g37 sv37=>?_
         refine k36 _ _ ?_
         refine cx_ifF sv37 rfl rfl ?_
         refine wp_exit ?_
         repeat refine then_exit ?_
         refine x33 _ _ ?_
         refine k29 _ _ ?_
         refine wp_seq_k fun K38 k38=>?_
         replace HB2_2:=rw_kn g37 HB2_2
         replace HB3_3:=rw_kn g37 HB3_3
         replace HB4_4:=rw_kn g37 HB4_4
         replace hr:=hr.kn g37
         replace rt:=rt.kn g37
         replace ox:=ox.kn g37
         replace kr:=kr.kn g37
         replace HG:=grown_trans HG g37
         refine rx_tail (sv37.st w37) (by kernel_rfl) 7 [(71,Sp.is (pt B2_2)),(72,Sp.is (dval sa)),(73,Sp.is (pk B2_2 32)),(74,Sp.is (dval po)),(75,Sp.is (dval ((kd 276 po)))),(76,Sp.is (.slice aoX (ks.length+1) capX)),(77,Sp.is (vval sa ((kd 276 po)) (.slice aoX (ks.length+1) capX)))] rfl (by kernel_rfl) (by kernel_rfl) (by kernel_rfl) [] (by kernel_rfl)
           ⟨yf r6 (fun _=>by kernel_rfl),yp (i:=0) r6 (tyD sa hsa.1) HB2_2 rfl rfl,yf r6 (fun _=>by kernel_rfl),yp (i:=1) r6 (tyD po hpo.1) HB2_2 rfl (by simp [bv_length,zero32_len,hsa.1,hpo.1]),ox_call (Sp.is (dval ((kd 276 po)))) [.int .u64 276,dval po,.slice none 0 0] rfl rfl trivial ⟨rfl,(oy rfl rfl),rfl,trivial⟩ (is_on fun W g=>rkeyed_c (n:=276) (by decide) rfl hpo W) (fun _ _ h=>h) (enter_of Tryz.func35 (by kernel_rfl) rfl),ym r5,ox_build (vs:=[dval sa,dval ((kd 276 po)),.slice aoX (ks.length+1) capX]) rfl rfl trivial ⟨(oy rfl rfl),(oy rfl rfl),(oy rfl rfl),trivial⟩ (fun _=>bV3 hsa (kd_dg _ _) _ _ _ _) (fun _=>rfl),trivial⟩ trivial
           [] (by kernel_rfl) trivial ⟨.inl rfl,.inl rfl,.inl rfl,.inl rfl,.inl rfl,.inl rfl,.inl rfl,trivial⟩ (by kernel_rfl) fun a39 w39 g39 st39 nd39=>?_
         obtain ⟨hn39,hd39,e39_71,e39_72,e39_73,e39_74,e39_75,e39_76,e39_77,e39_37,e39_38,e39_39,e39_40,e39_41,e39_42,e39_43,e39_44,e39_45,e39_46,e39_47,e39_48,e39_49,e39_50,e39_51,e39_52,e39_7,e39_34,e39_35,e39_36,e39_6,e39_33,e39_17,e39_18,e39_19,e39_20,e39_12,e39_13,e39_14,e39_15,e39_8,e39_9,e39_10,e39_5,e39_4,e39_3,e39_2,e39_0,e39_1,e39_25,e39_32,-⟩:=st39
         have sv39:Sv 78 [] [(37,_),(38,_),(39,_),(40,_),(41,_),(42,_),(43,_),(44,_),(45,_),(46,_),(47,_),(48,_),(49,_),(50,_),(51,_),(52,_),(7,_),(34,_),(35,_),(36,_),(6,_),(33,_),(17,_),(18,_),(19,_),(20,_),(12,_),(13,_),(14,_),(15,_),(8,_),(9,_),(10,_),(5,_),(4,_),(3,_),(2,_),(0,_),(1,_),(25,_),(32,_),(77,_)] a39:=⟨hn39,hd39,e39_37,e39_38,e39_39,e39_40,e39_41,e39_42,e39_43,e39_44,e39_45,e39_46,e39_47,e39_48,e39_49,e39_50,e39_51,e39_52,e39_7,e39_34,e39_35,e39_36,e39_6,e39_33,e39_17,e39_18,e39_19,e39_20,e39_12,e39_13,e39_14,e39_15,e39_8,e39_9,e39_10,e39_5,e39_4,e39_3,e39_2,e39_0,e39_1,e39_25,e39_32,e39_77,trivial⟩
         refine tl_sw sv39 r7 (tyVa hsa (kd_dg _ _) (.slice aoX (ks.length+1) capX) rfl) (rw_kn g39 HB4_4) (by first | rfl | simp [kcells,bv_length,zero32_len,hsa.1,(kd_dg _ _).1]) fun w40 g40 h40=>?_
         replace HB2_2:=rw_s2 g39 g40 HB2_2 (Ne.symm ne_B4_4_B2_2)
         replace HB3_3:=rw_s2 g39 g40 HB3_3 (Ne.symm ne_B4_4_B3_3)
         replace hr:=(hr.kn g39).offR g40 (no_b ap_hr_B4_4)
         replace rt:=(rt.kn g39).offR g40 (no_b ap_rt_B4_4)
         replace ox:=(ox.kn g39).offR g40 (no_b ap_ox_B4_4)
         replace kr:=(kr.kn g39).offR g40 (no_b ap_kr_B4_4)
         replace HG:=grown_newR (grown_trans HG g39) g40 lo_B4_4
         replace HB4_4:=h40
         refine tl_as (v:=.int .i64 0) sv39 r6 fun a41 sv41=>?_
         refine tl_nil ?_
         refine k38 _ _ ?_
         refine wp_ret ?_
         repeat refine then_ret ?_
         refine cx_ret (fn:=Tryz.f39) sv41 (res_ct (p:=4) (q:=5) Tryz.results39 sv41 rfl rfl rfl rfl (tyVa hsa (kd_dg _ _) (.slice aoX (ks.length+1) capX) rfl) HB4_4) ?_
         exact VRes.mk2 (P:=insV (ks.map VK.p) o T) (by unfold ensO;rw [if_pos hv,if_neg (by rw [hf];simp),if_neg (by simpa using hfull)]) (by rw [insV_put,hpos];exact hput) ox kr (fun k hk=>(hfp k hk).elim (fun h=>.inl (.inr h)) (fun h=>.inr (rt.2 k h))) HG
       · have hbo:=put_k1 hput (by omega) hk0 hkm1 hx_b1
         have hc2:blt o (od (ks.map VK.p) (q - 1))=true:=by rw [← hao,← hbo];exact hc
         refine rx_av sv34 [(37,.int .i64 ((q:Int))),(38,.bool true),(39,.bool true),(40,.slice aoX (ks.length+1) capX),(41,.int .i64 ((q:Int))),(42,pk ((bO aoX)) (oO aoX+q * 33)),(43,pk ((bO aoX)) (oO aoX+q * 33)),(44,dval a1.o),(45,.slice aoX (ks.length+1) capX),(46,.int .i64 ((q:Int))),(47,.int .i64 (((q - 1:Nat):Int))),(48,pk ((bO aoX)) (oO aoX+(q - 1) * 33)),(49,pk ((bO aoX)) (oO aoX+(q - 1) * 33)),(50,dval b1.o),(51,.bool true),(52,.bool true)]
           ⟨ym r5,ybc r6 (fun _=>rn_gtr (decide_eq_true (by omega))),ym r5,ox_move 6 40 (.inl rfl) rfl rfl (gy rfl rfl rfl) (fun _ _ h=>h),ox_move 7 41 (.inl rfl) rfl rfl (gy rfl rfl rfl) (fun _ _ h=>h),ox_index rfl rfl (gy rfl rfl rfl) (oy rfl rfl) (oy rfl rfl) (fun w=>ix_sl Tryz.underlying34 (by kernel_rfl) (Sl.of_own ox) (by omega) (rfl) w) (fun _=>rfl),ox_field rfl rfl (gy rfl rfl rfl) (oy rfl rfl) (fun _=>by kernel_rfl) (fun _=>rfl),ox_load rfl rfl (gy rfl rfl rfl) (oy rfl rfl) (fun _ g=>loadsAt (tyD a1.o a1.ho.1) (key_owner (Sl.of_own (ox.kn g)) hkm hx_a1)) (fun _=>rfl),ox_move 6 45 (.inl rfl) rfl rfl (gy rfl rfl rfl) (fun _ _ h=>h),ox_move 7 46 (.inl rfl) rfl rfl (gy rfl rfl rfl) (fun _ _ h=>h),ox_bin rfl rfl (gy rfl rfl rfl) (oy rfl rfl) rfl (fun _=>rn_sub (by rw [wrap_i64 (by omega) (by omega)];omega)) (fun _=>rfl),ox_index rfl rfl (gy rfl rfl rfl) (oy rfl rfl) (oy rfl rfl) (fun w=>ix_sl Tryz.underlying34 (by kernel_rfl) (Sl.of_own ox) (by omega) (rfl) w) (fun _=>rfl),ox_field rfl rfl (gy rfl rfl rfl) (oy rfl rfl) (fun _=>by kernel_rfl) (fun _=>rfl),ox_load rfl rfl (gy rfl rfl rfl) (oy rfl rfl) (fun _ g=>loadsAt (tyD b1.o b1.ho.1) (key_owner (Sl.of_own (ox.kn g)) hkm1 hx_b1)) (fun _=>rfl),ox_call (Sp.is (.bool true)) [dval a1.o,dval b1.o] rfl rfl (gy rfl rfl rfl) ⟨(oy rfl rfl),(oy rfl rfl),trivial⟩ (is_on fun W g=>less_B hc a1.ho b1.ho W) (fun _ _ h=>h) (enter_of Tryz.func86 (by kernel_rfl) rfl),ox_pick rfl rfl trivial (oy rfl rfl) (oy rfl rfl) (fun _=>rfl),trivial⟩ fun a42 w42 g42 sv42=>?_
         refine k36 _ _ ?_
         refine cx_ifT sv42 rfl rfl ?_
         refine wp_skip ?_
         refine k35 _ _ ?_
         refine wp_seq_k fun K43 k43=>?_
         refine cx_block fun Q44 x44 y44 r44 o44=>?_
         replace HB2_2:=rw_kn g42 HB2_2
         replace HB3_3:=rw_kn g42 HB3_3
         replace HB4_4:=rw_kn g42 HB4_4
         replace hr:=hr.kn g42
         replace rt:=rt.kn g42
         replace ox:=ox.kn g42
         replace kr:=kr.kn g42
         replace HG:=grown_trans HG g42
         refine rx_tail (sv42.st w42) (by kernel_rfl) 15 [(55,Sp.is (.slice aoX (ks.length+1) capX)),(56,Sp.is (.int .i64 ((q:Int)))),(57,Sp.is (.int .i64 (((q - 1:Nat):Int)))),(58,Sp.is (.slice aoX (ks.length+1) capX)),(59,Sp.is (.int .i64 ((q:Int)))),(60,Sp.is (.slice aoX (ks.length+1) capX)),(61,Sp.is (.int .i64 ((q:Int)))),(62,Sp.is (pk ((bO aoX)) (oO aoX+q * 33))),(63,Sp.is (kval a1)),(64,Sp.is (.slice aoX (ks.length+1) capX)),(65,Sp.is (.int .i64 ((q:Int)))),(66,Sp.is (.int .i64 (((q - 1:Nat):Int)))),(67,Sp.is (pk ((bO aoX)) (oO aoX+(q - 1) * 33))),(68,Sp.is (kval b1)),(69,Sp.is (pk ((bO aoX)) (oO aoX+(q - 1) * 33)))] rfl (by kernel_rfl) (by kernel_rfl) (by kernel_rfl) [3,4] (by kernel_rfl)
           ⟨ym r5,ym r5,ybc r6 (fun _=>rn_sub (by rw [wrap_i64 (by omega) (by omega)];omega)),ym r5,ym r5,ym r5,ym r5,ox_index rfl rfl trivial (oy rfl rfl) (oy rfl rfl) (fun w=>ix_sl Tryz.underlying34 (by kernel_rfl) (Sl.of_own ox) (by omega) (rfl) w) (fun _=>rfl),ox_load rfl rfl trivial (oy rfl rfl) (fun _ g=>loadsAt (tyK a1) (key_at (Sl.of_own (ox.kn g)) hkm hx_a1)) (fun _=>rfl),ym r5,ym r5,ybc r6 (fun _=>rn_sub (by rw [wrap_i64 (by omega) (by omega)];omega)),ox_index rfl rfl trivial (oy rfl rfl) (oy rfl rfl) (fun w=>ix_sl Tryz.underlying34 (by kernel_rfl) (Sl.of_own ox) (by omega) (rfl) w) (fun _=>rfl),ox_load rfl rfl trivial (oy rfl rfl) (fun _ g=>loadsAt (tyK b1) (key_at (Sl.of_own (ox.kn g)) hkm1 hx_b1)) (fun _=>rfl),ox_index rfl rfl trivial (oy rfl rfl) (oy rfl rfl) (fun w=>ix_sl Tryz.underlying34 (by kernel_rfl) (Sl.of_own ox) (by omega) (rfl) w) (fun _=>rfl),trivial⟩ ⟨fun o ho=>by obtain rfl:=Option.some.inj ho;exact px_move 6 58 (.inl rfl) rfl rfl trivial (fun _ _ h=>h),fun o ho=>by obtain rfl:=Option.some.inj ho;exact px_move 7 59 (.inl rfl) rfl rfl trivial (fun _ _ h=>h),trivial⟩
           [] (by kernel_rfl) trivial ⟨.inl rfl,.inl rfl,.inl rfl,.inl rfl,.inl rfl,.inl rfl,.inl rfl,.inl rfl,.inl rfl,.inl rfl,.inl rfl,.inl rfl,.inl rfl,.inl rfl,.inl rfl,trivial⟩ (by kernel_rfl) fun a45 w45 g45 st45 nd45=>?_
         obtain ⟨hn45,hd45,e45_55,e45_56,e45_57,e45_58,e45_59,e45_60,e45_61,e45_62,e45_63,e45_64,e45_65,e45_66,e45_67,e45_68,e45_69,e45_37,e45_38,e45_39,e45_40,e45_41,e45_42,e45_43,e45_44,e45_45,e45_46,e45_47,e45_48,e45_49,e45_50,e45_51,e45_52,e45_7,e45_34,e45_35,e45_36,e45_6,e45_33,e45_17,e45_18,e45_19,e45_20,e45_12,e45_13,e45_14,e45_15,e45_8,e45_9,e45_10,e45_5,e45_4,e45_3,e45_2,e45_0,e45_1,e45_25,e45_32,-⟩:=st45
         have sv45:Sv 78 [] [(37,_),(38,_),(39,_),(40,_),(41,_),(42,_),(43,_),(44,_),(45,_),(46,_),(47,_),(48,_),(49,_),(50,_),(51,_),(52,_),(7,_),(34,_),(35,_),(36,_),(6,_),(33,_),(17,_),(18,_),(19,_),(20,_),(12,_),(13,_),(14,_),(15,_),(8,_),(9,_),(10,_),(5,_),(4,_),(3,_),(2,_),(0,_),(1,_),(25,_),(32,_),(58,_),(59,_),(63,_),(68,_),(69,_)] a45:=⟨hn45,hd45,e45_37,e45_38,e45_39,e45_40,e45_41,e45_42,e45_43,e45_44,e45_45,e45_46,e45_47,e45_48,e45_49,e45_50,e45_51,e45_52,e45_7,e45_34,e45_35,e45_36,e45_6,e45_33,e45_17,e45_18,e45_19,e45_20,e45_12,e45_13,e45_14,e45_15,e45_8,e45_9,e45_10,e45_5,e45_4,e45_3,e45_2,e45_0,e45_1,e45_25,e45_32,e45_58,e45_59,e45_63,e45_68,e45_69,trivial⟩
         replace HB2_2:=rw_kn g45 HB2_2
         replace HB3_3:=rw_kn g45 HB3_3
         replace HB4_4:=rw_kn g45 HB4_4
         replace hr:=hr.kn g45
         replace rt:=rt.kn g45
         replace ox:=ox.kn g45
         replace kr:=kr.kn g45
         replace HG:=grown_trans HG g45
         refine tl_storeEW (c:=kcells) (el:=a1) sv45 rfl rfl rfl rfl rfl rfl rfl (tyK a1) ox kcells_len (by decide) (by first | omega | (simp only [List.length_set];omega)) rfl fun w46 g46 h46=>?_
         replace HB2_2:=row_of g46 HB2_2 (fun e=>ap_ox_B2_2 _ (row_fp (j:=(q - 1)) ox (by omega) rfl) (Option.some.inj e).symm)
         replace HB3_3:=row_of g46 HB3_3 (fun e=>ap_ox_B3_3 _ (row_fp (j:=(q - 1)) ox (by omega) rfl) (Option.some.inj e).symm)
         replace HB4_4:=row_of g46 HB4_4 (fun e=>ap_ox_B4_4 _ (row_fp (j:=(q - 1)) ox (by omega) rfl) (Option.some.inj e).symm)
         replace hr:=hr.offR g46 (fun k hk e=>ap_hr_ox k hk (row_fp (j:=(q - 1)) ox (by omega) e))
         replace rt:=rt.offR g46 (fun k hk e=>ap_rt_ox k hk (row_fp (j:=(q - 1)) ox (by omega) e))
         replace kr:=kr.offR g46 (fun k hk e=>ap_kr_ox k hk (row_fp (j:=(q - 1)) ox (by omega) e))
         replace HG:=grown_from HG g46 fun k e=>lo_ox k (row_fp (j:=(q - 1)) ox (by omega) e)
         replace ox:=h46
         refine sx_hv sv45 1 [(70,pk ((bO aoX)) (oO aoX+q * 33))]
           ⟨ox_index rfl rfl trivial (oy rfl rfl) (oy rfl rfl) (fun w=>ix_sl Tryz.underlying34 (by kernel_rfl) (Sl.of_own ox) (by omega) (rfl) w) (fun _=>rfl),trivial⟩ fun a47 w47 g47 sv47=>?_
         replace HB2_2:=rw_kn g47 HB2_2
         replace HB3_3:=rw_kn g47 HB3_3
         replace HB4_4:=rw_kn g47 HB4_4
         replace hr:=hr.kn g47
         replace rt:=rt.kn g47
         replace ox:=ox.kn g47
         replace kr:=kr.kn g47
         replace HG:=grown_trans HG g47
         refine tl_storeEW (c:=kcells) (el:=b1) sv47 rfl rfl rfl rfl rfl rfl rfl (tyK b1) ox kcells_len (by decide) (by first | omega | (simp only [List.length_set];omega)) rfl fun w48 g48 h48=>?_
         replace HB2_2:=row_of g48 HB2_2 (fun e=>ap_ox_B2_2 _ (row_fp (j:=q) ox (by omega) rfl) (Option.some.inj e).symm)
         replace HB3_3:=row_of g48 HB3_3 (fun e=>ap_ox_B3_3 _ (row_fp (j:=q) ox (by omega) rfl) (Option.some.inj e).symm)
         replace HB4_4:=row_of g48 HB4_4 (fun e=>ap_ox_B4_4 _ (row_fp (j:=q) ox (by omega) rfl) (Option.some.inj e).symm)
         replace hr:=hr.offR g48 (fun k hk e=>ap_hr_ox k hk (row_fp (j:=q) ox (by omega) e))
         replace rt:=rt.offR g48 (fun k hk e=>ap_rt_ox k hk (row_fp (j:=q) ox (by omega) e))
         replace kr:=kr.offR g48 (fun k hk e=>ap_kr_ox k hk (row_fp (j:=q) ox (by omega) e))
         replace HG:=grown_from HG g48 fun k e=>lo_ox k (row_fp (j:=q) ox (by omega) e)
         replace ox:=h48
         have sv49:Sv 78 [] [(37,_),(38,_),(39,_),(40,_),(41,_),(42,_),(43,_),(44,_),(45,_),(46,_),(47,_),(48,_),(49,_),(50,_),(51,_),(52,_),(7,_),(34,_),(35,_),(36,_),(6,_),(33,_),(17,_),(18,_),(19,_),(20,_),(12,_),(13,_),(14,_),(15,_),(8,_),(9,_),(10,_),(5,_),(4,_),(3,_),(2,_),(0,_),(1,_),(25,_),(32,_)] a47:=sv47.dl [70,58,59,63,68,69]
         refine tl_nil ?_
         have kr2:=kr.sub (ns:=(ms.set (q - 1) a1).set q b1) fun x hx=>swap_in hkm hkm1 hx_a1 hx_b1 hx
         have ap_kr2_B2_2:∀ k,fpKs ((ms.set (q - 1) a1).set q b1) k→k≠B2_2:=fun k hk=>ap_kr_B2_2 k (fpKs_sub (fun x hx=>swap_in hkm hkm1 hx_a1 hx_b1 hx) hk)
         have ap_kr2_B3_3:∀ k,fpKs ((ms.set (q - 1) a1).set q b1) k→k≠B3_3:=fun k hk=>ap_kr_B3_3 k (fpKs_sub (fun x hx=>swap_in hkm hkm1 hx_a1 hx_b1 hx) hk)
         have ap_kr2_B4_4:∀ k,fpKs ((ms.set (q - 1) a1).set q b1) k→k≠B4_4:=fun k hk=>ap_kr_B4_4 k (fpKs_sub (fun x hx=>swap_in hkm hkm1 hx_a1 hx_b1 hx) hk)
         have ap_kr2_ox:∀ k,fpKs ((ms.set (q - 1) a1).set q b1) k→¬ fpS (.slice aoX (ks.length+1) capX) k:=fun k hk=>ap_kr_ox k (fpKs_sub (fun x hx=>swap_in hkm hkm1 hx_a1 hx_b1 hx) hk)
         refine y44 _ _ ?_
         refine k43 _ _ ?_
         refine wp_region_lit ?_
         refine sx_hv sv49 2 [(53,.int .i64 ((q:Int))),(54,.int .i64 (((q - 1:Nat):Int)))]
           ⟨ym r5,ybc r6 (fun _=>rn_sub (by rw [wrap_i64 (by omega) (by omega)];omega)),trivial⟩ fun a50 w50 g50 sv50=>?_
         refine tl_as (v:=.int .i64 (((q - 1:Nat):Int))) sv50 r6 fun a51 sv51=>?_
         refine tl_nil ?_
         replace HB2_2:=rw_kn g50 HB2_2
         replace HB3_3:=rw_kn g50 HB3_3
         replace HB4_4:=rw_kn g50 HB4_4
         replace hr:=hr.kn g50
         replace rt:=rt.kn g50
         replace ox:=ox.kn g50
         replace kr2:=kr2.kn g50
         replace HG:=grown_trans HG g50
         exact ⟨⟨q - 1,(ms.set (q - 1) a1).set q b1,by omega,put_swap hput (by omega) hk0 hkm hkm1 hx_a1 hx_b1,by rw [List.length_set,List.length_set];exact hml,fun j h1 h2=>if e:j=q - 1 then e▸hc2 else haft j (by omega) h2,fun b h=>hfp b (fpKs_sub (fun x hx=>swap_in hkm hkm1 hx_a1 hx_b1 hx) h),⟨sv51.1,sv51.2.1,sv51.2.2.1,sv51.2.2.2.2.2.2.2.2.2.2.2.2.2.2.2.2.2.2.2.2.2.1,sv51.2.2.2.2.2.2.2.2.2.2.2.2.2.2.2.2.2.2.2.2.2.2.1,sv51.2.2.2.2.2.2.2.2.2.2.2.2.2.2.2.2.2.2.2.2.2.2.2.1,sv51.2.2.2.2.2.2.2.2.2.2.2.2.2.2.2.2.2.2.2.2.2.2.2.2.1,sv51.2.2.2.2.2.2.2.2.2.2.2.2.2.2.2.2.2.2.2.2.2.2.2.2.2.1,sv51.2.2.2.2.2.2.2.2.2.2.2.2.2.2.2.2.2.2.2.2.2.2.2.2.2.2.1,sv51.2.2.2.2.2.2.2.2.2.2.2.2.2.2.2.2.2.2.2.2.2.2.2.2.2.2.2.1,sv51.2.2.2.2.2.2.2.2.2.2.2.2.2.2.2.2.2.2.2.2.2.2.2.2.2.2.2.2.1,sv51.2.2.2.2.2.2.2.2.2.2.2.2.2.2.2.2.2.2.2.2.2.2.2.2.2.2.2.2.2.1,sv51.2.2.2.2.2.2.2.2.2.2.2.2.2.2.2.2.2.2.2.2.2.2.2.2.2.2.2.2.2.2.1,sv51.2.2.2.2.2.2.2.2.2.2.2.2.2.2.2.2.2.2.2.2.2.2.2.2.2.2.2.2.2.2.2.1,sv51.2.2.2.2.2.2.2.2.2.2.2.2.2.2.2.2.2.2.2.2.2.2.2.2.2.2.2.2.2.2.2.2.1,sv51.2.2.2.2.2.2.2.2.2.2.2.2.2.2.2.2.2.2.2.2.2.2.2.2.2.2.2.2.2.2.2.2.2.1,sv51.2.2.2.2.2.2.2.2.2.2.2.2.2.2.2.2.2.2.2.2.2.2.2.2.2.2.2.2.2.2.2.2.2.2.1,sv51.2.2.2.2.2.2.2.2.2.2.2.2.2.2.2.2.2.2.2.2.2.2.2.2.2.2.2.2.2.2.2.2.2.2.2.1,sv51.2.2.2.2.2.2.2.2.2.2.2.2.2.2.2.2.2.2.2.2.2.2.2.2.2.2.2.2.2.2.2.2.2.2.2.2.1,sv51.2.2.2.2.2.2.2.2.2.2.2.2.2.2.2.2.2.2.2.2.2.2.2.2.2.2.2.2.2.2.2.2.2.2.2.2.2.1,sv51.2.2.2.2.2.2.2.2.2.2.2.2.2.2.2.2.2.2.2.2.2.2.2.2.2.2.2.2.2.2.2.2.2.2.2.2.2.2.1,sv51.2.2.2.2.2.2.2.2.2.2.2.2.2.2.2.2.2.2.2.2.2.2.2.2.2.2.2.2.2.2.2.2.2.2.2.2.2.2.2.1,sv51.2.2.2.2.2.2.2.2.2.2.2.2.2.2.2.2.2.2.2.2.2.2.2.2.2.2.2.2.2.2.2.2.2.2.2.2.2.2.2.2.1,sv51.2.2.2.2.2.2.2.2.2.2.2.2.2.2.2.2.2.2.2.2.2.2.2.2.2.2.2.2.2.2.2.2.2.2.2.2.2.2.2.2.2.1,sv51.2.2.2.2.2.2.2.2.2.2.2.2.2.2.2.2.2.2.2.2.2.2.2.2.2.2.2.2.2.2.2.2.2.2.2.2.2.2.2.2.2.2.1,sv51.2.2.2.2.2.2.2.2.2.2.2.2.2.2.2.2.2.2.2.2.2.2.2.2.2.2.2.2.2.2.2.2.2.2.2.2.2.2.2.2.2.2.2.1,sv51.2.2.2.2.2.2.2.2.2.2.2.2.2.2.2.2.2.2.2.2.2.2.2.2.2.2.2.2.2.2.2.2.2.2.2.2.2.2.2.2.2.2.2.2.1,trivial⟩,HG,HB2_2,HB3_3,HB4_4,hr,rt,ox,kr2,ap_ox_B2_2,ap_ox_B3_3,ap_ox_B4_4,ap_hr_ox,ap_rt_ox,ap_kr2_ox,lo_ox,ap_kr2_B2_2,ap_kr2_B3_3,ap_kr2_B4_4⟩,by rw [show _=_ from sv51.2.2.1,show _=_ from sv34.2.2.1];simp [intOf];omega⟩
       · have hbo:=put_k1 hput (by omega) hk0 hkm1 hx_b1
         have hpos:=put_stop hs hf (by omega) (fun j h1 h2=>haft j h1 (by omega)) (.inr (by rw [← hao,← hbo];exact hc))
         refine rx_av sv34 [(37,.int .i64 ((q:Int))),(38,.bool true),(39,.bool true),(40,.slice aoX (ks.length+1) capX),(41,.int .i64 ((q:Int))),(42,pk ((bO aoX)) (oO aoX+q * 33)),(43,pk ((bO aoX)) (oO aoX+q * 33)),(44,dval a1.o),(45,.slice aoX (ks.length+1) capX),(46,.int .i64 ((q:Int))),(47,.int .i64 (((q - 1:Nat):Int))),(48,pk ((bO aoX)) (oO aoX+(q - 1) * 33)),(49,pk ((bO aoX)) (oO aoX+(q - 1) * 33)),(50,dval b1.o),(51,.bool false),(52,.bool false)]
           ⟨ym r5,ybc r6 (fun _=>rn_gtr (decide_eq_true (by omega))),ym r5,ox_move 6 40 (.inl rfl) rfl rfl (gy rfl rfl rfl) (fun _ _ h=>h),ox_move 7 41 (.inl rfl) rfl rfl (gy rfl rfl rfl) (fun _ _ h=>h),ox_index rfl rfl (gy rfl rfl rfl) (oy rfl rfl) (oy rfl rfl) (fun w=>ix_sl Tryz.underlying34 (by kernel_rfl) (Sl.of_own ox) (by omega) (rfl) w) (fun _=>rfl),ox_field rfl rfl (gy rfl rfl rfl) (oy rfl rfl) (fun _=>by kernel_rfl) (fun _=>rfl),ox_load rfl rfl (gy rfl rfl rfl) (oy rfl rfl) (fun _ g=>loadsAt (tyD a1.o a1.ho.1) (key_owner (Sl.of_own (ox.kn g)) hkm hx_a1)) (fun _=>rfl),ox_move 6 45 (.inl rfl) rfl rfl (gy rfl rfl rfl) (fun _ _ h=>h),ox_move 7 46 (.inl rfl) rfl rfl (gy rfl rfl rfl) (fun _ _ h=>h),ox_bin rfl rfl (gy rfl rfl rfl) (oy rfl rfl) rfl (fun _=>rn_sub (by rw [wrap_i64 (by omega) (by omega)];omega)) (fun _=>rfl),ox_index rfl rfl (gy rfl rfl rfl) (oy rfl rfl) (oy rfl rfl) (fun w=>ix_sl Tryz.underlying34 (by kernel_rfl) (Sl.of_own ox) (by omega) (rfl) w) (fun _=>rfl),ox_field rfl rfl (gy rfl rfl rfl) (oy rfl rfl) (fun _=>by kernel_rfl) (fun _=>rfl),ox_load rfl rfl (gy rfl rfl rfl) (oy rfl rfl) (fun _ g=>loadsAt (tyD b1.o b1.ho.1) (key_owner (Sl.of_own (ox.kn g)) hkm1 hx_b1)) (fun _=>rfl),ox_call (Sp.is (.bool false)) [dval a1.o,dval b1.o] rfl rfl (gy rfl rfl rfl) ⟨(oy rfl rfl),(oy rfl rfl),trivial⟩ (is_on fun W g=>less_B hc a1.ho b1.ho W) (fun _ _ h=>h) (enter_of Tryz.func86 (by kernel_rfl) rfl),ox_pick rfl rfl trivial (oy rfl rfl) (oy rfl rfl) (fun _=>rfl),trivial⟩ fun a52 w52 g52 sv52=>?_
         refine k36 _ _ ?_
         refine cx_ifF sv52 rfl rfl ?_
         refine wp_exit ?_
         repeat refine then_exit ?_
         refine x33 _ _ ?_
         refine k29 _ _ ?_
         refine wp_seq_k fun K53 k53=>?_
         replace HB2_2:=rw_kn g52 HB2_2
         replace HB3_3:=rw_kn g52 HB3_3
         replace HB4_4:=rw_kn g52 HB4_4
         replace hr:=hr.kn g52
         replace rt:=rt.kn g52
         replace ox:=ox.kn g52
         replace kr:=kr.kn g52
         replace HG:=grown_trans HG g52
         refine rx_tail (sv52.st w52) (by kernel_rfl) 7 [(71,Sp.is (pt B2_2)),(72,Sp.is (dval sa)),(73,Sp.is (pk B2_2 32)),(74,Sp.is (dval po)),(75,Sp.is (dval ((kd 276 po)))),(76,Sp.is (.slice aoX (ks.length+1) capX)),(77,Sp.is (vval sa ((kd 276 po)) (.slice aoX (ks.length+1) capX)))] rfl (by kernel_rfl) (by kernel_rfl) (by kernel_rfl) [] (by kernel_rfl)
           ⟨yf r6 (fun _=>by kernel_rfl),yp (i:=0) r6 (tyD sa hsa.1) HB2_2 rfl rfl,yf r6 (fun _=>by kernel_rfl),yp (i:=1) r6 (tyD po hpo.1) HB2_2 rfl (by simp [bv_length,zero32_len,hsa.1,hpo.1]),ox_call (Sp.is (dval ((kd 276 po)))) [.int .u64 276,dval po,.slice none 0 0] rfl rfl trivial ⟨rfl,(oy rfl rfl),rfl,trivial⟩ (is_on fun W g=>rkeyed_c (n:=276) (by decide) rfl hpo W) (fun _ _ h=>h) (enter_of Tryz.func35 (by kernel_rfl) rfl),ym r5,ox_build (vs:=[dval sa,dval ((kd 276 po)),.slice aoX (ks.length+1) capX]) rfl rfl trivial ⟨(oy rfl rfl),(oy rfl rfl),(oy rfl rfl),trivial⟩ (fun _=>bV3 hsa (kd_dg _ _) _ _ _ _) (fun _=>rfl),trivial⟩ trivial
           [] (by kernel_rfl) trivial ⟨.inl rfl,.inl rfl,.inl rfl,.inl rfl,.inl rfl,.inl rfl,.inl rfl,trivial⟩ (by kernel_rfl) fun a54 w54 g54 st54 nd54=>?_
         obtain ⟨hn54,hd54,e54_71,e54_72,e54_73,e54_74,e54_75,e54_76,e54_77,e54_37,e54_38,e54_39,e54_40,e54_41,e54_42,e54_43,e54_44,e54_45,e54_46,e54_47,e54_48,e54_49,e54_50,e54_51,e54_52,e54_7,e54_34,e54_35,e54_36,e54_6,e54_33,e54_17,e54_18,e54_19,e54_20,e54_12,e54_13,e54_14,e54_15,e54_8,e54_9,e54_10,e54_5,e54_4,e54_3,e54_2,e54_0,e54_1,e54_25,e54_32,-⟩:=st54
         have sv54:Sv 78 [] [(37,_),(38,_),(39,_),(40,_),(41,_),(42,_),(43,_),(44,_),(45,_),(46,_),(47,_),(48,_),(49,_),(50,_),(51,_),(52,_),(7,_),(34,_),(35,_),(36,_),(6,_),(33,_),(17,_),(18,_),(19,_),(20,_),(12,_),(13,_),(14,_),(15,_),(8,_),(9,_),(10,_),(5,_),(4,_),(3,_),(2,_),(0,_),(1,_),(25,_),(32,_),(77,_)] a54:=⟨hn54,hd54,e54_37,e54_38,e54_39,e54_40,e54_41,e54_42,e54_43,e54_44,e54_45,e54_46,e54_47,e54_48,e54_49,e54_50,e54_51,e54_52,e54_7,e54_34,e54_35,e54_36,e54_6,e54_33,e54_17,e54_18,e54_19,e54_20,e54_12,e54_13,e54_14,e54_15,e54_8,e54_9,e54_10,e54_5,e54_4,e54_3,e54_2,e54_0,e54_1,e54_25,e54_32,e54_77,trivial⟩
         refine tl_sw sv54 r7 (tyVa hsa (kd_dg _ _) (.slice aoX (ks.length+1) capX) rfl) (rw_kn g54 HB4_4) (by first | rfl | simp [kcells,bv_length,zero32_len,hsa.1,(kd_dg _ _).1]) fun w55 g55 h55=>?_
         replace HB2_2:=rw_s2 g54 g55 HB2_2 (Ne.symm ne_B4_4_B2_2)
         replace HB3_3:=rw_s2 g54 g55 HB3_3 (Ne.symm ne_B4_4_B3_3)
         replace hr:=(hr.kn g54).offR g55 (no_b ap_hr_B4_4)
         replace rt:=(rt.kn g54).offR g55 (no_b ap_rt_B4_4)
         replace ox:=(ox.kn g54).offR g55 (no_b ap_ox_B4_4)
         replace kr:=(kr.kn g54).offR g55 (no_b ap_kr_B4_4)
         replace HG:=grown_newR (grown_trans HG g54) g55 lo_B4_4
         replace HB4_4:=h55
         refine tl_as (v:=.int .i64 0) sv54 r6 fun a56 sv56=>?_
         refine tl_nil ?_
         refine k53 _ _ ?_
         refine wp_ret ?_
         repeat refine then_ret ?_
         refine cx_ret (fn:=Tryz.f39) sv56 (res_ct (p:=4) (q:=5) Tryz.results39 sv56 rfl rfl rfl rfl (tyVa hsa (kd_dg _ _) (.slice aoX (ks.length+1) capX) rfl) HB4_4) ?_
         exact VRes.mk2 (P:=insV (ks.map VK.p) o T) (by unfold ensO;rw [if_pos hv,if_neg (by rw [hf];simp),if_neg (by simpa using hfull)]) (by rw [insV_put,hpos];exact hput) ox kr (fun k hk=>(hfp k hk).elim (fun h=>.inl (.inr h)) (fun h=>.inr (rt.2 k h))) HG
   · refine wp_region_lit ?_
     refine sx_hv sv13 4 [(12,vval sa po (.slice ao ks.length cap)),(13,dval o),(14,.int .i64 ((i:Int))),(15,.bool true)]
       ⟨yl r6 (tyVa hsa hpo (.slice ao ks.length cap) rfl) HB2_2,yl r6 (tyD o ho.1) HB3_3,ox_call (Sp.is (.int .i64 ((i:Int)))) [vval sa po (.slice ao ks.length cap),dval o] rfl rfl trivial ⟨(oy rfl rfl),(oy rfl rfl),trivial⟩ (is_on fun W g=>at_B hsa hpo ho (hr.kn g) hv (at_yes hf hi)) (fun _ _ h=>h) (enter_of Tryz.func84 (by kernel_rfl) rfl),ybc r6 (fun _=>rn_geq (decide_eq_true (by omega))),trivial⟩ fun a57 w57 g57 sv57=>?_
     refine tl_nil ?_
     refine k15 _ _ ?_
     refine cx_ifT sv57 rfl rfl ?_
     refine wp_seq_k fun K58 k58=>?_
     refine wp_region_lit ?_
     refine sx_hv sv57 1 [(16,vval sa po (.slice ao ks.length cap))]
       ⟨yl r6 (tyVa hsa hpo (.slice ao ks.length cap) rfl) (rw_kn g57 HB2_2),trivial⟩ fun a59 w59 g59 sv59=>?_
     have gc59:=grown_trans g57 g59
     refine tl_sw sv59 r7 (tyVa hsa hpo (.slice ao ks.length cap) rfl) (rw_kn gc59 HB4_4) (by first | rfl | simp [kcells,bv_length,zero32_len,hsa.1,hpo.1]) fun w60 g60 h60=>?_
     replace HB2_2:=rw_s2 gc59 g60 HB2_2 (Ne.symm ne_B4_4_B2_2)
     replace HB3_3:=rw_s2 gc59 g60 HB3_3 (Ne.symm ne_B4_4_B3_3)
     replace hr:=(hr.kn gc59).offR g60 (no_b ap_hr_B4_4)
     replace HG:=grown_newR (grown_trans HG gc59) g60 lo_B4_4
     replace HB4_4:=h60
     refine tl_as (v:=.int .i64 0) sv59 r6 fun a61 sv61=>?_
     refine tl_nil ?_
     refine k58 _ _ ?_
     refine wp_ret ?_
     repeat refine then_ret ?_
     refine cx_ret (fn:=Tryz.f39) sv61 (res_ct (p:=4) (q:=5) Tryz.results39 sv61 rfl rfl rfl rfl (tyVa hsa hpo (.slice ao ks.length cap) rfl) HB4_4) ?_
     exact VRes.same (P:=ks.map VK.p) (by unfold ensO;rw [if_pos hv,if_pos hf]) rfl hr (fun k hk=>hk) HG
end Go.Proofs.YtbfjfnbcmojpiaaGreat
