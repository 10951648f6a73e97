import Derived.Test.YtbfjfnbcmojpiaaGreatV7
namespace Go.Proofs.YtbfjfnbcmojpiaaGreat
open Go.RowKit Go.Shelf
set_option linter.unusedSimpArgs false
set_option linter.unusedVariables false
def TagV (w:World) (k:Nat):Prop:=TagB w k∨∃ c fr,w.heap[k]?=some (.cells c 58 fr)
theorem TagV.keep {w w':World} {k:Nat} (h:TagV w k) {row:Option Nat} (g:w.grownBy w' row) (hb:row≠some k):TagV w' k:=h.imp (·.keep g hb) fun ⟨c,fr,h1⟩=>⟨c,fr,row_of g h1 fun e=>hb e.symm⟩
def VRes (w w':World) (r:VV×Int) (fp:Nat→Prop) (e:Ending):Prop:=∃ ao cap ks,e=.returned (.tuple #[vval r.1.2.1 r.1.2.2 (.slice ao ks.length cap),.int .i64 r.2])∧ks.map VK.p=r.1.1∧RdK w' (.slice ao ks.length cap) ks∧(∀ k,fpK (.slice ao ks.length cap) ks k→fp k∨TagV w' k)∧w.grownBy w' none
theorem VRes.zero {w w':World} {r:VV×Int} {fp:Nat→Prop} {c:Int} (hr:r=(zeroV,c)) (h:w.grownBy w' none):VRes w w' r fp (.returned (.tuple #[vval zero32 zero32 (.slice none 0 0),.int .i64 c])):=by
 subst hr
 exact ⟨none,0,[],rfl,rfl,RdK.nil w',fun k hk=>(fpK_nil k hk).elim,h⟩
theorem VRes.mk2 {w w':World} {r:VV×Int} {fp:Nat→Prop} {P:List VP} {sa po:List Nat} {c:Int} {ao:Option Addr} {n cap:Nat} {ks:List VK} (hr:r=((P,sa,po),c)) (hp:ks.map VK.p=P) (ho:Own w' 58 33 (.slice ao n cap) n (ks.flatMap kcells)) (hk:KsR w' ks) (h2:∀ k,fpKs ks k→fp k∨TagB w' k)
   (h:w.grownBy w' none):VRes w w' r fp (.returned (.tuple #[vval sa po (.slice ao n cap),.int .i64 c])):=by
 obtain rfl:=Own.rdk ho
 subst hr
 exact ⟨ao,cap,ks,rfl,hp,⟨ho.sb,hk⟩,fun k hk=>hk.elim (fun h=>.inr (.inr (Own.block ho h))) (fun h=>(h2 k h).imp id .inl),h⟩
theorem VRes.mk {w w':World} {r:VV×Int} {fp:Nat→Prop} {P:List VP} {sa po:List Nat} {c:Int} {ao:Option Addr} {n cap:Nat} {ks:List VK} (hr:r=((P,sa,po),c)) (hp:ks.map VK.p=P) (ho:Own w' 58 33 (.slice ao n cap) n (ks.flatMap kcells)) (hk:KsT w' ks)
   (h:w.grownBy w' none):VRes w w' r fp (.returned (.tuple #[vval sa po (.slice ao n cap),.int .i64 c])):=VRes.mk2 hr hp ho hk.1 (fun k hk'=>.inr (hk.2 k hk')) h
theorem VRes.same {w w':World} {r:VV×Int} {fp:Nat→Prop} {P:List VP} {sa po:List Nat} {c:Int} {ao:Option Addr} {cap:Nat} {ks:List VK} (hr:r=((P,sa,po),c)) (hp:ks.map VK.p=P) (ho:RdK w' (.slice ao ks.length cap) ks)
   (h1:∀ k,fpK (.slice ao ks.length cap) ks k→fp k) (h:w.grownBy w' none):VRes w w' r fp (.returned (.tuple #[vval sa po (.slice ao ks.length cap),.int .i64 c])):=by
 subst hr
 exact ⟨ao,cap,ks,rfl,hp,ho,fun k hk=>.inl (h1 k hk),h⟩
def Sp.cln (B:Nat) (sa po:List Nat) (n:Nat) (P:List VP):Sp:=⟨fun w v=>∃ (A:Nat) (ms:List VK),v=vval sa po (.slice (some ⟨A,0,none⟩) n n)∧ms.map VK.p=P∧Own w 58 33 (.slice (some ⟨A,0,none⟩) n n) n (ms.flatMap kcells)∧KsT w ms∧B≤A∧∀ k,fpKs ms k→B≤k∧k≠A,
 fun _ _ _ hg ⟨A,ms,h1,h2,h3,h4,h5,h6⟩=>⟨A,ms,h1,h2,h3.kn hg,h4.kn hg,h5,h6⟩⟩
theorem cloned_on {w0:World} {ks:List VK} {ao:Option Addr} {cap:Nat} {sa po:List Nat} (hsa:Dg sa) (hpo:Dg po) (hr:RdK w0 (.slice ao ks.length cap) ks) (h64:ks.length≤64):∀ W,w0.grownBy W none→Calls Tryz.prog 72 #[vval sa po (.slice ao ks.length cap)] W fun e W'=>∃ v,e=.returned v∧W.grownBy W' none∧(Sp.cln w0.heap.size sa po ks.length (ks.map VK.p)).on W' v:=fun W g =>
 (cloned_walk ks ao cap sa po hsa hpo W (hr.kn g) h64).mono fun e W' ⟨A,ms,h1,h2,h3,h4,h5,h6,h7⟩=>⟨_,h1,h7,A,ms,rfl,h2,h3,h4,Nat.le_trans g.size h5,fun k hk=>⟨Nat.le_trans g.size (h6 k hk).1,(h6 k hk).2⟩⟩
theorem KsT.ins {w:World} {ms:List VK} (h:KsT w ms) {x:VK} (hx:RdTg w x.s x.l) (i:Nat):KsT w (ms.take i ++ x :: ms.drop i):=by
 have hh:∀ k,k ∈ ms.take i ++ x :: ms.drop i→k ∈ ms∨k=x:=fun k hk=>by
   rcases List.mem_append.1 hk with hk | hk
   · exact .inl (List.mem_of_mem_take hk)
   · rcases List.mem_cons.1 hk with rfl | hk
     · exact .inr rfl
     · exact .inl (List.mem_of_mem_drop hk)
 exact ⟨fun k hk=>(hh k hk).elim (h.1 k) fun e=>e▸hx.1,fun b ⟨k,hk,hb⟩=>(hh k hk).elim (fun h1=>h.2 b ⟨k,h1,hb⟩) fun e=>hx.2 b (e▸hb)⟩
theorem KsR.ins {w:World} {ms:List VK} (h:KsR w ms) {x:VK} (hx:RdT w x.s x.l) (i:Nat):KsR w (ms.take i ++ x :: ms.drop i):=fun k hk=>by
 rcases List.mem_append.1 hk with hk | hk
 · exact h k (List.mem_of_mem_take hk)
 · rcases List.mem_cons.1 hk with rfl | hk
   · exact hx
   · exact h k (List.mem_of_mem_drop hk)
def Sp.insr (B n:Nat) (ks:List VK):Sp:=⟨fun w v=>∃ ao cap,v=.slice ao n cap∧Own w 58 33 (.slice ao n cap) n (ks.flatMap kcells)∧∀ k,fpS (.slice ao n cap) k→B≤k,fun _ _ _ hg ⟨ao,cap,h1,h2,h3⟩=>⟨ao,cap,h1,h2.kn hg,h3⟩⟩
theorem ins_on {w0:World} {ms:List VK} {x:VK} {i A V n:Nat} (hn:n=ms.length) (hown:Own w0 58 33 (.slice (some ⟨A,0,none⟩) n n) n (ms.flatMap kcells)) (hv:w0.heap[V]?=some (.cells (kcells x).toArray 58 (0,0))) (hi:i≤n) (h64:n≤64) :
   ∀ W,w0.grownBy W none→Calls Tryz.prog 83 #[.slice (some ⟨A,0,none⟩) n n,.int .i64 (i:Int),.slice (some ⟨V,0,none⟩) 1 1] W fun e W'=>∃ v,e=.returned v∧W.grownBy W' none∧(Sp.insr w0.heap.size (n+1) (ms.take i ++ x :: ms.drop i)).on W' v:=fun W g=>by
 subst hn
 exact (insert_full ms x i A V W (hown.kn g) (row_of g hv (by simp)) hi (by omega)).mono fun e W' ⟨v,h1,h2,h3,h4⟩=>by
   obtain ⟨ao,cap,rfl,_⟩:=(Sl.of_own h2).shape
   exact ⟨_,h1,h3,ao,cap,rfl,h2,fun k hk=>Nat.le_trans g.size (h4 k hk)⟩
theorem map_ins {ms:List VK} {P:List VP} {o:List Nat} {T:List Nd} {x:VK} {i:Nat} (h:ms.map VK.p=P) (hi:pos P o=i) (ho:x.o=o) (hl:x.l=T):(ms.take i ++ x :: ms.drop i).map VK.p=insV P o T:=by
 unfold insV
 rw [hi,List.map_append,List.map_cons,List.map_take,List.map_drop,h]
 simp [VK.p,ho,hl]
theorem find_own {w:World} {ks ms:List VK} {A n:Nat} {sa po o:List Nat} (hsa:Dg sa) (hpo:Dg po) (ho:Dg o) (hm:ms.map VK.p=ks.map VK.p) (ow:Own w 58 33 (.slice (some ⟨A,0,none⟩) n n) n (ms.flatMap kcells)) (kr:KsR w ms) (hv:vldV (ks.map VK.p)=true) {b:Bool} (hb:fnd (ks.map VK.p) o=b) {i:Nat} (hi:pos (ks.map VK.p) o=i) :
   Calls Tryz.prog 71 #[vval sa po (.slice (some ⟨A,0,none⟩) n n),dval o] w fun e w'=>e=.returned (.tuple #[.int .i64 (i:Int),.bool b])∧w.grownBy w' none:=by
 obtain rfl:=Own.rdk ow
 rw [← hm] at hv hb hi
 exact find_B hsa hpo ho ⟨ow.sb,kr⟩ hv hb hi
set_option maxRecDepth 100000 in
set_option maxHeartbeats 4000000 in
theorem ens_walk (ks:List VK) (ao:Option Addr) (cap:Nat) (sa po:List Nat) (hsa:Dg sa) (hpo:Dg po) (o:List Nat) (ho:Dg o) (T:List Nd) (hT:tree (kd 275 po) []=T) (w:World) (hr:RdK w (.slice ao ks.length cap) ks) :
   Calls Tryz.prog 36 #[vval sa po (.slice ao ks.length cap),dval o] w fun e w'=>VRes w w' (ensO (ks.map VK.p,sa,po) o T (kd 276 po)) (fun _=>False) e:=by
 have hTl:0 < T.length:=by rw [← hT,tree_nil];exact Nat.zero_lt_one
 refine cx_enterD Tryz.func36 rfl Tryz.ntmps36 rfl fun a0 sv0=>?_
 have HG:=World.grownBy.refl w none
 replace sv0:Sv 47 [] [(0,vval sa po (.slice ao ks.length cap)),(1,dval o)] a0:=sv0
 refine wp_seq_k fun K1 k1=>?_
 refine wp_region_lit ?_
 refine tl_box sv0 rfl rfl rfl rfl rfl rfl (tyVa hsa hpo (.slice ao ks.length cap) rfl) fun a2 w2 B2_2 eq_B2_2 g2 z2 HB2_2 sv2=>?_
 have lo_B2_2:=nb_lo HG eq_B2_2
 have ap_hr_B2_2:=nb_ap (hr.lt) eq_B2_2
 replace hr:=hr.kn g2
 replace HG:=grown_trans HG g2
 refine tl_box sv2 rfl rfl rfl rfl rfl rfl (tyD o ho.1) fun a3 w3 B3_3 eq_B3_3 g3 z3 HB3_3 sv3=>?_
 have ne_B3_3_B2_2:=nb_ne HB2_2 eq_B3_3
 have lo_B3_3:=nb_lo HG eq_B3_3
 have ap_hr_B3_3:=nb_ap (hr.lt) eq_B3_3
 replace HB2_2:=rw_kn g3 HB2_2
 replace hr:=hr.kn g3
 replace HG:=grown_trans HG g3
 refine tl_alloc (T:=36) (Z:=([bv zero32,bv zero32,[.slice none 0 0]].flatten)) sv3 rfl rfl rfl (fun a w=>by kernel_rfl) fun a4 w4 B4_4 eq_B4_4 g4 z4 HB4_4 sv4=>?_
 have ne_B4_4_B2_2:=nb_ne HB2_2 eq_B4_4
 have ne_B4_4_B3_3:=nb_ne HB3_3 eq_B4_4
 have lo_B4_4:=nb_lo HG eq_B4_4
 have ap_hr_B4_4:=nb_ap (hr.lt) eq_B4_4
 replace HB2_2:=rw_kn g4 HB2_2
 replace HB3_3:=rw_kn g4 HB3_3
 replace hr:=hr.kn g4
 replace HG:=grown_trans HG g4
 refine tl_alloc (T:=38) (Z:=[.int .i64 0]) sv4 rfl rfl rfl (fun a w=>by kernel_rfl) fun a5 w5 B5_5 eq_B5_5 g5 z5 HB5_5 sv5=>?_
 have ne_B5_5_B2_2:=nb_ne HB2_2 eq_B5_5
 have ne_B5_5_B3_3:=nb_ne HB3_3 eq_B5_5
 have ne_B5_5_B4_4:=nb_ne HB4_4 eq_B5_5
 have lo_B5_5:=nb_lo HG eq_B5_5
 have ap_hr_B5_5:=nb_ap (hr.lt) eq_B5_5
 replace HB2_2:=rw_kn g5 HB2_2
 replace HB3_3:=rw_kn g5 HB3_3
 replace HB4_4:=rw_kn g5 HB4_4
 replace hr:=hr.kn g5
 replace HG:=grown_trans HG g5
 refine tl_nil ?_
 refine k1 _ _ ?_
 refine wp_seq_k fun K6 k6=>?_
 refine wp_region_lit ?_
 refine tl_makeFunc sv5 rfl rfl rfl rfl rfl rfl fun a7 sv7=>?_
 refine tl_defer sv7 rfl (dd:={ target:=.fn (.func 81) #[pt B4_4,pt B5_5],args:=#[] }) rfl (by have e1:=sv7.ev (x:=.tmp 9) rfl rfl;simp [execOp,resolve,Deferred.ofValue,e1];try rfl) fun a8 sv8=>?_
 refine tl_nil ?_
 refine k6 _ _ ?_
 refine wp_seq_k fun K9 k9=>?_
 refine wp_seq_k fun K10 k10=>?_
 cases hv:vldV (ks.map VK.p)
 · refine wp_region_lit ?_
   refine sx_hv sv8 3 [(10,vval sa po (.slice ao ks.length cap)),(11,.bool false),(12,.bool true)]
     ⟨yl r6 (tyVa hsa hpo (.slice ao ks.length cap) rfl) HB2_2,ox_call (Sp.is (.bool false)) [vval sa po (.slice ao ks.length cap)] rfl rfl trivial ⟨(oy rfl rfl),trivial⟩ (is_on fun W g=>vvalid_B hsa hpo (hr.kn g) hv) (fun _ _ h=>h) (enter_of Tryz.func51 (by kernel_rfl) rfl),ox_un rfl rfl trivial (oy rfl rfl) (fun _=>rn_not) (fun _=>rfl),trivial⟩ fun a11 w11 g11 sv11=>?_
   refine tl_nil ?_
   refine k10 _ _ ?_
   refine cx_ifT sv11 rfl rfl ?_
   refine wp_seq_k fun K12 k12=>?_
   refine wp_region_lit ?_
   replace HB2_2:=rw_kn g11 HB2_2
   replace HB3_3:=rw_kn g11 HB3_3
   replace HB4_4:=rw_kn g11 HB4_4
   replace HB5_5:=rw_kn g11 HB5_5
   replace hr:=hr.kn g11
   replace HG:=grown_trans HG g11
   refine sx_hv sv11 1 [(13,vval zero32 zero32 (.slice none 0 0))]
     ⟨ox_build (vs:=[]) rfl rfl trivial trivial (fun _=>bV0 _) (fun _=>rfl),trivial⟩ fun a13 w13 g13 sv13=>?_
   refine tl_sw sv13 r7 (tyVa zero32_dg zero32_dg (.slice none 0 0) rfl) (rw_kn g13 HB4_4) (by first | rfl | simp [kcells,bv_length,zero32_len,zero32_dg.1,zero32_dg.1]) fun w14 g14 h14=>?_
   replace HB2_2:=rw_s2 g13 g14 HB2_2 (Ne.symm ne_B4_4_B2_2)
   replace HB3_3:=rw_s2 g13 g14 HB3_3 (Ne.symm ne_B4_4_B3_3)
   replace HB5_5:=rw_s2 g13 g14 HB5_5 ne_B5_5_B4_4
   replace hr:=(hr.kn g13).offR g14 (no_b ap_hr_B4_4)
   replace HG:=grown_newR (grown_trans HG g13) g14 lo_B4_4
   replace HB4_4:=h14
   refine tl_sw sv13 r7 (tyE 1) HB5_5 rfl fun w15 g15 h15=>?_
   replace HB2_2:=rw_st g15 HB2_2 (Ne.symm ne_B5_5_B2_2)
   replace HB3_3:=rw_st g15 HB3_3 (Ne.symm ne_B5_5_B3_3)
   replace HB4_4:=rw_st g15 HB4_4 (Ne.symm ne_B5_5_B4_4)
   replace hr:=hr.offR g15 (no_b ap_hr_B5_5)
   replace HG:=grown_newR HG g15 lo_B5_5
   replace HB5_5:=h15
   refine tl_nil ?_
   refine k12 _ _ ?_
   refine wp_ret ?_
   repeat refine then_ret ?_
   refine cx_retD (fn:=Tryz.f36) sv13 (res_cell2 (p:=4) (q:=5) Tryz.results36 sv13 rfl rfl rfl rfl (tyVa zero32_dg zero32_dg (.slice none 0 0) rfl) (tyE 1) HB4_4 HB5_5) (inv_of Tryz.func81 (by kernel_rfl) rfl _ _) (recEnsure_walk _ _ _) ?_
   exact VRes.zero (by unfold ensO;rw [if_neg (by rw [hv];simp)]) HG
 · obtain ⟨i,hi⟩:∃ i,pos (ks.map VK.p) o=i:=⟨_,rfl⟩
   have h64:ks.length≤64:=by have:=(vldV_iff.1 hv).1;simpa using this
   have hin:i≤ks.length:=by rw [← hi];simpa using pos_le (ks.map VK.p) o
   refine wp_region_lit ?_
   refine sx_hv sv8 3 [(10,vval sa po (.slice ao ks.length cap)),(11,.bool true),(12,.bool false)]
     ⟨yl r6 (tyVa hsa hpo (.slice ao ks.length cap) rfl) HB2_2,ox_call (Sp.is (.bool true)) [vval sa po (.slice ao ks.length cap)] rfl rfl trivial ⟨(oy rfl rfl),trivial⟩ (is_on fun W g=>vvalid_B hsa hpo (hr.kn g) hv) (fun _ _ h=>h) (enter_of Tryz.func51 (by kernel_rfl) rfl),ox_un rfl rfl trivial (oy rfl rfl) (fun _=>rn_not) (fun _=>rfl),trivial⟩ fun a16 w16 g16 sv16=>?_
   refine tl_nil ?_
   refine k10 _ _ ?_
   refine cx_ifF sv16 rfl rfl ?_
   refine wp_skip ?_
   refine k9 _ _ ?_
   refine wp_seq_k fun K17 k17=>?_
   refine wp_region_lit ?_
   replace HB2_2:=rw_kn g16 HB2_2
   replace HB3_3:=rw_kn g16 HB3_3
   replace HB4_4:=rw_kn g16 HB4_4
   replace HB5_5:=rw_kn g16 HB5_5
   replace hr:=hr.kn g16
   replace HG:=grown_trans HG g16
   refine sx_head (sv16.st w16) 2 [(14,Sp.is (vval sa po (.slice ao ks.length cap))),(15,Sp.cln w16.heap.size sa po ks.length (ks.map VK.p))] rfl (by kernel_rfl) (by kernel_rfl) (by kernel_rfl)
     ⟨yl r6 (tyVa hsa hpo (.slice ao ks.length cap) rfl) HB2_2,ox_call (Sp.cln w16.heap.size sa po ks.length (ks.map VK.p)) [vval sa po (.slice ao ks.length cap)] rfl rfl trivial ⟨(oy rfl rfl),trivial⟩ (cloned_on hsa hpo hr h64) (fun _ _ h=>h) (enter_of Tryz.func72 (by kernel_rfl) rfl),trivial⟩ fun a18 w18 g18 st18=>?_
   obtain ⟨hn18,hd18,e18_14,e18_15,e18_10,e18_11,e18_12,e18_9,e18_5,e18_4,e18_3,e18_2,e18_0,e18_1,-⟩:=st18
   obtain ⟨A,ms,e18_15q,hmp,ow,kr,frA,frK⟩:=e18_15
   have fr_ow:∀ k,fpS (.slice ((some ⟨A,0,none⟩)) ks.length ks.length) k→w16.heap.size≤k:=fun k hk=>(Option.some.inj hk)▸frA
   have fr_kr:∀ k,fpKs ms k→w16.heap.size≤k:=fun k hk=>(frK k hk).1
   have ap_kr_ow:∀ k,fpKs ms k→¬ fpS (.slice ((some ⟨A,0,none⟩)) ks.length ks.length) k:=fun k hk e=>(frK k hk).2 (Option.some.inj e).symm
   have ap_ow_B2_2:=fr_ap fr_ow HB2_2
   have ap_ow_B3_3:=fr_ap fr_ow HB3_3
   have ap_ow_B4_4:=fr_ap fr_ow HB4_4
   have ap_ow_B5_5:=fr_ap fr_ow HB5_5
   have ap_hr_ow:∀ k,fpK (.slice ao ks.length cap) ks k→¬ fpS (.slice ((some ⟨A,0,none⟩)) ks.length ks.length) k:=fun k hzr hk=>absurd (hr.lt k hzr) (Nat.not_lt.2 (fr_ow k hk))
   have lo_ow:∀ k,fpS (.slice ((some ⟨A,0,none⟩)) ks.length ks.length) k→w.heap.size≤k:=fun k hk=>Nat.le_trans HG.size (fr_ow k hk)
   have ap_kr_B2_2:=fr_ap fr_kr HB2_2
   have ap_kr_B3_3:=fr_ap fr_kr HB3_3
   have ap_kr_B4_4:=fr_ap fr_kr HB4_4
   have ap_kr_B5_5:=fr_ap fr_kr HB5_5
   have lo_kr:∀ k,fpKs ms k→w.heap.size≤k:=fun k hk=>Nat.le_trans HG.size (fr_kr k hk)
   replace HB2_2:=rw_kn g18 HB2_2
   replace HB3_3:=rw_kn g18 HB3_3
   replace HB4_4:=rw_kn g18 HB4_4
   replace HB5_5:=rw_kn g18 HB5_5
   replace hr:=hr.kn g18
   replace HG:=grown_trans HG g18
   have sv18:Sv 47 [{ target:=.fn (.func 81) #[pt B4_4,pt B5_5],args:=#[] }] [(10,_),(11,_),(12,_),(9,_),(5,_),(4,_),(3,_),(2,_),(0,_),(1,_),(15,_)] a18:=⟨hn18,hd18,e18_10,e18_11,e18_12,e18_9,e18_5,e18_4,e18_3,e18_2,e18_0,e18_1,e18_15q,trivial⟩
   refine tl_sw sv18 r7 (tyVa hsa hpo (.slice ((some ⟨A,0,none⟩)) ks.length ks.length) rfl) HB2_2 (by first | rfl | simp [kcells,bv_length,zero32_len,hsa.1,hpo.1,hsa.1,hpo.1]) fun w19 g19 h19=>?_
   replace HB3_3:=rw_st g19 HB3_3 ne_B3_3_B2_2
   replace HB4_4:=rw_st g19 HB4_4 ne_B4_4_B2_2
   replace HB5_5:=rw_st g19 HB5_5 ne_B5_5_B2_2
   replace hr:=hr.offR g19 (no_b ap_hr_B2_2)
   replace ow:=ow.offR g19 (no_b ap_ow_B2_2)
   replace kr:=kr.offR g19 (no_b ap_kr_B2_2)
   replace HG:=grown_newR HG g19 lo_B2_2
   replace HB2_2:=h19
   refine tl_nil ?_
   refine k17 _ _ ?_
   refine wp_seq_k fun K20 k20=>?_
   have hml:ks.length=ms.length:=Own.rdk ow
   cases hf:fnd (ks.map VK.p) o
   · refine wp_region_lit ?_
     refine sx_hv sv18 6 [(17,vval sa po (.slice ((some ⟨A,0,none⟩)) ks.length ks.length)),(18,dval o),(19,.tuple #[.int .i64 ((i:Int)),.bool false]),(16,.tuple #[.int .i64 ((i:Int)),.bool false]),(20,.int .i64 ((i:Int))),(21,.bool false)]
       ⟨yl r6 (tyVa hsa hpo (.slice ((some ⟨A,0,none⟩)) ks.length ks.length) rfl) HB2_2,yl r6 (tyD o ho.1) HB3_3,ox_call (Sp.is (.tuple #[.int .i64 ((i:Int)),.bool false])) [vval sa po (.slice ((some ⟨A,0,none⟩)) ks.length ks.length),dval o] rfl rfl trivial ⟨(oy rfl rfl),(oy rfl rfl),trivial⟩ (is_on fun W g=>find_own hsa hpo ho hmp (ow.kn g) (kr.1.kn g) hv hf hi) (fun _ _ h=>h) (enter_of Tryz.func71 (by kernel_rfl) rfl),ym r5,ox_extract rfl rfl rfl trivial (fun _ _ h=>⟨_,_,h,rfl,rfl⟩),ox_extract rfl rfl rfl trivial (fun _ _ h=>⟨_,_,h,rfl,rfl⟩),trivial⟩ fun a21 w21 g21 sv21=>?_
     refine tl_as (v:=.int .i64 ((i:Int))) sv21 r6 fun a22 sv22=>?_
     refine tl_as (v:=.bool false) sv22 r6 fun a23 sv23=>?_
     have sv24:Sv 47 [{ target:=.fn (.func 81) #[pt B4_4,pt B5_5],args:=#[] }] [(7,_),(6,_),(10,_),(11,_),(12,_),(9,_),(5,_),(4,_),(3,_),(2,_),(0,_),(1,_),(15,_)] a23:=sv23.dl [17,18,19,16,20,21]
     refine tl_nil ?_
     refine k20 _ _ ?_
     refine wp_seq_k fun K25 k25=>?_
     refine wp_seq_k fun K26 k26=>?_
     refine wp_region_lit ?_
     refine sx_hv sv24 1 [(22,.bool false)]
       ⟨ym r5,trivial⟩ fun a27 w27 g27 sv27=>?_
     have gc27:=grown_trans g21 g27
     refine tl_nil ?_
     refine k26 _ _ ?_
     refine cx_ifF sv27 rfl rfl ?_
     refine wp_skip ?_
     refine k25 _ _ ?_
     refine wp_seq_k fun K28 k28=>?_
     refine wp_seq_k fun K29 k29=>?_
     replace HB2_2:=rw_kn gc27 HB2_2
     replace HB3_3:=rw_kn gc27 HB3_3
     replace HB4_4:=rw_kn gc27 HB4_4
     replace HB5_5:=rw_kn gc27 HB5_5
     replace hr:=hr.kn gc27
     replace ow:=ow.kn gc27
     replace kr:=kr.kn gc27
     replace HG:=grown_trans HG gc27
     by_cases hfull:64≤ks.length
     · refine wp_region_lit ?_
       refine sx_hv sv27 4 [(24,pk B2_2 64),(25,.slice ((some ⟨A,0,none⟩)) ks.length ks.length),(26,.int .i64 ((ks.length:Nat))),(27,.bool true)]
         ⟨yf r6 (fun _=>by kernel_rfl),yp (i:=2) r6 (tyKs (.slice ((some ⟨A,0,none⟩)) ks.length ks.length) rfl) HB2_2 rfl (by simp [bv_length,zero32_len,hsa.1,hpo.1]),ox_len (Tryz.underlying34) rfl rfl trivial (oy rfl rfl) (fun _=>rfl),ybc r6 (fun _=>rn_geq (decide_eq_true (by omega))),trivial⟩ fun a30 w30 g30 sv30=>?_
       refine tl_nil ?_
       refine k29 _ _ ?_
       refine cx_ifT sv30 rfl rfl ?_
       refine wp_seq_k fun K31 k31=>?_
       refine wp_region_lit ?_
       replace HB2_2:=rw_kn g30 HB2_2
       replace HB3_3:=rw_kn g30 HB3_3
       replace HB4_4:=rw_kn g30 HB4_4
       replace HB5_5:=rw_kn g30 HB5_5
       replace hr:=hr.kn g30
       replace ow:=ow.kn g30
       replace kr:=kr.kn g30
       replace HG:=grown_trans HG g30
       refine sx_hv sv30 1 [(28,vval zero32 zero32 (.slice none 0 0))]
         ⟨ox_build (vs:=[]) rfl rfl trivial trivial (fun _=>bV0 _) (fun _=>rfl),trivial⟩ fun a32 w32 g32 sv32=>?_
       refine tl_sw sv32 r7 (tyVa zero32_dg zero32_dg (.slice none 0 0) rfl) (rw_kn g32 HB4_4) (by first | rfl | simp [kcells,bv_length,zero32_len,zero32_dg.1,zero32_dg.1]) fun w33 g33 h33=>?_
       replace HB2_2:=rw_s2 g32 g33 HB2_2 (Ne.symm ne_B4_4_B2_2)
       replace HB3_3:=rw_s2 g32 g33 HB3_3 (Ne.symm ne_B4_4_B3_3)
       replace HB5_5:=rw_s2 g32 g33 HB5_5 ne_B5_5_B4_4
       replace hr:=(hr.kn g32).offR g33 (no_b ap_hr_B4_4)
       replace ow:=(ow.kn g32).offR g33 (no_b ap_ow_B4_4)
       replace kr:=(kr.kn g32).offR g33 (no_b ap_kr_B4_4)
       replace HG:=grown_newR (grown_trans HG g32) g33 lo_B4_4
       replace HB4_4:=h33
       refine tl_sw sv32 r7 (tyE 8) HB5_5 rfl fun w34 g34 h34=>?_
       replace HB2_2:=rw_st g34 HB2_2 (Ne.symm ne_B5_5_B2_2)
       replace HB3_3:=rw_st g34 HB3_3 (Ne.symm ne_B5_5_B3_3)
       replace HB4_4:=rw_st g34 HB4_4 (Ne.symm ne_B5_5_B4_4)
       replace hr:=hr.offR g34 (no_b ap_hr_B5_5)
       replace ow:=ow.offR g34 (no_b ap_ow_B5_5)
       replace kr:=kr.offR g34 (no_b ap_kr_B5_5)
       replace HG:=grown_newR HG g34 lo_B5_5
       replace HB5_5:=h34
       refine tl_nil ?_
       refine k31 _ _ ?_
       refine wp_ret ?_
       repeat refine then_ret ?_
       refine cx_retD (fn:=Tryz.f36) sv32 (res_cell2 (p:=4) (q:=5) Tryz.results36 sv32 rfl rfl rfl rfl (tyVa zero32_dg zero32_dg (.slice none 0 0) rfl) (tyE 8) HB4_4 HB5_5) (inv_of Tryz.func81 (by kernel_rfl) rfl _ _) (recEnsure_walk _ _ _) ?_
       exact VRes.zero (by unfold ensO;rw [if_pos hv,if_neg (by rw [hf];simp),if_pos (by simpa using hfull)]) HG
     · refine wp_region_lit ?_
       refine sx_hv sv27 4 [(24,pk B2_2 64),(25,.slice ((some ⟨A,0,none⟩)) ks.length ks.length),(26,.int .i64 ((ks.length:Nat))),(27,.bool false)]
         ⟨yf r6 (fun _=>by kernel_rfl),yp (i:=2) r6 (tyKs (.slice ((some ⟨A,0,none⟩)) ks.length ks.length) rfl) HB2_2 rfl (by simp [bv_length,zero32_len,hsa.1,hpo.1]),ox_len (Tryz.underlying34) rfl rfl trivial (oy rfl rfl) (fun _=>rfl),ybc r6 (fun _=>rn_geq (decide_eq_false (by omega))),trivial⟩ fun a35 w35 g35 sv35=>?_
       refine tl_nil ?_
       refine k29 _ _ ?_
       refine cx_ifF sv35 rfl rfl ?_
       refine wp_skip ?_
       refine k28 _ _ ?_
       refine wp_seq_k fun K36 k36=>?_
       replace HB2_2:=rw_kn g35 HB2_2
       replace HB3_3:=rw_kn g35 HB3_3
       replace HB4_4:=rw_kn g35 HB4_4
       replace HB5_5:=rw_kn g35 HB5_5
       replace hr:=hr.kn g35
       replace ow:=ow.kn g35
       replace kr:=kr.kn g35
       replace HG:=grown_trans HG g35
       refine rx_tail (sv35.st w35) (by kernel_rfl) 7 [(29,Sp.is (dval o)),(30,Sp.is (pk B2_2 32)),(31,Sp.is (dval po)),(32,Sp.is (dval ((kd 275 po)))),(33,Sp.ct w35.heap.size T),(34,Sp.ck w35.heap.size o T),(8,Sp.new w35.heap.size (([bv zero32,[.slice none 0 0]].flatten)) 58)] rfl (by kernel_rfl) (by kernel_rfl) (by kernel_rfl) [] (by kernel_rfl)
         ⟨yl r6 (tyD o ho.1) HB3_3,yf r6 (fun _=>by kernel_rfl),yp (i:=1) r6 (tyD po hpo.1) HB2_2 rfl (by simp [bv_length,zero32_len,hsa.1,hpo.1]),ox_call (Sp.is (dval ((kd 275 po)))) [.int .u64 275,dval po,.slice none 0 0] rfl rfl trivial ⟨rfl,(oy rfl rfl),rfl,trivial⟩ (is_on fun W g=>keyed_c (n:=275) (by decide) rfl hpo W) (fun _ _ h=>h) (enter_of Tryz.func66 (by kernel_rfl) rfl),ox_call (Sp.ct w35.heap.size T) [dval ((kd 275 po))] rfl rfl trivial ⟨(oy rfl rfl),trivial⟩ (newt_on (kd_dg _ _) hT) (fun _ _ h=>h) (enter_of Tryz.func82 (by kernel_rfl) rfl),ox_buildY rfl rfl trivial rfl (fun W _ av h=>match av,h with | [u,t],⟨h1,h2,_⟩=>ck_of ho h1 h2),ox_alloc rfl trivial (Nat.le_refl _) (fun a w=>by kernel_rfl) (fun _ _ h=>h),trivial⟩ trivial
         [8] (by kernel_rfl) ⟨Sp.new_lt,trivial⟩ ⟨.inl rfl,.inl rfl,.inl rfl,.inl rfl,.inl rfl,.inl rfl,.inr ⟨rfl,(([bv zero32,[.slice none 0 0]].flatten)).toArray,58,fun a w=>by kernel_rfl⟩,trivial⟩ (by kernel_rfl) fun a37 w37 g37 st37 nd37=>?_
       obtain ⟨hn37,hd37,e37_29,e37_30,e37_31,e37_32,e37_33,e37_34,e37_8,e37_24,e37_25,e37_26,e37_27,e37_22,e37_7,e37_6,e37_10,e37_11,e37_12,e37_9,e37_5,e37_4,e37_3,e37_2,e37_0,e37_1,e37_15,-⟩:=st37
       obtain ⟨y,e37_34q,hyo,hyl,rt,frB⟩:=e37_34
       obtain ⟨B8_37,e37_8q,ge_B8_37,HB8_37⟩:=e37_8
       have ne_B8_37_B2_2:=nh_ne HB2_2 ge_B8_37
       have ne_B8_37_B3_3:=nh_ne HB3_3 ge_B8_37
       have ne_B8_37_B4_4:=nh_ne HB4_4 ge_B8_37
       have ne_B8_37_B5_5:=nh_ne HB5_5 ge_B8_37
       have lo_B8_37:=nh_lo HG ge_B8_37
       have ap_hr_B8_37:=nh_ap (hr.lt) ge_B8_37
       have ap_ow_B8_37:=nh_ap (Own.ltS ow) ge_B8_37
       have ap_kr_B8_37:=nh_ap (kr.lt) ge_B8_37
       have ap_rt_B2_2:=fr_ap frB HB2_2
       have ap_rt_B3_3:=fr_ap frB HB3_3
       have ap_rt_B4_4:=fr_ap frB HB4_4
       have ap_rt_B5_5:=fr_ap frB HB5_5
       have ap_rt_ow:∀ k,fpT (VK.s y) k→¬ fpS (.slice ((some ⟨A,0,none⟩)) ks.length ks.length) k:=fun k hk hzr=>absurd (Own.ltS ow k hzr) (Nat.not_lt.2 (frB k hk))
       have lo_rt:∀ k,fpT (VK.s y) k→w.heap.size≤k:=fun k hk=>Nat.le_trans HG.size (frB k hk)
       replace HB2_2:=rw_kn g37 HB2_2
       replace HB3_3:=rw_kn g37 HB3_3
       replace HB4_4:=rw_kn g37 HB4_4
       replace HB5_5:=rw_kn g37 HB5_5
       replace hr:=hr.kn g37
       replace ow:=ow.kn g37
       replace kr:=kr.kn g37
       replace HG:=grown_trans HG g37
       have ap_rt_B8_37:=rt.2.ap HB8_37 (by decide)
       have sv37:Sv 47 [{ target:=.fn (.func 81) #[pt B4_4,pt B5_5],args:=#[] }] [(24,_),(25,_),(26,_),(27,_),(22,_),(7,_),(6,_),(10,_),(11,_),(12,_),(9,_),(5,_),(4,_),(3,_),(2,_),(0,_),(1,_),(15,_),(34,_),(8,_)] a37:=⟨hn37,hd37,e37_24,e37_25,e37_26,e37_27,e37_22,e37_7,e37_6,e37_10,e37_11,e37_12,e37_9,e37_5,e37_4,e37_3,e37_2,e37_0,e37_1,e37_15,e37_34q,e37_8q,trivial⟩
       refine tl_sw sv37 r7 (tyK y) HB8_37 (by first | rfl | simp [kcells,bv_length,zero32_len,y.ho.1]) fun w38 g38 h38=>?_
       replace HB2_2:=rw_st g38 HB2_2 (Ne.symm ne_B8_37_B2_2)
       replace HB3_3:=rw_st g38 HB3_3 (Ne.symm ne_B8_37_B3_3)
       replace HB4_4:=rw_st g38 HB4_4 (Ne.symm ne_B8_37_B4_4)
       replace HB5_5:=rw_st g38 HB5_5 (Ne.symm ne_B8_37_B5_5)
       replace hr:=hr.offR g38 (no_b ap_hr_B8_37)
       replace ow:=ow.offR g38 (no_b ap_ow_B8_37)
       replace kr:=kr.offR g38 (no_b ap_kr_B8_37)
       replace rt:=rt.offR g38 (no_b ap_rt_B8_37)
       replace HG:=grown_newR HG g38 lo_B8_37
       replace HB8_37:=h38
       refine tl_nil ?_
       refine k36 _ _ ?_
       refine wp_seq_k fun K39 k39=>?_
       refine wp_region_lit ?_
       refine sx_head (sv37.st w38) 5 [(35,Sp.is (pk B2_2 64)),(36,Sp.is (.slice ((some ⟨A,0,none⟩)) ks.length ks.length)),(37,Sp.is (.int .i64 ((i:Int)))),(38,Sp.is (kval y)),(39,Sp.lit1 w38.heap.size 58 (kcells y))] rfl (by kernel_rfl) (by kernel_rfl) (by kernel_rfl)
         ⟨yf r6 (fun _=>by kernel_rfl),yp (i:=2) r6 (tyKs (.slice ((some ⟨A,0,none⟩)) ks.length ks.length) rfl) HB2_2 rfl (by simp [bv_length,zero32_len,hsa.1,hpo.1]),ym r5,yl r6 (tyK y) HB8_37,ox_lit1 rfl rfl trivial (Nat.le_refl _) rfl (fun W hw v h=>match v,h with | _,⟨rfl,_⟩=>⟨kcells y,bS1k y W,fun w' _ hh=>⟨_,rfl,hw.size,hh⟩⟩),trivial⟩ fun a40 w40 g40 st40=>?_
       obtain ⟨hn40,hd40,e40_35,e40_36,e40_37,e40_38,e40_39,e40_24,e40_25,e40_26,e40_27,e40_22,e40_7,e40_6,e40_10,e40_11,e40_12,e40_9,e40_5,e40_4,e40_3,e40_2,e40_0,e40_1,e40_15,e40_34,e40_8,-⟩:=st40
       obtain ⟨V,e40_39q,geV,HV⟩:=e40_39
       have ne_V_B2_2:V≠B2_2:=Nat.ne_of_gt (Nat.lt_of_lt_of_le (Array.getElem?_eq_some_iff.1 HB2_2).1 geV)
       have ne_V_B3_3:V≠B3_3:=Nat.ne_of_gt (Nat.lt_of_lt_of_le (Array.getElem?_eq_some_iff.1 HB3_3).1 geV)
       have ne_V_B4_4:V≠B4_4:=Nat.ne_of_gt (Nat.lt_of_lt_of_le (Array.getElem?_eq_some_iff.1 HB4_4).1 geV)
       have ne_V_B5_5:V≠B5_5:=Nat.ne_of_gt (Nat.lt_of_lt_of_le (Array.getElem?_eq_some_iff.1 HB5_5).1 geV)
       have ne_V_B8_37:V≠B8_37:=Nat.ne_of_gt (Nat.lt_of_lt_of_le (Array.getElem?_eq_some_iff.1 HB8_37).1 geV)
       have lo_V:w.heap.size≤V:=Nat.le_trans HG.size geV
       have ap_hr_V:=nh_ap (hr.lt) geV
       have ap_ow_V:=nh_ap (Own.ltS ow) geV
       have ap_kr_V:=nh_ap (kr.lt) geV
       have ap_rt_V:=nh_ap (rt.lt) geV
       replace HB2_2:=rw_kn g40 HB2_2
       replace HB3_3:=rw_kn g40 HB3_3
       replace HB4_4:=rw_kn g40 HB4_4
       replace HB5_5:=rw_kn g40 HB5_5
       replace HB8_37:=rw_kn g40 HB8_37
       replace hr:=hr.kn g40
       replace ow:=ow.kn g40
       replace kr:=kr.kn g40
       replace rt:=rt.kn g40
       replace HG:=grown_trans HG g40
       have sv40:Sv 47 [{ target:=.fn (.func 81) #[pt B4_4,pt B5_5],args:=#[] }] [(24,_),(25,_),(26,_),(27,_),(22,_),(7,_),(6,_),(10,_),(11,_),(12,_),(9,_),(5,_),(4,_),(3,_),(2,_),(0,_),(1,_),(15,_),(34,_),(8,_),(36,_),(37,_),(39,_)] a40:=⟨hn40,hd40,e40_24,e40_25,e40_26,e40_27,e40_22,e40_7,e40_6,e40_10,e40_11,e40_12,e40_9,e40_5,e40_4,e40_3,e40_2,e40_0,e40_1,e40_15,e40_34,e40_8,e40_36,e40_37,e40_39q,trivial⟩
       refine sx_head (sv40.st w40) 2 [(40,Sp.insr w40.heap.size (ks.length+1) (ms.take i ++ y :: ms.drop i)),(41,Sp.is (pk B2_2 64))] rfl (by kernel_rfl) (by kernel_rfl) (by kernel_rfl)
         ⟨ox_call (Sp.insr w40.heap.size (ks.length+1) (ms.take i ++ y :: ms.drop i)) [.slice ((some ⟨A,0,none⟩)) ks.length ks.length,.int .i64 ((i:Int)),.slice ((some ⟨V,0,none⟩)) 1 1] rfl rfl trivial ⟨(oy rfl rfl),(oy rfl rfl),(oy rfl rfl),trivial⟩ (ins_on hml ow HV hin h64) (fun _ _ h=>h) (enter_of Tryz.func83 (by kernel_rfl) rfl),yf r6 (fun _=>by kernel_rfl),trivial⟩ fun a41 w41 g41 st41=>?_
       obtain ⟨hn41,hd41,e41_40,e41_41,e41_24,e41_25,e41_26,e41_27,e41_22,e41_7,e41_6,e41_10,e41_11,e41_12,e41_9,e41_5,e41_4,e41_3,e41_2,e41_0,e41_1,e41_15,e41_34,e41_8,e41_36,e41_37,e41_39,-⟩:=st41
       obtain ⟨ai,ci,e41_40q,oi,fri⟩:=e41_40
       have ap_oi_B2_2:=fr_ap fri HB2_2
       have ap_oi_B3_3:=fr_ap fri HB3_3
       have ap_oi_B4_4:=fr_ap fri HB4_4
       have ap_oi_B5_5:=fr_ap fri HB5_5
       have ap_oi_B8_37:=fr_ap fri HB8_37
       have ap_oi_V:=fr_ap fri HV
       have ap_hr_oi:∀ k,fpK (.slice ao ks.length cap) ks k→¬ fpS (.slice ai (ks.length+1) ci) k:=fun k hzr hk=>absurd (hr.lt k hzr) (Nat.not_lt.2 (fri k hk))
       have ap_oi_ow:∀ k,fpS (.slice ai (ks.length+1) ci) k→¬ fpS (.slice ((some ⟨A,0,none⟩)) ks.length ks.length) k:=fun k hk hzr=>absurd (Own.ltS ow k hzr) (Nat.not_lt.2 (fri k hk))
       have ap_ow_oi:∀ k,fpS (.slice ((some ⟨A,0,none⟩)) ks.length ks.length) k→¬ fpS (.slice ai (ks.length+1) ci) k:=fun k hzr hk=>absurd (Own.ltS ow k hzr) (Nat.not_lt.2 (fri k hk))
       have ap_kr_oi:∀ k,fpKs ms k→¬ fpS (.slice ai (ks.length+1) ci) k:=fun k hzr hk=>absurd (kr.lt k hzr) (Nat.not_lt.2 (fri k hk))
       have ap_rt_oi:∀ k,fpT (VK.s y) k→¬ fpS (.slice ai (ks.length+1) ci) k:=fun k hzr hk=>absurd (rt.lt k hzr) (Nat.not_lt.2 (fri k hk))
       have lo_oi:∀ k,fpS (.slice ai (ks.length+1) ci) k→w.heap.size≤k:=fun k hk=>Nat.le_trans HG.size (fri k hk)
       replace HB2_2:=rw_kn g41 HB2_2
       replace HB3_3:=rw_kn g41 HB3_3
       replace HB4_4:=rw_kn g41 HB4_4
       replace HB5_5:=rw_kn g41 HB5_5
       replace HB8_37:=rw_kn g41 HB8_37
       replace HV:=rw_kn g41 HV
       replace hr:=hr.kn g41
       replace ow:=ow.kn g41
       replace kr:=kr.kn g41
       replace rt:=rt.kn g41
       replace HG:=grown_trans HG g41
       have sv41:Sv 47 [{ target:=.fn (.func 81) #[pt B4_4,pt B5_5],args:=#[] }] [(24,_),(25,_),(26,_),(27,_),(22,_),(7,_),(6,_),(10,_),(11,_),(12,_),(9,_),(5,_),(4,_),(3,_),(2,_),(0,_),(1,_),(15,_),(34,_),(8,_),(36,_),(37,_),(39,_),(40,_),(41,_)] a41:=⟨hn41,hd41,e41_24,e41_25,e41_26,e41_27,e41_22,e41_7,e41_6,e41_10,e41_11,e41_12,e41_9,e41_5,e41_4,e41_3,e41_2,e41_0,e41_1,e41_15,e41_34,e41_8,e41_36,e41_37,e41_39,e41_40q,e41_41,trivial⟩
       refine tl_sp (L:=[bv sa,bv po,[.slice ((some ⟨A,0,none⟩)) ks.length ks.length]]) (i:=2) sv41 r7 (tyKs (.slice ai (ks.length+1) ci) rfl) HB2_2 rfl (by simp [bv_length,zero32_len,hsa.1,hpo.1]) rfl fun w42 g42 h42=>?_
       replace HB3_3:=rw_st g42 HB3_3 ne_B3_3_B2_2
       replace HB4_4:=rw_st g42 HB4_4 ne_B4_4_B2_2
       replace HB5_5:=rw_st g42 HB5_5 ne_B5_5_B2_2
       replace HB8_37:=rw_st g42 HB8_37 ne_B8_37_B2_2
       replace HV:=rw_st g42 HV ne_V_B2_2
       replace hr:=hr.offR g42 (no_b ap_hr_B2_2)
       replace ow:=ow.offR g42 (no_b ap_ow_B2_2)
       replace kr:=kr.offR g42 (no_b ap_kr_B2_2)
       replace rt:=rt.offR g42 (no_b ap_rt_B2_2)
       replace oi:=oi.offR g42 (no_b ap_oi_B2_2)
       replace HG:=grown_newR HG g42 lo_B2_2
       replace HB2_2:=h42
       have sv43:Sv 47 [{ target:=.fn (.func 81) #[pt B4_4,pt B5_5],args:=#[] }] [(24,_),(25,_),(26,_),(27,_),(22,_),(7,_),(10,_),(11,_),(12,_),(9,_),(5,_),(4,_),(3,_),(2,_),(0,_),(1,_),(15,_),(34,_),(8,_)] a41:=sv41.dl [6,36,37,39,40,41]
       refine tl_nil ?_
       refine k39 _ _ ?_
       refine wp_seq_k fun K44 k44=>?_
       refine wp_region_lit ?_
       refine sx_hv sv43 4 [(42,pk B2_2 32),(43,dval po),(44,dval ((kd 276 po))),(45,pk B2_2 32)]
         ⟨yf r6 (fun _=>by kernel_rfl),yp (i:=1) r6 (tyD po hpo.1) HB2_2 rfl (by simp [bv_length,zero32_len,hsa.1,hpo.1]),ox_call (Sp.is (dval ((kd 276 po)))) [.int .u64 276,dval po,.slice none 0 0] rfl rfl trivial ⟨rfl,(oy rfl rfl),rfl,trivial⟩ (is_on fun W g=>keyed_c (n:=276) (by decide) rfl hpo W) (fun _ _ h=>h) (enter_of Tryz.func66 (by kernel_rfl) rfl),yf r6 (fun _=>by kernel_rfl),trivial⟩ fun a45 w45 g45 sv45=>?_
       refine tl_sp (L:=[bv sa,bv po,[.slice ai (ks.length+1) ci]]) (i:=1) sv45 r7 (tyD ((kd 276 po)) (kd_dg _ _).1) (rw_kn g45 HB2_2) rfl (by simp [bv_length,zero32_len,hsa.1,hpo.1]) (lenDD hpo (kd_dg _ _)) fun w46 g46 h46=>?_
       replace HB3_3:=rw_s2 g45 g46 HB3_3 ne_B3_3_B2_2
       replace HB4_4:=rw_s2 g45 g46 HB4_4 ne_B4_4_B2_2
       replace HB5_5:=rw_s2 g45 g46 HB5_5 ne_B5_5_B2_2
       replace HB8_37:=rw_s2 g45 g46 HB8_37 ne_B8_37_B2_2
       replace HV:=rw_s2 g45 g46 HV ne_V_B2_2
       replace hr:=(hr.kn g45).offR g46 (no_b ap_hr_B2_2)
       replace ow:=(ow.kn g45).offR g46 (no_b ap_ow_B2_2)
       replace kr:=(kr.kn g45).offR g46 (no_b ap_kr_B2_2)
       replace rt:=(rt.kn g45).offR g46 (no_b ap_rt_B2_2)
       replace oi:=(oi.kn g45).offR g46 (no_b ap_oi_B2_2)
       replace HG:=grown_newR (grown_trans HG g45) g46 lo_B2_2
       replace HB2_2:=h46
       have sv47:Sv 47 [{ target:=.fn (.func 81) #[pt B4_4,pt B5_5],args:=#[] }] [(24,_),(25,_),(26,_),(27,_),(22,_),(7,_),(10,_),(11,_),(12,_),(9,_),(5,_),(4,_),(3,_),(2,_),(0,_),(1,_),(15,_),(34,_),(8,_)] a45:=sv45.dl [42,43,44,45]
       refine tl_nil ?_
       refine k44 _ _ ?_
       refine wp_seq_k fun K48 k48=>?_
       refine wp_region_lit ?_
       refine sx_hv sv47 1 [(46,vval sa ((kd 276 po)) (.slice ai (ks.length+1) ci))]
         ⟨yl r6 (tyVa hsa (kd_dg _ _) (.slice ai (ks.length+1) ci) rfl) HB2_2,trivial⟩ fun a49 w49 g49 sv49=>?_
       refine tl_sw sv49 r7 (tyVa hsa (kd_dg _ _) (.slice ai (ks.length+1) ci) rfl) (rw_kn g49 HB4_4) (by first | rfl | simp [kcells,bv_length,zero32_len,hsa.1,(kd_dg _ _).1]) fun w50 g50 h50=>?_
       replace HB2_2:=rw_s2 g49 g50 HB2_2 (Ne.symm ne_B4_4_B2_2)
       replace HB3_3:=rw_s2 g49 g50 HB3_3 (Ne.symm ne_B4_4_B3_3)
       replace HB5_5:=rw_s2 g49 g50 HB5_5 ne_B5_5_B4_4
       replace HB8_37:=rw_s2 g49 g50 HB8_37 ne_B8_37_B4_4
       replace HV:=rw_s2 g49 g50 HV ne_V_B4_4
       replace hr:=(hr.kn g49).offR g50 (no_b ap_hr_B4_4)
       replace ow:=(ow.kn g49).offR g50 (no_b ap_ow_B4_4)
       replace kr:=(kr.kn g49).offR g50 (no_b ap_kr_B4_4)
       replace rt:=(rt.kn g49).offR g50 (no_b ap_rt_B4_4)
       replace oi:=(oi.kn g49).offR g50 (no_b ap_oi_B4_4)
       replace HG:=grown_newR (grown_trans HG g49) g50 lo_B4_4
       replace HB4_4:=h50
       refine tl_sw sv49 r7 (tyE 0) HB5_5 rfl fun w51 g51 h51=>?_
       replace HB2_2:=rw_st g51 HB2_2 (Ne.symm ne_B5_5_B2_2)
       replace HB3_3:=rw_st g51 HB3_3 (Ne.symm ne_B5_5_B3_3)
       replace HB4_4:=rw_st g51 HB4_4 (Ne.symm ne_B5_5_B4_4)
       replace HB8_37:=rw_st g51 HB8_37 ne_B8_37_B5_5
       replace HV:=rw_st g51 HV ne_V_B5_5
       replace hr:=hr.offR g51 (no_b ap_hr_B5_5)
       replace ow:=ow.offR g51 (no_b ap_ow_B5_5)
       replace kr:=kr.offR g51 (no_b ap_kr_B5_5)
       replace rt:=rt.offR g51 (no_b ap_rt_B5_5)
       replace oi:=oi.offR g51 (no_b ap_oi_B5_5)
       replace HG:=grown_newR HG g51 lo_B5_5
       replace HB5_5:=h51
       refine tl_nil ?_
       refine k48 _ _ ?_
       refine wp_ret ?_
       repeat refine then_ret ?_
       refine cx_retD (fn:=Tryz.f36) sv49 (res_cell2 (p:=4) (q:=5) Tryz.results36 sv49 rfl rfl rfl rfl (tyVa hsa (kd_dg _ _) (.slice ai (ks.length+1) ci) rfl) (tyE 0) HB4_4 HB5_5) (inv_of Tryz.func81 (by kernel_rfl) rfl _ _) (recEnsure_walk _ _ _) ?_
       exact VRes.mk (P:=insV (ks.map VK.p) o T) (by unfold ensO;rw [if_pos hv,if_neg (by rw [hf];simp),if_neg (by simpa using hfull)]) (map_ins hmp hi hyo hyl) oi (KsT.ins kr rt i) HG
   · refine wp_region_lit ?_
     refine sx_hv sv18 6 [(17,vval sa po (.slice ((some ⟨A,0,none⟩)) ks.length ks.length)),(18,dval o),(19,.tuple #[.int .i64 ((i:Int)),.bool true]),(16,.tuple #[.int .i64 ((i:Int)),.bool true]),(20,.int .i64 ((i:Int))),(21,.bool true)]
       ⟨yl r6 (tyVa hsa hpo (.slice ((some ⟨A,0,none⟩)) ks.length ks.length) rfl) HB2_2,yl r6 (tyD o ho.1) HB3_3,ox_call (Sp.is (.tuple #[.int .i64 ((i:Int)),.bool true])) [vval sa po (.slice ((some ⟨A,0,none⟩)) ks.length ks.length),dval o] rfl rfl trivial ⟨(oy rfl rfl),(oy rfl rfl),trivial⟩ (is_on fun W g=>find_own hsa hpo ho hmp (ow.kn g) (kr.1.kn g) hv hf hi) (fun _ _ h=>h) (enter_of Tryz.func71 (by kernel_rfl) rfl),ym r5,ox_extract rfl rfl rfl trivial (fun _ _ h=>⟨_,_,h,rfl,rfl⟩),ox_extract rfl rfl rfl trivial (fun _ _ h=>⟨_,_,h,rfl,rfl⟩),trivial⟩ fun a52 w52 g52 sv52=>?_
     refine tl_as (v:=.int .i64 ((i:Int))) sv52 r6 fun a53 sv53=>?_
     refine tl_as (v:=.bool true) sv53 r6 fun a54 sv54=>?_
     have sv55:Sv 47 [{ target:=.fn (.func 81) #[pt B4_4,pt B5_5],args:=#[] }] [(7,_),(6,_),(10,_),(11,_),(12,_),(9,_),(5,_),(4,_),(3,_),(2,_),(0,_),(1,_),(15,_)] a54:=sv54.dl [17,18,19,16,20,21]
     refine tl_nil ?_
     refine k20 _ _ ?_
     refine wp_seq_k fun K56 k56=>?_
     refine wp_seq_k fun K57 k57=>?_
     refine wp_region_lit ?_
     refine sx_hv sv55 1 [(22,.bool true)]
       ⟨ym r5,trivial⟩ fun a58 w58 g58 sv58=>?_
     have gc58:=grown_trans g52 g58
     refine tl_nil ?_
     refine k57 _ _ ?_
     refine cx_ifT sv58 rfl rfl ?_
     refine wp_seq_k fun K59 k59=>?_
     refine wp_region_lit ?_
     refine sx_hv sv58 1 [(23,vval sa po (.slice ((some ⟨A,0,none⟩)) ks.length ks.length))]
       ⟨yl r6 (tyVa hsa hpo (.slice ((some ⟨A,0,none⟩)) ks.length ks.length) rfl) (rw_kn gc58 HB2_2),trivial⟩ fun a60 w60 g60 sv60=>?_
     have gc60:=grown_trans gc58 g60
     refine tl_sw sv60 r7 (tyVa hsa hpo (.slice ((some ⟨A,0,none⟩)) ks.length ks.length) rfl) (rw_kn gc60 HB4_4) (by first | rfl | simp [kcells,bv_length,zero32_len,hsa.1,hpo.1]) fun w61 g61 h61=>?_
     replace HB2_2:=rw_s2 gc60 g61 HB2_2 (Ne.symm ne_B4_4_B2_2)
     replace HB3_3:=rw_s2 gc60 g61 HB3_3 (Ne.symm ne_B4_4_B3_3)
     replace HB5_5:=rw_s2 gc60 g61 HB5_5 ne_B5_5_B4_4
     replace hr:=(hr.kn gc60).offR g61 (no_b ap_hr_B4_4)
     replace ow:=(ow.kn gc60).offR g61 (no_b ap_ow_B4_4)
     replace kr:=(kr.kn gc60).offR g61 (no_b ap_kr_B4_4)
     replace HG:=grown_newR (grown_trans HG gc60) g61 lo_B4_4
     replace HB4_4:=h61
     refine tl_sw sv60 r7 (tyE 0) HB5_5 rfl fun w62 g62 h62=>?_
     replace HB2_2:=rw_st g62 HB2_2 (Ne.symm ne_B5_5_B2_2)
     replace HB3_3:=rw_st g62 HB3_3 (Ne.symm ne_B5_5_B3_3)
     replace HB4_4:=rw_st g62 HB4_4 (Ne.symm ne_B5_5_B4_4)
     replace hr:=hr.offR g62 (no_b ap_hr_B5_5)
     replace ow:=ow.offR g62 (no_b ap_ow_B5_5)
     replace kr:=kr.offR g62 (no_b ap_kr_B5_5)
     replace HG:=grown_newR HG g62 lo_B5_5
     replace HB5_5:=h62
     refine tl_nil ?_
     refine k59 _ _ ?_
     refine wp_ret ?_
     repeat refine then_ret ?_
     refine cx_retD (fn:=Tryz.f36) sv60 (res_cell2 (p:=4) (q:=5) Tryz.results36 sv60 rfl rfl rfl rfl (tyVa hsa hpo (.slice ((some ⟨A,0,none⟩)) ks.length ks.length) rfl) (tyE 0) HB4_4 HB5_5) (inv_of Tryz.func81 (by kernel_rfl) rfl _ _) (recEnsure_walk _ _ _) ?_
     exact VRes.mk (P:=ks.map VK.p) (by unfold ensO;rw [if_pos hv,if_pos hf]) hmp ow kr HG
end Go.Proofs.YtbfjfnbcmojpiaaGreat

namespace Go.Proofs.YtbfjfnbcmojpiaaGreat
open Go.RowKit Go.Shelf
set_option linter.unusedSimpArgs false
set_option linter.unusedVariables false
theorem map_set {ms:List VK} {P:List VP} {o:List Nat} {T:List Nd} {z el:VK} {i:Nat} (h:ms.map VK.p=P) (hf:fnd P o=true) (hi:pos P o=i) (him:i < ms.length) (hz:ms[i]=z) (ho:el.o=z.o) (hl:el.l=T):(ms.set i el).map VK.p=setV P o T:=by
 rw [setV_set T hf,List.map_set,h,hi]
 have h1:=(fnd_at hf).2
 rw [hi,← h,od_map him,hz] at h1
 unfold VK.p
 rw [ho,hl,h1]
theorem KsT.del {w:World} {ms:List VK} (h:KsT w ms) (i:Nat):KsT w (ms.take i ++ ms.drop (i+1)):=by
 have hh:∀ k,k ∈ ms.take i ++ ms.drop (i+1)→k ∈ ms:=fun k hk=>by
   rcases List.mem_append.1 hk with hk | hk
   · exact List.mem_of_mem_take hk
   · exact List.mem_of_mem_drop hk
 exact ⟨fun k hk=>h.1 k (hh k hk),fun b ⟨k,hk,hb⟩=>h.2 b ⟨k,hh k hk,hb⟩⟩
theorem KsR.del {w:World} {ms:List VK} (h:KsR w ms) (i:Nat):KsR w (ms.take i ++ ms.drop (i+1)):=fun k hk=>by
 rcases List.mem_append.1 hk with hk | hk
 · exact h k (List.mem_of_mem_take hk)
 · exact h k (List.mem_of_mem_drop hk)
end Go.Proofs.YtbfjfnbcmojpiaaGreat
