import Derived.Test.YtbfjfnbcmojpiaaGreatSH
namespace Go.Proofs.YtbfjfnbcmojpiaaGreat
open Go.RowKit Go.Shelf
set_option linter.unusedSimpArgs false
set_option linter.unusedVariables false
theorem tcells_all (l:List Nd):(tcells l).all Value.oneCell'=true:=tcells_one' l
theorem key_at {w:World} {ao:Option Addr} {n cap j:Nat} {ks:List VK} {x:VK} (h:Sl w 33 (.slice ao n cap) n (ks.flatMap kcells)) (hj:j < ks.length) (hx:ks[j]=x):w.rangeAt (bO ao) (oO ao+j * 33) (kcells x):=hx▸el_range h kcells_len hj (by decide)
theorem key_owner {w:World} {ao:Option Addr} {n cap j:Nat} {ks:List VK} {x:VK} (h:Sl w 33 (.slice ao n cap) n (ks.flatMap kcells)) (hj:j < ks.length) (hx:ks[j]=x):w.rangeAt (bO ao) (oO ao+j * 33) (bv x.o):=
 mid_range (o:=oO ao+j * 33) (k:=0) (A:=[]) (B:=bv x.o) (C:=[x.s]) (key_at h hj hx) rfl
set_option maxRecDepth 100000 in
set_option maxHeartbeats 4000000 in
theorem clone_nil  (w:World) :
   Calls Tryz.prog 114 #[.slice none 0 0] w fun e w'=>e=.returned (.slice none 0 0)∧w.grownBy w' none:=by
 refine cx_enter Tryz.func114 rfl Tryz.ntmps114 rfl fun a0 sv0=>?_
 have HG:=World.grownBy.refl w none
 replace sv0:Sv 8 [] [(0,.slice none 0 0)] a0:=sv0
 refine wp_seq_k fun K1 k1=>?_
 refine wp_region_lit ?_
 refine tl_as (v:=.slice none 0 0) sv0 r6 fun a2 sv2=>?_
 refine tl_nil ?_
 refine k1 _ _ ?_
 refine wp_seq_k fun K3 k3=>?_
 refine wp_seq_k fun K4 k4=>?_
 refine wp_region_lit ?_
 refine sx_hv sv2 2 [(3,.slice none 0 0),(4,.bool true)]
   ⟨ym r5,ybc r6 (fun _=>rn_nil Tryz.underlying54 rfl),trivial⟩ fun a5 w5 g5 sv5=>?_
 refine tl_nil ?_
 refine k4 _ _ ?_
 refine cx_ifT sv5 rfl rfl ?_
 refine wp_seq_k fun K6 k6=>?_
 refine wp_region_lit ?_
 refine tl_as (v:=.slice none 0 0) sv5 r6 fun a7 sv7=>?_
 refine tl_nil ?_
 refine k6 _ _ ?_
 replace HG:=grown_trans HG g5
 refine wp_ret ?_
 repeat refine then_ret ?_
 refine cx_ret (fn:=Tryz.f114) sv7 (res_tmp (p:=2) Tryz.results114 sv7 rfl rfl) ?_
 exact ⟨rfl,HG⟩
set_option maxRecDepth 100000 in
set_option maxHeartbeats 4000000 in
theorem clone_some (l:List Nd) (ad:Addr) (cap:Nat) (w:World) (h:RdT w (.slice ((some ad)) l.length cap) l) :
   Calls Tryz.prog 114 #[.slice ((some ad)) l.length cap] w fun e w'=>∃ ao cap,e=.returned (.slice ao l.length cap)∧RdTg w' (.slice ao l.length cap) l∧(∀ k,fpT (.slice ao l.length cap) k→w.heap.size≤k)∧w.grownBy w' none:=by
 refine cx_enter Tryz.func114 rfl Tryz.ntmps114 rfl fun a0 sv0=>?_
 have HG:=World.grownBy.refl w none
 replace sv0:Sv 8 [] [(0,.slice ((some ad)) l.length cap)] a0:=sv0
 refine wp_seq_k fun K1 k1=>?_
 refine wp_region_lit ?_
 refine tl_as (v:=.slice none 0 0) sv0 r6 fun a2 sv2=>?_
 refine tl_nil ?_
 refine k1 _ _ ?_
 refine wp_seq_k fun K3 k3=>?_
 refine wp_seq_k fun K4 k4=>?_
 refine wp_region_lit ?_
 refine sx_hv sv2 2 [(3,.slice ((some ad)) l.length cap),(4,.bool false)]
   ⟨ym r5,ybc r6 (fun _=>rn_nil Tryz.underlying54 rfl),trivial⟩ fun a5 w5 g5 sv5=>?_
 refine tl_nil ?_
 refine k4 _ _ ?_
 refine cx_ifF sv5 rfl rfl ?_
 refine wp_skip ?_
 refine k3 _ _ ?_
 refine wp_seq_k fun K6 k6=>?_
 refine wp_region_lit ?_
 replace h:=h.kn g5
 replace HG:=grown_trans HG g5
 refine sx_head (sv5.st w5) 3 [(5,Sp.lit0 w5.heap.size 132),(6,Sp.is (.slice ((some ad)) l.length cap)),(7,Sp.row w5.heap.size 132 34 l.length (tcells l))] rfl (by kernel_rfl) (by kernel_rfl) (by kernel_rfl)
   ⟨ox_lit0 (t:=0) rfl trivial (Nat.le_refl _) (fun a w=>by kernel_rfl) (fun _ _ h=>h),ym r5,ox_app0 (news:=tcells l) nodesT rfl rfl trivial rfl (fun _ _ h=>h) (oy rfl rfl) (fun _ g=>(h.kn g).1) (tcells_all l) h.2.2.2 (Nat.le_refl _) (fun _ _ h=>h),trivial⟩ fun a7 w7 g7 st7=>?_
 obtain ⟨hn7,hd7,e7_5,e7_6,e7_7,e7_3,e7_4,e7_2,e7_0,-⟩:=st7
 obtain ⟨ao8,cap8,e7_7q,ow8,fr8⟩:=e7_7
 have ap_h_ow8:∀ k,fpT (.slice ((some ad)) l.length cap) k→¬ fpS (.slice ao8 l.length cap8) k:=fun k hzr hk=>absurd (h.lt k hzr) (Nat.not_lt.2 (fr8 k hk))
 have lo_ow8:∀ k,fpS (.slice ao8 l.length cap8) k→w.heap.size≤k:=fun k hk=>Nat.le_trans HG.size (fr8 k hk)
 replace h:=h.kn g7
 replace HG:=grown_trans HG g7
 have sv7:Sv 8 [] [(3,_),(4,_),(2,_),(0,_),(7,_)] a7:=⟨hn7,hd7,e7_3,e7_4,e7_2,e7_0,e7_7q,trivial⟩
 refine tl_as (v:=.slice ao8 l.length cap8) sv7 r6 fun a9 sv9=>?_
 refine tl_nil ?_
 refine k6 _ _ ?_
 refine wp_ret ?_
 repeat refine then_ret ?_
 refine cx_ret (fn:=Tryz.f114) sv9 (res_tmp (p:=2) Tryz.results114 sv9 rfl rfl) ?_
 exact ⟨_,_,rfl,⟨⟨Sl.of_own ow8,h.2.1,fun k hk=>Own.lt ow8 k hk.1,h.2.2.2⟩,Tag.of ow8⟩,fun k hk=>lo_ow8 k hk.1,HG⟩
theorem clone_walk {l:List Nd} {s:Value} {w:World} (h:RdT w s l):Calls Tryz.prog 114 #[s] w fun e w'=>∃ ao cap,e=.returned (.slice ao l.length cap)∧RdTg w' (.slice ao l.length cap) l∧(∀ k,fpT (.slice ao l.length cap) k→w.heap.size≤k)∧w.grownBy w' none:=by
 obtain ⟨ao,cap,rfl⟩:=h.shape
 cases ao with
 | some ad=>exact clone_some l ad cap w h
 | none =>
   have h0:l.length=0∧cap=0:=by
     obtain ⟨⟨_,ao',cap',e,h1,_,h3,_⟩,_⟩:=h
     simp only [Value.slice.injEq,true_and] at e
     obtain ⟨rfl,rfl⟩:=e
     have:=h3 rfl
     omega
   obtain ⟨h1,rfl⟩:=h0
   obtain rfl:l=[]:=List.eq_nil_of_length_eq_zero h1
   exact (clone_nil w).mono fun e w' ⟨h1,h2⟩=>⟨none,0,h1,⟨h.kn h2,fun k hk=>(fpT_nil k hk).elim⟩,fun k hk=>(fpT_nil k hk).elim,h2⟩
theorem clone_on {w0:World} {l:List Nd} {s:Value} (h:RdT w0 s l):∀ W,w0.grownBy W none→Calls Tryz.prog 114 #[s] W fun e W'=>∃ v,e=.returned v∧W.grownBy W' none∧(Sp.cl w0.heap.size l).on W' v:=fun W g =>
 (clone_walk (h.kn g)).mono fun e W' ⟨ao,cap,h1,h2,h3,h4⟩=>⟨_,h1,h4,ao,cap,rfl,h2,fun k hk=>Nat.le_trans g.size (h3 k hk)⟩
set_option maxRecDepth 100000 in
set_option maxHeartbeats 4000000 in
theorem cloned_walk (ks:List VK) (ao:Option Addr) (cap:Nat) (sa po:List Nat) (hsa:Dg sa) (hpo:Dg po) (w:World) (hr:RdK w (.slice ao ks.length cap) ks) (h64:ks.length≤64) :
   Calls Tryz.prog 72 #[vval sa po (.slice ao ks.length cap)] w fun e w'=>∃ A ms,e=.returned (vval sa po (.slice (some ⟨A,0,none⟩) ks.length ks.length))∧ms.map VK.p=ks.map VK.p∧Own w' 58 33 (.slice (some ⟨A,0,none⟩) ks.length ks.length) ks.length (ms.flatMap kcells)∧KsT w' ms∧w.heap.size≤A∧(∀ k,fpKs ms k→w.heap.size≤k∧k≠A)∧w.grownBy w' none:=by
 refine cx_enter Tryz.func72 rfl Tryz.ntmps72 rfl fun a0 sv0=>?_
 have HG:=World.grownBy.refl w none
 replace sv0:Sv 33 [] [(0,vval sa po (.slice ao ks.length cap))] a0:=sv0
 refine wp_seq_k fun K1 k1=>?_
 refine wp_region_lit ?_
 refine tl_box sv0 rfl rfl rfl rfl rfl rfl (tyVa hsa hpo (.slice ao ks.length cap) rfl) fun a2 w2 B1_2 eq_B1_2 g2 z2 HB1_2 sv2=>?_
 have lo_B1_2:=nb_lo HG eq_B1_2
 have ap_hr_B1_2:=nb_ap (hr.lt) eq_B1_2
 replace hr:=hr.kn g2
 replace HG:=grown_trans HG g2
 refine tl_alloc (T:=36) (Z:=([bv zero32,bv zero32,[.slice none 0 0]].flatten)) sv2 rfl rfl rfl (fun a w=>by kernel_rfl) fun a3 w3 B2_3 eq_B2_3 g3 z3 HB2_3 sv3=>?_
 have ne_B2_3_B1_2:=nb_ne HB1_2 eq_B2_3
 have lo_B2_3:=nb_lo HG eq_B2_3
 have ap_hr_B2_3:=nb_ap (hr.lt) eq_B2_3
 replace HB1_2:=rw_kn g3 HB1_2
 replace hr:=hr.kn g3
 replace HG:=grown_trans HG g3
 refine tl_nil ?_
 refine k1 _ _ ?_
 refine wp_seq_k fun K4 k4=>?_
 refine wp_region_lit ?_
 refine sx_head (sv3.st w3) 4 [(6,Sp.is (pk B1_2 64)),(7,Sp.is (.slice ao ks.length cap)),(8,Sp.is (.int .i64 ((ks.length:Nat)))),(9,Sp.made w3.heap.size 58 33 ks.length ((List.replicate ks.length zkey).flatMap kcells))] rfl (by kernel_rfl) (by kernel_rfl) (by kernel_rfl)
   ⟨yf r6 (fun _=>by kernel_rfl),yp (i:=2) r6 (tyKs (.slice ao ks.length cap) rfl) HB1_2 rfl (by simp [bv_length,zero32_len,hsa.1,hpo.1]),ox_len (Tryz.underlying34) rfl rfl trivial (oy rfl rfl) (fun _=>rfl),ox_make (m:=ks.length) (xs:=(List.replicate ks.length zkey).flatMap kcells) keysT rfl rfl trivial (Nat.le_refl _) (oy rfl rfl) (by omega) (zkeys _).symm (fun _ _ h=>h),trivial⟩ fun a5 w5 g5 st5=>?_
 obtain ⟨hn5,hd5,e5_6,e5_7,e5_8,e5_9,e5_2,e5_1,e5_0,-⟩:=st5
 obtain ⟨A,e5_9q,ow,geA⟩:=e5_9
 have frA:∀ k,fpS (.slice ((some ⟨A,0,none⟩)) ks.length ks.length) k→w3.heap.size≤k:=fun k hk=>(Option.some.inj hk)▸geA
 have ap_ow_B1_2:=fr_ap frA HB1_2
 have ap_ow_B2_3:=fr_ap frA HB2_3
 have ap_hr_ow:∀ k,fpK (.slice ao ks.length cap) ks k→¬ fpS (.slice ((some ⟨A,0,none⟩)) ks.length ks.length) k:=fun k hzr hk=>absurd (hr.lt k hzr) (Nat.not_lt.2 (frA k hk))
 have lo_ow:∀ k,fpS (.slice ((some ⟨A,0,none⟩)) ks.length ks.length) k→w.heap.size≤k:=fun k hk=>Nat.le_trans HG.size (frA k hk)
 replace HB1_2:=rw_kn g5 HB1_2
 replace HB2_3:=rw_kn g5 HB2_3
 replace hr:=hr.kn g5
 replace HG:=grown_trans HG g5
 have sv5:Sv 33 [] [(2,_),(1,_),(0,_),(9,_)] a5:=⟨hn5,hd5,e5_2,e5_1,e5_0,e5_9q,trivial⟩
 refine tl_as (v:=.slice ((some ⟨A,0,none⟩)) ks.length ks.length) sv5 r6 fun a6 sv6=>?_
 refine tl_nil ?_
 refine k4 _ _ ?_
 refine wp_seq_k fun K7 k7=>?_
 refine wp_seq_k fun K8 k8=>?_
 refine wp_region_lit ?_
 refine sx_hv sv6 4 [(10,pk B1_2 64),(11,.slice ao ks.length cap),(12,.int .i64 ((ks.length:Nat))),(13,.int .i64 0)]
   ⟨yf r6 (fun _=>by kernel_rfl),yp (i:=2) r6 (tyKs (.slice ao ks.length cap) rfl) HB1_2 rfl (by simp [bv_length,zero32_len,hsa.1,hpo.1]),ox_len (Tryz.underlying34) rfl rfl trivial (oy rfl rfl) (fun _=>rfl),ox_const (.inl rfl) rfl trivial (fun _=>rfl),trivial⟩ fun a9 w9 g9 sv9=>?_
 refine tl_nil ?_
 refine k8 _ _ ?_
 refine cx_block fun Q10 x10 y10 r10 o10=>?_
 replace HB1_2:=rw_kn g9 HB1_2
 replace HB2_3:=rw_kn g9 HB2_3
 replace hr:=hr.kn g9
 replace ow:=ow.kn g9
 replace HG:=grown_trans HG g9
 have kr:=KsT.rep w9 ks.length
 have ap_kr_B1_2:∀ k,fpKs (List.replicate ks.length zkey) k→k≠B1_2:=fun k hk=>(fpKs_rep _ _ hk).elim
 have ap_kr_B2_3:∀ k,fpKs (List.replicate ks.length zkey) k→k≠B2_3:=fun k hk=>(fpKs_rep _ _ hk).elim
 have ap_kr_ow:∀ k,fpKs (List.replicate ks.length zkey) k→¬ fpS (.slice ((some ⟨A,0,none⟩)) ks.length ks.length) k:=fun k hk=>(fpKs_rep _ _ hk).elim
 refine wp_loop (fun a w'=>∃ (i:Nat) (ms:List VK),(i≤ks.length)∧(ms.length=ks.length)∧(∀ j,j < i→(ms.map VK.p)[j]?=(ks.map VK.p)[j]?)∧(∀ k,fpKs ms k→w.heap.size≤k)∧Sv 33 [] [(13,.int .i64 ((i:Int))),(10,pk B1_2 64),(11,.slice ao ks.length cap),(12,.int .i64 ((ks.length:Nat))),(3,.slice ((some ⟨A,0,none⟩)) ks.length ks.length),(2,pt B2_3),(1,pt B1_2),(0,vval sa po (.slice ao ks.length cap)),(9,.slice ((some ⟨A,0,none⟩)) ks.length ks.length)] a∧w.grownBy w' none∧w'.heap[B1_2]?=some (.cells ([bv sa,bv po,[.slice ao ks.length cap]].flatten).toArray 36 (0,0))∧w'.heap[B2_3]?=some (.cells (([bv zero32,bv zero32,[.slice none 0 0]].flatten)).toArray 36 (0,0))∧RdK w' (.slice ao ks.length cap) ks∧Own w' 58 33 (.slice ((some ⟨A,0,none⟩)) ks.length ks.length) ks.length (ms.flatMap kcells)∧KsT w' ms∧(∀ k,fpS (.slice ((some ⟨A,0,none⟩)) ks.length ks.length) k→k≠B1_2)∧(∀ k,fpS (.slice ((some ⟨A,0,none⟩)) ks.length ks.length) k→k≠B2_3)∧(∀ k,fpK (.slice ao ks.length cap) ks k→¬ fpS (.slice ((some ⟨A,0,none⟩)) ks.length ks.length) k)∧(∀ k,fpKs ms k→¬ fpS (.slice ((some ⟨A,0,none⟩)) ks.length ks.length) k)∧(∀ k,fpS (.slice ((some ⟨A,0,none⟩)) ks.length ks.length) k→w.heap.size≤k)∧(∀ k,fpKs ms k→k≠B1_2)∧(∀ k,fpKs ms k→k≠B2_3)) (fun a _=>(ks.length - intOf (a.tmps.getD 13 undef)).toNat) ⟨0,List.replicate ks.length zkey,Nat.zero_le _,by simp,fun j hj=>by omega,fun k hk=>(fpKs_rep _ _ hk).elim,⟨sv9.1,sv9.2.1,sv9.2.2.2.2.2.1,sv9.2.2.1,sv9.2.2.2.1,sv9.2.2.2.2.1,sv9.2.2.2.2.2.2.1,sv9.2.2.2.2.2.2.2.1,sv9.2.2.2.2.2.2.2.2.1,sv9.2.2.2.2.2.2.2.2.2.1,sv9.2.2.2.2.2.2.2.2.2.2.1,trivial⟩,HG,HB1_2,HB2_3,hr,ow,kr,ap_ow_B1_2,ap_ow_B2_3,ap_hr_ow,ap_kr_ow,lo_ow,ap_kr_B1_2,ap_kr_B2_3⟩ fun a11 w11 hI11=>?_
 clear HB1_2
 clear HB2_3
 clear hr
 clear ow
 clear kr
 clear HG
 obtain ⟨i,ms,hin,hms,hp,hfr,sv11,HG,HB1_2,HB2_3,hr,ow,kr,ap_ow_B1_2,ap_ow_B2_3,ap_hr_ow,ap_kr_ow,lo_ow,ap_kr_B1_2,ap_kr_B2_3⟩:=hI11
 refine wp_seq_k fun K12 k12=>?_
 by_cases hi:i < ks.length
 · obtain ⟨x,hx_x⟩:∃ x,ks[i]'hi=x:=⟨_,rfl⟩
   have him:i < ms.length:=by omega
   obtain ⟨z,hx_z⟩:∃ x,ms[i]'him=x:=⟨_,rfl⟩
   refine wp_region_lit ?_
   refine sx_hv sv11 1 [(14,.bool true)]
     ⟨ybt r7 (fun _=>rn_lss (decide_eq_true (by omega))),trivial⟩ fun a13 w13 g13 sv13=>?_
   refine tl_nil ?_
   refine k12 _ _ ?_
   refine wp_seq_k fun K14 k14=>?_
   refine cx_ifT sv13 rfl rfl ?_
   refine wp_skip ?_
   refine k14 _ _ ?_
   refine wp_seq_k fun K15 k15=>?_
   refine cx_block fun Q16 x16 y16 r16 o16=>?_
   refine wp_seq_k fun K17 k17=>?_
   refine wp_region_lit ?_
   replace HB1_2:=rw_kn g13 HB1_2
   replace HB2_3:=rw_kn g13 HB2_3
   replace hr:=hr.kn g13
   replace ow:=ow.kn g13
   replace kr:=kr.kn g13
   replace HG:=grown_trans HG g13
   refine sx_hv sv13 3 [(15,.int .i64 ((i:Int))),(16,pk ((bO ao)) (oO ao+i * 33)),(17,kval x)]
     ⟨ym r5,ox_index rfl rfl trivial (oy rfl rfl) (oy rfl rfl) (fun w=>ix_sl Tryz.underlying34 (by kernel_rfl) (hr.1.1) (by omega) (rfl) w) (fun _=>rfl),ox_load rfl rfl trivial (oy rfl rfl) (fun _ g=>loadsAt (tyK x) (RdK.keyX (hr.kn g) rfl hi hx_x)) (fun _=>rfl),trivial⟩ fun a18 w18 g18 sv18=>?_
   replace HB1_2:=rw_kn g18 HB1_2
   replace HB2_3:=rw_kn g18 HB2_3
   replace hr:=hr.kn g18
   replace ow:=ow.kn g18
   replace kr:=kr.kn g18
   replace HG:=grown_trans HG g18
   refine tl_alloc (T:=58) (Z:=([bv zero32,[.slice none 0 0]].flatten)) sv18 rfl rfl rfl (fun a w=>by kernel_rfl) fun a19 w19 B5_19 eq_B5_19 g19 z19 HB5_19 sv19=>?_
   have ne_B5_19_B1_2:=nb_ne HB1_2 eq_B5_19
   have ne_B5_19_B2_3:=nb_ne HB2_3 eq_B5_19
   have lo_B5_19:=nb_lo HG eq_B5_19
   have ap_hr_B5_19:=nb_ap (hr.lt) eq_B5_19
   have ap_ow_B5_19:=nb_ap (Own.ltS ow) eq_B5_19
   have ap_kr_B5_19:=nb_ap (kr.lt) eq_B5_19
   replace HB1_2:=rw_kn g19 HB1_2
   replace HB2_3:=rw_kn g19 HB2_3
   replace hr:=hr.kn g19
   replace ow:=ow.kn g19
   replace kr:=kr.kn g19
   replace HG:=grown_trans HG g19
   refine tl_as (v:=.int .i64 ((i:Int))) sv19 r6 fun a20 sv20=>?_
   refine tl_sw sv20 r7 (tyK x) HB5_19 (by first | rfl | simp [kcells,bv_length,zero32_len,x.ho.1]) fun w21 g21 h21=>?_
   replace HB1_2:=rw_st g21 HB1_2 (Ne.symm ne_B5_19_B1_2)
   replace HB2_3:=rw_st g21 HB2_3 (Ne.symm ne_B5_19_B2_3)
   replace hr:=hr.offR g21 (no_b ap_hr_B5_19)
   replace ow:=ow.offR g21 (no_b ap_ow_B5_19)
   replace kr:=kr.offR g21 (no_b ap_kr_B5_19)
   replace HG:=grown_newR HG g21 lo_B5_19
   replace HB5_19:=h21
   refine tl_nil ?_
   refine k17 _ _ ?_
   refine rx_tail (sv20.st w21) (by kernel_rfl) 11 [(18,Sp.is (.slice ((some ⟨A,0,none⟩)) ks.length ks.length)),(19,Sp.is (.int .i64 ((i:Int)))),(20,Sp.is (pt B5_19)),(21,Sp.is (dval x.o)),(22,Sp.is (pk B5_19 32)),(23,Sp.is (pk B5_19 32)),(24,Sp.is (VK.s x)),(25,Sp.cl w21.heap.size x.l),(26,Sp.ct w21.heap.size x.l),(27,Sp.ck w21.heap.size x.o x.l),(28,Sp.is (pk ((bO ((some ⟨A,0,none⟩)))) (oO ((some ⟨A,0,none⟩))+i * 33)))] rfl (by kernel_rfl) (by kernel_rfl) (by kernel_rfl) [] (by kernel_rfl)
     ⟨ym r5,ym r5,yf r6 (fun _=>by kernel_rfl),yp (i:=0) r6 (tyD x.o x.ho.1) HB5_19 rfl rfl,yf r6 (fun _=>by kernel_rfl),yf r6 (fun _=>by kernel_rfl),yp (i:=1) r6 (tyNs (VK.s x) rfl) HB5_19 rfl (by simp [bv_length,zero32_len,x.ho.1]),ox_call (Sp.cl w21.heap.size x.l) [VK.s x] rfl rfl trivial ⟨(oy rfl rfl),trivial⟩ (clone_on (hr.kt hi hx_x)) (fun _ _ h=>h) (enter_of Tryz.func114 (by kernel_rfl) rfl),ox_buildY rfl rfl trivial rfl (fun W _ av h=>match av,h with | [u],⟨h1,_⟩=>ct_of h1),ox_buildY rfl rfl trivial rfl (fun W _ av h=>match av,h with | [u,t],⟨h1,h2,_⟩=>ck_of x.ho h1 h2),ox_index rfl rfl trivial (oy rfl rfl) (oy rfl rfl) (fun w=>ix_sl Tryz.underlying34 (by kernel_rfl) (Sl.of_own ow) (by omega) (rfl) w) (fun _=>rfl),trivial⟩ trivial
     [] (by kernel_rfl) trivial ⟨.inl rfl,.inl rfl,.inl rfl,.inl rfl,.inl rfl,.inl rfl,.inl rfl,.inl rfl,.inl rfl,.inl rfl,.inl rfl,trivial⟩ (by kernel_rfl) fun a22 w22 g22 st22 nd22=>?_
   obtain ⟨hn22,hd22,e22_18,e22_19,e22_20,e22_21,e22_22,e22_23,e22_24,e22_25,e22_26,e22_27,e22_28,e22_4,e22_5,e22_15,e22_16,e22_17,e22_14,e22_13,e22_10,e22_11,e22_12,e22_3,e22_2,e22_1,e22_0,e22_9,-⟩:=st22
   obtain ⟨y,e22_27q,hyo,hyl,rt,frB⟩:=e22_27
   have HG0:=HG
   have ap_rt_B1_2:=fr_ap frB HB1_2
   have ap_rt_B2_3:=fr_ap frB HB2_3
   have ap_rt_B5_19:=fr_ap frB HB5_19
   have ap_rt_ow:∀ k,fpT (VK.s y) k→¬ fpS (.slice ((some ⟨A,0,none⟩)) ks.length ks.length) k:=fun k hk hzr=>absurd (Own.ltS ow k hzr) (Nat.not_lt.2 (frB k hk))
   have lo_rt:∀ k,fpT (VK.s y) k→w.heap.size≤k:=fun k hk=>Nat.le_trans HG.size (frB k hk)
   replace HB1_2:=rw_kn g22 HB1_2
   replace HB2_3:=rw_kn g22 HB2_3
   replace HB5_19:=rw_kn g22 HB5_19
   replace hr:=hr.kn g22
   replace ow:=ow.kn g22
   replace kr:=kr.kn g22
   replace HG:=grown_trans HG g22
   have sv22:Sv 33 [] [(4,_),(5,_),(15,_),(16,_),(17,_),(14,_),(13,_),(10,_),(11,_),(12,_),(3,_),(2,_),(1,_),(0,_),(9,_),(27,_),(28,_)] a22:=⟨hn22,hd22,e22_4,e22_5,e22_15,e22_16,e22_17,e22_14,e22_13,e22_10,e22_11,e22_12,e22_3,e22_2,e22_1,e22_0,e22_9,e22_27q,e22_28,trivial⟩
   refine tl_storeEW (c:=kcells) (el:=y) sv22 rfl rfl rfl rfl rfl rfl rfl (tyK y) ow kcells_len (by decide) (by first | omega | (simp only [List.length_set];omega)) rfl fun w23 g23 h23=>?_
   replace HB1_2:=row_of g23 HB1_2 (fun e=>ap_ow_B1_2 _ (row_fp (j:=i) ow (by omega) rfl) (Option.some.inj e).symm)
   replace HB2_3:=row_of g23 HB2_3 (fun e=>ap_ow_B2_3 _ (row_fp (j:=i) ow (by omega) rfl) (Option.some.inj e).symm)
   replace HB5_19:=row_of g23 HB5_19 (fun e=>ap_ow_B5_19 _ (row_fp (j:=i) ow (by omega) rfl) (Option.some.inj e).symm)
   replace hr:=hr.offR g23 (fun k hk e=>ap_hr_ow k hk (row_fp (j:=i) ow (by omega) e))
   replace kr:=kr.offR g23 (fun k hk e=>ap_kr_ow k hk (row_fp (j:=i) ow (by omega) e))
   replace rt:=rt.offR g23 (fun k hk e=>ap_rt_ow k hk (row_fp (j:=i) ow (by omega) e))
   replace HG:=grown_from HG g23 fun k e=>lo_ow k (row_fp (j:=i) ow (by omega) e)
   replace ow:=h23
   refine tl_nil ?_
   have kr2:=KsT.set kr (x:=y) rt i
   have ap_kr2_B1_2:∀ k,fpKs (ms.set i y) k→k≠B1_2:=fun k hk=>(fpKs_set hk).elim (ap_kr_B1_2 k) (ap_rt_B1_2 k)
   have ap_kr2_B2_3:∀ k,fpKs (ms.set i y) k→k≠B2_3:=fun k hk=>(fpKs_set hk).elim (ap_kr_B2_3 k) (ap_rt_B2_3 k)
   have ap_kr2_B5_19:∀ k,fpKs (ms.set i y) k→k≠B5_19:=fun k hk=>(fpKs_set hk).elim (ap_kr_B5_19 k) (ap_rt_B5_19 k)
   have ap_kr2_ow:∀ k,fpKs (ms.set i y) k→¬ fpS (.slice ((some ⟨A,0,none⟩)) ks.length ks.length) k:=fun k hk=>(fpKs_set hk).elim (ap_kr_ow k) (ap_rt_ow k)
   refine y16 _ _ ?_
   refine k15 _ _ ?_
   refine wp_region_lit ?_
   refine sx_hv sv22 1 [(29,.int .i64 (((i+1:Nat):Int)))]
     ⟨ybc r6 (fun _=>rn_add (by rw [wrap_i64 (by omega) (by omega)];omega)),trivial⟩ fun a24 w24 g24 sv24=>?_
   refine sx_hv (sv24.dl [13]) 1 [(13,.int .i64 (((i+1:Nat):Int)))]
     ⟨ym r5,trivial⟩ fun a25 w25 g25 sv25=>?_
   have gc25:=grown_trans g24 g25
   refine tl_nil ?_
   replace HB1_2:=rw_kn gc25 HB1_2
   replace HB2_3:=rw_kn gc25 HB2_3
   replace HB5_19:=rw_kn gc25 HB5_19
   replace hr:=hr.kn gc25
   replace ow:=ow.kn gc25
   replace kr2:=kr2.kn gc25
   replace HG:=grown_trans HG gc25
   exact ⟨⟨i+1,ms.set i y,by omega,by rw [List.length_set];exact hms,cl_step hms hi hx_x hyo hyl hp,fun k hk=>(fpKs_set hk).elim (hfr k) fun h=>Nat.le_trans HG0.size (frB k h),⟨sv25.1,sv25.2.1,sv25.2.2.1,sv25.2.2.2.2.2.2.2.2.2.2.1,sv25.2.2.2.2.2.2.2.2.2.2.2.1,sv25.2.2.2.2.2.2.2.2.2.2.2.2.1,sv25.2.2.2.2.2.2.2.2.2.2.2.2.2.1,sv25.2.2.2.2.2.2.2.2.2.2.2.2.2.2.1,sv25.2.2.2.2.2.2.2.2.2.2.2.2.2.2.2.1,sv25.2.2.2.2.2.2.2.2.2.2.2.2.2.2.2.2.1,sv25.2.2.2.2.2.2.2.2.2.2.2.2.2.2.2.2.2.1,trivial⟩,HG,HB1_2,HB2_3,hr,ow,kr2,ap_ow_B1_2,ap_ow_B2_3,ap_hr_ow,ap_kr2_ow,lo_ow,ap_kr2_B1_2,ap_kr2_B2_3⟩,by rw [show _=_ from sv25.2.2.1,show _=_ from sv11.2.2.1];simp [intOf];omega⟩
 · have hall:=cl_end hms hi hp
   refine wp_region_lit ?_
   refine sx_hv sv11 1 [(14,.bool false)]
     ⟨ybt r7 (fun _=>rn_lss (decide_eq_false (by omega))),trivial⟩ fun a26 w26 g26 sv26=>?_
   refine tl_nil ?_
   refine k12 _ _ ?_
   refine wp_seq_k fun K27 k27=>?_
   refine cx_ifF sv26 rfl rfl ?_
   refine wp_exit ?_
   repeat refine then_exit ?_
   refine x10 _ _ ?_
   refine k7 _ _ ?_
   refine wp_seq_k fun K28 k28=>?_
   refine wp_region_lit ?_
   refine sx_hv sv26 2 [(30,.slice ((some ⟨A,0,none⟩)) ks.length ks.length),(31,pk B1_2 64)]
     ⟨ym r5,yf r6 (fun _=>by kernel_rfl),trivial⟩ fun a29 w29 g29 sv29=>?_
   have gc29:=grown_trans g26 g29
   refine tl_sp (L:=[bv sa,bv po,[.slice ao ks.length cap]]) (i:=2) sv29 r7 (tyKs (.slice ((some ⟨A,0,none⟩)) ks.length ks.length) rfl) (rw_kn gc29 HB1_2) rfl (by simp [bv_length,zero32_len,hsa.1,hpo.1]) rfl fun w30 g30 h30=>?_
   replace HB2_3:=rw_s2 gc29 g30 HB2_3 ne_B2_3_B1_2
   replace hr:=(hr.kn gc29).offR g30 (no_b ap_hr_B1_2)
   replace ow:=(ow.kn gc29).offR g30 (no_b ap_ow_B1_2)
   replace kr:=(kr.kn gc29).offR g30 (no_b ap_kr_B1_2)
   replace HG:=grown_newR (grown_trans HG gc29) g30 lo_B1_2
   replace HB1_2:=h30
   refine tl_nil ?_
   refine k28 _ _ ?_
   refine wp_seq_k fun K31 k31=>?_
   refine wp_region_lit ?_
   refine sx_hv sv29 1 [(32,vval sa po (.slice ((some ⟨A,0,none⟩)) ks.length ks.length))]
     ⟨yl r6 (tyVa hsa hpo (.slice ((some ⟨A,0,none⟩)) ks.length ks.length) rfl) HB1_2,trivial⟩ fun a32 w32 g32 sv32=>?_
   refine tl_sw sv32 r7 (tyVa hsa hpo (.slice ((some ⟨A,0,none⟩)) ks.length ks.length) rfl) (rw_kn g32 HB2_3) (by first | rfl | simp [kcells,bv_length,zero32_len,hsa.1,hpo.1]) fun w33 g33 h33=>?_
   replace HB1_2:=rw_s2 g32 g33 HB1_2 (Ne.symm ne_B2_3_B1_2)
   replace hr:=(hr.kn g32).offR g33 (no_b ap_hr_B2_3)
   replace ow:=(ow.kn g32).offR g33 (no_b ap_ow_B2_3)
   replace kr:=(kr.kn g32).offR g33 (no_b ap_kr_B2_3)
   replace HG:=grown_newR (grown_trans HG g32) g33 lo_B2_3
   replace HB2_3:=h33
   refine tl_nil ?_
   refine k31 _ _ ?_
   refine wp_ret ?_
   repeat refine then_ret ?_
   refine cx_ret (fn:=Tryz.f72) sv32 (res_cell (p:=2) Tryz.results72 sv32 rfl rfl (tyVa hsa hpo (.slice ((some ⟨A,0,none⟩)) ks.length ks.length) rfl) HB2_3) ?_
   exact ⟨A,ms,rfl,hall,ow,kr,lo_ow _ rfl,fun k hk=>⟨hfr k hk,fun e=>ap_kr_ow k hk (e▸rfl)⟩,HG⟩
end Go.Proofs.YtbfjfnbcmojpiaaGreat
