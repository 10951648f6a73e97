import Derived.Test.YtbfjfnbcmojpiaaGreatY5
namespace Go.Proofs.YtbfjfnbcmojpiaaGreat
open Go.RowKit Go.Shelf
set_option linter.unusedSimpArgs false
set_option linter.unusedVariables false
def sdval (a:Int) (os:Value) (j:Int) (ws bs:Value) (tg:List Nat):Value:=.agg ([[.int .i64 a],[os],[.int .i64 j],[ws],[bs],bv tg].flatten).toArray
theorem sd_size {x y:List Nat} (hx:Dg x) (hy:Dg y) {a j b k:Int} {os ws bs os' ws' bs':Value}:([[.int .i64 a],[os],[.int .i64 j],[ws],[bs],bv x].flatten).length=([[.int .i64 b],[os'],[.int .i64 k],[ws'],[bs'],bv y].flatten).length:=by simp [bv_length,hx.1,hy.1]
theorem tySd (a j:Int) {tg:List Nat} (ht:Dg tg) (os ws bs:Value) (h1:os.oneCell'=true) (h2:ws.oneCell'=true) (h3:bs.oneCell'=true):TY Tryz.prog 31 ([[.int .i64 a],[os],[.int .i64 j],[ws],[bs],bv tg].flatten) (sdval a os j ws bs tg):=by
 refine TY.agg Tryz.underlying31 rfl ?_ ?_
 · rw [show ([[.int .i64 a],[os],[.int .i64 j],[ws],[bs],bv tg].flatten).length=37 by simp [bv_length,ht.1]]
   kernel_rfl
 · intro c hc
   simp only [List.flatten_cons,List.flatten_nil,List.append_nil,List.mem_append,List.mem_singleton] at hc
   rcases hc with rfl | rfl | rfl | rfl | rfl | hc
   · rfl
   · exact h1
   · rfl
   · exact h2
   · exact h3
   · exact bv_ones _ _ hc
theorem bSd0 (w:World):(Instr.build 31 #[]).run Tryz.prog w=.ok (sdval 0 (.slice none 0 0) 0 (.slice none 0 0) (.slice none 0 0) zero32) w:=by kernel_rfl
theorem bSd3 (a:Int) (ao:Option Addr) (n c:Nat) (j:Int) (w:World):(Instr.build 31 #[(0,.int .i64 a),(1,.slice ao n c),(2,.int .i64 j)]).run Tryz.prog w=.ok (sdval a (.slice ao n c) j (.slice none 0 0) (.slice none 0 0) zero32) w:=by kernel_rfl
theorem tyInt' (x:Int):TY Tryz.prog 3 [.int .i64 x] (.int .i64 x):=TY.one' Tryz.underlying3 rfl (by kernel_rfl) rfl
def fl (ds:List DD) (i:Nat):List Nat:=(ds.take i).flatMap DD.x
theorem fl_succ {ds:List DD} {i:Nat} {x:DD} (hi:i < ds.length) (hx:ds[i]=x):fl ds (i+1)=fl ds i ++ x.x:=by
 unfold fl
 rw [List.take_add_one,List.getElem?_eq_getElem hi,hx,List.flatMap_append]
 simp
theorem dig_dg (d:BitVec 64) (l:List Nat):Dg (dig d l):=⟨dig_len _ _,dig_lt _ _⟩
theorem fl_l {ds:List DD}:∀ {i:Nat},i≤ds.length→(fl ds i).length=32 * i
 | 0,_=>rfl
 | i+1,h=>by rw [fl_succ (i:=i) (by omega) rfl,List.length_append,fl_l (by omega),(ds[i]).h.1];omega
theorem fl_by (ds:List DD) (i:Nat):By (fl ds i):=fun b hb=>by
 obtain ⟨d,_,hd⟩:=List.mem_flatMap.1 hb
 exact d.h.2 b hd
theorem fl_all {ds:List DD} {i:Nat} (h:ds.length≤i):fl ds i=(ds.map DD.x).flatten:=by
 unfold fl
 rw [List.take_of_length_le h,List.flatMap_def]
theorem sl_dig32 {w:World} {b:Nat} {k:List Nat} (hk:Dg k) (h:w.rangeAt b 0 (bv k)):Sl w 1 (.slice (some ⟨b,0,none⟩) 32 32) 32 (bv k):=by
 have:=sl_dig hk h
 rwa [hk.1] at this
theorem fl_sl {w:World} {v:Value} {ds:List DD} {i:Nat} (hi:i≤ds.length) (h:Sl w 1 v (32 * i) (bv (fl ds i))):Sl w 1 v (fl ds i).length (bv (fl ds i)):=by rw [fl_l hi];exact h
theorem dcs_all (ds:List DD):(ds.flatMap dcs).all Value.oneCell'=true:=by
 rw [List.all_eq_true]
 intro v hv
 obtain ⟨d,_,hd⟩:=List.mem_flatMap.1 hv
 exact bv_ones _ _ hd
theorem retD {a b:List Nat} (h:a=b):Ending.returned (dval a)=Ending.returned (dval b):=by rw [h]
set_option maxRecDepth 100000 in
theorem recValidS_walk (w:World):CallsD Tryz.prog 69 #[] .returning w fun e u' w'=>e=.returned (.tuple #[])∧u'=.returning∧w'=w:=by
 refine callsD_of_wpS Tryz.func69 rfl fun c₀ cs hu=>?_
 apply wpS_region
 simp [wpOpsS,go_sem,recoverD,hu,Tryz.ntmps69]
 cases c₀
 simp_all [bodyPostS,results,Tryz.results69]
set_option maxRecDepth 100000 in
set_option maxHeartbeats 4000000 in
theorem ckey_walk (joint:Int) (ds:List DD) (ao:Option Addr) (cap:Nat) (w:World) (hr:RdD w (.slice ao ds.length cap) ds) (hl:ds.length≤1000) :
   Calls Tryz.prog 55 #[.int .i64 joint,.slice ao ds.length cap] w fun e w'=>e=.returned (dval (cky (decide (joint=1)) (ds.map DD.x)))∧w.grownBy w' none:=by
 obtain ⟨dm,hdm⟩:∃ dm:Nat,dm=if decide (joint=1)=true then 282 else 281:=⟨_,rfl⟩
 have hdl:dm < 1000:=by rw [hdm];split <;> decide
 refine cx_enter Tryz.func55 rfl Tryz.ntmps55 rfl fun a0 sv0=>?_
 have HG:=World.grownBy.refl w none
 replace sv0:Sv 24 [] [(0,.int .i64 joint),(1,.slice ao ds.length cap)] a0:=sv0
 refine wp_seq_k fun K1 k1=>?_
 refine wp_region_lit ?_
 refine tl_alloc (T:=23) (Z:=(bv zero32)) sv0 rfl rfl rfl (fun a w=>by kernel_rfl) fun a2 w2 B4_2 eq_B4_2 g2 z2 HB4_2 sv2=>?_
 have lo_B4_2:=nb_lo HG eq_B4_2
 have ap_hr_B4_2:=nb_ap (hr.lt) eq_B4_2
 replace hr:=hr.kn g2
 replace HG:=grown_trans HG g2
 refine tl_nil ?_
 refine k1 _ _ ?_
 refine wp_seq_k fun K3 k3=>?_
 refine wp_region_lit ?_
 refine tl_as (v:=.int .u64 281) sv2 r6 fun a4 sv4=>?_
 refine tl_nil ?_
 refine k3 _ _ ?_
 refine wp_seq_k fun K5 k5=>?_
 suffices MG6:∀ (a':Act) (w':World),Sv 24 [] [(5,.int .u64 ((dm:Int))),(4,pt B4_2),(0,.int .i64 joint),(1,.slice ao ds.length cap)] a'→w.grownBy w' none→w'.heap[B4_2]?=some (.cells ((bv zero32)).toArray 23 (0,0))→(RdD w' (.slice ao ds.length cap) ds)→K5 a' w' by
   by_cases hj:joint=1
   · obtain rfl:dm=282:=by rw [hdm,decide_eq_true hj];rfl
     refine wp_seq_k fun K7 k7=>?_
     refine wp_region_lit ?_
     refine sx_hv sv4 2 [(9,.int .i64 joint),(10,.bool true)]
       ⟨ym r5,ybc r6 (fun _=>rn_eql (by simpa using hj)),trivial⟩ fun a8 w8 g8 sv8=>?_
     refine tl_nil ?_
     refine k7 _ _ ?_
     refine cx_ifT sv8 rfl rfl ?_
     refine wp_region_lit ?_
     refine tl_as (v:=.int .u64 282) sv8 r6 fun a9 sv9=>?_
     refine tl_nil ?_
     replace HB4_2:=rw_kn g8 HB4_2
     replace hr:=hr.kn g8
     replace HG:=grown_trans HG g8
     have svm:Sv 24 [] [(5,_),(4,_),(0,_),(1,_)] a9:=⟨sv9.1,sv9.2.1,sv9.2.2.1,sv9.2.2.2.2.2.1,sv9.2.2.2.2.2.2.1,sv9.2.2.2.2.2.2.2.1,trivial⟩
     exact MG6 _ _ svm HG HB4_2 hr
   · obtain rfl:dm=281:=by rw [hdm,decide_eq_false hj];rfl
     refine wp_seq_k fun K10 k10=>?_
     refine wp_region_lit ?_
     refine sx_hv sv4 2 [(9,.int .i64 joint),(10,.bool false)]
       ⟨ym r5,ybc r6 (fun _=>rn_eql (by simpa using hj)),trivial⟩ fun a11 w11 g11 sv11=>?_
     refine tl_nil ?_
     refine k10 _ _ ?_
     refine cx_ifF sv11 rfl rfl ?_
     refine wp_skip ?_
     replace HB4_2:=rw_kn g11 HB4_2
     replace hr:=hr.kn g11
     replace HG:=grown_trans HG g11
     have svm:Sv 24 [] [(5,_),(4,_),(0,_),(1,_)] a11:=⟨sv11.1,sv11.2.1,sv11.2.2.2.2.1,sv11.2.2.2.2.2.1,sv11.2.2.2.2.2.2.1,sv11.2.2.2.2.2.2.2.1,trivial⟩
     exact MG6 _ _ svm HG HB4_2 hr
 clear HB4_2
 clear hr
 clear HG
 intro a6 w6 sv6 HG HB4_2 hr
 refine k5 _ _ ?_
 refine wp_seq_k fun K12 k12=>?_
 refine wp_region_lit ?_
 refine tl_as (v:=.slice none 0 0) sv6 r6 fun a13 sv13=>?_
 refine tl_nil ?_
 refine k12 _ _ ?_
 refine wp_seq_k fun K14 k14=>?_
 refine wp_seq_k fun K15 k15=>?_
 refine wp_region_lit ?_
 refine sx_hv sv13 3 [(11,.slice ao ds.length cap),(12,.int .i64 ((ds.length:Nat))),(13,.int .i64 0)]
   ⟨ym r5,ox_len (Tryz.underlying28) rfl rfl trivial (oy rfl rfl) (fun _=>rfl),ox_const (.inl rfl) rfl trivial (fun _=>rfl),trivial⟩ fun a16 w16 g16 sv16=>?_
 refine tl_nil ?_
 refine k15 _ _ ?_
 refine cx_block fun Q17 x17 y17 rt17 o17=>?_
 replace HB4_2:=rw_kn g16 HB4_2
 replace hr:=hr.kn g16
 replace HG:=grown_trans HG g16
 have ob:=Own.nil w16 5 1
 have ap_ob_B4_2:∀ k,fpS (.slice none 0 0) k→k≠B4_2:=fun k hk=>by simp [fpS,Value.ownBlock] at hk
 have ap_hr_ob:∀ k,fpS (.slice ao ds.length cap) k→¬ fpS (.slice none 0 0) k:=fun k _ hk=>by simp [fpS,Value.ownBlock] at hk
 have lo_ob:∀ k,fpS (.slice none 0 0) k→w.heap.size≤k:=fun k hk=>by simp [fpS,Value.ownBlock] at hk
 refine wp_loop (fun a w'=>∃ (i:Nat) (bo:Option Addr) (bc:Nat),(i≤ds.length)∧Sv 24 [] [(13,.int .i64 ((i:Int))),(6,.slice bo (32 * i) bc),(11,.slice ao ds.length cap),(12,.int .i64 ((ds.length:Nat))),(5,.int .u64 ((dm:Int))),(4,pt B4_2),(0,.int .i64 joint),(1,.slice ao ds.length cap)] a∧w.grownBy w' none∧w'.heap[B4_2]?=some (.cells ((bv zero32)).toArray 23 (0,0))∧RdD w' (.slice ao ds.length cap) ds∧Own w' 5 1 (.slice bo (32 * i) bc) ((32 * i)) (bv ((fl ds i)))∧(∀ k,fpS (.slice bo (32 * i) bc) k→k≠B4_2)∧(∀ k,fpS (.slice ao ds.length cap) k→¬ fpS (.slice bo (32 * i) bc) k)∧(∀ k,fpS (.slice bo (32 * i) bc) k→w.heap.size≤k)) (fun a _=>(ds.length - intOf (a.tmps.getD 13 undef)).toNat) ⟨0,none,0,Nat.zero_le _,⟨sv16.1,sv16.2.1,sv16.2.2.2.2.1,sv16.2.2.2.2.2.1,sv16.2.2.1,sv16.2.2.2.1,sv16.2.2.2.2.2.2.1,sv16.2.2.2.2.2.2.2.1,sv16.2.2.2.2.2.2.2.2.1,sv16.2.2.2.2.2.2.2.2.2.1,trivial⟩,HG,HB4_2,hr,ob,ap_ob_B4_2,ap_hr_ob,lo_ob⟩ fun a18 w18 hI18=>?_
 clear HB4_2
 clear hr
 clear ob
 clear HG
 obtain ⟨i,bo,bc,hin,sv18,HG,HB4_2,hr,ob,ap_ob_B4_2,ap_hr_ob,lo_ob⟩:=hI18
 refine wp_seq_k fun K19 k19=>?_
 by_cases hi:i < ds.length
 · obtain ⟨x,hx_x⟩:∃ zx,ds[i]'hi=zx:=⟨_,rfl⟩
   have hfs:=fl_succ hi hx_x
   refine wp_region_lit ?_
   refine sx_hv sv18 1 [(14,.bool true)]
     ⟨ybt r7 (fun _=>rn_lss (by simp;omega)),trivial⟩ fun a20 w20 g20 sv20=>?_
   refine tl_nil ?_
   refine k19 _ _ ?_
   refine wp_seq_k fun K21 k21=>?_
   refine cx_ifT sv20 rfl rfl ?_
   refine wp_skip ?_
   refine k21 _ _ ?_
   refine wp_seq_k fun K22 k22=>?_
   refine cx_block fun Q23 x23 y23 rt23 o23=>?_
   refine wp_seq_k fun K24 k24=>?_
   refine wp_region_lit ?_
   replace HB4_2:=rw_kn g20 HB4_2
   replace hr:=hr.kn g20
   replace ob:=ob.kn g20
   replace HG:=grown_trans HG g20
   refine sx_hv sv20 2 [(15,pk ((bO ao)) (oO ao+i * 32)),(16,dval x.x)]
     ⟨ox_index rfl rfl trivial (oy rfl rfl) (oy rfl rfl) (fun w=>ix_sl Tryz.underlying28 (by kernel_rfl) (hr.1) (by omega) (rfl) w) (fun _=>rfl),ox_load rfl rfl trivial (oy rfl rfl) (fun _ g=>loadsAt (tyD x.x x.h.1) (by have:=el_range (hr.kn g).1 dcs_len hi (by decide);rw [hx_x] at this;exact this)) (fun _=>rfl),trivial⟩ fun a25 w25 g25 sv25=>?_
   replace HB4_2:=rw_kn g25 HB4_2
   replace hr:=hr.kn g25
   replace ob:=ob.kn g25
   replace HG:=grown_trans HG g25
   refine tl_alloc (T:=23) (Z:=(bv zero32)) sv25 rfl rfl rfl (fun a w=>by kernel_rfl) fun a26 w26 B8_26 eq_B8_26 g26 z26 HB8_26 sv26=>?_
   have ne_B8_26_B4_2:=nb_ne HB4_2 eq_B8_26
   have lo_B8_26:=nb_lo HG eq_B8_26
   have ap_hr_B8_26:=nb_ap (hr.lt) eq_B8_26
   have ap_ob_B8_26:=nb_ap (Own.ltS ob) eq_B8_26
   replace HB4_2:=rw_kn g26 HB4_2
   replace hr:=hr.kn g26
   replace ob:=ob.kn g26
   replace HG:=grown_trans HG g26
   refine tl_sw sv26 r7 (tyD x.x x.h.1) HB8_26 (lenD x.h) fun w27 g27 h27=>?_
   replace HB4_2:=rw_st g27 HB4_2 (Ne.symm ne_B8_26_B4_2)
   replace hr:=hr.offR g27 (no_b ap_hr_B8_26)
   replace ob:=ob.offR g27 (no_b ap_ob_B8_26)
   replace HG:=grown_newR HG g27 lo_B8_26
   replace HB8_26:=h27
   refine tl_nil ?_
   refine k24 _ _ ?_
   refine wp_region_lit ?_
   refine sx_hv sv26 2 [(17,.slice bo (32 * i) bc),(18,.slice ((some ⟨B8_26,0,none⟩)) 32 32)]
     ⟨ym r5,ox_slice (l:=none) (u:=none) rfl rfl trivial (oy rfl rfl) trivial trivial (sl_arr B8_26 0) (fun _=>rfl),trivial⟩ fun a28 w28 g28 sv28=>?_
   replace HB4_2:=rw_kn g28 HB4_2
   replace HB8_26:=rw_kn g28 HB8_26
   replace hr:=hr.kn g28
   replace ob:=ob.kn g28
   replace HG:=grown_trans HG g28
   refine tl_app bytesT sv28 rfl rfl rfl rfl rfl rfl rfl rfl ob (sl_dig32 x.h (rangeAt_row HB8_26)) (bv_cells _) (by omega) fun a29 ao29 cap29 w29 owx29 stp sv29=>?_
   have ap_owx29_B4_2:∀ k,fpS (.slice ao29 (32 * i+32) cap29) k→k≠B4_2:=fun k hk=>(stp.2 k hk).elim (ap_ob_B4_2 k) (fun h=>nh_ne HB4_2 h)
   have ap_owx29_B8_26:∀ k,fpS (.slice ao29 (32 * i+32) cap29) k→k≠B8_26:=fun k hk=>(stp.2 k hk).elim (ap_ob_B8_26 k) (fun h=>nh_ne HB8_26 h)
   have ap_hr_owx29:∀ k,fpS (.slice ao ds.length cap) k→¬ fpS (.slice ao29 (32 * i+32) cap29) k:=fun k hk h2=>(stp.2 k h2).elim (ap_hr_ob k hk) (fun h=>absurd ((hr.lt) k hk) (Nat.not_lt.2 h))
   have lo_owx29:∀ k,fpS (.slice ao29 (32 * i+32) cap29) k→w.heap.size≤k:=fun k hk=>(stp.2 k hk).elim (lo_ob k) (fun h=>Nat.le_trans HG.size h)
   replace HB4_2:=row_of stp.1 HB4_2 (fun e=>ap_ob_B4_2 _ e.symm rfl)
   replace HB8_26:=row_of stp.1 HB8_26 (fun e=>ap_ob_B8_26 _ e.symm rfl)
   replace hr:=hr.offR stp.1 (fun k hk e=>ap_hr_ob k hk (e))
   replace HG:=grown_from HG stp.1 fun k e=>lo_ob k (e)
   rw [← bv_append,← hfs] at owx29
   refine tl_as (v:=.slice ao29 (32 * i+32) cap29) sv29 r6 fun a30 sv30=>?_
   refine tl_nil ?_
   refine y23 _ _ ?_
   refine k22 _ _ ?_
   refine wp_region_lit ?_
   refine sx_hv sv30 1 [(20,.int .i64 (((i+1:Nat):Int)))]
     ⟨ybc r6 (fun _=>rn_add (by rw [wrap_i64 (by omega) (by omega)];omega)),trivial⟩ fun a31 w31 g31 sv31=>?_
   refine sx_hv (sv31.dl [13]) 1 [(13,.int .i64 (((i+1:Nat):Int)))]
     ⟨ym r5,trivial⟩ fun a32 w32 g32 sv32=>?_
   have gc32:=grown_trans g31 g32
   refine tl_nil ?_
   replace HB4_2:=rw_kn gc32 HB4_2
   replace HB8_26:=rw_kn gc32 HB8_26
   replace hr:=hr.kn gc32
   replace owx29:=owx29.kn gc32
   replace HG:=grown_trans HG gc32
   exact ⟨⟨i+1,ao29,cap29,by omega,⟨sv32.1,sv32.2.1,sv32.2.2.1,sv32.2.2.2.2.1,sv32.2.2.2.2.2.2.2.2.2.2.2.2.1,sv32.2.2.2.2.2.2.2.2.2.2.2.2.2.1,sv32.2.2.2.2.2.2.2.2.2.2.2.2.2.2.1,sv32.2.2.2.2.2.2.2.2.2.2.2.2.2.2.2.1,sv32.2.2.2.2.2.2.2.2.2.2.2.2.2.2.2.2.1,sv32.2.2.2.2.2.2.2.2.2.2.2.2.2.2.2.2.2.1,trivial⟩,HG,HB4_2,hr,owx29,ap_owx29_B4_2,ap_hr_owx29,lo_owx29⟩,by rw [show _=_ from sv32.2.2.1,show _=_ from sv18.2.2.1];simp [intOf];omega⟩
 · have hall:=fl_all (ds:=ds) (i:=i) (by omega)
   refine wp_region_lit ?_
   refine sx_hv sv18 1 [(14,.bool false)]
     ⟨ybt r7 (fun _=>rn_lss (by simp;omega)),trivial⟩ fun a33 w33 g33 sv33=>?_
   refine tl_nil ?_
   refine k19 _ _ ?_
   refine wp_seq_k fun K34 k34=>?_
   refine cx_ifF sv33 rfl rfl ?_
   refine wp_exit ?_
   repeat refine then_exit ?_
   refine x17 _ _ ?_
   refine k14 _ _ ?_
   refine wp_seq_k fun K35 k35=>?_
   refine wp_region_lit ?_
   refine sx_hv sv33 2 [(21,.int .u64 ((dm:Int))),(22,.slice bo (32 * i) bc)]
     ⟨ym r5,ym r5,trivial⟩ fun a36 w36 g36 sv36=>?_
   have gc36:=grown_trans g33 g36
   replace HB4_2:=rw_kn gc36 HB4_2
   replace hr:=hr.kn gc36
   replace ob:=ob.kn gc36
   replace HG:=grown_trans HG gc36
   refine tl_call sv36 rfl rfl rfl rfl rfl (c_is (sum_c (dom:=dm) hdl rfl (fl_by ds i) (by rw [fl_l (by omega)];omega) (fl_sl (by omega) (Sl.of_own ob)))) (enter_of Tryz.func101 (by kernel_rfl) rfl) fun a37 v37 w37 hR37 sv37=>?_
   obtain ⟨rfl,g37⟩:=hR37
   replace HB4_2:=rw_kn g37 HB4_2
   replace hr:=hr.kn g37
   replace ob:=ob.kn g37
   replace HG:=grown_trans HG g37
   refine tl_sw sv37 r7 (tyD ((dig (BitVec.ofNat 64 dm) (fl ds i))) (dig_dg _ _).1) HB4_2 (lenD (dig_dg _ _)) fun w38 g38 h38=>?_
   replace hr:=hr.offR g38 (no_b ap_hr_B4_2)
   replace ob:=ob.offR g38 (no_b ap_ob_B4_2)
   replace HG:=grown_newR HG g38 lo_B4_2
   replace HB4_2:=h38
   refine tl_nil ?_
   refine k35 _ _ ?_
   refine wp_ret ?_
   repeat refine then_ret ?_
   refine cx_ret (fn:=Tryz.f55) sv37 (res_cell (p:=4) Tryz.results55 sv37 rfl rfl (tyD ((dig (BitVec.ofNat 64 dm) (fl ds i))) (dig_dg _ _).1) HB4_2) ?_
   exact ⟨retD (by rw [hall,hdm];rfl),HG⟩
end Go.Proofs.YtbfjfnbcmojpiaaGreat

namespace Go.Proofs.YtbfjfnbcmojpiaaGreat
open Go.RowKit Go.Shelf
set_option linter.unusedSimpArgs false
set_option linter.unusedVariables false
set_option maxRecDepth 100000 in
set_option maxHeartbeats 4000000 in
theorem clnD_nil  (w:World) :
   Calls Tryz.prog 52 #[.slice none 0 0] w fun e w'=>e=.returned (.slice none 0 0)∧w.grownBy w' none:=by
 refine cx_enter Tryz.func52 rfl Tryz.ntmps52 rfl fun a0 sv0=>?_
 have HG:=World.grownBy.refl w none
 replace sv0:Sv 8 [] [(0,.slice none 0 0)] a0:=sv0
 refine wp_seq_k fun K1 k1=>?_
 refine wp_region_lit ?_
 refine tl_as (v:=.slice none 0 0) sv0 r6 fun a2 sv2=>?_
 refine tl_nil ?_
 refine k1 _ _ ?_
 refine wp_seq_k fun K3 k3=>?_
 refine wp_seq_k fun K4 k4=>?_
 refine wp_region_lit ?_
 refine sx_hv sv2 2 [(3,.slice none 0 0),(4,.bool true)]
   ⟨ym r5,ybc r6 (fun _=>rn_nil Tryz.underlying28 rfl),trivial⟩ fun a5 w5 g5 sv5=>?_
 refine tl_nil ?_
 refine k4 _ _ ?_
 refine cx_ifT sv5 rfl rfl ?_
 refine wp_seq_k fun K6 k6=>?_
 refine wp_region_lit ?_
 refine tl_as (v:=.slice none 0 0) sv5 r6 fun a7 sv7=>?_
 refine tl_nil ?_
 refine k6 _ _ ?_
 replace HG:=grown_trans HG g5
 refine wp_ret ?_
 repeat refine then_ret ?_
 refine cx_ret (fn:=Tryz.f52) sv7 (res_tmp (p:=2) Tryz.results52 sv7 rfl rfl) ?_
 exact ⟨rfl,HG⟩
set_option maxRecDepth 100000 in
set_option maxHeartbeats 4000000 in
theorem clnD_some (ds:List DD) (hl:ds.length≤1000) (ad:Addr) (cap:Nat) (w:World) (hr:RdD w (.slice ((some ad)) ds.length cap) ds) :
   Calls Tryz.prog 52 #[.slice ((some ad)) ds.length cap] w fun e w'=>∃ v,e=.returned v∧w.grownBy w' none∧(Sp.row w.heap.size 23 32 ds.length (ds.flatMap dcs)).on w' v:=by
 refine cx_enter Tryz.func52 rfl Tryz.ntmps52 rfl fun a0 sv0=>?_
 have HG:=World.grownBy.refl w none
 replace sv0:Sv 8 [] [(0,.slice ((some ad)) ds.length cap)] a0:=sv0
 refine wp_seq_k fun K1 k1=>?_
 refine wp_region_lit ?_
 refine tl_as (v:=.slice none 0 0) sv0 r6 fun a2 sv2=>?_
 refine tl_nil ?_
 refine k1 _ _ ?_
 refine wp_seq_k fun K3 k3=>?_
 refine wp_seq_k fun K4 k4=>?_
 refine wp_region_lit ?_
 refine sx_hv sv2 2 [(3,.slice ((some ad)) ds.length cap),(4,.bool false)]
   ⟨ym r5,ybc r6 (fun _=>rn_nil Tryz.underlying28 rfl),trivial⟩ fun a5 w5 g5 sv5=>?_
 refine tl_nil ?_
 refine k4 _ _ ?_
 refine cx_ifF sv5 rfl rfl ?_
 refine wp_skip ?_
 refine k3 _ _ ?_
 refine wp_seq_k fun K6 k6=>?_
 refine wp_region_lit ?_
 replace hr:=hr.kn g5
 replace HG:=grown_trans HG g5
 refine sx_head (sv5.st w5) 3 [(5,Sp.lit0 w5.heap.size 23),(6,Sp.is (.slice ((some ad)) ds.length cap)),(7,Sp.row w5.heap.size 23 32 ds.length (ds.flatMap dcs))] rfl (by kernel_rfl) (by kernel_rfl) (by kernel_rfl)
   ⟨ox_lit0 (t:=0) rfl trivial (Nat.le_refl _) (fun a w=>by kernel_rfl) (fun _ _ h=>h),ym r5,ox_app0 (news:=ds.flatMap dcs) dsT rfl rfl trivial rfl (fun _ _ h=>h) (oy rfl rfl) (fun _ g=>(hr.kn g).1) (dcs_all ds) (by omega) (Nat.le_refl _) (fun _ _ h=>h),trivial⟩ fun a7 w7 g7 st7=>?_
 obtain ⟨hn7,hd7,e7_5,e7_6,e7_7,e7_3,e7_4,e7_2,e7_0,-⟩:=st7
 obtain ⟨ao8,cap8,e7_7q,ow8,fr8⟩:=e7_7
 have ap_hr_ow8:∀ k,fpS (.slice ((some ad)) ds.length cap) k→¬ fpS (.slice ao8 ds.length cap8) k:=fun k hzr hk=>absurd (hr.lt k hzr) (Nat.not_lt.2 (fr8 k hk))
 have lo_ow8:∀ k,fpS (.slice ao8 ds.length cap8) k→w.heap.size≤k:=fun k hk=>Nat.le_trans HG.size (fr8 k hk)
 replace hr:=hr.kn g7
 replace HG:=grown_trans HG g7
 have sv7:Sv 8 [] [(3,_),(4,_),(2,_),(0,_),(7,_)] a7:=⟨hn7,hd7,e7_3,e7_4,e7_2,e7_0,e7_7q,trivial⟩
 refine tl_as (v:=.slice ao8 ds.length cap8) sv7 r6 fun a9 sv9=>?_
 refine tl_nil ?_
 refine k6 _ _ ?_
 refine wp_ret ?_
 repeat refine then_ret ?_
 refine cx_ret (fn:=Tryz.f52) sv9 (res_tmp (p:=2) Tryz.results52 sv9 rfl rfl) ?_
 exact ⟨_,rfl,HG,_,_,rfl,ow8,lo_ow8⟩
theorem clnD_walk {ds:List DD} {s:Value} {w:World} (hl:ds.length≤1000) (hr:RdD w s ds):Calls Tryz.prog 52 #[s] w fun e w'=>∃ v,e=.returned v∧w.grownBy w' none∧(Sp.row w.heap.size 23 32 ds.length (ds.flatMap dcs)).on w' v:=by
 obtain ⟨ao,cap,rfl⟩:=hr.shape
 cases ao with
 | some ad=>exact clnD_some ds hl ad cap w hr
 | none =>
   have h0:ds.length=0∧cap=0:=by
     obtain ⟨⟨_,ao',cap',e,h1,_,h3,_⟩,_⟩:=hr
     simp only [Value.slice.injEq,true_and] at e
     obtain ⟨rfl,rfl⟩:=e
     have:=h3 rfl
     omega
   obtain ⟨h1,rfl⟩:=h0
   obtain rfl:ds=[]:=List.eq_nil_of_length_eq_zero h1
   exact (clnD_nil w).mono fun e w' ⟨h1,h2⟩=>⟨_,h1,h2,none,0,rfl,Own.nil _ _ _,fun k hk=>by simp [Value.ownBlock] at hk⟩
theorem clnD_c {ds:List DD} {s:Value} {w:World} (hl:ds.length≤1000) (hr:RdD w s ds):Calls Tryz.prog 52 #[s] w fun e w'=>∃ v,e=.returned v∧(∃ ao cap,v=.slice ao ds.length cap∧w.grownBy w' none∧Own w' 23 32 (.slice ao ds.length cap) ds.length (ds.flatMap dcs)∧∀ k,fpS (.slice ao ds.length cap) k→w.heap.size≤k):=
 (clnD_walk hl hr).mono fun e w' ⟨v,h1,h2,ao,cap,h3,h4,h5⟩=>⟨v,h1,ao,cap,h3,h2,h4,h5⟩
theorem vhead_B {w:World} {ds:List DD} {ao:Option Addr} {cap:Nat} {joint addr:Int} {b:Bool} (hr:RdD w (.slice ao ds.length cap) ds) (hb:hd (ds.map DD.x) joint addr=b):Calls Tryz.prog 50 #[.slice ao ds.length cap,.int .i64 joint,.int .i64 addr] w fun e w'=>e=.returned (.bool b)∧w.grownBy w' none:=hb▸vhead_walk ds ao cap joint addr w hr
theorem hd_of {own:List (List Nat)} {joint addr:Int} (h:hd own joint addr=true):(0≤addr∧addr < 17179869184)∧(joint=0∨joint=1)∧own.length≤16∧asc own=true:=by
 unfold hd at h
 simp only [Bool.and_eq_true,Bool.or_eq_true,decide_eq_true_eq] at h
 exact ⟨isAddr_yes h.1.1.1,h.1.1.2,h.1.2,h.2⟩
theorem vldS_hd {s:Sd} (h:hd s.own s.joint s.addr=false):vldS s=false:=by unfold vldS;rw [h];rfl
theorem vldS_body {s:Sd} (h:64 < s.body.length):vldS s=false:=by
 have:decide (s.body.length≤64)=false:=decide_eq_false (by omega)
 unfold vldS;rw [this];simp
theorem vldS_wr {s:Sd} (h1:hd s.own s.joint s.addr=true) (h2:s.body.length≤64) {b:Bool} (h3:(if s.joint=1 then decide (s.wr.length=s.own.length) else decide (s.wr.length=0))=b):vldS s=b:=by
 unfold vldS
 rw [h1,decide_eq_true h2,← h3]
 split <;> rfl
set_option maxRecDepth 100000 in
set_option maxHeartbeats 4000000 in
theorem valid_s (a joint:Int) (own wr:List DD) (ao wo bo:Option Addr) (ac wc bc:Nat) (body tg:List Nat) (htg:Dg tg) (w:World) (ho:RdD w (.slice ao own.length ac) own) (hw:RdD w (.slice wo wr.length wc) wr) (hb:SlB w 1 (.slice bo body.length bc) body.length (bv body)) :
   Calls Tryz.prog 27 #[sdval a (.slice ao own.length ac) joint (.slice wo wr.length wc) (.slice bo body.length bc) tg] w fun e w'=>e=.returned (.bool (vldS ⟨a,own.map DD.x,joint,wr.map DD.x,body,tg⟩))∧w.grownBy w' none:=by
 refine cx_enterD Tryz.func27 rfl Tryz.ntmps27 rfl fun a0 sv0=>?_
 have HG:=World.grownBy.refl w none
 replace sv0:Sv 31 [] [(0,sdval a (.slice ao own.length ac) joint (.slice wo wr.length wc) (.slice bo body.length bc) tg)] a0:=sv0
 refine wp_seq_k fun K1 k1=>?_
 refine wp_region_lit ?_
 refine tl_box sv0 rfl rfl rfl rfl rfl rfl (tySd _ _ htg (.slice ao own.length ac) (.slice wo wr.length wc) (.slice bo body.length bc) rfl rfl rfl) fun a2 w2 B1_2 eq_B1_2 g2 z2 HB1_2 sv2=>?_
 have lo_B1_2:=nb_lo HG eq_B1_2
 have ap_ho_B1_2:=nb_ap (ho.lt) eq_B1_2
 have ap_hw_B1_2:=nb_ap (hw.lt) eq_B1_2
 have ap_hb_B1_2:=nb_ap (hb.lt) eq_B1_2
 replace ho:=ho.kn g2
 replace hw:=hw.kn g2
 replace hb:=hb.kn g2
 replace HG:=grown_trans HG g2
 refine tl_as (v:=.bool false) sv2 r6 fun a3 sv3=>?_
 refine tl_nil ?_
 refine k1 _ _ ?_
 refine wp_seq_k fun K4 k4=>?_
 refine wp_region_lit ?_
 refine tl_defer sv3 rfl (dd:={ target:=.fn (.func 69) #[],args:=#[] }) rfl (by simp [execOp,resolve,Deferred.ofValue];try rfl) fun a5 sv5=>?_
 refine tl_nil ?_
 refine k4 _ _ ?_
 refine wp_seq_k fun K6 k6=>?_
 refine wp_seq_k fun K7 k7=>?_
 rcases (show hd (own.map DD.x) joint a=false∨(hd (own.map DD.x) joint a=true∧64 < body.length)∨(hd (own.map DD.x) joint a=true∧body.length≤64) by cases hd (own.map DD.x) joint a <;> simp <;> omega) with hh | ⟨hh,hbl⟩ | ⟨hh,hbl⟩
 · refine wp_region_lit ?_
   refine sx_hv sv5 14 [(3,pk B1_2 1),(4,.slice ao own.length ac),(5,pk B1_2 2),(6,.int .i64 joint),(7,pt B1_2),(8,.int .i64 a),(9,.bool false),(10,.bool true),(11,.bool true),(12,undef),(13,undef),(14,undef),(15,undef),(16,.bool true)]
     ⟨yf r6 (fun _=>by kernel_rfl),yp (i:=1) r6 (tyDs (.slice ao own.length ac) rfl) HB1_2 rfl rfl,yf r6 (fun _=>by kernel_rfl),yp (i:=2) r6 (tyInt' joint) HB1_2 rfl rfl,yf r6 (fun _=>by kernel_rfl),yp (i:=0) r6 (tyInt64 a) HB1_2 rfl rfl,ox_call (Sp.is (.bool false)) [.slice ao own.length ac,.int .i64 joint,.int .i64 a] rfl rfl trivial ⟨(oy rfl rfl),(oy rfl rfl),(oy rfl rfl),trivial⟩ (is_on fun W g=>vhead_B (ho.kn g) hh) (fun _ _ h=>h) (enter_of Tryz.func50 (by kernel_rfl) rfl),ox_un rfl rfl trivial (oy rfl rfl) (fun _=>rn_not) (fun _=>rfl),ym r5,ox_off (gn rfl rfl rfl) rfl (fun _=>rfl),ox_off (gn rfl rfl rfl) rfl (fun _=>rfl),ox_off (gn rfl rfl rfl) rfl (fun _=>rfl),ox_off (gn rfl rfl rfl) rfl (fun _=>rfl),ox_pick rfl rfl trivial (oy rfl rfl) rfl (fun _=>rfl),trivial⟩ fun a8 w8 g8 sv8=>?_
   refine tl_nil ?_
   refine k7 _ _ ?_
   refine cx_ifT sv8 rfl rfl ?_
   refine wp_seq_k fun K9 k9=>?_
   refine wp_region_lit ?_
   refine tl_as (v:=.bool false) sv8 r6 fun a10 sv10=>?_
   refine tl_nil ?_
   refine k9 _ _ ?_
   replace HB1_2:=rw_kn g8 HB1_2
   replace ho:=ho.kn g8
   replace hw:=hw.kn g8
   replace hb:=hb.kn g8
   replace HG:=grown_trans HG g8
   refine wp_ret ?_
   repeat refine then_ret ?_
   refine cx_retD (fn:=Tryz.f27) sv10 (res_tmp (p:=2) Tryz.results27 sv10 rfl rfl) (inv_of Tryz.func69 (by kernel_rfl) rfl _ _) (recValidS_walk _) ?_
   exact ⟨retB ((vldS_hd (s:=⟨a,own.map DD.x,joint,wr.map DD.x,body,tg⟩) hh).symm),HG⟩
 · refine wp_region_lit ?_
   refine sx_hv sv5 14 [(3,pk B1_2 1),(4,.slice ao own.length ac),(5,pk B1_2 2),(6,.int .i64 joint),(7,pt B1_2),(8,.int .i64 a),(9,.bool true),(10,.bool false),(11,.bool false),(12,pk B1_2 4),(13,.slice bo body.length bc),(14,.int .i64 ((body.length:Nat))),(15,.bool true),(16,.bool true)]
     ⟨yf r6 (fun _=>by kernel_rfl),yp (i:=1) r6 (tyDs (.slice ao own.length ac) rfl) HB1_2 rfl rfl,yf r6 (fun _=>by kernel_rfl),yp (i:=2) r6 (tyInt' joint) HB1_2 rfl rfl,yf r6 (fun _=>by kernel_rfl),yp (i:=0) r6 (tyInt64 a) HB1_2 rfl rfl,ox_call (Sp.is (.bool true)) [.slice ao own.length ac,.int .i64 joint,.int .i64 a] rfl rfl trivial ⟨(oy rfl rfl),(oy rfl rfl),(oy rfl rfl),trivial⟩ (is_on fun W g=>vhead_B (ho.kn g) hh) (fun _ _ h=>h) (enter_of Tryz.func50 (by kernel_rfl) rfl),ox_un rfl rfl trivial (oy rfl rfl) (fun _=>rn_not) (fun _=>rfl),ym r5,ox_field rfl rfl (gy rfl rfl rfl) (oy rfl rfl) (fun _=>by kernel_rfl) (fun _=>rfl),ox_load rfl rfl (gy rfl rfl rfl) (oy rfl rfl) (fun _ g=>loadsAt (tyBys (.slice bo body.length bc) rfl) (range_part (L:=[[.int .i64 a],[.slice ao own.length ac],[.int .i64 joint],[.slice wo wr.length wc],[.slice bo body.length bc],bv tg]) (i:=4) (row_of g HB1_2 (by simp)) rfl rfl)) (fun _=>rfl),ox_len (Tryz.underlying29) rfl rfl (gy rfl rfl rfl) (oy rfl rfl) (fun _=>rfl),ox_bin rfl rfl (gy rfl rfl rfl) (oy rfl rfl) rfl (fun _=>rn_gtr (by simp;omega)) (fun _=>rfl),ox_pick rfl rfl trivial (oy rfl rfl) (oy rfl rfl) (fun _=>rfl),trivial⟩ fun a11 w11 g11 sv11=>?_
   refine tl_nil ?_
   refine k7 _ _ ?_
   refine cx_ifT sv11 rfl rfl ?_
   refine wp_seq_k fun K12 k12=>?_
   refine wp_region_lit ?_
   refine tl_as (v:=.bool false) sv11 r6 fun a13 sv13=>?_
   refine tl_nil ?_
   refine k12 _ _ ?_
   replace HB1_2:=rw_kn g11 HB1_2
   replace ho:=ho.kn g11
   replace hw:=hw.kn g11
   replace hb:=hb.kn g11
   replace HG:=grown_trans HG g11
   refine wp_ret ?_
   repeat refine then_ret ?_
   refine cx_retD (fn:=Tryz.f27) sv13 (res_tmp (p:=2) Tryz.results27 sv13 rfl rfl) (inv_of Tryz.func69 (by kernel_rfl) rfl _ _) (recValidS_walk _) ?_
   exact ⟨retB ((vldS_body (s:=⟨a,own.map DD.x,joint,wr.map DD.x,body,tg⟩) hbl).symm),HG⟩
 · refine wp_region_lit ?_
   refine sx_hv sv5 14 [(3,pk B1_2 1),(4,.slice ao own.length ac),(5,pk B1_2 2),(6,.int .i64 joint),(7,pt B1_2),(8,.int .i64 a),(9,.bool true),(10,.bool false),(11,.bool false),(12,pk B1_2 4),(13,.slice bo body.length bc),(14,.int .i64 ((body.length:Nat))),(15,.bool false),(16,.bool false)]
     ⟨yf r6 (fun _=>by kernel_rfl),yp (i:=1) r6 (tyDs (.slice ao own.length ac) rfl) HB1_2 rfl rfl,yf r6 (fun _=>by kernel_rfl),yp (i:=2) r6 (tyInt' joint) HB1_2 rfl rfl,yf r6 (fun _=>by kernel_rfl),yp (i:=0) r6 (tyInt64 a) HB1_2 rfl rfl,ox_call (Sp.is (.bool true)) [.slice ao own.length ac,.int .i64 joint,.int .i64 a] rfl rfl trivial ⟨(oy rfl rfl),(oy rfl rfl),(oy rfl rfl),trivial⟩ (is_on fun W g=>vhead_B (ho.kn g) hh) (fun _ _ h=>h) (enter_of Tryz.func50 (by kernel_rfl) rfl),ox_un rfl rfl trivial (oy rfl rfl) (fun _=>rn_not) (fun _=>rfl),ym r5,ox_field rfl rfl (gy rfl rfl rfl) (oy rfl rfl) (fun _=>by kernel_rfl) (fun _=>rfl),ox_load rfl rfl (gy rfl rfl rfl) (oy rfl rfl) (fun _ g=>loadsAt (tyBys (.slice bo body.length bc) rfl) (range_part (L:=[[.int .i64 a],[.slice ao own.length ac],[.int .i64 joint],[.slice wo wr.length wc],[.slice bo body.length bc],bv tg]) (i:=4) (row_of g HB1_2 (by simp)) rfl rfl)) (fun _=>rfl),ox_len (Tryz.underlying29) rfl rfl (gy rfl rfl rfl) (oy rfl rfl) (fun _=>rfl),ox_bin rfl rfl (gy rfl rfl rfl) (oy rfl rfl) rfl (fun _=>rn_gtr (by simp;omega)) (fun _=>rfl),ox_pick rfl rfl trivial (oy rfl rfl) (oy rfl rfl) (fun _=>rfl),trivial⟩ fun a14 w14 g14 sv14=>?_
   refine tl_nil ?_
   refine k7 _ _ ?_
   refine cx_ifF sv14 rfl rfl ?_
   refine wp_skip ?_
   refine k6 _ _ ?_
   refine wp_seq_k fun K15 k15=>?_
   refine wp_seq_k fun K16 k16=>?_
   replace HB1_2:=rw_kn g14 HB1_2
   replace ho:=ho.kn g14
   replace hw:=hw.kn g14
   replace hb:=hb.kn g14
   replace HG:=grown_trans HG g14
   by_cases hj:joint=1
   · refine wp_region_lit ?_
     refine sx_hv sv14 3 [(17,pk B1_2 2),(18,.int .i64 joint),(19,.bool true)]
       ⟨yf r6 (fun _=>by kernel_rfl),yp (i:=2) r6 (tyInt' joint) HB1_2 rfl rfl,ybc r6 (fun _=>rn_eql (by simpa using hj)),trivial⟩ fun a17 w17 g17 sv17=>?_
     refine tl_nil ?_
     refine k16 _ _ ?_
     refine cx_ifT sv17 rfl rfl ?_
     refine wp_seq_k fun K18 k18=>?_
     replace HB1_2:=rw_kn g17 HB1_2
     replace ho:=ho.kn g17
     replace hw:=hw.kn g17
     replace hb:=hb.kn g17
     replace HG:=grown_trans HG g17
     by_cases hwl:wr.length=own.length
     · refine wp_region_lit ?_
       refine sx_hv sv17 7 [(20,pk B1_2 3),(21,.slice wo wr.length wc),(22,.int .i64 ((wr.length:Nat))),(23,pk B1_2 1),(24,.slice ao own.length ac),(25,.int .i64 ((own.length:Nat))),(26,.bool true)]
         ⟨yf r6 (fun _=>by kernel_rfl),yp (i:=3) r6 (tyDs (.slice wo wr.length wc) rfl) HB1_2 rfl rfl,ox_len (Tryz.underlying28) rfl rfl trivial (oy rfl rfl) (fun _=>rfl),yf r6 (fun _=>by kernel_rfl),yp (i:=1) r6 (tyDs (.slice ao own.length ac) rfl) HB1_2 rfl rfl,ox_len (Tryz.underlying28) rfl rfl trivial (oy rfl rfl) (fun _=>rfl),ybt r7 (fun _=>rn_eql (beqT (by omega))),trivial⟩ fun a19 w19 g19 sv19=>?_
       refine tl_as (v:=.bool true) sv19 r6 fun a20 sv20=>?_
       have sv21:Sv 31 [{ target:=.fn (.func 69) #[],args:=#[] }] [(2,_),(17,_),(18,_),(19,_),(3,_),(4,_),(5,_),(6,_),(7,_),(8,_),(9,_),(10,_),(11,_),(12,_),(13,_),(14,_),(15,_),(16,_),(1,_),(0,_)] a20:=sv20.dl [20,21,22,23,24,25,26]
       refine tl_nil ?_
       refine k18 _ _ ?_
       replace HB1_2:=rw_kn g19 HB1_2
       replace ho:=ho.kn g19
       replace hw:=hw.kn g19
       replace hb:=hb.kn g19
       replace HG:=grown_trans HG g19
       refine wp_ret ?_
       repeat refine then_ret ?_
       refine cx_retD (fn:=Tryz.f27) sv21 (res_tmp (p:=2) Tryz.results27 sv21 rfl rfl) (inv_of Tryz.func69 (by kernel_rfl) rfl _ _) (recValidS_walk _) ?_
       exact ⟨retB ((vldS_wr (s:=⟨a,own.map DD.x,joint,wr.map DD.x,body,tg⟩) hh hbl (b:=true) (by simp only [List.length_map];rw [if_pos hj];simp [hwl])).symm),HG⟩
     · refine wp_region_lit ?_
       refine sx_hv sv17 7 [(20,pk B1_2 3),(21,.slice wo wr.length wc),(22,.int .i64 ((wr.length:Nat))),(23,pk B1_2 1),(24,.slice ao own.length ac),(25,.int .i64 ((own.length:Nat))),(26,.bool false)]
         ⟨yf r6 (fun _=>by kernel_rfl),yp (i:=3) r6 (tyDs (.slice wo wr.length wc) rfl) HB1_2 rfl rfl,ox_len (Tryz.underlying28) rfl rfl trivial (oy rfl rfl) (fun _=>rfl),yf r6 (fun _=>by kernel_rfl),yp (i:=1) r6 (tyDs (.slice ao own.length ac) rfl) HB1_2 rfl rfl,ox_len (Tryz.underlying28) rfl rfl trivial (oy rfl rfl) (fun _=>rfl),ybt r7 (fun _=>rn_eql (beqF (by omega))),trivial⟩ fun a22 w22 g22 sv22=>?_
       refine tl_as (v:=.bool false) sv22 r6 fun a23 sv23=>?_
       have sv24:Sv 31 [{ target:=.fn (.func 69) #[],args:=#[] }] [(2,_),(17,_),(18,_),(19,_),(3,_),(4,_),(5,_),(6,_),(7,_),(8,_),(9,_),(10,_),(11,_),(12,_),(13,_),(14,_),(15,_),(16,_),(1,_),(0,_)] a23:=sv23.dl [20,21,22,23,24,25,26]
       refine tl_nil ?_
       refine k18 _ _ ?_
       replace HB1_2:=rw_kn g22 HB1_2
       replace ho:=ho.kn g22
       replace hw:=hw.kn g22
       replace hb:=hb.kn g22
       replace HG:=grown_trans HG g22
       refine wp_ret ?_
       repeat refine then_ret ?_
       refine cx_retD (fn:=Tryz.f27) sv24 (res_tmp (p:=2) Tryz.results27 sv24 rfl rfl) (inv_of Tryz.func69 (by kernel_rfl) rfl _ _) (recValidS_walk _) ?_
       exact ⟨retB ((vldS_wr (s:=⟨a,own.map DD.x,joint,wr.map DD.x,body,tg⟩) hh hbl (b:=false) (by simp only [List.length_map];rw [if_pos hj];simp [hwl])).symm),HG⟩
   · refine wp_region_lit ?_
     refine sx_hv sv14 3 [(17,pk B1_2 2),(18,.int .i64 joint),(19,.bool false)]
       ⟨yf r6 (fun _=>by kernel_rfl),yp (i:=2) r6 (tyInt' joint) HB1_2 rfl rfl,ybc r6 (fun _=>rn_eql (by simpa using hj)),trivial⟩ fun a25 w25 g25 sv25=>?_
     refine tl_nil ?_
     refine k16 _ _ ?_
     refine cx_ifF sv25 rfl rfl ?_
     refine wp_skip ?_
     refine k15 _ _ ?_
     refine wp_seq_k fun K26 k26=>?_
     replace HB1_2:=rw_kn g25 HB1_2
     replace ho:=ho.kn g25
     replace hw:=hw.kn g25
     replace hb:=hb.kn g25
     replace HG:=grown_trans HG g25
     by_cases hwl:wr.length=0
     · refine wp_region_lit ?_
       refine sx_hv sv25 4 [(27,pk B1_2 3),(28,.slice wo wr.length wc),(29,.int .i64 ((wr.length:Nat))),(30,.bool true)]
         ⟨yf r6 (fun _=>by kernel_rfl),yp (i:=3) r6 (tyDs (.slice wo wr.length wc) rfl) HB1_2 rfl rfl,ox_len (Tryz.underlying28) rfl rfl trivial (oy rfl rfl) (fun _=>rfl),ybc r6 (fun _=>rn_eql (beqT (by omega))),trivial⟩ fun a27 w27 g27 sv27=>?_
       refine tl_as (v:=.bool true) sv27 r6 fun a28 sv28=>?_
       have sv29:Sv 31 [{ target:=.fn (.func 69) #[],args:=#[] }] [(2,_),(17,_),(18,_),(19,_),(3,_),(4,_),(5,_),(6,_),(7,_),(8,_),(9,_),(10,_),(11,_),(12,_),(13,_),(14,_),(15,_),(16,_),(1,_),(0,_)] a28:=sv28.dl [27,28,29,30]
       refine tl_nil ?_
       refine k26 _ _ ?_
       replace HB1_2:=rw_kn g27 HB1_2
       replace ho:=ho.kn g27
       replace hw:=hw.kn g27
       replace hb:=hb.kn g27
       replace HG:=grown_trans HG g27
       refine wp_ret ?_
       repeat refine then_ret ?_
       refine cx_retD (fn:=Tryz.f27) sv29 (res_tmp (p:=2) Tryz.results27 sv29 rfl rfl) (inv_of Tryz.func69 (by kernel_rfl) rfl _ _) (recValidS_walk _) ?_
       exact ⟨retB ((vldS_wr (s:=⟨a,own.map DD.x,joint,wr.map DD.x,body,tg⟩) hh hbl (b:=true) (by simp only [List.length_map];rw [if_neg hj];simp [hwl])).symm),HG⟩
     · refine wp_region_lit ?_
       refine sx_hv sv25 4 [(27,pk B1_2 3),(28,.slice wo wr.length wc),(29,.int .i64 ((wr.length:Nat))),(30,.bool false)]
         ⟨yf r6 (fun _=>by kernel_rfl),yp (i:=3) r6 (tyDs (.slice wo wr.length wc) rfl) HB1_2 rfl rfl,ox_len (Tryz.underlying28) rfl rfl trivial (oy rfl rfl) (fun _=>rfl),ybc r6 (fun _=>rn_eql (beqF (by omega))),trivial⟩ fun a30 w30 g30 sv30=>?_
       refine tl_as (v:=.bool false) sv30 r6 fun a31 sv31=>?_
       have sv32:Sv 31 [{ target:=.fn (.func 69) #[],args:=#[] }] [(2,_),(17,_),(18,_),(19,_),(3,_),(4,_),(5,_),(6,_),(7,_),(8,_),(9,_),(10,_),(11,_),(12,_),(13,_),(14,_),(15,_),(16,_),(1,_),(0,_)] a31:=sv31.dl [27,28,29,30]
       refine tl_nil ?_
       refine k26 _ _ ?_
       replace HB1_2:=rw_kn g30 HB1_2
       replace ho:=ho.kn g30
       replace hw:=hw.kn g30
       replace hb:=hb.kn g30
       replace HG:=grown_trans HG g30
       refine wp_ret ?_
       repeat refine then_ret ?_
       refine cx_retD (fn:=Tryz.f27) sv32 (res_tmp (p:=2) Tryz.results27 sv32 rfl rfl) (inv_of Tryz.func69 (by kernel_rfl) rfl _ _) (recValidS_walk _) ?_
       exact ⟨retB ((vldS_wr (s:=⟨a,own.map DD.x,joint,wr.map DD.x,body,tg⟩) hh hbl (b:=false) (by simp only [List.length_map];rw [if_neg hj];simp [hwl])).symm),HG⟩
end Go.Proofs.YtbfjfnbcmojpiaaGreat
