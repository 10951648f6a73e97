import Derived.Test.YtbfjfnbcmojpiaaGreatV3
namespace Go.Proofs.YtbfjfnbcmojpiaaGreat
open Go.RowKit Go.Shelf
set_option linter.unusedSimpArgs false
set_option linter.unusedVariables false
theorem inv_of {P:Program} {f:Nat} {fn:Func} {c:Code} (hf:P.funcs[f]?=some fn) (hname:(fn.name == "runtime.NumGoroutine")=false) (hb:fn.body=some c) (cap:Array Value) (w:World) :
   (invoke (.fn (.func f) cap) #[]).run P w=.ok (.enter f cap) w:=by
 have h1:fn.name≠"runtime.NumGoroutine":=by simpa using hname
 simp [invoke,callFunc,hf,h1,hb]
set_option maxRecDepth 100000 in
theorem recNewVault_walk (w:World):CallsD Tryz.prog 65 #[] .returning w fun e u' w'=>e=.returned (.tuple #[])∧u'=.returning∧w'=w:=by
 refine callsD_of_wpS Tryz.func65 rfl fun c₀ cs hu=>?_
 apply wpS_region
 simp [wpOpsS,go_sem,recoverD,hu,Tryz.ntmps65]
 cases c₀
 simp_all [bodyPostS,results,Tryz.results65]
set_option maxRecDepth 100000 in
theorem recValidVault_walk (w:World):CallsD Tryz.prog 95 #[] .returning w fun e u' w'=>e=.returned (.tuple #[])∧u'=.returning∧w'=w:=by
 refine callsD_of_wpS Tryz.func95 rfl fun c₀ cs hu=>?_
 apply wpS_region
 simp [wpOpsS,go_sem,recoverD,hu,Tryz.ntmps95]
 cases c₀
 simp_all [bodyPostS,results,Tryz.results95]
set_option maxRecDepth 100000 in
theorem recEnsure_walk (p q:Value) (w:World):CallsD Tryz.prog 81 #[p,q] .returning w fun e u' w'=>e=.returned (.tuple #[])∧u'=.returning∧w'=w:=by
 refine callsD_of_wpS Tryz.func81 rfl fun c₀ cs hu=>?_
 apply wpS_seq
 apply wpS_region
 simp [wpOpsS,go_sem,recoverD,hu,Tryz.ntmps81,Exit.thenS]
 refine wpS_cond (t:=false) (by simp [Act.eval,Array.replicate]) ?_
 simp only [Bool.false_eq_true,if_false]
 refine wpS_of_wp (wp_skip ?_)
 cases c₀
 simp_all [bodyPostS,results,Tryz.results81]
set_option maxRecDepth 100000 in
theorem recKey_walk (p q:Value) (w:World):CallsD Tryz.prog 77 #[p,q] .returning w fun e u' w'=>e=.returned (.tuple #[])∧u'=.returning∧w'=w:=by
 refine callsD_of_wpS Tryz.func77 rfl fun c₀ cs hu=>?_
 apply wpS_seq
 apply wpS_region
 simp [wpOpsS,go_sem,recoverD,hu,Tryz.ntmps77,Exit.thenS]
 refine wpS_cond (t:=false) (by simp [Act.eval,Array.replicate]) ?_
 simp only [Bool.false_eq_true,if_false]
 refine wpS_of_wp (wp_skip ?_)
 cases c₀
 simp_all [bodyPostS,results,Tryz.results77]
theorem valid_callB {w:World} {s:Value} {l:List Nd} {b:Bool} (hb:vld l=b) (h:RdT w s l):Calls Tryz.prog 97 #[.agg #[s]] w fun e w'=>e=.returned (.bool b)∧w.grownBy w' none:=hb▸valid_call h
theorem rvalid_callB {w:World} {s:Value} {l:List Nd} {b:Bool} (hb:vld l=b) (h:RdT w s l):Calls Tryz.prog 87 #[.agg #[s]] w fun e w'=>e=.returned (.bool b)∧w.grownBy w' none:=hb▸rvalid_call h
theorem retB {a b:Bool} (h:a=b):Ending.returned (.bool a)=Ending.returned (.bool b):=by rw [h]
theorem retI {a b:Int} (h:a=b):Ending.returned (.int .i64 a)=Ending.returned (.int .i64 b):=by rw [h]
theorem RdK.kt {w:World} {v:Value} {ks:List VK} (h:RdK w v ks) {j:Nat} (hj:j < ks.length) {x:VK} (hx:ks[j]=x):RdT w x.s x.l:=h.2 x (hx▸List.getElem_mem hj)
theorem chk_i {ks:List VK} {i:Nat} {x y:VK} (hi:i < ks.length) (hp:i - 1 < ks.length) (hx:ks[i]=x) (hy:ks[i - 1]=y):chk (ks.map VK.p) i=((decide (i=0) || blt y.o x.o) && vld x.l):=by
 unfold chk
 rw [od_map hi,od_map hp,tr_map hi,hx,hy]
set_option maxRecDepth 100000 in
set_option maxHeartbeats 4000000 in
theorem find_walk (ks:List VK) (ao:Option Addr) (cap:Nat) (sa po:List Nat) (hsa:Dg sa) (hpo:Dg po) (o:List Nat) (ho:Dg o) (w:World) (hr:RdK w (.slice ao ks.length cap) ks) (hs:Srt (ks.map VK.p)) (h64:ks.length≤64) :
   Calls Tryz.prog 71 #[vval sa po (.slice ao ks.length cap),dval o] w fun e w'=>e=.returned (.tuple #[.int .i64 (pos (ks.map VK.p) o),.bool (fnd (ks.map VK.p) o)])∧w.grownBy w' none:=by
 refine cx_enter Tryz.func71 rfl Tryz.ntmps71 rfl fun a0 sv0=>?_
 have HG:=World.grownBy.refl w none
 replace sv0:Sv 12 [] [(0,vval sa po (.slice ao ks.length cap)),(1,dval o)] a0:=sv0
 refine wp_seq_k fun K1 k1=>?_
 refine wp_region_lit ?_
 refine tl_box sv0 rfl rfl rfl rfl rfl rfl (tyVa hsa hpo (.slice ao ks.length cap) rfl) fun a2 w2 B2_2 eq_B2_2 g2 z2 HB2_2 sv2=>?_
 have lo_B2_2:=nb_lo HG eq_B2_2
 have ap_hr_B2_2:=nb_ap (hr.lt) eq_B2_2
 replace hr:=hr.kn g2
 replace HG:=grown_trans HG g2
 refine tl_box sv2 rfl rfl rfl rfl rfl rfl (tyD o ho.1) fun a3 w3 B3_3 eq_B3_3 g3 z3 HB3_3 sv3=>?_
 have ne_B3_3_B2_2:=nb_ne HB2_2 eq_B3_3
 have lo_B3_3:=nb_lo HG eq_B3_3
 have ap_hr_B3_3:=nb_ap (hr.lt) eq_B3_3
 replace HB2_2:=rw_kn g3 HB2_2
 replace hr:=hr.kn g3
 replace HG:=grown_trans HG g3
 refine tl_as (v:=.int .i64 0) sv3 r6 fun a4 sv4=>?_
 refine tl_as (v:=.bool false) sv4 r6 fun a5 sv5=>?_
 refine tl_nil ?_
 refine k1 _ _ ?_
 refine wp_seq_k fun K6 k6=>?_
 refine wp_region_lit ?_
 refine sx_hv sv5 6 [(6,pk B2_2 64),(7,.slice ao ks.length cap),(8,dval o),(9,.tuple #[.int .i64 ((pos (ks.map VK.p) o:Int)),.bool (fnd (ks.map VK.p) o)]),(10,.int .i64 ((pos (ks.map VK.p) o:Int))),(11,.bool (fnd (ks.map VK.p) o))]
   ⟨yf r6 (fun _=>by kernel_rfl),yp (i:=2) r6 (tyKs (.slice ao ks.length cap) rfl) HB2_2 rfl (by simp [bv_length,zero32_len,hsa.1,hpo.1]),yl r6 (tyD o ho.1) HB3_3,ox_call (Sp.is (.tuple #[.int .i64 ((pos (ks.map VK.p) o:Int)),.bool (fnd (ks.map VK.p) o)])) [.slice ao ks.length cap,dval o,.func (.func 96) #[] #[]] rfl rfl trivial ⟨(oy rfl rfl),(oy rfl rfl),rfl,trivial⟩ (is_on fun W g=>bsearch_walk ks ao cap o ho W (hr.kn g) hs h64) (fun _ _ h=>h) (enter_of Tryz.func113 (by kernel_rfl) rfl),ox_extract rfl rfl rfl trivial (fun _ _ h=>⟨_,_,h,rfl,rfl⟩),ox_extract rfl rfl rfl trivial (fun _ _ h=>⟨_,_,h,rfl,rfl⟩),trivial⟩ fun a7 w7 g7 sv7=>?_
 refine tl_as (v:=.int .i64 ((pos (ks.map VK.p) o:Int))) sv7 r6 fun a8 sv8=>?_
 refine tl_as (v:=.bool (fnd (ks.map VK.p) o)) sv8 r6 fun a9 sv9=>?_
 have sv10:Sv 12 [] [(5,_),(4,_),(0,_),(1,_)] a9:=sv9.dl [6,7,8,9,10,11,3,2]
 refine tl_nil ?_
 refine k6 _ _ ?_
 replace HB2_2:=rw_kn g7 HB2_2
 replace HB3_3:=rw_kn g7 HB3_3
 replace hr:=hr.kn g7
 replace HG:=grown_trans HG g7
 refine wp_ret ?_
 repeat refine then_ret ?_
 refine cx_ret (fn:=Tryz.f71) sv10 (res_tmp2 (p:=4) (q:=5) Tryz.results71 sv10 rfl rfl rfl rfl) ?_
 exact ⟨rfl,HG⟩
set_option maxRecDepth 100000 in
set_option maxHeartbeats 4000000 in
theorem at_walk (ks:List VK) (ao:Option Addr) (cap:Nat) (sa po:List Nat) (hsa:Dg sa) (hpo:Dg po) (o:List Nat) (ho:Dg o) (w:World) (hr:RdK w (.slice ao ks.length cap) ks) (hs:Srt (ks.map VK.p)) :
   Calls Tryz.prog 84 #[vval sa po (.slice ao ks.length cap),dval o] w fun e w'=>e=.returned (.int .i64 (atV (ks.map VK.p) o))∧w.grownBy w' none:=by
 have hlen:=hr.len
 have hmap:(ks.map VK.p).length=ks.length:=List.length_map _
 refine cx_enter Tryz.func84 rfl Tryz.ntmps84 rfl fun a0 sv0=>?_
 have HG:=World.grownBy.refl w none
 replace sv0:Sv 22 [] [(0,vval sa po (.slice ao ks.length cap)),(1,dval o)] a0:=sv0
 refine wp_seq_k fun K1 k1=>?_
 refine wp_region_lit ?_
 refine tl_box sv0 rfl rfl rfl rfl rfl rfl (tyVa hsa hpo (.slice ao ks.length cap) rfl) fun a2 w2 B2_2 eq_B2_2 g2 z2 HB2_2 sv2=>?_
 have lo_B2_2:=nb_lo HG eq_B2_2
 have ap_hr_B2_2:=nb_ap (hr.lt) eq_B2_2
 replace hr:=hr.kn g2
 replace HG:=grown_trans HG g2
 refine tl_box sv2 rfl rfl rfl rfl rfl rfl (tyD o ho.1) fun a3 w3 B3_3 eq_B3_3 g3 z3 HB3_3 sv3=>?_
 have ne_B3_3_B2_2:=nb_ne HB2_2 eq_B3_3
 have lo_B3_3:=nb_lo HG eq_B3_3
 have ap_hr_B3_3:=nb_ap (hr.lt) eq_B3_3
 replace HB2_2:=rw_kn g3 HB2_2
 replace hr:=hr.kn g3
 replace HG:=grown_trans HG g3
 refine tl_as (v:=.int .i64 0) sv3 r6 fun a4 sv4=>?_
 refine tl_nil ?_
 refine k1 _ _ ?_
 refine wp_seq_k fun K5 k5=>?_
 refine wp_seq_k fun K6 k6=>?_
 refine wp_region_lit ?_
 refine tl_as (v:=.int .i64 0) sv4 r6 fun a7 sv7=>?_
 refine tl_nil ?_
 refine k6 _ _ ?_
 refine cx_block fun Q8 x8 y8 r8 o8=>?_
 refine wp_loop (fun a w'=>∃ (i:Nat),(i≤ks.length)∧(∀ k,k < i→od (ks.map VK.p) k≠o)∧Sv 22 [] [(5,.int .i64 ((i:Int))),(3,pt B3_3),(2,pt B2_2),(0,vval sa po (.slice ao ks.length cap)),(1,dval o)] a∧w.grownBy w' none∧w'.heap[B2_2]?=some (.cells ([bv sa,bv po,[.slice ao ks.length cap]].flatten).toArray 36 (0,0))∧w'.heap[B3_3]?=some (.cells (bv o).toArray 23 (0,0))∧RdK w' (.slice ao ks.length cap) ks) (fun a _=>(ks.length - intOf (a.tmps.getD 5 undef)).toNat) ⟨0,Nat.zero_le _,fun k hk=>by omega,⟨sv7.1,sv7.2.1,sv7.2.2.1,sv7.2.2.2.2.1,sv7.2.2.2.2.2.1,sv7.2.2.2.2.2.2.1,sv7.2.2.2.2.2.2.2.1,trivial⟩,HG,HB2_2,HB3_3,hr⟩ fun a9 w9 hI9=>?_
 clear HB2_2
 clear HB3_3
 clear hr
 clear HG
 obtain ⟨i,hin,hb,sv9,HG,HB2_2,HB3_3,hr⟩:=hI9
 refine wp_seq_k fun K10 k10=>?_
 refine wp_seq_k fun K11 k11=>?_
 by_cases hi:i < ks.length
 · obtain ⟨x,hx_x⟩:∃ x,ks[i]'hi=x:=⟨_,rfl⟩
   have hod:od (ks.map VK.p) i=x.o:=by rw [od_map hi,hx_x]
   refine wp_region_lit ?_
   refine sx_hv sv9 5 [(6,.int .i64 ((i:Int))),(7,pk B2_2 64),(8,.slice ao ks.length cap),(9,.int .i64 ((ks.length:Nat))),(10,.bool true)]
     ⟨ym r5,yf r6 (fun _=>by kernel_rfl),yp (i:=2) r6 (tyKs (.slice ao ks.length cap) rfl) HB2_2 rfl (by simp [bv_length,zero32_len,hsa.1,hpo.1]),ox_len (Tryz.underlying34) rfl rfl trivial (oy rfl rfl) (fun _=>rfl),ybt r7 (fun _=>rn_lss (by simp;omega)),trivial⟩ fun a12 w12 g12 sv12=>?_
   refine tl_nil ?_
   refine k11 _ _ ?_
   refine cx_ifT sv12 rfl rfl ?_
   refine wp_skip ?_
   refine k10 _ _ ?_
   refine wp_seq_k fun K13 k13=>?_
   refine cx_block fun Q14 x14 y14 r14 o14=>?_
   refine wp_seq_k fun K15 k15=>?_
   replace HB2_2:=rw_kn g12 HB2_2
   replace HB3_3:=rw_kn g12 HB3_3
   replace hr:=hr.kn g12
   replace HG:=grown_trans HG g12
   by_cases heq:x.o=o
   · have hyes:=fnd_yes hs (by omega) (hod.trans heq)
     refine rx_av sv12 [(13,pk B2_2 64),(14,.slice ao ks.length cap),(15,.int .i64 ((i:Int))),(16,pk ((bO ao)) (oO ao+i * 33)),(17,pk ((bO ao)) (oO ao+i * 33)),(18,dval x.o),(19,dval o),(20,.bool true)]
       ⟨yf r6 (fun _=>by kernel_rfl),yp (i:=2) r6 (tyKs (.slice ao ks.length cap) rfl) HB2_2 rfl (by simp [bv_length,zero32_len,hsa.1,hpo.1]),ym r5,ox_index rfl rfl trivial (oy rfl rfl) (oy rfl rfl) (fun w=>ix_sl Tryz.underlying34 (by kernel_rfl) (hr.1.1) (by omega) (rfl) w) (fun _=>rfl),yf r6 (fun _=>by kernel_rfl),ox_load rfl rfl trivial (oy rfl rfl) (fun _ g=>loadsAt (tyD x.o x.ho.1) (RdK.ownerX (hr.kn g) rfl hi hx_x)) (fun _=>rfl),yl r6 (tyD o ho.1) HB3_3,ybt r7 (fun _=>(dig_eqb x.ho ho _ _ _).1.trans (by rw [decide_eq_true (heq)])),trivial⟩ fun a16 w16 g16 sv16=>?_
     refine k15 _ _ ?_
     refine cx_ifT sv16 rfl rfl ?_
     refine wp_seq_k fun K17 k17=>?_
     refine wp_region_lit ?_
     refine sx_hv sv16 1 [(21,.int .i64 ((i:Int)))]
       ⟨ym r5,trivial⟩ fun a18 w18 g18 sv18=>?_
     have gc18:=grown_trans g16 g18
     refine tl_as (v:=.int .i64 ((i:Int))) sv18 r6 fun a19 sv19=>?_
     refine tl_nil ?_
     refine k17 _ _ ?_
     replace HB2_2:=rw_kn gc18 HB2_2
     replace HB3_3:=rw_kn gc18 HB3_3
     replace hr:=hr.kn gc18
     replace HG:=grown_trans HG gc18
     refine wp_ret ?_
     repeat refine then_ret ?_
     refine r14 _ _ ?_
     repeat refine then_ret ?_
     refine r8 _ _ ?_
     repeat refine then_ret ?_
     refine cx_ret (fn:=Tryz.f84) sv19 (res_tmp (p:=4) Tryz.results84 sv19 rfl rfl) ?_
     exact ⟨retI (by unfold atV;rw [hyes.1,hyes.2];rfl),HG⟩
   · have hne:=heq
     refine rx_av sv12 [(13,pk B2_2 64),(14,.slice ao ks.length cap),(15,.int .i64 ((i:Int))),(16,pk ((bO ao)) (oO ao+i * 33)),(17,pk ((bO ao)) (oO ao+i * 33)),(18,dval x.o),(19,dval o),(20,.bool false)]
       ⟨yf r6 (fun _=>by kernel_rfl),yp (i:=2) r6 (tyKs (.slice ao ks.length cap) rfl) HB2_2 rfl (by simp [bv_length,zero32_len,hsa.1,hpo.1]),ym r5,ox_index rfl rfl trivial (oy rfl rfl) (oy rfl rfl) (fun w=>ix_sl Tryz.underlying34 (by kernel_rfl) (hr.1.1) (by omega) (rfl) w) (fun _=>rfl),yf r6 (fun _=>by kernel_rfl),ox_load rfl rfl trivial (oy rfl rfl) (fun _ g=>loadsAt (tyD x.o x.ho.1) (RdK.ownerX (hr.kn g) rfl hi hx_x)) (fun _=>rfl),yl r6 (tyD o ho.1) HB3_3,ybt r7 (fun _=>(dig_eqb x.ho ho _ _ _).1.trans (by rw [decide_eq_false (heq)])),trivial⟩ fun a20 w20 g20 sv20=>?_
     refine k15 _ _ ?_
     refine cx_ifF sv20 rfl rfl ?_
     refine wp_skip ?_
     refine y14 _ _ ?_
     refine k13 _ _ ?_
     refine wp_region_lit ?_
     refine sx_hv sv20 2 [(11,.int .i64 ((i:Int))),(12,.int .i64 (((i+1:Nat):Int)))]
       ⟨ym r5,ybc r6 (fun _=>rn_add (by rw [wrap_i64 (by omega) (by omega)];omega)),trivial⟩ fun a21 w21 g21 sv21=>?_
     have gc21:=grown_trans g20 g21
     refine tl_as (v:=.int .i64 (((i+1:Nat):Int))) sv21 r6 fun a22 sv22=>?_
     refine tl_nil ?_
     replace HB2_2:=rw_kn gc21 HB2_2
     replace HB3_3:=rw_kn gc21 HB3_3
     replace hr:=hr.kn gc21
     replace HG:=grown_trans HG gc21
     exact ⟨⟨i+1,by omega,fun k hk=>if e:k=i then (by rw [e,hod];exact hne) else hb k (by omega),⟨sv22.1,sv22.2.1,sv22.2.2.1,sv22.2.2.2.2.2.2.2.2.2.2.2.2.2.2.2.2.2.2.1,sv22.2.2.2.2.2.2.2.2.2.2.2.2.2.2.2.2.2.2.2.1,sv22.2.2.2.2.2.2.2.2.2.2.2.2.2.2.2.2.2.2.2.2.1,sv22.2.2.2.2.2.2.2.2.2.2.2.2.2.2.2.2.2.2.2.2.2.1,trivial⟩,HG,HB2_2,HB3_3,hr⟩,by rw [show _=_ from sv22.2.2.1,show _=_ from sv9.2.2.1];simp [intOf];omega⟩
 · have hno:fnd (ks.map VK.p) o=false:=fnd_no fun k hk=>hb k (by omega)
   refine wp_region_lit ?_
   refine sx_hv sv9 5 [(6,.int .i64 ((i:Int))),(7,pk B2_2 64),(8,.slice ao ks.length cap),(9,.int .i64 ((ks.length:Nat))),(10,.bool false)]
     ⟨ym r5,yf r6 (fun _=>by kernel_rfl),yp (i:=2) r6 (tyKs (.slice ao ks.length cap) rfl) HB2_2 rfl (by simp [bv_length,zero32_len,hsa.1,hpo.1]),ox_len (Tryz.underlying34) rfl rfl trivial (oy rfl rfl) (fun _=>rfl),ybt r7 (fun _=>rn_lss (by simp;omega)),trivial⟩ fun a23 w23 g23 sv23=>?_
   refine tl_nil ?_
   refine k11 _ _ ?_
   refine cx_ifF sv23 rfl rfl ?_
   refine wp_exit ?_
   repeat refine then_exit ?_
   refine x8 _ _ ?_
   refine k5 _ _ ?_
   refine wp_seq_k fun K24 k24=>?_
   refine wp_region_lit ?_
   refine tl_as (v:=.int .i64 (-1)) sv23 r6 fun a25 sv25=>?_
   refine tl_nil ?_
   refine k24 _ _ ?_
   replace HB2_2:=rw_kn g23 HB2_2
   replace HB3_3:=rw_kn g23 HB3_3
   replace hr:=hr.kn g23
   replace HG:=grown_trans HG g23
   refine wp_ret ?_
   repeat refine then_ret ?_
   refine cx_ret (fn:=Tryz.f84) sv25 (res_tmp (p:=4) Tryz.results84 sv25 rfl rfl) ?_
   exact ⟨retI (by unfold atV;rw [hno];rfl),HG⟩
theorem less_walkB {x y:List Nat} {b:Bool} (hb:blt x y=b) (hx:Dg x) (hy:Dg y) (w:World):Calls Tryz.prog 86 #[dval x,dval y] w fun e w'=>e=.returned (.bool b)∧w.grownBy w' none:=hb▸less_walk x y hx hy w
set_option maxRecDepth 100000 in
set_option maxHeartbeats 4000000 in
theorem vvalid_walk (ks:List VK) (ao:Option Addr) (cap:Nat) (sa po:List Nat) (hsa:Dg sa) (hpo:Dg po) (w:World) (hr:RdK w (.slice ao ks.length cap) ks) :
   Calls Tryz.prog 51 #[vval sa po (.slice ao ks.length cap)] w fun e w'=>e=.returned (.bool (vldV (ks.map VK.p)))∧w.grownBy w' none:=by
 have hlen:=hr.len
 have hmap:(ks.map VK.p).length=ks.length:=List.length_map _
 refine cx_enterD Tryz.func51 rfl Tryz.ntmps51 rfl fun a0 sv0=>?_
 have HG:=World.grownBy.refl w none
 replace sv0:Sv 38 [] [(0,vval sa po (.slice ao ks.length cap))] a0:=sv0
 refine wp_seq_k fun K1 k1=>?_
 refine wp_region_lit ?_
 refine tl_box sv0 rfl rfl rfl rfl rfl rfl (tyVa hsa hpo (.slice ao ks.length cap) rfl) fun a2 w2 B1_2 eq_B1_2 g2 z2 HB1_2 sv2=>?_
 have lo_B1_2:=nb_lo HG eq_B1_2
 have ap_hr_B1_2:=nb_ap (hr.lt) eq_B1_2
 replace hr:=hr.kn g2
 replace HG:=grown_trans HG g2
 refine tl_as (v:=.bool false) sv2 r6 fun a3 sv3=>?_
 refine tl_nil ?_
 refine k1 _ _ ?_
 refine wp_seq_k fun K4 k4=>?_
 refine wp_region_lit ?_
 refine tl_defer sv3 rfl (dd:={ target:=.fn (.func 95) #[],args:=#[] }) rfl (by simp [execOp,resolve,Deferred.ofValue];try rfl) fun a5 sv5=>?_
 refine tl_nil ?_
 refine k4 _ _ ?_
 refine wp_seq_k fun K6 k6=>?_
 refine wp_seq_k fun K7 k7=>?_
 by_cases hbig:64 < ks.length
 · refine wp_region_lit ?_
   refine sx_hv sv5 4 [(5,pk B1_2 64),(6,.slice ao ks.length cap),(7,.int .i64 ((ks.length:Nat))),(8,.bool true)]
     ⟨yf r6 (fun _=>by kernel_rfl),yp (i:=2) r6 (tyKs (.slice ao ks.length cap) rfl) HB1_2 rfl (by simp [bv_length,zero32_len,hsa.1,hpo.1]),ox_len (Tryz.underlying34) rfl rfl trivial (oy rfl rfl) (fun _=>rfl),ybc r6 (fun _=>rn_gtr (by simp;omega)),trivial⟩ fun a8 w8 g8 sv8=>?_
   refine tl_nil ?_
   refine k7 _ _ ?_
   refine cx_ifT sv8 rfl rfl ?_
   refine wp_seq_k fun K9 k9=>?_
   refine wp_region_lit ?_
   refine tl_as (v:=.bool false) sv8 r6 fun a10 sv10=>?_
   refine tl_nil ?_
   refine k9 _ _ ?_
   replace HB1_2:=rw_kn g8 HB1_2
   replace hr:=hr.kn g8
   replace HG:=grown_trans HG g8
   refine wp_ret ?_
   repeat refine then_ret ?_
   refine cx_retD (fn:=Tryz.f51) sv10 (res_tmp (p:=2) Tryz.results51 sv10 rfl rfl) (inv_of Tryz.func95 (by kernel_rfl) rfl _ _) (recValidVault_walk _) ?_
   exact ⟨retB ((vldV_big (by omega)).symm),HG⟩
 · refine wp_region_lit ?_
   refine sx_hv sv5 4 [(5,pk B1_2 64),(6,.slice ao ks.length cap),(7,.int .i64 ((ks.length:Nat))),(8,.bool false)]
     ⟨yf r6 (fun _=>by kernel_rfl),yp (i:=2) r6 (tyKs (.slice ao ks.length cap) rfl) HB1_2 rfl (by simp [bv_length,zero32_len,hsa.1,hpo.1]),ox_len (Tryz.underlying34) rfl rfl trivial (oy rfl rfl) (fun _=>rfl),ybc r6 (fun _=>rn_gtr (by simp;omega)),trivial⟩ fun a11 w11 g11 sv11=>?_
   refine tl_nil ?_
   refine k7 _ _ ?_
   refine cx_ifF sv11 rfl rfl ?_
   refine wp_skip ?_
   refine k6 _ _ ?_
   refine wp_seq_k fun K12 k12=>?_
   refine wp_seq_k fun K13 k13=>?_
   refine wp_region_lit ?_
   refine sx_hv sv11 4 [(9,pk B1_2 64),(10,.slice ao ks.length cap),(11,.int .i64 ((ks.length:Nat))),(12,.int .i64 0)]
     ⟨yf r6 (fun _=>by kernel_rfl),yp (i:=2) r6 (tyKs (.slice ao ks.length cap) rfl) (rw_kn g11 HB1_2) rfl (by simp [bv_length,zero32_len,hsa.1,hpo.1]),ox_len (Tryz.underlying34) rfl rfl trivial (oy rfl rfl) (fun _=>rfl),ox_const (.inl rfl) rfl trivial (fun _=>rfl),trivial⟩ fun a14 w14 g14 sv14=>?_
   have gc14:=grown_trans g11 g14
   refine tl_nil ?_
   refine k13 _ _ ?_
   refine cx_block fun Q15 x15 y15 r15 o15=>?_
   replace HB1_2:=rw_kn gc14 HB1_2
   replace hr:=hr.kn gc14
   replace HG:=grown_trans HG gc14
   refine wp_loop (fun a w'=>∃ (i:Nat),(i≤ks.length)∧(∀ k,k < i→chk (ks.map VK.p) k=true)∧Sv 38 [{ target:=.fn (.func 95) #[],args:=#[] }] [(12,.int .i64 ((i:Int))),(9,pk B1_2 64),(10,.slice ao ks.length cap),(11,.int .i64 ((ks.length:Nat))),(5,pk B1_2 64),(6,.slice ao ks.length cap),(7,.int .i64 ((ks.length:Nat))),(8,.bool false),(1,pt B1_2),(0,vval sa po (.slice ao ks.length cap))] a∧w.grownBy w' none∧w'.heap[B1_2]?=some (.cells ([bv sa,bv po,[.slice ao ks.length cap]].flatten).toArray 36 (0,0))∧RdK w' (.slice ao ks.length cap) ks) (fun a _=>(ks.length - intOf (a.tmps.getD 12 undef)).toNat) ⟨0,Nat.zero_le _,fun k hk=>by omega,⟨sv14.1,sv14.2.1,sv14.2.2.2.2.2.1,sv14.2.2.1,sv14.2.2.2.1,sv14.2.2.2.2.1,sv14.2.2.2.2.2.2.1,sv14.2.2.2.2.2.2.2.1,sv14.2.2.2.2.2.2.2.2.1,sv14.2.2.2.2.2.2.2.2.2.1,sv14.2.2.2.2.2.2.2.2.2.2.2.1,sv14.2.2.2.2.2.2.2.2.2.2.2.2.1,trivial⟩,HG,HB1_2,hr⟩ fun a16 w16 hI16=>?_
   clear HB1_2
   clear hr
   clear HG
   obtain ⟨i,hin,hb,sv16,HG,HB1_2,hr⟩:=hI16
   refine wp_seq_k fun K17 k17=>?_
   by_cases hi:i < ks.length
   · have hp:i - 1 < ks.length:=by omega
     obtain ⟨x,hx_x⟩:∃ x,ks[i]'hi=x:=⟨_,rfl⟩
     obtain ⟨y,hx_y⟩:∃ x,ks[(i - 1)]'hp=x:=⟨_,rfl⟩
     have hchk:=chk_i hi hp hx_x hx_y
     refine wp_region_lit ?_
     refine sx_hv sv16 1 [(13,.bool true)]
       ⟨ybt r7 (fun _=>rn_lss (by simp;omega)),trivial⟩ fun a18 w18 g18 sv18=>?_
     refine tl_nil ?_
     refine k17 _ _ ?_
     refine wp_seq_k fun K19 k19=>?_
     refine cx_ifT sv18 rfl rfl ?_
     refine wp_skip ?_
     refine k19 _ _ ?_
     refine wp_seq_k fun K20 k20=>?_
     refine cx_block fun Q21 x21 y21 r21 o21=>?_
     refine wp_seq_k fun K22 k22=>?_
     refine wp_region_lit ?_
     replace HB1_2:=rw_kn g18 HB1_2
     replace hr:=hr.kn g18
     replace HG:=grown_trans HG g18
     refine sx_hv sv18 3 [(14,.int .i64 ((i:Int))),(15,pk ((bO ao)) (oO ao+i * 33)),(16,kval x)]
       ⟨ym r5,ox_index rfl rfl trivial (oy rfl rfl) (oy rfl rfl) (fun w=>ix_sl Tryz.underlying34 (by kernel_rfl) (hr.1.1) (by omega) (rfl) w) (fun _=>rfl),ox_load rfl rfl trivial (oy rfl rfl) (fun _ g=>loadsAt (tyK x) (RdK.keyX (hr.kn g) rfl hi hx_x)) (fun _=>rfl),trivial⟩ fun a23 w23 g23 sv23=>?_
     replace HB1_2:=rw_kn g23 HB1_2
     replace hr:=hr.kn g23
     replace HG:=grown_trans HG g23
     refine tl_alloc (T:=58) (Z:=([bv zero32,[.slice none 0 0]].flatten)) sv23 rfl rfl rfl (fun a w=>by kernel_rfl) fun a24 w24 B4_24 eq_B4_24 g24 z24 HB4_24 sv24=>?_
     have ne_B4_24_B1_2:=nb_ne HB1_2 eq_B4_24
     have lo_B4_24:=nb_lo HG eq_B4_24
     have ap_hr_B4_24:=nb_ap (hr.lt) eq_B4_24
     replace HB1_2:=rw_kn g24 HB1_2
     replace hr:=hr.kn g24
     replace HG:=grown_trans HG g24
     refine tl_as (v:=.int .i64 ((i:Int))) sv24 r6 fun a25 sv25=>?_
     refine tl_sw sv25 r7 (tyK x) HB4_24 (by first | rfl | simp [kcells,bv_length,zero32_len,x.ho.1]) fun w26 g26 h26=>?_
     replace HB1_2:=rw_st g26 HB1_2 (Ne.symm ne_B4_24_B1_2)
     replace hr:=hr.offR g26 (no_b ap_hr_B4_24)
     replace HG:=grown_newR HG g26 lo_B4_24
     replace HB4_24:=h26
     refine tl_nil ?_
     refine k22 _ _ ?_
     refine wp_seq_k fun K27 k27=>?_
     rcases (show (i=0∧vld x.l=true)∨(i=0∧vld x.l=false)∨(0 < i∧blt y.o x.o=true∧vld x.l=true)∨(0 < i∧blt y.o x.o=true∧vld x.l=false)∨(0 < i∧blt y.o x.o=false∧vld x.l=true)∨(0 < i∧blt y.o x.o=false∧vld x.l=false) by
         rcases Nat.eq_zero_or_pos i with h | h <;> cases h2:vld x.l <;> cases h3:blt y.o x.o <;> simp [h]) with ⟨hz,hv⟩ | ⟨hz,hv⟩ | ⟨hz,hc,hv⟩ | ⟨hz,hc,hv⟩ | ⟨hz,hc,hv⟩ | ⟨hz,hc,hv⟩
     · have hok:((decide (i=0) || blt y.o x.o) && vld x.l)=true:=by simp [hz,hv]
       refine rx_av sv25 [(17,.int .i64 ((i:Int))),(18,.bool false),(19,.bool false),(20,undef),(21,undef),(22,undef),(23,undef),(24,undef),(25,undef),(26,undef),(27,undef),(28,undef),(29,undef),(30,.bool false),(31,.bool false),(32,pk B4_24 32),(33,.agg #[VK.s x]),(34,.bool true),(35,.bool false),(36,.bool false)]
         ⟨ym r5,ybc r6 (fun _=>rn_gtr (by simp;omega)),ym r5,ox_off (gn rfl rfl rfl) rfl (fun _=>rfl),ox_off (gn rfl rfl rfl) rfl (fun _=>rfl),ox_off (gn rfl rfl rfl) rfl (fun _=>rfl),ox_off (gn rfl rfl rfl) rfl (fun _=>rfl),ox_off (gn rfl rfl rfl) rfl (fun _=>rfl),ox_off (gn rfl rfl rfl) rfl (fun _=>rfl),ox_off (gn rfl rfl rfl) rfl (fun _=>rfl),ox_off (gn rfl rfl rfl) rfl (fun _=>rfl),ox_off (gn rfl rfl rfl) rfl (fun _=>rfl),ox_off (gn rfl rfl rfl) rfl (fun _=>rfl),ox_pick rfl rfl trivial (oy rfl rfl) rfl (fun _=>rfl),ym r5,ox_field rfl rfl (gy rfl rfl rfl) (oy rfl rfl) (fun _=>by kernel_rfl) (fun _=>rfl),ox_load rfl rfl (gy rfl rfl rfl) (oy rfl rfl) (fun _ g=>loadsAt (tyT (VK.s x) rfl) (range_part (L:=[bv x.o,[VK.s x]]) (i:=1) (row_of g HB4_24 (by simp)) rfl (by simp [bv_length,zero32_len,x.ho.1]))) (fun _=>rfl),ox_call (Sp.is (.bool true)) [.agg #[VK.s x]] rfl rfl (gy rfl rfl rfl) ⟨(oy rfl rfl),trivial⟩ (is_on fun W g=>valid_callB hv ((hr.kn g).kt hi hx_x)) (fun _ _ h=>h) (enter_of Tryz.func97 (by kernel_rfl) rfl),ox_un rfl rfl (gy rfl rfl rfl) (oy rfl rfl) (fun _=>rn_not) (fun _=>rfl),ox_pick rfl rfl trivial (oy rfl rfl) (oy rfl rfl) (fun _=>rfl),trivial⟩ fun a28 w28 g28 sv28=>?_
       refine k27 _ _ ?_
       refine cx_ifF sv28 rfl rfl ?_
       refine wp_skip ?_
       refine y21 _ _ ?_
       refine k20 _ _ ?_
       refine wp_region_lit ?_
       refine sx_hv sv28 1 [(37,.int .i64 (((i+1:Nat):Int)))]
         ⟨ybc r6 (fun _=>rn_add (by rw [wrap_i64 (by omega) (by omega)];omega)),trivial⟩ fun a29 w29 g29 sv29=>?_
       have gc29:=grown_trans g28 g29
       refine sx_hv (sv29.dl [12]) 1 [(12,.int .i64 (((i+1:Nat):Int)))]
         ⟨ym r5,trivial⟩ fun a30 w30 g30 sv30=>?_
       have gc30:=grown_trans gc29 g30
       refine tl_nil ?_
       replace HB1_2:=rw_kn gc30 HB1_2
       replace HB4_24:=rw_kn gc30 HB4_24
       replace hr:=hr.kn gc30
       replace HG:=grown_trans HG gc30
       exact ⟨⟨i+1,by omega,fun k hk=>if e:k=i then (by rw [e,hchk];exact hok) else hb k (by omega),⟨sv30.1,sv30.2.1,sv30.2.2.1,sv30.2.2.2.2.2.2.2.2.2.2.2.2.2.2.2.2.2.2.2.2.2.2.2.2.2.2.2.2.2.2.1,sv30.2.2.2.2.2.2.2.2.2.2.2.2.2.2.2.2.2.2.2.2.2.2.2.2.2.2.2.2.2.2.2.1,sv30.2.2.2.2.2.2.2.2.2.2.2.2.2.2.2.2.2.2.2.2.2.2.2.2.2.2.2.2.2.2.2.2.1,sv30.2.2.2.2.2.2.2.2.2.2.2.2.2.2.2.2.2.2.2.2.2.2.2.2.2.2.2.2.2.2.2.2.2.1,sv30.2.2.2.2.2.2.2.2.2.2.2.2.2.2.2.2.2.2.2.2.2.2.2.2.2.2.2.2.2.2.2.2.2.2.1,sv30.2.2.2.2.2.2.2.2.2.2.2.2.2.2.2.2.2.2.2.2.2.2.2.2.2.2.2.2.2.2.2.2.2.2.2.1,sv30.2.2.2.2.2.2.2.2.2.2.2.2.2.2.2.2.2.2.2.2.2.2.2.2.2.2.2.2.2.2.2.2.2.2.2.2.1,sv30.2.2.2.2.2.2.2.2.2.2.2.2.2.2.2.2.2.2.2.2.2.2.2.2.2.2.2.2.2.2.2.2.2.2.2.2.2.1,sv30.2.2.2.2.2.2.2.2.2.2.2.2.2.2.2.2.2.2.2.2.2.2.2.2.2.2.2.2.2.2.2.2.2.2.2.2.2.2.1,trivial⟩,HG,HB1_2,hr⟩,by rw [show _=_ from sv30.2.2.1,show _=_ from sv16.2.2.1];simp [intOf];omega⟩
     · refine rx_av sv25 [(17,.int .i64 ((i:Int))),(18,.bool false),(19,.bool false),(20,undef),(21,undef),(22,undef),(23,undef),(24,undef),(25,undef),(26,undef),(27,undef),(28,undef),(29,undef),(30,.bool false),(31,.bool false),(32,pk B4_24 32),(33,.agg #[VK.s x]),(34,.bool false),(35,.bool true),(36,.bool true)]
         ⟨ym r5,ybc r6 (fun _=>rn_gtr (by simp;omega)),ym r5,ox_off (gn rfl rfl rfl) rfl (fun _=>rfl),ox_off (gn rfl rfl rfl) rfl (fun _=>rfl),ox_off (gn rfl rfl rfl) rfl (fun _=>rfl),ox_off (gn rfl rfl rfl) rfl (fun _=>rfl),ox_off (gn rfl rfl rfl) rfl (fun _=>rfl),ox_off (gn rfl rfl rfl) rfl (fun _=>rfl),ox_off (gn rfl rfl rfl) rfl (fun _=>rfl),ox_off (gn rfl rfl rfl) rfl (fun _=>rfl),ox_off (gn rfl rfl rfl) rfl (fun _=>rfl),ox_off (gn rfl rfl rfl) rfl (fun _=>rfl),ox_pick rfl rfl trivial (oy rfl rfl) rfl (fun _=>rfl),ym r5,ox_field rfl rfl (gy rfl rfl rfl) (oy rfl rfl) (fun _=>by kernel_rfl) (fun _=>rfl),ox_load rfl rfl (gy rfl rfl rfl) (oy rfl rfl) (fun _ g=>loadsAt (tyT (VK.s x) rfl) (range_part (L:=[bv x.o,[VK.s x]]) (i:=1) (row_of g HB4_24 (by simp)) rfl (by simp [bv_length,zero32_len,x.ho.1]))) (fun _=>rfl),ox_call (Sp.is (.bool false)) [.agg #[VK.s x]] rfl rfl (gy rfl rfl rfl) ⟨(oy rfl rfl),trivial⟩ (is_on fun W g=>valid_callB hv ((hr.kn g).kt hi hx_x)) (fun _ _ h=>h) (enter_of Tryz.func97 (by kernel_rfl) rfl),ox_un rfl rfl (gy rfl rfl rfl) (oy rfl rfl) (fun _=>rn_not) (fun _=>rfl),ox_pick rfl rfl trivial (oy rfl rfl) (oy rfl rfl) (fun _=>rfl),trivial⟩ fun a31 w31 g31 sv31=>?_
       refine k27 _ _ ?_
       refine cx_ifT sv31 rfl rfl ?_
       refine wp_seq_k fun K32 k32=>?_
       refine wp_region_lit ?_
       refine tl_as (v:=.bool false) sv31 r6 fun a33 sv33=>?_
       refine tl_nil ?_
       refine k32 _ _ ?_
       replace HB1_2:=rw_kn g31 HB1_2
       replace HB4_24:=rw_kn g31 HB4_24
       replace hr:=hr.kn g31
       replace HG:=grown_trans HG g31
       refine wp_ret ?_
       repeat refine then_ret ?_
       refine r21 _ _ ?_
       repeat refine then_ret ?_
       refine r15 _ _ ?_
       repeat refine then_ret ?_
       refine cx_retD (fn:=Tryz.f51) sv33 (res_tmp (p:=2) Tryz.results51 sv33 rfl rfl) (inv_of Tryz.func95 (by kernel_rfl) rfl _ _) (recValidVault_walk _) ?_
       exact ⟨retB ((vldV_no (i:=i) (by rw [hmap];exact hi) (by rw [hchk];simp [hv])).symm),HG⟩
     · have hok:((decide (i=0) || blt y.o x.o) && vld x.l)=true:=by simp [hz,hv,hc]
       refine rx_av sv25 [(17,.int .i64 ((i:Int))),(18,.bool true),(19,.bool true),(20,pk B1_2 64),(21,.slice ao ks.length cap),(22,.int .i64 ((i:Int))),(23,.int .i64 (((i - 1:Nat):Int))),(24,pk ((bO ao)) (oO ao+(i - 1) * 33)),(25,kval y),(26,pt B4_24),(27,dval x.o),(28,.int .i64 ((bcmp y.o x.o))),(29,.bool false),(30,.bool false),(31,.bool false),(32,pk B4_24 32),(33,.agg #[VK.s x]),(34,.bool true),(35,.bool false),(36,.bool false)]
         ⟨ym r5,ybc r6 (fun _=>rn_gtr (by simp;omega)),ym r5,ox_field rfl rfl (gy rfl rfl rfl) (oy rfl rfl) (fun _=>by kernel_rfl) (fun _=>rfl),ox_load rfl rfl (gy rfl rfl rfl) (oy rfl rfl) (fun _ g=>loadsAt (tyKs (.slice ao ks.length cap) rfl) (range_part (L:=[bv sa,bv po,[.slice ao ks.length cap]]) (i:=2) (row_of g HB1_2 (by simp)) rfl (by simp [bv_length,zero32_len,hsa.1,hpo.1]))) (fun _=>rfl),ox_move 3 22 (.inl rfl) rfl rfl (gy rfl rfl rfl) (fun _ _ h=>h),ox_bin rfl rfl (gy rfl rfl rfl) (oy rfl rfl) rfl (fun _=>rn_sub (by rw [wrap_i64 (by omega) (by omega)];omega)) (fun _=>rfl),ox_index rfl rfl (gy rfl rfl rfl) (oy rfl rfl) (oy rfl rfl) (fun w=>ix_sl Tryz.underlying34 (by kernel_rfl) (hr.1.1) (by omega) (rfl) w) (fun _=>rfl),ox_load rfl rfl (gy rfl rfl rfl) (oy rfl rfl) (fun _ g=>loadsAt (tyK y) (RdK.keyX (hr.kn g) rfl hp hx_y)) (fun _=>rfl),ox_field rfl rfl (gy rfl rfl rfl) (oy rfl rfl) (fun _=>by kernel_rfl) (fun _=>rfl),ox_load rfl rfl (gy rfl rfl rfl) (oy rfl rfl) (fun _ g=>loadsAt (tyD x.o x.ho.1) (range_part (L:=[bv x.o,[VK.s x]]) (i:=0) (row_of g HB4_24 (by simp)) rfl rfl)) (fun _=>rfl),ox_call (Sp.is (.int .i64 ((bcmp y.o x.o)))) [kval y,dval x.o] rfl rfl (gy rfl rfl rfl) ⟨(oy rfl rfl),(oy rfl rfl),trivial⟩ (is_on fun W g=>cmpo_walk y x.o x.ho W) (fun _ _ h=>h) (enter_of Tryz.func96 (by kernel_rfl) rfl),ox_bin rfl rfl (gy rfl rfl rfl) (oy rfl rfl) rfl (fun _=>rn_geq (by rw [bcmp_ge,hc];rfl)) (fun _=>rfl),ox_pick rfl rfl trivial (oy rfl rfl) (oy rfl rfl) (fun _=>rfl),ym r5,ox_field rfl rfl (gy rfl rfl rfl) (oy rfl rfl) (fun _=>by kernel_rfl) (fun _=>rfl),ox_load rfl rfl (gy rfl rfl rfl) (oy rfl rfl) (fun _ g=>loadsAt (tyT (VK.s x) rfl) (range_part (L:=[bv x.o,[VK.s x]]) (i:=1) (row_of g HB4_24 (by simp)) rfl (by simp [bv_length,zero32_len,x.ho.1]))) (fun _=>rfl),ox_call (Sp.is (.bool true)) [.agg #[VK.s x]] rfl rfl (gy rfl rfl rfl) ⟨(oy rfl rfl),trivial⟩ (is_on fun W g=>valid_callB hv ((hr.kn g).kt hi hx_x)) (fun _ _ h=>h) (enter_of Tryz.func97 (by kernel_rfl) rfl),ox_un rfl rfl (gy rfl rfl rfl) (oy rfl rfl) (fun _=>rn_not) (fun _=>rfl),ox_pick rfl rfl trivial (oy rfl rfl) (oy rfl rfl) (fun _=>rfl),trivial⟩ fun a34 w34 g34 sv34=>?_
       refine k27 _ _ ?_
       refine cx_ifF sv34 rfl rfl ?_
       refine wp_skip ?_
       refine y21 _ _ ?_
       refine k20 _ _ ?_
       refine wp_region_lit ?_
       refine sx_hv sv34 1 [(37,.int .i64 (((i+1:Nat):Int)))]
         ⟨ybc r6 (fun _=>rn_add (by rw [wrap_i64 (by omega) (by omega)];omega)),trivial⟩ fun a35 w35 g35 sv35=>?_
       have gc35:=grown_trans g34 g35
       refine sx_hv (sv35.dl [12]) 1 [(12,.int .i64 (((i+1:Nat):Int)))]
         ⟨ym r5,trivial⟩ fun a36 w36 g36 sv36=>?_
       have gc36:=grown_trans gc35 g36
       refine tl_nil ?_
       replace HB1_2:=rw_kn gc36 HB1_2
       replace HB4_24:=rw_kn gc36 HB4_24
       replace hr:=hr.kn gc36
       replace HG:=grown_trans HG gc36
       exact ⟨⟨i+1,by omega,fun k hk=>if e:k=i then (by rw [e,hchk];exact hok) else hb k (by omega),⟨sv36.1,sv36.2.1,sv36.2.2.1,sv36.2.2.2.2.2.2.2.2.2.2.2.2.2.2.2.2.2.2.2.2.2.2.2.2.2.2.2.2.2.2.1,sv36.2.2.2.2.2.2.2.2.2.2.2.2.2.2.2.2.2.2.2.2.2.2.2.2.2.2.2.2.2.2.2.1,sv36.2.2.2.2.2.2.2.2.2.2.2.2.2.2.2.2.2.2.2.2.2.2.2.2.2.2.2.2.2.2.2.2.1,sv36.2.2.2.2.2.2.2.2.2.2.2.2.2.2.2.2.2.2.2.2.2.2.2.2.2.2.2.2.2.2.2.2.2.1,sv36.2.2.2.2.2.2.2.2.2.2.2.2.2.2.2.2.2.2.2.2.2.2.2.2.2.2.2.2.2.2.2.2.2.2.1,sv36.2.2.2.2.2.2.2.2.2.2.2.2.2.2.2.2.2.2.2.2.2.2.2.2.2.2.2.2.2.2.2.2.2.2.2.1,sv36.2.2.2.2.2.2.2.2.2.2.2.2.2.2.2.2.2.2.2.2.2.2.2.2.2.2.2.2.2.2.2.2.2.2.2.2.1,sv36.2.2.2.2.2.2.2.2.2.2.2.2.2.2.2.2.2.2.2.2.2.2.2.2.2.2.2.2.2.2.2.2.2.2.2.2.2.1,sv36.2.2.2.2.2.2.2.2.2.2.2.2.2.2.2.2.2.2.2.2.2.2.2.2.2.2.2.2.2.2.2.2.2.2.2.2.2.2.1,trivial⟩,HG,HB1_2,hr⟩,by rw [show _=_ from sv36.2.2.1,show _=_ from sv16.2.2.1];simp [intOf];omega⟩
     · refine rx_av sv25 [(17,.int .i64 ((i:Int))),(18,.bool true),(19,.bool true),(20,pk B1_2 64),(21,.slice ao ks.length cap),(22,.int .i64 ((i:Int))),(23,.int .i64 (((i - 1:Nat):Int))),(24,pk ((bO ao)) (oO ao+(i - 1) * 33)),(25,kval y),(26,pt B4_24),(27,dval x.o),(28,.int .i64 ((bcmp y.o x.o))),(29,.bool false),(30,.bool false),(31,.bool false),(32,pk B4_24 32),(33,.agg #[VK.s x]),(34,.bool false),(35,.bool true),(36,.bool true)]
         ⟨ym r5,ybc r6 (fun _=>rn_gtr (by simp;omega)),ym r5,ox_field rfl rfl (gy rfl rfl rfl) (oy rfl rfl) (fun _=>by kernel_rfl) (fun _=>rfl),ox_load rfl rfl (gy rfl rfl rfl) (oy rfl rfl) (fun _ g=>loadsAt (tyKs (.slice ao ks.length cap) rfl) (range_part (L:=[bv sa,bv po,[.slice ao ks.length cap]]) (i:=2) (row_of g HB1_2 (by simp)) rfl (by simp [bv_length,zero32_len,hsa.1,hpo.1]))) (fun _=>rfl),ox_move 3 22 (.inl rfl) rfl rfl (gy rfl rfl rfl) (fun _ _ h=>h),ox_bin rfl rfl (gy rfl rfl rfl) (oy rfl rfl) rfl (fun _=>rn_sub (by rw [wrap_i64 (by omega) (by omega)];omega)) (fun _=>rfl),ox_index rfl rfl (gy rfl rfl rfl) (oy rfl rfl) (oy rfl rfl) (fun w=>ix_sl Tryz.underlying34 (by kernel_rfl) (hr.1.1) (by omega) (rfl) w) (fun _=>rfl),ox_load rfl rfl (gy rfl rfl rfl) (oy rfl rfl) (fun _ g=>loadsAt (tyK y) (RdK.keyX (hr.kn g) rfl hp hx_y)) (fun _=>rfl),ox_field rfl rfl (gy rfl rfl rfl) (oy rfl rfl) (fun _=>by kernel_rfl) (fun _=>rfl),ox_load rfl rfl (gy rfl rfl rfl) (oy rfl rfl) (fun _ g=>loadsAt (tyD x.o x.ho.1) (range_part (L:=[bv x.o,[VK.s x]]) (i:=0) (row_of g HB4_24 (by simp)) rfl rfl)) (fun _=>rfl),ox_call (Sp.is (.int .i64 ((bcmp y.o x.o)))) [kval y,dval x.o] rfl rfl (gy rfl rfl rfl) ⟨(oy rfl rfl),(oy rfl rfl),trivial⟩ (is_on fun W g=>cmpo_walk y x.o x.ho W) (fun _ _ h=>h) (enter_of Tryz.func96 (by kernel_rfl) rfl),ox_bin rfl rfl (gy rfl rfl rfl) (oy rfl rfl) rfl (fun _=>rn_geq (by rw [bcmp_ge,hc];rfl)) (fun _=>rfl),ox_pick rfl rfl trivial (oy rfl rfl) (oy rfl rfl) (fun _=>rfl),ym r5,ox_field rfl rfl (gy rfl rfl rfl) (oy rfl rfl) (fun _=>by kernel_rfl) (fun _=>rfl),ox_load rfl rfl (gy rfl rfl rfl) (oy rfl rfl) (fun _ g=>loadsAt (tyT (VK.s x) rfl) (range_part (L:=[bv x.o,[VK.s x]]) (i:=1) (row_of g HB4_24 (by simp)) rfl (by simp [bv_length,zero32_len,x.ho.1]))) (fun _=>rfl),ox_call (Sp.is (.bool false)) [.agg #[VK.s x]] rfl rfl (gy rfl rfl rfl) ⟨(oy rfl rfl),trivial⟩ (is_on fun W g=>valid_callB hv ((hr.kn g).kt hi hx_x)) (fun _ _ h=>h) (enter_of Tryz.func97 (by kernel_rfl) rfl),ox_un rfl rfl (gy rfl rfl rfl) (oy rfl rfl) (fun _=>rn_not) (fun _=>rfl),ox_pick rfl rfl trivial (oy rfl rfl) (oy rfl rfl) (fun _=>rfl),trivial⟩ fun a37 w37 g37 sv37=>?_
       refine k27 _ _ ?_
       refine cx_ifT sv37 rfl rfl ?_
       refine wp_seq_k fun K38 k38=>?_
       refine wp_region_lit ?_
       refine tl_as (v:=.bool false) sv37 r6 fun a39 sv39=>?_
       refine tl_nil ?_
       refine k38 _ _ ?_
       replace HB1_2:=rw_kn g37 HB1_2
       replace HB4_24:=rw_kn g37 HB4_24
       replace hr:=hr.kn g37
       replace HG:=grown_trans HG g37
       refine wp_ret ?_
       repeat refine then_ret ?_
       refine r21 _ _ ?_
       repeat refine then_ret ?_
       refine r15 _ _ ?_
       repeat refine then_ret ?_
       refine cx_retD (fn:=Tryz.f51) sv39 (res_tmp (p:=2) Tryz.results51 sv39 rfl rfl) (inv_of Tryz.func95 (by kernel_rfl) rfl _ _) (recValidVault_walk _) ?_
       exact ⟨retB ((vldV_no (i:=i) (by rw [hmap];exact hi) (by rw [hchk];simp [hv,hc,Nat.ne_of_gt hz])).symm),HG⟩
     · refine rx_av sv25 [(17,.int .i64 ((i:Int))),(18,.bool true),(19,.bool true),(20,pk B1_2 64),(21,.slice ao ks.length cap),(22,.int .i64 ((i:Int))),(23,.int .i64 (((i - 1:Nat):Int))),(24,pk ((bO ao)) (oO ao+(i - 1) * 33)),(25,kval y),(26,pt B4_24),(27,dval x.o),(28,.int .i64 ((bcmp y.o x.o))),(29,.bool true),(30,.bool true),(31,.bool true),(32,undef),(33,undef),(34,undef),(35,undef),(36,.bool true)]
         ⟨ym r5,ybc r6 (fun _=>rn_gtr (by simp;omega)),ym r5,ox_field rfl rfl (gy rfl rfl rfl) (oy rfl rfl) (fun _=>by kernel_rfl) (fun _=>rfl),ox_load rfl rfl (gy rfl rfl rfl) (oy rfl rfl) (fun _ g=>loadsAt (tyKs (.slice ao ks.length cap) rfl) (range_part (L:=[bv sa,bv po,[.slice ao ks.length cap]]) (i:=2) (row_of g HB1_2 (by simp)) rfl (by simp [bv_length,zero32_len,hsa.1,hpo.1]))) (fun _=>rfl),ox_move 3 22 (.inl rfl) rfl rfl (gy rfl rfl rfl) (fun _ _ h=>h),ox_bin rfl rfl (gy rfl rfl rfl) (oy rfl rfl) rfl (fun _=>rn_sub (by rw [wrap_i64 (by omega) (by omega)];omega)) (fun _=>rfl),ox_index rfl rfl (gy rfl rfl rfl) (oy rfl rfl) (oy rfl rfl) (fun w=>ix_sl Tryz.underlying34 (by kernel_rfl) (hr.1.1) (by omega) (rfl) w) (fun _=>rfl),ox_load rfl rfl (gy rfl rfl rfl) (oy rfl rfl) (fun _ g=>loadsAt (tyK y) (RdK.keyX (hr.kn g) rfl hp hx_y)) (fun _=>rfl),ox_field rfl rfl (gy rfl rfl rfl) (oy rfl rfl) (fun _=>by kernel_rfl) (fun _=>rfl),ox_load rfl rfl (gy rfl rfl rfl) (oy rfl rfl) (fun _ g=>loadsAt (tyD x.o x.ho.1) (range_part (L:=[bv x.o,[VK.s x]]) (i:=0) (row_of g HB4_24 (by simp)) rfl rfl)) (fun _=>rfl),ox_call (Sp.is (.int .i64 ((bcmp y.o x.o)))) [kval y,dval x.o] rfl rfl (gy rfl rfl rfl) ⟨(oy rfl rfl),(oy rfl rfl),trivial⟩ (is_on fun W g=>cmpo_walk y x.o x.ho W) (fun _ _ h=>h) (enter_of Tryz.func96 (by kernel_rfl) rfl),ox_bin rfl rfl (gy rfl rfl rfl) (oy rfl rfl) rfl (fun _=>rn_geq (by rw [bcmp_ge,hc];rfl)) (fun _=>rfl),ox_pick rfl rfl trivial (oy rfl rfl) (oy rfl rfl) (fun _=>rfl),ym r5,ox_off (gn rfl rfl rfl) rfl (fun _=>rfl),ox_off (gn rfl rfl rfl) rfl (fun _=>rfl),ox_off (gn rfl rfl rfl) rfl (fun _=>rfl),ox_off (gn rfl rfl rfl) rfl (fun _=>rfl),ox_pick rfl rfl trivial (oy rfl rfl) rfl (fun _=>rfl),trivial⟩ fun a40 w40 g40 sv40=>?_
       refine k27 _ _ ?_
       refine cx_ifT sv40 rfl rfl ?_
       refine wp_seq_k fun K41 k41=>?_
       refine wp_region_lit ?_
       refine tl_as (v:=.bool false) sv40 r6 fun a42 sv42=>?_
       refine tl_nil ?_
       refine k41 _ _ ?_
       replace HB1_2:=rw_kn g40 HB1_2
       replace HB4_24:=rw_kn g40 HB4_24
       replace hr:=hr.kn g40
       replace HG:=grown_trans HG g40
       refine wp_ret ?_
       repeat refine then_ret ?_
       refine r21 _ _ ?_
       repeat refine then_ret ?_
       refine r15 _ _ ?_
       repeat refine then_ret ?_
       refine cx_retD (fn:=Tryz.f51) sv42 (res_tmp (p:=2) Tryz.results51 sv42 rfl rfl) (inv_of Tryz.func95 (by kernel_rfl) rfl _ _) (recValidVault_walk _) ?_
       exact ⟨retB ((vldV_no (i:=i) (by rw [hmap];exact hi) (by rw [hchk];simp [hv,hc,Nat.ne_of_gt hz])).symm),HG⟩
     · refine rx_av sv25 [(17,.int .i64 ((i:Int))),(18,.bool true),(19,.bool true),(20,pk B1_2 64),(21,.slice ao ks.length cap),(22,.int .i64 ((i:Int))),(23,.int .i64 (((i - 1:Nat):Int))),(24,pk ((bO ao)) (oO ao+(i - 1) * 33)),(25,kval y),(26,pt B4_24),(27,dval x.o),(28,.int .i64 ((bcmp y.o x.o))),(29,.bool true),(30,.bool true),(31,.bool true),(32,undef),(33,undef),(34,undef),(35,undef),(36,.bool true)]
         ⟨ym r5,ybc r6 (fun _=>rn_gtr (by simp;omega)),ym r5,ox_field rfl rfl (gy rfl rfl rfl) (oy rfl rfl) (fun _=>by kernel_rfl) (fun _=>rfl),ox_load rfl rfl (gy rfl rfl rfl) (oy rfl rfl) (fun _ g=>loadsAt (tyKs (.slice ao ks.length cap) rfl) (range_part (L:=[bv sa,bv po,[.slice ao ks.length cap]]) (i:=2) (row_of g HB1_2 (by simp)) rfl (by simp [bv_length,zero32_len,hsa.1,hpo.1]))) (fun _=>rfl),ox_move 3 22 (.inl rfl) rfl rfl (gy rfl rfl rfl) (fun _ _ h=>h),ox_bin rfl rfl (gy rfl rfl rfl) (oy rfl rfl) rfl (fun _=>rn_sub (by rw [wrap_i64 (by omega) (by omega)];omega)) (fun _=>rfl),ox_index rfl rfl (gy rfl rfl rfl) (oy rfl rfl) (oy rfl rfl) (fun w=>ix_sl Tryz.underlying34 (by kernel_rfl) (hr.1.1) (by omega) (rfl) w) (fun _=>rfl),ox_load rfl rfl (gy rfl rfl rfl) (oy rfl rfl) (fun _ g=>loadsAt (tyK y) (RdK.keyX (hr.kn g) rfl hp hx_y)) (fun _=>rfl),ox_field rfl rfl (gy rfl rfl rfl) (oy rfl rfl) (fun _=>by kernel_rfl) (fun _=>rfl),ox_load rfl rfl (gy rfl rfl rfl) (oy rfl rfl) (fun _ g=>loadsAt (tyD x.o x.ho.1) (range_part (L:=[bv x.o,[VK.s x]]) (i:=0) (row_of g HB4_24 (by simp)) rfl rfl)) (fun _=>rfl),ox_call (Sp.is (.int .i64 ((bcmp y.o x.o)))) [kval y,dval x.o] rfl rfl (gy rfl rfl rfl) ⟨(oy rfl rfl),(oy rfl rfl),trivial⟩ (is_on fun W g=>cmpo_walk y x.o x.ho W) (fun _ _ h=>h) (enter_of Tryz.func96 (by kernel_rfl) rfl),ox_bin rfl rfl (gy rfl rfl rfl) (oy rfl rfl) rfl (fun _=>rn_geq (by rw [bcmp_ge,hc];rfl)) (fun _=>rfl),ox_pick rfl rfl trivial (oy rfl rfl) (oy rfl rfl) (fun _=>rfl),ym r5,ox_off (gn rfl rfl rfl) rfl (fun _=>rfl),ox_off (gn rfl rfl rfl) rfl (fun _=>rfl),ox_off (gn rfl rfl rfl) rfl (fun _=>rfl),ox_off (gn rfl rfl rfl) rfl (fun _=>rfl),ox_pick rfl rfl trivial (oy rfl rfl) rfl (fun _=>rfl),trivial⟩ fun a43 w43 g43 sv43=>?_
       refine k27 _ _ ?_
       refine cx_ifT sv43 rfl rfl ?_
       refine wp_seq_k fun K44 k44=>?_
       refine wp_region_lit ?_
       refine tl_as (v:=.bool false) sv43 r6 fun a45 sv45=>?_
       refine tl_nil ?_
       refine k44 _ _ ?_
       replace HB1_2:=rw_kn g43 HB1_2
       replace HB4_24:=rw_kn g43 HB4_24
       replace hr:=hr.kn g43
       replace HG:=grown_trans HG g43
       refine wp_ret ?_
       repeat refine then_ret ?_
       refine r21 _ _ ?_
       repeat refine then_ret ?_
       refine r15 _ _ ?_
       repeat refine then_ret ?_
       refine cx_retD (fn:=Tryz.f51) sv45 (res_tmp (p:=2) Tryz.results51 sv45 rfl rfl) (inv_of Tryz.func95 (by kernel_rfl) rfl _ _) (recValidVault_walk _) ?_
       exact ⟨retB ((vldV_no (i:=i) (by rw [hmap];exact hi) (by rw [hchk];simp [hv,hc,Nat.ne_of_gt hz])).symm),HG⟩
   · refine wp_region_lit ?_
     refine sx_hv sv16 1 [(13,.bool false)]
       ⟨ybt r7 (fun _=>rn_lss (by simp;omega)),trivial⟩ fun a46 w46 g46 sv46=>?_
     refine tl_nil ?_
     refine k17 _ _ ?_
     refine wp_seq_k fun K47 k47=>?_
     refine cx_ifF sv46 rfl rfl ?_
     refine wp_exit ?_
     repeat refine then_exit ?_
     refine x15 _ _ ?_
     refine k12 _ _ ?_
     refine wp_seq_k fun K48 k48=>?_
     refine wp_region_lit ?_
     refine tl_as (v:=.bool true) sv46 r6 fun a49 sv49=>?_
     refine tl_nil ?_
     refine k48 _ _ ?_
     replace HB1_2:=rw_kn g46 HB1_2
     replace hr:=hr.kn g46
     replace HG:=grown_trans HG g46
     refine wp_ret ?_
     repeat refine then_ret ?_
     refine cx_retD (fn:=Tryz.f51) sv49 (res_tmp (p:=2) Tryz.results51 sv49 rfl rfl) (inv_of Tryz.func95 (by kernel_rfl) rfl _ _) (recValidVault_walk _) ?_
     exact ⟨retB ((vldV_yes (by omega) fun k hk=>hb k (by omega)).symm),HG⟩
set_option maxRecDepth 100000 in
set_option maxHeartbeats 4000000 in
theorem rvvalid_walk (ks:List VK) (ao:Option Addr) (cap:Nat) (sa po:List Nat) (hsa:Dg sa) (hpo:Dg po) (w:World) (hr:RdK w (.slice ao ks.length cap) ks) :
   Calls Tryz.prog 40 #[vval sa po (.slice ao ks.length cap)] w fun e w'=>e=.returned (.bool (vldV (ks.map VK.p)))∧w.grownBy w' none:=by
 have hlen:=hr.len
 have hmap:(ks.map VK.p).length=ks.length:=List.length_map _
 refine cx_enter Tryz.func40 rfl Tryz.ntmps40 rfl fun a0 sv0=>?_
 have HG:=World.grownBy.refl w none
 replace sv0:Sv 44 [] [(0,vval sa po (.slice ao ks.length cap))] a0:=sv0
 refine wp_seq_k fun K1 k1=>?_
 refine wp_region_lit ?_
 refine tl_box sv0 rfl rfl rfl rfl rfl rfl (tyVa hsa hpo (.slice ao ks.length cap) rfl) fun a2 w2 B1_2 eq_B1_2 g2 z2 HB1_2 sv2=>?_
 have lo_B1_2:=nb_lo HG eq_B1_2
 have ap_hr_B1_2:=nb_ap (hr.lt) eq_B1_2
 replace hr:=hr.kn g2
 replace HG:=grown_trans HG g2
 refine tl_as (v:=.bool false) sv2 r6 fun a3 sv3=>?_
 refine tl_nil ?_
 refine k1 _ _ ?_
 refine wp_seq_k fun K4 k4=>?_
 refine wp_seq_k fun K5 k5=>?_
 by_cases hbig:64 < ks.length
 · refine wp_region_lit ?_
   refine sx_hv sv3 4 [(4,pk B1_2 64),(5,.slice ao ks.length cap),(6,.int .i64 ((ks.length:Nat))),(7,.bool true)]
     ⟨yf r6 (fun _=>by kernel_rfl),yp (i:=2) r6 (tyKs (.slice ao ks.length cap) rfl) HB1_2 rfl (by simp [bv_length,zero32_len,hsa.1,hpo.1]),ox_len (Tryz.underlying34) rfl rfl trivial (oy rfl rfl) (fun _=>rfl),ybc r6 (fun _=>rn_gtr (by simp;omega)),trivial⟩ fun a6 w6 g6 sv6=>?_
   refine tl_nil ?_
   refine k5 _ _ ?_
   refine cx_ifT sv6 rfl rfl ?_
   refine wp_seq_k fun K7 k7=>?_
   refine wp_region_lit ?_
   refine tl_as (v:=.bool false) sv6 r6 fun a8 sv8=>?_
   refine tl_nil ?_
   refine k7 _ _ ?_
   replace HB1_2:=rw_kn g6 HB1_2
   replace hr:=hr.kn g6
   replace HG:=grown_trans HG g6
   refine wp_ret ?_
   repeat refine then_ret ?_
   refine cx_ret (fn:=Tryz.f40) sv8 (res_tmp (p:=2) Tryz.results40 sv8 rfl rfl) ?_
   exact ⟨retB ((vldV_big (by omega)).symm),HG⟩
 · refine wp_region_lit ?_
   refine sx_hv sv3 4 [(4,pk B1_2 64),(5,.slice ao ks.length cap),(6,.int .i64 ((ks.length:Nat))),(7,.bool false)]
     ⟨yf r6 (fun _=>by kernel_rfl),yp (i:=2) r6 (tyKs (.slice ao ks.length cap) rfl) HB1_2 rfl (by simp [bv_length,zero32_len,hsa.1,hpo.1]),ox_len (Tryz.underlying34) rfl rfl trivial (oy rfl rfl) (fun _=>rfl),ybc r6 (fun _=>rn_gtr (by simp;omega)),trivial⟩ fun a9 w9 g9 sv9=>?_
   refine tl_nil ?_
   refine k5 _ _ ?_
   refine cx_ifF sv9 rfl rfl ?_
   refine wp_skip ?_
   refine k4 _ _ ?_
   refine wp_seq_k fun K10 k10=>?_
   refine wp_seq_k fun K11 k11=>?_
   refine wp_region_lit ?_
   refine tl_as (v:=.int .i64 0) sv9 r6 fun a12 sv12=>?_
   refine tl_nil ?_
   refine k11 _ _ ?_
   refine cx_block fun Q13 x13 y13 r13 o13=>?_
   replace HB1_2:=rw_kn g9 HB1_2
   replace hr:=hr.kn g9
   replace HG:=grown_trans HG g9
   refine wp_loop (fun a w'=>∃ (i:Nat),(i≤ks.length)∧(∀ k,k < i→chk (ks.map VK.p) k=true)∧Sv 44 [] [(3,.int .i64 ((i:Int))),(4,pk B1_2 64),(5,.slice ao ks.length cap),(6,.int .i64 ((ks.length:Nat))),(7,.bool false),(1,pt B1_2),(0,vval sa po (.slice ao ks.length cap))] a∧w.grownBy w' none∧w'.heap[B1_2]?=some (.cells ([bv sa,bv po,[.slice ao ks.length cap]].flatten).toArray 36 (0,0))∧RdK w' (.slice ao ks.length cap) ks) (fun a _=>(ks.length - intOf (a.tmps.getD 3 undef)).toNat) ⟨0,Nat.zero_le _,fun k hk=>by omega,⟨sv12.1,sv12.2.1,sv12.2.2.1,sv12.2.2.2.1,sv12.2.2.2.2.1,sv12.2.2.2.2.2.1,sv12.2.2.2.2.2.2.1,sv12.2.2.2.2.2.2.2.2.1,sv12.2.2.2.2.2.2.2.2.2.1,trivial⟩,HG,HB1_2,hr⟩ fun a14 w14 hI14=>?_
   clear HB1_2
   clear hr
   clear HG
   obtain ⟨i,hin,hb,sv14,HG,HB1_2,hr⟩:=hI14
   refine wp_seq_k fun K15 k15=>?_
   refine wp_seq_k fun K16 k16=>?_
   by_cases hi:i < ks.length
   · have hp:i - 1 < ks.length:=by omega
     obtain ⟨x,hx_x⟩:∃ x,ks[i]'hi=x:=⟨_,rfl⟩
     obtain ⟨y,hx_y⟩:∃ x,ks[(i - 1)]'hp=x:=⟨_,rfl⟩
     have hchk:=chk_i hi hp hx_x hx_y
     refine wp_region_lit ?_
     refine sx_hv sv14 5 [(8,.int .i64 ((i:Int))),(9,pk B1_2 64),(10,.slice ao ks.length cap),(11,.int .i64 ((ks.length:Nat))),(12,.bool true)]
       ⟨ym r5,yf r6 (fun _=>by kernel_rfl),yp (i:=2) r6 (tyKs (.slice ao ks.length cap) rfl) HB1_2 rfl (by simp [bv_length,zero32_len,hsa.1,hpo.1]),ox_len (Tryz.underlying34) rfl rfl trivial (oy rfl rfl) (fun _=>rfl),ybt r7 (fun _=>rn_lss (by simp;omega)),trivial⟩ fun a17 w17 g17 sv17=>?_
     refine tl_nil ?_
     refine k16 _ _ ?_
     refine cx_ifT sv17 rfl rfl ?_
     refine wp_skip ?_
     refine k15 _ _ ?_
     refine wp_seq_k fun K18 k18=>?_
     refine cx_block fun Q19 x19 y19 r19 o19=>?_
     refine wp_seq_k fun K20 k20=>?_
     replace HB1_2:=rw_kn g17 HB1_2
     replace hr:=hr.kn g17
     replace HG:=grown_trans HG g17
     rcases (show (i=0∧vld x.l=true)∨(i=0∧vld x.l=false)∨(0 < i∧blt y.o x.o=true∧vld x.l=true)∨(0 < i∧blt y.o x.o=true∧vld x.l=false)∨(0 < i∧blt y.o x.o=false∧vld x.l=true)∨(0 < i∧blt y.o x.o=false∧vld x.l=false) by
         rcases Nat.eq_zero_or_pos i with h | h <;> cases h2:vld x.l <;> cases h3:blt y.o x.o <;> simp [h]) with ⟨hz,hv⟩ | ⟨hz,hv⟩ | ⟨hz,hc,hv⟩ | ⟨hz,hc,hv⟩ | ⟨hz,hc,hv⟩ | ⟨hz,hc,hv⟩
     · have hok:((decide (i=0) || blt y.o x.o) && vld x.l)=true:=by simp [hz,hv]
       refine rx_av sv17 [(15,pk B1_2 64),(16,.slice ao ks.length cap),(17,.int .i64 ((i:Int))),(18,pk ((bO ao)) (oO ao+i * 33)),(19,pk ((bO ao)) (oO ao+i * 33+32)),(20,.agg #[VK.s x]),(21,.bool true),(22,.bool false),(23,.bool false),(24,.int .i64 ((i:Int))),(25,.bool false),(26,.bool false),(27,undef),(28,undef),(29,undef),(30,undef),(31,undef),(32,undef),(33,undef),(34,undef),(35,undef),(36,undef),(37,undef),(38,undef),(39,undef),(40,undef),(41,undef),(42,.bool false),(43,.bool false)]
         ⟨yf r6 (fun _=>by kernel_rfl),yp (i:=2) r6 (tyKs (.slice ao ks.length cap) rfl) HB1_2 rfl (by simp [bv_length,zero32_len,hsa.1,hpo.1]),ym r5,ox_index rfl rfl trivial (oy rfl rfl) (oy rfl rfl) (fun w=>ix_sl Tryz.underlying34 (by kernel_rfl) (hr.1.1) (by omega) (rfl) w) (fun _=>rfl),yf r6 (fun _=>by kernel_rfl),ox_load rfl rfl trivial (oy rfl rfl) (fun _ g=>loadsAt (tyT (VK.s x) rfl) (RdK.treeX (hr.kn g) rfl hi hx_x)) (fun _=>rfl),ox_call (Sp.is (.bool true)) [.agg #[VK.s x]] rfl rfl trivial ⟨(oy rfl rfl),trivial⟩ (is_on fun W g=>rvalid_callB hv ((hr.kn g).kt hi hx_x)) (fun _ _ h=>h) (enter_of Tryz.func87 (by kernel_rfl) rfl),ox_un rfl rfl trivial (oy rfl rfl) (fun _=>rn_not) (fun _=>rfl),ym r5,ox_move 3 24 (.inl rfl) rfl rfl (gy rfl rfl rfl) (fun _ _ h=>h),ox_bin rfl rfl (gy rfl rfl rfl) (oy rfl rfl) rfl (fun _=>rn_gtr (by simp;omega)) (fun _=>rfl),ox_move 25 26 (.inl rfl) rfl rfl (gy rfl rfl rfl) (fun _ _ h=>h),ox_off (gn rfl rfl rfl) rfl (fun _=>rfl),ox_off (gn rfl rfl rfl) rfl (fun _=>rfl),ox_off (gn rfl rfl rfl) rfl (fun _=>rfl),ox_off (gn rfl rfl rfl) rfl (fun _=>rfl),ox_off (gn rfl rfl rfl) rfl (fun _=>rfl),ox_off (gn rfl rfl rfl) rfl (fun _=>rfl),ox_off (gn rfl rfl rfl) rfl (fun _=>rfl),ox_off (gn rfl rfl rfl) rfl (fun _=>rfl),ox_off (gn rfl rfl rfl) rfl (fun _=>rfl),ox_off (gn rfl rfl rfl) rfl (fun _=>rfl),ox_off (gn rfl rfl rfl) rfl (fun _=>rfl),ox_off (gn rfl rfl rfl) rfl (fun _=>rfl),ox_off (gn rfl rfl rfl) rfl (fun _=>rfl),ox_off (gn rfl rfl rfl) rfl (fun _=>rfl),ox_off (gn rfl rfl rfl) rfl (fun _=>rfl),ox_pick rfl rfl (gy rfl rfl rfl) (oy rfl rfl) rfl (fun _=>rfl),ox_pick rfl rfl trivial (oy rfl rfl) (oy rfl rfl) (fun _=>rfl),trivial⟩ fun a21 w21 g21 sv21=>?_
       refine k20 _ _ ?_
       refine cx_ifF sv21 rfl rfl ?_
       refine wp_skip ?_
       refine y19 _ _ ?_
       refine k18 _ _ ?_
       refine wp_region_lit ?_
       refine sx_hv sv21 2 [(13,.int .i64 ((i:Int))),(14,.int .i64 (((i+1:Nat):Int)))]
         ⟨ym r5,ybc r6 (fun _=>rn_add (by rw [wrap_i64 (by omega) (by omega)];omega)),trivial⟩ fun a22 w22 g22 sv22=>?_
       have gc22:=grown_trans g21 g22
       refine tl_as (v:=.int .i64 (((i+1:Nat):Int))) sv22 r6 fun a23 sv23=>?_
       refine tl_nil ?_
       replace HB1_2:=rw_kn gc22 HB1_2
       replace hr:=hr.kn gc22
       replace HG:=grown_trans HG gc22
       exact ⟨⟨i+1,by omega,fun k hk=>if e:k=i then (by rw [e,hchk];exact hok) else hb k (by omega),⟨sv23.1,sv23.2.1,sv23.2.2.1,sv23.2.2.2.2.2.2.2.2.2.2.2.2.2.2.2.2.2.2.2.2.2.2.2.2.2.2.2.2.2.2.2.2.2.2.2.2.2.2.2.1,sv23.2.2.2.2.2.2.2.2.2.2.2.2.2.2.2.2.2.2.2.2.2.2.2.2.2.2.2.2.2.2.2.2.2.2.2.2.2.2.2.2.1,sv23.2.2.2.2.2.2.2.2.2.2.2.2.2.2.2.2.2.2.2.2.2.2.2.2.2.2.2.2.2.2.2.2.2.2.2.2.2.2.2.2.2.1,sv23.2.2.2.2.2.2.2.2.2.2.2.2.2.2.2.2.2.2.2.2.2.2.2.2.2.2.2.2.2.2.2.2.2.2.2.2.2.2.2.2.2.2.1,sv23.2.2.2.2.2.2.2.2.2.2.2.2.2.2.2.2.2.2.2.2.2.2.2.2.2.2.2.2.2.2.2.2.2.2.2.2.2.2.2.2.2.2.2.1,sv23.2.2.2.2.2.2.2.2.2.2.2.2.2.2.2.2.2.2.2.2.2.2.2.2.2.2.2.2.2.2.2.2.2.2.2.2.2.2.2.2.2.2.2.2.1,trivial⟩,HG,HB1_2,hr⟩,by rw [show _=_ from sv23.2.2.1,show _=_ from sv14.2.2.1];simp [intOf];omega⟩
     · refine rx_av sv17 [(15,pk B1_2 64),(16,.slice ao ks.length cap),(17,.int .i64 ((i:Int))),(18,pk ((bO ao)) (oO ao+i * 33)),(19,pk ((bO ao)) (oO ao+i * 33+32)),(20,.agg #[VK.s x]),(21,.bool false),(22,.bool true),(23,.bool true),(24,undef),(25,undef),(26,undef),(27,undef),(28,undef),(29,undef),(30,undef),(31,undef),(32,undef),(33,undef),(34,undef),(35,undef),(36,undef),(37,undef),(38,undef),(39,undef),(40,undef),(41,undef),(42,undef),(43,.bool true)]
         ⟨yf r6 (fun _=>by kernel_rfl),yp (i:=2) r6 (tyKs (.slice ao ks.length cap) rfl) HB1_2 rfl (by simp [bv_length,zero32_len,hsa.1,hpo.1]),ym r5,ox_index rfl rfl trivial (oy rfl rfl) (oy rfl rfl) (fun w=>ix_sl Tryz.underlying34 (by kernel_rfl) (hr.1.1) (by omega) (rfl) w) (fun _=>rfl),yf r6 (fun _=>by kernel_rfl),ox_load rfl rfl trivial (oy rfl rfl) (fun _ g=>loadsAt (tyT (VK.s x) rfl) (RdK.treeX (hr.kn g) rfl hi hx_x)) (fun _=>rfl),ox_call (Sp.is (.bool false)) [.agg #[VK.s x]] rfl rfl trivial ⟨(oy rfl rfl),trivial⟩ (is_on fun W g=>rvalid_callB hv ((hr.kn g).kt hi hx_x)) (fun _ _ h=>h) (enter_of Tryz.func87 (by kernel_rfl) rfl),ox_un rfl rfl trivial (oy rfl rfl) (fun _=>rn_not) (fun _=>rfl),ym r5,ox_off (gn rfl rfl rfl) rfl (fun _=>rfl),ox_off (gn rfl rfl rfl) rfl (fun _=>rfl),ox_off (gn rfl rfl rfl) rfl (fun _=>rfl),ox_offU ⟨26,rfl,rfl,fun _ _ h=>h⟩ rfl (fun _=>rfl),ox_offU ⟨26,rfl,rfl,fun _ _ h=>h⟩ rfl (fun _=>rfl),ox_offU ⟨26,rfl,rfl,fun _ _ h=>h⟩ rfl (fun _=>rfl),ox_offU ⟨26,rfl,rfl,fun _ _ h=>h⟩ rfl (fun _=>rfl),ox_offU ⟨26,rfl,rfl,fun _ _ h=>h⟩ rfl (fun _=>rfl),ox_offU ⟨26,rfl,rfl,fun _ _ h=>h⟩ rfl (fun _=>rfl),ox_offU ⟨26,rfl,rfl,fun _ _ h=>h⟩ rfl (fun _=>rfl),ox_offU ⟨26,rfl,rfl,fun _ _ h=>h⟩ rfl (fun _=>rfl),ox_offU ⟨26,rfl,rfl,fun _ _ h=>h⟩ rfl (fun _=>rfl),ox_offU ⟨26,rfl,rfl,fun _ _ h=>h⟩ rfl (fun _=>rfl),ox_offU ⟨26,rfl,rfl,fun _ _ h=>h⟩ rfl (fun _=>rfl),ox_offU ⟨26,rfl,rfl,fun _ _ h=>h⟩ rfl (fun _=>rfl),ox_offU ⟨26,rfl,rfl,fun _ _ h=>h⟩ rfl (fun _=>rfl),ox_offU ⟨26,rfl,rfl,fun _ _ h=>h⟩ rfl (fun _=>rfl),ox_offU ⟨26,rfl,rfl,fun _ _ h=>h⟩ rfl (fun _=>rfl),ox_off (gn rfl rfl rfl) rfl (fun _=>rfl),ox_pick rfl rfl trivial (oy rfl rfl) rfl (fun _=>rfl),trivial⟩ fun a24 w24 g24 sv24=>?_
       refine k20 _ _ ?_
       refine cx_ifT sv24 rfl rfl ?_
       refine wp_seq_k fun K25 k25=>?_
       refine wp_region_lit ?_
       refine tl_as (v:=.bool false) sv24 r6 fun a26 sv26=>?_
       refine tl_nil ?_
       refine k25 _ _ ?_
       replace HB1_2:=rw_kn g24 HB1_2
       replace hr:=hr.kn g24
       replace HG:=grown_trans HG g24
       refine wp_ret ?_
       repeat refine then_ret ?_
       refine r19 _ _ ?_
       repeat refine then_ret ?_
       refine r13 _ _ ?_
       repeat refine then_ret ?_
       refine cx_ret (fn:=Tryz.f40) sv26 (res_tmp (p:=2) Tryz.results40 sv26 rfl rfl) ?_
       exact ⟨retB ((vldV_no (i:=i) (by rw [hmap];exact hi) (by rw [hchk];simp [hv])).symm),HG⟩
     · have hok:((decide (i=0) || blt y.o x.o) && vld x.l)=true:=by simp [hz,hv,hc]
       refine rx_av sv17 [(15,pk B1_2 64),(16,.slice ao ks.length cap),(17,.int .i64 ((i:Int))),(18,pk ((bO ao)) (oO ao+i * 33)),(19,pk ((bO ao)) (oO ao+i * 33+32)),(20,.agg #[VK.s x]),(21,.bool true),(22,.bool false),(23,.bool false),(24,.int .i64 ((i:Int))),(25,.bool true),(26,.bool true),(27,pk B1_2 64),(28,.slice ao ks.length cap),(29,.int .i64 ((i:Int))),(30,.int .i64 (((i - 1:Nat):Int))),(31,pk ((bO ao)) (oO ao+(i - 1) * 33)),(32,pk ((bO ao)) (oO ao+(i - 1) * 33)),(33,dval y.o),(34,pk B1_2 64),(35,.slice ao ks.length cap),(36,.int .i64 ((i:Int))),(37,pk ((bO ao)) (oO ao+i * 33)),(38,pk ((bO ao)) (oO ao+i * 33)),(39,dval x.o),(40,.bool true),(41,.bool false),(42,.bool false),(43,.bool false)]
         ⟨yf r6 (fun _=>by kernel_rfl),yp (i:=2) r6 (tyKs (.slice ao ks.length cap) rfl) HB1_2 rfl (by simp [bv_length,zero32_len,hsa.1,hpo.1]),ym r5,ox_index rfl rfl trivial (oy rfl rfl) (oy rfl rfl) (fun w=>ix_sl Tryz.underlying34 (by kernel_rfl) (hr.1.1) (by omega) (rfl) w) (fun _=>rfl),yf r6 (fun _=>by kernel_rfl),ox_load rfl rfl trivial (oy rfl rfl) (fun _ g=>loadsAt (tyT (VK.s x) rfl) (RdK.treeX (hr.kn g) rfl hi hx_x)) (fun _=>rfl),ox_call (Sp.is (.bool true)) [.agg #[VK.s x]] rfl rfl trivial ⟨(oy rfl rfl),trivial⟩ (is_on fun W g=>rvalid_callB hv ((hr.kn g).kt hi hx_x)) (fun _ _ h=>h) (enter_of Tryz.func87 (by kernel_rfl) rfl),ox_un rfl rfl trivial (oy rfl rfl) (fun _=>rn_not) (fun _=>rfl),ym r5,ox_move 3 24 (.inl rfl) rfl rfl (gy rfl rfl rfl) (fun _ _ h=>h),ox_bin rfl rfl (gy rfl rfl rfl) (oy rfl rfl) rfl (fun _=>rn_gtr (by simp;omega)) (fun _=>rfl),ox_move 25 26 (.inl rfl) rfl rfl (gy rfl rfl rfl) (fun _ _ h=>h),ox_field rfl rfl (gy rfl rfl rfl) (oy rfl rfl) (fun _=>by kernel_rfl) (fun _=>rfl),ox_load rfl rfl (gy rfl rfl rfl) (oy rfl rfl) (fun _ g=>loadsAt (tyKs (.slice ao ks.length cap) rfl) (range_part (L:=[bv sa,bv po,[.slice ao ks.length cap]]) (i:=2) (row_of g HB1_2 (by simp)) rfl (by simp [bv_length,zero32_len,hsa.1,hpo.1]))) (fun _=>rfl),ox_move 3 29 (.inl rfl) rfl rfl (gy rfl rfl rfl) (fun _ _ h=>h),ox_bin rfl rfl (gy rfl rfl rfl) (oy rfl rfl) rfl (fun _=>rn_sub (by rw [wrap_i64 (by omega) (by omega)];omega)) (fun _=>rfl),ox_index rfl rfl (gy rfl rfl rfl) (oy rfl rfl) (oy rfl rfl) (fun w=>ix_sl Tryz.underlying34 (by kernel_rfl) (hr.1.1) (by omega) (rfl) w) (fun _=>rfl),ox_field rfl rfl (gy rfl rfl rfl) (oy rfl rfl) (fun _=>by kernel_rfl) (fun _=>rfl),ox_load rfl rfl (gy rfl rfl rfl) (oy rfl rfl) (fun _ g=>loadsAt (tyD y.o y.ho.1) (RdK.ownerX (hr.kn g) rfl hp hx_y)) (fun _=>rfl),ox_field rfl rfl (gy rfl rfl rfl) (oy rfl rfl) (fun _=>by kernel_rfl) (fun _=>rfl),ox_load rfl rfl (gy rfl rfl rfl) (oy rfl rfl) (fun _ g=>loadsAt (tyKs (.slice ao ks.length cap) rfl) (range_part (L:=[bv sa,bv po,[.slice ao ks.length cap]]) (i:=2) (row_of g HB1_2 (by simp)) rfl (by simp [bv_length,zero32_len,hsa.1,hpo.1]))) (fun _=>rfl),ox_move 3 36 (.inl rfl) rfl rfl (gy rfl rfl rfl) (fun _ _ h=>h),ox_index rfl rfl (gy rfl rfl rfl) (oy rfl rfl) (oy rfl rfl) (fun w=>ix_sl Tryz.underlying34 (by kernel_rfl) (hr.1.1) (by omega) (rfl) w) (fun _=>rfl),ox_field rfl rfl (gy rfl rfl rfl) (oy rfl rfl) (fun _=>by kernel_rfl) (fun _=>rfl),ox_load rfl rfl (gy rfl rfl rfl) (oy rfl rfl) (fun _ g=>loadsAt (tyD x.o x.ho.1) (RdK.ownerX (hr.kn g) rfl hi hx_x)) (fun _=>rfl),ox_call (Sp.is (.bool true)) [dval y.o,dval x.o] rfl rfl (gy rfl rfl rfl) ⟨(oy rfl rfl),(oy rfl rfl),trivial⟩ (is_on fun W g=>less_walkB hc y.ho x.ho W) (fun _ _ h=>h) (enter_of Tryz.func86 (by kernel_rfl) rfl),ox_un rfl rfl (gy rfl rfl rfl) (oy rfl rfl) (fun _=>rn_not) (fun _=>rfl),ox_pick rfl rfl (gy rfl rfl rfl) (oy rfl rfl) (oy rfl rfl) (fun _=>rfl),ox_pick rfl rfl trivial (oy rfl rfl) (oy rfl rfl) (fun _=>rfl),trivial⟩ fun a27 w27 g27 sv27=>?_
       refine k20 _ _ ?_
       refine cx_ifF sv27 rfl rfl ?_
       refine wp_skip ?_
       refine y19 _ _ ?_
       refine k18 _ _ ?_
       refine wp_region_lit ?_
       refine sx_hv sv27 2 [(13,.int .i64 ((i:Int))),(14,.int .i64 (((i+1:Nat):Int)))]
         ⟨ym r5,ybc r6 (fun _=>rn_add (by rw [wrap_i64 (by omega) (by omega)];omega)),trivial⟩ fun a28 w28 g28 sv28=>?_
       have gc28:=grown_trans g27 g28
       refine tl_as (v:=.int .i64 (((i+1:Nat):Int))) sv28 r6 fun a29 sv29=>?_
       refine tl_nil ?_
       replace HB1_2:=rw_kn gc28 HB1_2
       replace hr:=hr.kn gc28
       replace HG:=grown_trans HG gc28
       exact ⟨⟨i+1,by omega,fun k hk=>if e:k=i then (by rw [e,hchk];exact hok) else hb k (by omega),⟨sv29.1,sv29.2.1,sv29.2.2.1,sv29.2.2.2.2.2.2.2.2.2.2.2.2.2.2.2.2.2.2.2.2.2.2.2.2.2.2.2.2.2.2.2.2.2.2.2.2.2.2.2.1,sv29.2.2.2.2.2.2.2.2.2.2.2.2.2.2.2.2.2.2.2.2.2.2.2.2.2.2.2.2.2.2.2.2.2.2.2.2.2.2.2.2.1,sv29.2.2.2.2.2.2.2.2.2.2.2.2.2.2.2.2.2.2.2.2.2.2.2.2.2.2.2.2.2.2.2.2.2.2.2.2.2.2.2.2.2.1,sv29.2.2.2.2.2.2.2.2.2.2.2.2.2.2.2.2.2.2.2.2.2.2.2.2.2.2.2.2.2.2.2.2.2.2.2.2.2.2.2.2.2.2.1,sv29.2.2.2.2.2.2.2.2.2.2.2.2.2.2.2.2.2.2.2.2.2.2.2.2.2.2.2.2.2.2.2.2.2.2.2.2.2.2.2.2.2.2.2.1,sv29.2.2.2.2.2.2.2.2.2.2.2.2.2.2.2.2.2.2.2.2.2.2.2.2.2.2.2.2.2.2.2.2.2.2.2.2.2.2.2.2.2.2.2.2.1,trivial⟩,HG,HB1_2,hr⟩,by rw [show _=_ from sv29.2.2.1,show _=_ from sv14.2.2.1];simp [intOf];omega⟩
     · refine rx_av sv17 [(15,pk B1_2 64),(16,.slice ao ks.length cap),(17,.int .i64 ((i:Int))),(18,pk ((bO ao)) (oO ao+i * 33)),(19,pk ((bO ao)) (oO ao+i * 33+32)),(20,.agg #[VK.s x]),(21,.bool false),(22,.bool true),(23,.bool true),(24,undef),(25,undef),(26,undef),(27,undef),(28,undef),(29,undef),(30,undef),(31,undef),(32,undef),(33,undef),(34,undef),(35,undef),(36,undef),(37,undef),(38,undef),(39,undef),(40,undef),(41,undef),(42,undef),(43,.bool true)]
         ⟨yf r6 (fun _=>by kernel_rfl),yp (i:=2) r6 (tyKs (.slice ao ks.length cap) rfl) HB1_2 rfl (by simp [bv_length,zero32_len,hsa.1,hpo.1]),ym r5,ox_index rfl rfl trivial (oy rfl rfl) (oy rfl rfl) (fun w=>ix_sl Tryz.underlying34 (by kernel_rfl) (hr.1.1) (by omega) (rfl) w) (fun _=>rfl),yf r6 (fun _=>by kernel_rfl),ox_load rfl rfl trivial (oy rfl rfl) (fun _ g=>loadsAt (tyT (VK.s x) rfl) (RdK.treeX (hr.kn g) rfl hi hx_x)) (fun _=>rfl),ox_call (Sp.is (.bool false)) [.agg #[VK.s x]] rfl rfl trivial ⟨(oy rfl rfl),trivial⟩ (is_on fun W g=>rvalid_callB hv ((hr.kn g).kt hi hx_x)) (fun _ _ h=>h) (enter_of Tryz.func87 (by kernel_rfl) rfl),ox_un rfl rfl trivial (oy rfl rfl) (fun _=>rn_not) (fun _=>rfl),ym r5,ox_off (gn rfl rfl rfl) rfl (fun _=>rfl),ox_off (gn rfl rfl rfl) rfl (fun _=>rfl),ox_off (gn rfl rfl rfl) rfl (fun _=>rfl),ox_offU ⟨26,rfl,rfl,fun _ _ h=>h⟩ rfl (fun _=>rfl),ox_offU ⟨26,rfl,rfl,fun _ _ h=>h⟩ rfl (fun _=>rfl),ox_offU ⟨26,rfl,rfl,fun _ _ h=>h⟩ rfl (fun _=>rfl),ox_offU ⟨26,rfl,rfl,fun _ _ h=>h⟩ rfl (fun _=>rfl),ox_offU ⟨26,rfl,rfl,fun _ _ h=>h⟩ rfl (fun _=>rfl),ox_offU ⟨26,rfl,rfl,fun _ _ h=>h⟩ rfl (fun _=>rfl),ox_offU ⟨26,rfl,rfl,fun _ _ h=>h⟩ rfl (fun _=>rfl),ox_offU ⟨26,rfl,rfl,fun _ _ h=>h⟩ rfl (fun _=>rfl),ox_offU ⟨26,rfl,rfl,fun _ _ h=>h⟩ rfl (fun _=>rfl),ox_offU ⟨26,rfl,rfl,fun _ _ h=>h⟩ rfl (fun _=>rfl),ox_offU ⟨26,rfl,rfl,fun _ _ h=>h⟩ rfl (fun _=>rfl),ox_offU ⟨26,rfl,rfl,fun _ _ h=>h⟩ rfl (fun _=>rfl),ox_offU ⟨26,rfl,rfl,fun _ _ h=>h⟩ rfl (fun _=>rfl),ox_offU ⟨26,rfl,rfl,fun _ _ h=>h⟩ rfl (fun _=>rfl),ox_offU ⟨26,rfl,rfl,fun _ _ h=>h⟩ rfl (fun _=>rfl),ox_off (gn rfl rfl rfl) rfl (fun _=>rfl),ox_pick rfl rfl trivial (oy rfl rfl) rfl (fun _=>rfl),trivial⟩ fun a30 w30 g30 sv30=>?_
       refine k20 _ _ ?_
       refine cx_ifT sv30 rfl rfl ?_
       refine wp_seq_k fun K31 k31=>?_
       refine wp_region_lit ?_
       refine tl_as (v:=.bool false) sv30 r6 fun a32 sv32=>?_
       refine tl_nil ?_
       refine k31 _ _ ?_
       replace HB1_2:=rw_kn g30 HB1_2
       replace hr:=hr.kn g30
       replace HG:=grown_trans HG g30
       refine wp_ret ?_
       repeat refine then_ret ?_
       refine r19 _ _ ?_
       repeat refine then_ret ?_
       refine r13 _ _ ?_
       repeat refine then_ret ?_
       refine cx_ret (fn:=Tryz.f40) sv32 (res_tmp (p:=2) Tryz.results40 sv32 rfl rfl) ?_
       exact ⟨retB ((vldV_no (i:=i) (by rw [hmap];exact hi) (by rw [hchk];simp [hv,hc,Nat.ne_of_gt hz])).symm),HG⟩
     · refine rx_av sv17 [(15,pk B1_2 64),(16,.slice ao ks.length cap),(17,.int .i64 ((i:Int))),(18,pk ((bO ao)) (oO ao+i * 33)),(19,pk ((bO ao)) (oO ao+i * 33+32)),(20,.agg #[VK.s x]),(21,.bool true),(22,.bool false),(23,.bool false),(24,.int .i64 ((i:Int))),(25,.bool true),(26,.bool true),(27,pk B1_2 64),(28,.slice ao ks.length cap),(29,.int .i64 ((i:Int))),(30,.int .i64 (((i - 1:Nat):Int))),(31,pk ((bO ao)) (oO ao+(i - 1) * 33)),(32,pk ((bO ao)) (oO ao+(i - 1) * 33)),(33,dval y.o),(34,pk B1_2 64),(35,.slice ao ks.length cap),(36,.int .i64 ((i:Int))),(37,pk ((bO ao)) (oO ao+i * 33)),(38,pk ((bO ao)) (oO ao+i * 33)),(39,dval x.o),(40,.bool false),(41,.bool true),(42,.bool true),(43,.bool true)]
         ⟨yf r6 (fun _=>by kernel_rfl),yp (i:=2) r6 (tyKs (.slice ao ks.length cap) rfl) HB1_2 rfl (by simp [bv_length,zero32_len,hsa.1,hpo.1]),ym r5,ox_index rfl rfl trivial (oy rfl rfl) (oy rfl rfl) (fun w=>ix_sl Tryz.underlying34 (by kernel_rfl) (hr.1.1) (by omega) (rfl) w) (fun _=>rfl),yf r6 (fun _=>by kernel_rfl),ox_load rfl rfl trivial (oy rfl rfl) (fun _ g=>loadsAt (tyT (VK.s x) rfl) (RdK.treeX (hr.kn g) rfl hi hx_x)) (fun _=>rfl),ox_call (Sp.is (.bool true)) [.agg #[VK.s x]] rfl rfl trivial ⟨(oy rfl rfl),trivial⟩ (is_on fun W g=>rvalid_callB hv ((hr.kn g).kt hi hx_x)) (fun _ _ h=>h) (enter_of Tryz.func87 (by kernel_rfl) rfl),ox_un rfl rfl trivial (oy rfl rfl) (fun _=>rn_not) (fun _=>rfl),ym r5,ox_move 3 24 (.inl rfl) rfl rfl (gy rfl rfl rfl) (fun _ _ h=>h),ox_bin rfl rfl (gy rfl rfl rfl) (oy rfl rfl) rfl (fun _=>rn_gtr (by simp;omega)) (fun _=>rfl),ox_move 25 26 (.inl rfl) rfl rfl (gy rfl rfl rfl) (fun _ _ h=>h),ox_field rfl rfl (gy rfl rfl rfl) (oy rfl rfl) (fun _=>by kernel_rfl) (fun _=>rfl),ox_load rfl rfl (gy rfl rfl rfl) (oy rfl rfl) (fun _ g=>loadsAt (tyKs (.slice ao ks.length cap) rfl) (range_part (L:=[bv sa,bv po,[.slice ao ks.length cap]]) (i:=2) (row_of g HB1_2 (by simp)) rfl (by simp [bv_length,zero32_len,hsa.1,hpo.1]))) (fun _=>rfl),ox_move 3 29 (.inl rfl) rfl rfl (gy rfl rfl rfl) (fun _ _ h=>h),ox_bin rfl rfl (gy rfl rfl rfl) (oy rfl rfl) rfl (fun _=>rn_sub (by rw [wrap_i64 (by omega) (by omega)];omega)) (fun _=>rfl),ox_index rfl rfl (gy rfl rfl rfl) (oy rfl rfl) (oy rfl rfl) (fun w=>ix_sl Tryz.underlying34 (by kernel_rfl) (hr.1.1) (by omega) (rfl) w) (fun _=>rfl),ox_field rfl rfl (gy rfl rfl rfl) (oy rfl rfl) (fun _=>by kernel_rfl) (fun _=>rfl),ox_load rfl rfl (gy rfl rfl rfl) (oy rfl rfl) (fun _ g=>loadsAt (tyD y.o y.ho.1) (RdK.ownerX (hr.kn g) rfl hp hx_y)) (fun _=>rfl),ox_field rfl rfl (gy rfl rfl rfl) (oy rfl rfl) (fun _=>by kernel_rfl) (fun _=>rfl),ox_load rfl rfl (gy rfl rfl rfl) (oy rfl rfl) (fun _ g=>loadsAt (tyKs (.slice ao ks.length cap) rfl) (range_part (L:=[bv sa,bv po,[.slice ao ks.length cap]]) (i:=2) (row_of g HB1_2 (by simp)) rfl (by simp [bv_length,zero32_len,hsa.1,hpo.1]))) (fun _=>rfl),ox_move 3 36 (.inl rfl) rfl rfl (gy rfl rfl rfl) (fun _ _ h=>h),ox_index rfl rfl (gy rfl rfl rfl) (oy rfl rfl) (oy rfl rfl) (fun w=>ix_sl Tryz.underlying34 (by kernel_rfl) (hr.1.1) (by omega) (rfl) w) (fun _=>rfl),ox_field rfl rfl (gy rfl rfl rfl) (oy rfl rfl) (fun _=>by kernel_rfl) (fun _=>rfl),ox_load rfl rfl (gy rfl rfl rfl) (oy rfl rfl) (fun _ g=>loadsAt (tyD x.o x.ho.1) (RdK.ownerX (hr.kn g) rfl hi hx_x)) (fun _=>rfl),ox_call (Sp.is (.bool false)) [dval y.o,dval x.o] rfl rfl (gy rfl rfl rfl) ⟨(oy rfl rfl),(oy rfl rfl),trivial⟩ (is_on fun W g=>less_walkB hc y.ho x.ho W) (fun _ _ h=>h) (enter_of Tryz.func86 (by kernel_rfl) rfl),ox_un rfl rfl (gy rfl rfl rfl) (oy rfl rfl) (fun _=>rn_not) (fun _=>rfl),ox_pick rfl rfl (gy rfl rfl rfl) (oy rfl rfl) (oy rfl rfl) (fun _=>rfl),ox_pick rfl rfl trivial (oy rfl rfl) (oy rfl rfl) (fun _=>rfl),trivial⟩ fun a33 w33 g33 sv33=>?_
       refine k20 _ _ ?_
       refine cx_ifT sv33 rfl rfl ?_
       refine wp_seq_k fun K34 k34=>?_
       refine wp_region_lit ?_
       refine tl_as (v:=.bool false) sv33 r6 fun a35 sv35=>?_
       refine tl_nil ?_
       refine k34 _ _ ?_
       replace HB1_2:=rw_kn g33 HB1_2
       replace hr:=hr.kn g33
       replace HG:=grown_trans HG g33
       refine wp_ret ?_
       repeat refine then_ret ?_
       refine r19 _ _ ?_
       repeat refine then_ret ?_
       refine r13 _ _ ?_
       repeat refine then_ret ?_
       refine cx_ret (fn:=Tryz.f40) sv35 (res_tmp (p:=2) Tryz.results40 sv35 rfl rfl) ?_
       exact ⟨retB ((vldV_no (i:=i) (by rw [hmap];exact hi) (by rw [hchk];simp [hv,hc,Nat.ne_of_gt hz])).symm),HG⟩
     · refine rx_av sv17 [(15,pk B1_2 64),(16,.slice ao ks.length cap),(17,.int .i64 ((i:Int))),(18,pk ((bO ao)) (oO ao+i * 33)),(19,pk ((bO ao)) (oO ao+i * 33+32)),(20,.agg #[VK.s x]),(21,.bool false),(22,.bool true),(23,.bool true),(24,undef),(25,undef),(26,undef),(27,undef),(28,undef),(29,undef),(30,undef),(31,undef),(32,undef),(33,undef),(34,undef),(35,undef),(36,undef),(37,undef),(38,undef),(39,undef),(40,undef),(41,undef),(42,undef),(43,.bool true)]
         ⟨yf r6 (fun _=>by kernel_rfl),yp (i:=2) r6 (tyKs (.slice ao ks.length cap) rfl) HB1_2 rfl (by simp [bv_length,zero32_len,hsa.1,hpo.1]),ym r5,ox_index rfl rfl trivial (oy rfl rfl) (oy rfl rfl) (fun w=>ix_sl Tryz.underlying34 (by kernel_rfl) (hr.1.1) (by omega) (rfl) w) (fun _=>rfl),yf r6 (fun _=>by kernel_rfl),ox_load rfl rfl trivial (oy rfl rfl) (fun _ g=>loadsAt (tyT (VK.s x) rfl) (RdK.treeX (hr.kn g) rfl hi hx_x)) (fun _=>rfl),ox_call (Sp.is (.bool false)) [.agg #[VK.s x]] rfl rfl trivial ⟨(oy rfl rfl),trivial⟩ (is_on fun W g=>rvalid_callB hv ((hr.kn g).kt hi hx_x)) (fun _ _ h=>h) (enter_of Tryz.func87 (by kernel_rfl) rfl),ox_un rfl rfl trivial (oy rfl rfl) (fun _=>rn_not) (fun _=>rfl),ym r5,ox_off (gn rfl rfl rfl) rfl (fun _=>rfl),ox_off (gn rfl rfl rfl) rfl (fun _=>rfl),ox_off (gn rfl rfl rfl) rfl (fun _=>rfl),ox_offU ⟨26,rfl,rfl,fun _ _ h=>h⟩ rfl (fun _=>rfl),ox_offU ⟨26,rfl,rfl,fun _ _ h=>h⟩ rfl (fun _=>rfl),ox_offU ⟨26,rfl,rfl,fun _ _ h=>h⟩ rfl (fun _=>rfl),ox_offU ⟨26,rfl,rfl,fun _ _ h=>h⟩ rfl (fun _=>rfl),ox_offU ⟨26,rfl,rfl,fun _ _ h=>h⟩ rfl (fun _=>rfl),ox_offU ⟨26,rfl,rfl,fun _ _ h=>h⟩ rfl (fun _=>rfl),ox_offU ⟨26,rfl,rfl,fun _ _ h=>h⟩ rfl (fun _=>rfl),ox_offU ⟨26,rfl,rfl,fun _ _ h=>h⟩ rfl (fun _=>rfl),ox_offU ⟨26,rfl,rfl,fun _ _ h=>h⟩ rfl (fun _=>rfl),ox_offU ⟨26,rfl,rfl,fun _ _ h=>h⟩ rfl (fun _=>rfl),ox_offU ⟨26,rfl,rfl,fun _ _ h=>h⟩ rfl (fun _=>rfl),ox_offU ⟨26,rfl,rfl,fun _ _ h=>h⟩ rfl (fun _=>rfl),ox_offU ⟨26,rfl,rfl,fun _ _ h=>h⟩ rfl (fun _=>rfl),ox_offU ⟨26,rfl,rfl,fun _ _ h=>h⟩ rfl (fun _=>rfl),ox_offU ⟨26,rfl,rfl,fun _ _ h=>h⟩ rfl (fun _=>rfl),ox_off (gn rfl rfl rfl) rfl (fun _=>rfl),ox_pick rfl rfl trivial (oy rfl rfl) rfl (fun _=>rfl),trivial⟩ fun a36 w36 g36 sv36=>?_
       refine k20 _ _ ?_
       refine cx_ifT sv36 rfl rfl ?_
       refine wp_seq_k fun K37 k37=>?_
       refine wp_region_lit ?_
       refine tl_as (v:=.bool false) sv36 r6 fun a38 sv38=>?_
       refine tl_nil ?_
       refine k37 _ _ ?_
       replace HB1_2:=rw_kn g36 HB1_2
       replace hr:=hr.kn g36
       replace HG:=grown_trans HG g36
       refine wp_ret ?_
       repeat refine then_ret ?_
       refine r19 _ _ ?_
       repeat refine then_ret ?_
       refine r13 _ _ ?_
       repeat refine then_ret ?_
       refine cx_ret (fn:=Tryz.f40) sv38 (res_tmp (p:=2) Tryz.results40 sv38 rfl rfl) ?_
       exact ⟨retB ((vldV_no (i:=i) (by rw [hmap];exact hi) (by rw [hchk];simp [hv,hc,Nat.ne_of_gt hz])).symm),HG⟩
   · refine wp_region_lit ?_
     refine sx_hv sv14 5 [(8,.int .i64 ((i:Int))),(9,pk B1_2 64),(10,.slice ao ks.length cap),(11,.int .i64 ((ks.length:Nat))),(12,.bool false)]
       ⟨ym r5,yf r6 (fun _=>by kernel_rfl),yp (i:=2) r6 (tyKs (.slice ao ks.length cap) rfl) HB1_2 rfl (by simp [bv_length,zero32_len,hsa.1,hpo.1]),ox_len (Tryz.underlying34) rfl rfl trivial (oy rfl rfl) (fun _=>rfl),ybt r7 (fun _=>rn_lss (by simp;omega)),trivial⟩ fun a39 w39 g39 sv39=>?_
     refine tl_nil ?_
     refine k16 _ _ ?_
     refine cx_ifF sv39 rfl rfl ?_
     refine wp_exit ?_
     repeat refine then_exit ?_
     refine x13 _ _ ?_
     refine k10 _ _ ?_
     refine wp_seq_k fun K40 k40=>?_
     refine wp_region_lit ?_
     refine tl_as (v:=.bool true) sv39 r6 fun a41 sv41=>?_
     refine tl_nil ?_
     refine k40 _ _ ?_
     replace HB1_2:=rw_kn g39 HB1_2
     replace hr:=hr.kn g39
     replace HG:=grown_trans HG g39
     refine wp_ret ?_
     repeat refine then_ret ?_
     refine cx_ret (fn:=Tryz.f40) sv41 (res_tmp (p:=2) Tryz.results40 sv41 rfl rfl) ?_
     exact ⟨retB ((vldV_yes (by omega) fun k hk=>hb k (by omega)).symm),HG⟩
end Go.Proofs.YtbfjfnbcmojpiaaGreat
