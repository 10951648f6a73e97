import Derived.Test.YtbfjfnbcmojpiaaGreatY2
namespace Go.Proofs.YtbfjfnbcmojpiaaGreat
open Go.RowKit Go.Shelf
set_option linter.unusedSimpArgs false
set_option linter.unusedVariables false
theorem xor_step {x y sl:List Nat} {j a b:Nat} (hj:j < sl.length) (ha:x[j]?=some a) (hb:y[j]?=some b) (h:∀ k,k < j→sl[k]?=(xorL x y)[k]?):∀ k,k < j+1→(sl.set j (a ^^^ b))[k]?=(xorL x y)[k]?:=by
 intro k hk
 rw [List.getElem?_set]
 by_cases e:j=k
 · subst e
   rw [if_pos rfl,if_pos hj]
   unfold xorL
   rw [List.getElem?_zipWith,ha,hb]
 · rw [if_neg e]
   exact h k (by omega)
theorem xor_fin {x y sl:List Nat} {n j:Nat} (hx:x.length=n) (hy:n≤y.length) (hs:sl.length=n) (hj:n≤j) (h:∀ k,k < j→sl[k]?=(xorL x y)[k]?):sl=xorL x y:=by
 have hl:=xorL_len (a:=x) (b:=y) (by omega)
 refine List.ext_getElem? fun k=>?_
 by_cases hk:k < n
 · exact h k (by omega)
 · rw [List.getElem?_eq_none (by omega),List.getElem?_eq_none (by omega)]
theorem rn_xor0 {P:Program} {a b c:Int} {t:TypeId} {x y:Operand} {w:World} (h:bits .xor .u8 a b=c):(do eqGuard .xor t x y (.int .u8 a) (.int .u8 b);binOp .xor t (.int .u8 a) (.int .u8 b):Sem Value).run P w=.ok (.int .u8 c) w:=by
 subst h
 simp [eqGuard,binOp_xor]
 rfl
theorem rn_xor8 {P:Program} {a b:Nat} {t:TypeId} {x y:Operand} {w:World} (ha:a < 256) (hb:b < 256):(do eqGuard .xor t x y (.int .u8 (a:Int)) (.int .u8 (b:Int));binOp .xor t (.int .u8 (a:Int)) (.int .u8 (b:Int)):Sem Value).run P w=.ok (.int .u8 ((a ^^^ b:Nat):Int)) w:=rn_xor0 (u8_xor_nat a b ha hb)
section
variable {P:Program} {Q:Exit→Act→World→Prop} {ops:Array Oper} {rest:List Oper} {o:Oper} {a:Act} {w:World} {n:Nat} {D:List Deferred} {K:List (Nat×Value)}
theorem bv_set {l:List Nat} {j x:Nat} (hj:j < l.length):bv (l.set j x)=bv (l.take j) ++ ([.int .u8 (x:Int)] ++ bv (l.drop (j+1))):=by
 rw [bv_cb,bv_cb,bv_cb,fl_set hj]
 rfl
theorem bv_split {l:List Nat} {j:Nat} (hj:j < l.length):bv l=bv (l.take j) ++ ([.int .u8 (l[j]:Int)] ++ bv (l.drop (j+1))):=by
 rw [bv_cb,bv_cb,bv_cb,fl_split hj]
 rfl
theorem tl_storeB (sv:Sv n D K a) (hgd:o.guard=none) {T:TypeId} {x y:Operand} (ho:o.op=.store T x y) (hd:o.dst=none) {b j v:Nat} {l:List Nat} {t:TypeId} (hx:okV K x=true) (hxv:evV K x=.pointer (some ⟨b,j,none⟩)) (hy:okV K y=true) (hyv:evV K y=.int .u8 (v:Int)) (ty:TY P T [.int .u8 (v:Int)] (.int .u8 (v:Int)))
   (hb:w.heap[b]?=some (.cells (bv l).toArray t (0,0))) (hj:j < l.length)
   (h:∀ w',w.grownBy w' (some b)→w'.heap[b]?=some (.cells (bv (l.set j v)).toArray t (0,0))→wpList P ops Q rest a w'):wpList P ops Q (o :: rest) a w:=by
 rw [bv_split hj] at hb
 refine tl_store sv hgd ho hd hx hxv hy hyv ty hb (by rw [bv_length,List.length_take];omega) rfl fun w' g' hb'=>h w' g' ?_
 rw [hb',bv_set hj]
end
set_option maxRecDepth 100000 in
set_option maxHeartbeats 4000000 in
theorem xorb_walk (x y s0:List Nat) (hbx:By x) (hby:By y) (n:Nat) (hn63:n≤1000000) (hnx:x.length=n) (m:Nat) (hym:y.length=m) (hny:n≤m) (so ao bo:Option Addr) (sc ac bc:Nat) (w w1:World) (HG:w.grownBy w1 none) (hs:Own w1 5 1 (.slice so n sc) n (s0.flatMap cb)) (ha:SlB w1 1 (.slice ao n ac) n (bv x)) (hb:SlB w1 1 (.slice bo m bc) m (bv y)) (lo_hs:∀ k,fpS (.slice so n sc) k→w.heap.size≤k) (ap_ha_hs:∀ k,fpS (.slice ao n ac) k→¬ fpS (.slice so n sc) k) (ap_hb_hs:∀ k,fpS (.slice bo m bc) k→¬ fpS (.slice so n sc) k) :
   Calls Tryz.prog 106 #[.slice so n sc,.slice ao n ac,.slice bo m bc] w1 fun e w'=>e=.returned (.slice so n sc)∧w.grownBy w' none∧Own w' 5 1 (.slice so n sc) n (bv (xorL x y)):=by
 refine cx_enter Tryz.func106 rfl Tryz.ntmps106 rfl fun a0 sv0=>?_
 have hs0:s0.length=n:=(fl_n (Sl.of_own hs) cb_len (by decide)).symm
 replace sv0:Sv 27 [] [(0,.slice so n sc),(1,.slice ao n ac),(2,.slice bo m bc)] a0:=sv0
 refine wp_seq_k fun K1 k1=>?_
 refine wp_region_lit ?_
 refine tl_as (v:=.slice none 0 0) sv0 r6 fun a2 sv2=>?_
 refine tl_nil ?_
 refine k1 _ _ ?_
 refine wp_seq_k fun K3 k3=>?_
 refine wp_seq_k fun K4 k4=>?_
 refine wp_region_lit ?_
 refine sx_hv sv2 3 [(8,.slice so n sc),(9,.int .i64 ((n:Nat))),(10,.int .i64 0)]
   ⟨ym r5,ox_len (Tryz.underlying29) rfl rfl trivial (oy rfl rfl) (fun _=>rfl),ox_const (.inl rfl) rfl trivial (fun _=>rfl),trivial⟩ fun a5 w5 g5 sv5=>?_
 refine tl_nil ?_
 refine k4 _ _ ?_
 refine cx_block fun Q6 x6 y6 rt6 o6=>?_
 replace ha:=ha.kn g5
 replace hb:=hb.kn g5
 replace hs:=hs.kn g5
 replace HG:=grown_trans HG g5
 refine wp_loop (fun a w'=>∃ (i:Nat) (sl:List Nat),(i≤n)∧(sl.length=n)∧(∀ k,k < i→sl[k]?=(xorL x y)[k]?)∧Sv 27 [] [(10,.int .i64 ((i:Int))),(8,.slice so n sc),(9,.int .i64 ((n:Nat))),(6,.slice none 0 0),(0,.slice so n sc),(1,.slice ao n ac),(2,.slice bo m bc)] a∧w.grownBy w' none∧SlB w' 1 (.slice ao n ac) n (bv x)∧SlB w' 1 (.slice bo m bc) m (bv y)∧Own w' 5 1 (.slice so n sc) n (sl.flatMap cb)∧(∀ k,fpS (.slice ao n ac) k→¬ fpS (.slice so n sc) k)∧(∀ k,fpS (.slice bo m bc) k→¬ fpS (.slice so n sc) k)∧(∀ k,fpS (.slice so n sc) k→w.heap.size≤k)) (fun a _=>(n - intOf (a.tmps.getD 10 undef)).toNat) ⟨0,s0,Nat.zero_le _,hs0,fun k hk=>by omega,⟨sv5.1,sv5.2.1,sv5.2.2.2.2.1,sv5.2.2.1,sv5.2.2.2.1,sv5.2.2.2.2.2.1,sv5.2.2.2.2.2.2.1,sv5.2.2.2.2.2.2.2.1,sv5.2.2.2.2.2.2.2.2.1,trivial⟩,HG,ha,hb,hs,ap_ha_hs,ap_hb_hs,lo_hs⟩ fun a7 w7 hI7=>?_
 clear ha
 clear hb
 clear hs
 clear HG
 obtain ⟨i,sl,hin,hsl,hq,sv7,HG,ha,hb,hs,ap_ha_hs,ap_hb_hs,lo_hs⟩:=hI7
 refine wp_seq_k fun K8 k8=>?_
 by_cases hi:i < n
 · have hix:i < x.length:=by omega
   have hiy:i < y.length:=by omega
   have his:i < sl.length:=by omega
   obtain ⟨xa,hx_xa⟩:∃ zx,x[i]'hix=zx:=⟨_,rfl⟩
   obtain ⟨xb,hx_xb⟩:∃ zx,y[i]'hiy=zx:=⟨_,rfl⟩
   obtain ⟨xs,hx_xs⟩:∃ zx,sl[i]'his=zx:=⟨_,rfl⟩
   have hxa:x[i]?=some xa:=by rw [← hx_xa];exact List.getElem?_eq_getElem _
   have hxb:y[i]?=some xb:=by rw [← hx_xb];exact List.getElem?_eq_getElem _
   have ba:xa < 256:=hbx _ (List.mem_of_getElem? hxa)
   have bb:xb < 256:=hby _ (List.mem_of_getElem? hxb)
   refine wp_region_lit ?_
   refine sx_hv sv7 1 [(11,.bool true)]
     ⟨ybt r7 (fun _=>rn_lss (by simp;omega)),trivial⟩ fun a9 w9 g9 sv9=>?_
   refine tl_nil ?_
   refine k8 _ _ ?_
   refine wp_seq_k fun K10 k10=>?_
   refine cx_ifT sv9 rfl rfl ?_
   refine wp_skip ?_
   refine k10 _ _ ?_
   refine wp_seq_k fun K11 k11=>?_
   refine cx_block fun Q12 x12 y12 rt12 o12=>?_
   refine wp_seq_k fun K13 k13=>?_
   refine wp_region_lit ?_
   refine sx_hv sv9 1 [(12,.int .i64 ((i:Int)))]
     ⟨ym r5,trivial⟩ fun a14 w14 g14 sv14=>?_
   have gc14:=grown_trans g9 g14
   refine tl_as (v:=.int .i64 ((i:Int))) sv14 r6 fun a15 sv15=>?_
   refine tl_nil ?_
   refine k13 _ _ ?_
   replace ha:=ha.kn gc14
   replace hb:=hb.kn gc14
   replace hs:=hs.kn gc14
   replace HG:=grown_trans HG gc14
   refine rx_tail (sv15.st w14) (by kernel_rfl) 12 [(13,Sp.is (.slice so n sc)),(14,Sp.is (.int .i64 ((i:Int)))),(15,Sp.is (.slice ao n ac)),(16,Sp.is (.int .i64 ((i:Int)))),(17,Sp.is (pk ((bO ao)) (oO ao+i * 1))),(18,Sp.is (.int .u8 ((xa:Int)))),(19,Sp.is (.slice bo m bc)),(20,Sp.is (.int .i64 ((i:Int)))),(21,Sp.is (pk ((bO bo)) (oO bo+i * 1))),(22,Sp.is (.int .u8 ((xb:Int)))),(23,Sp.is (.int .u8 (((xa ^^^ xb:Nat):Int)))),(24,Sp.is (pk ((bO so)) (oO so+i * 1)))] rfl (by kernel_rfl) (by kernel_rfl) (by kernel_rfl) [] (by kernel_rfl)
     ⟨ym r5,ym r5,ym r5,ym r5,ox_index rfl rfl trivial (oy rfl rfl) (oy rfl rfl) (fun w=>ix_sl Tryz.underlying29 (by kernel_rfl) (ha.1) (by omega) (rfl) w) (fun _=>rfl),ox_load rfl rfl trivial (oy rfl rfl) (fun _ g=>loadsAt (tyB ((xa:Int))) (by have:=by_range (ha.kn g).1 hix;rw [hx_xa] at this;exact this)) (fun _=>rfl),ym r5,ym r5,ox_index rfl rfl trivial (oy rfl rfl) (oy rfl rfl) (fun w=>ix_sl Tryz.underlying29 (by kernel_rfl) (hb.1) (by omega) (rfl) w) (fun _=>rfl),ox_load rfl rfl trivial (oy rfl rfl) (fun _ g=>loadsAt (tyB ((xb:Int))) (by have:=by_range (hb.kn g).1 hiy;rw [hx_xb] at this;exact this)) (fun _=>rfl),ybt r7 (fun _=>rn_xor8 ba bb),ox_index rfl rfl trivial (oy rfl rfl) (oy rfl rfl) (fun w=>ix_sl Tryz.underlying29 (by kernel_rfl) ((Sl.of_own hs)) (by omega) (rfl) w) (fun _=>rfl),trivial⟩ trivial
     [] (by kernel_rfl) trivial ⟨.inl rfl,.inl rfl,.inl rfl,.inl rfl,.inl rfl,.inl rfl,.inl rfl,.inl rfl,.inl rfl,.inl rfl,.inl rfl,.inl rfl,trivial⟩ (by kernel_rfl) fun a16 w16 g16 st16 nd16=>?_
   obtain ⟨hn16,hd16,e16_13,e16_14,e16_15,e16_16,e16_17,e16_18,e16_19,e16_20,e16_21,e16_22,e16_23,e16_24,e16_7,e16_12,e16_11,e16_10,e16_8,e16_9,e16_6,e16_0,e16_1,e16_2,-⟩:=st16
   have sv16:Sv 27 [] [(7,_),(12,_),(11,_),(10,_),(8,_),(9,_),(6,_),(0,_),(1,_),(2,_),(23,_),(24,_)] a16:=⟨hn16,hd16,e16_7,e16_12,e16_11,e16_10,e16_8,e16_9,e16_6,e16_0,e16_1,e16_2,e16_23,e16_24,trivial⟩
   replace ha:=ha.kn g16
   replace hb:=hb.kn g16
   replace hs:=hs.kn g16
   replace HG:=grown_trans HG g16
   refine tl_storeEW (c:=cb) (el:=(xa ^^^ xb)) sv16 rfl rfl rfl rfl rfl rfl rfl (tyB (((xa ^^^ xb:Nat):Int))) hs cb_len (by decide) (by first | omega | (simp only [List.length_set];omega)) rfl fun w17 g17 h17=>?_
   replace ha:=ha.offR g17 (fun k hk e=>ap_ha_hs k hk (row_fp (j:=i) hs (by omega) e))
   replace hb:=hb.offR g17 (fun k hk e=>ap_hb_hs k hk (row_fp (j:=i) hs (by omega) e))
   replace HG:=grown_from HG g17 fun k e=>lo_hs k (row_fp (j:=i) hs (by omega) e)
   replace hs:=h17
   refine tl_nil ?_
   refine y12 _ _ ?_
   refine k11 _ _ ?_
   refine wp_region_lit ?_
   refine sx_hv sv16 1 [(25,.int .i64 (((i+1:Nat):Int)))]
     ⟨ybc r6 (fun _=>rn_add (by rw [wrap_i64 (by omega) (by omega)];omega)),trivial⟩ fun a18 w18 g18 sv18=>?_
   refine sx_hv (sv18.dl [10]) 1 [(10,.int .i64 (((i+1:Nat):Int)))]
     ⟨ym r5,trivial⟩ fun a19 w19 g19 sv19=>?_
   have gc19:=grown_trans g18 g19
   refine tl_nil ?_
   replace ha:=ha.kn gc19
   replace hb:=hb.kn gc19
   replace hs:=hs.kn gc19
   replace HG:=grown_trans HG gc19
   exact ⟨⟨i+1,sl.set i (xa ^^^ xb),by omega,by rw [List.length_set];exact hsl,xor_step (by omega) hxa hxb hq,⟨sv19.1,sv19.2.1,sv19.2.2.1,sv19.2.2.2.2.2.2.2.1,sv19.2.2.2.2.2.2.2.2.1,sv19.2.2.2.2.2.2.2.2.2.1,sv19.2.2.2.2.2.2.2.2.2.2.1,sv19.2.2.2.2.2.2.2.2.2.2.2.1,sv19.2.2.2.2.2.2.2.2.2.2.2.2.1,trivial⟩,HG,ha,hb,hs,ap_ha_hs,ap_hb_hs,lo_hs⟩,by rw [show _=_ from sv19.2.2.1,show _=_ from sv7.2.2.1];simp [intOf];omega⟩
 · have hfin:=xor_fin hnx (by omega) hsl (by omega) hq
   refine wp_region_lit ?_
   refine sx_hv sv7 1 [(11,.bool false)]
     ⟨ybt r7 (fun _=>rn_lss (by simp;omega)),trivial⟩ fun a20 w20 g20 sv20=>?_
   refine tl_nil ?_
   refine k8 _ _ ?_
   refine wp_seq_k fun K21 k21=>?_
   refine cx_ifF sv20 rfl rfl ?_
   refine wp_exit ?_
   repeat refine then_exit ?_
   refine x6 _ _ ?_
   refine k3 _ _ ?_
   refine wp_seq_k fun K22 k22=>?_
   refine wp_region_lit ?_
   refine sx_hv sv20 1 [(26,.slice so n sc)]
     ⟨ym r5,trivial⟩ fun a23 w23 g23 sv23=>?_
   have gc23:=grown_trans g20 g23
   refine tl_as (v:=.slice so n sc) sv23 r6 fun a24 sv24=>?_
   refine tl_nil ?_
   refine k22 _ _ ?_
   replace ha:=ha.kn gc23
   replace hb:=hb.kn gc23
   replace hs:=hs.kn gc23
   replace HG:=grown_trans HG gc23
   refine wp_ret ?_
   repeat refine then_ret ?_
   rw [hfin,← bv_cb] at hs
   refine cx_ret (fn:=Tryz.f106) sv24 (res_tmp (p:=6) Tryz.results106 sv24 rfl rfl) ?_
   exact ⟨rfl,HG,hs⟩
theorem xorD {x y:List Nat} (hx:Dg x) (hy:Dg y):Dg (xorL x y):=⟨by rw [xorL_len (by rw [hx.1,hy.1];omega),hx.1],xorL_by hx.2 hy.2⟩
set_option maxRecDepth 100000 in
set_option maxHeartbeats 4000000 in
theorem xord_walk (z0 x y:List Nat) (hz:Dg z0) (hx:Dg x) (hy:Dg y) (w:World) :
   Calls Tryz.prog 104 #[dval z0,dval x,dval y] w fun e w'=>e=.returned (dval (xorL x y))∧w.grownBy w' none:=by
 have hz0:z0.length=32:=hz.1
 refine cx_enter Tryz.func104 rfl Tryz.ntmps104 rfl fun a0 sv0=>?_
 have HG:=World.grownBy.refl w none
 replace sv0:Sv 24 [] [(0,dval z0),(1,dval x),(2,dval y)] a0:=sv0
 refine wp_seq_k fun K1 k1=>?_
 refine wp_region_lit ?_
 refine tl_box sv0 rfl rfl rfl rfl rfl rfl (tyD z0 hz.1) fun a2 w2 B3_2 eq_B3_2 g2 z2 HB3_2 sv2=>?_
 have lo_B3_2:=nb_lo HG eq_B3_2
 replace HG:=grown_trans HG g2
 refine tl_box sv2 rfl rfl rfl rfl rfl rfl (tyD x hx.1) fun a3 w3 B4_3 eq_B4_3 g3 z3 HB4_3 sv3=>?_
 have ne_B4_3_B3_2:=nb_ne HB3_2 eq_B4_3
 have lo_B4_3:=nb_lo HG eq_B4_3
 replace HB3_2:=rw_kn g3 HB3_2
 replace HG:=grown_trans HG g3
 refine tl_box sv3 rfl rfl rfl rfl rfl rfl (tyD y hy.1) fun a4 w4 B5_4 eq_B5_4 g4 z4 HB5_4 sv4=>?_
 have ne_B5_4_B3_2:=nb_ne HB3_2 eq_B5_4
 have ne_B5_4_B4_3:=nb_ne HB4_3 eq_B5_4
 have lo_B5_4:=nb_lo HG eq_B5_4
 replace HB3_2:=rw_kn g4 HB3_2
 replace HB4_3:=rw_kn g4 HB4_3
 replace HG:=grown_trans HG g4
 refine tl_alloc (T:=23) (Z:=(bv zero32)) sv4 rfl rfl rfl (fun a w=>by kernel_rfl) fun a5 w5 B6_5 eq_B6_5 g5 z5 HB6_5 sv5=>?_
 have ne_B6_5_B3_2:=nb_ne HB3_2 eq_B6_5
 have ne_B6_5_B4_3:=nb_ne HB4_3 eq_B6_5
 have ne_B6_5_B5_4:=nb_ne HB5_4 eq_B6_5
 have lo_B6_5:=nb_lo HG eq_B6_5
 replace HB3_2:=rw_kn g5 HB3_2
 replace HB4_3:=rw_kn g5 HB4_3
 replace HB5_4:=rw_kn g5 HB5_4
 replace HG:=grown_trans HG g5
 refine tl_nil ?_
 refine k1 _ _ ?_
 refine wp_seq_k fun K6 k6=>?_
 refine wp_seq_k fun K7 k7=>?_
 refine wp_region_lit ?_
 refine sx_hv sv5 3 [(8,dval z0),(9,.int .i64 32),(10,.int .i64 0)]
   ⟨yl r6 (tyD z0 hz.1) HB3_2,ox_const (.inl rfl) rfl trivial (fun _=>rfl),ox_const (.inl rfl) rfl trivial (fun _=>rfl),trivial⟩ fun a8 w8 g8 sv8=>?_
 refine tl_nil ?_
 refine k7 _ _ ?_
 refine cx_block fun Q9 x9 y9 rt9 o9=>?_
 replace HB3_2:=rw_kn g8 HB3_2
 replace HB4_3:=rw_kn g8 HB4_3
 replace HB5_4:=rw_kn g8 HB5_4
 replace HB6_5:=rw_kn g8 HB6_5
 replace HG:=grown_trans HG g8
 refine wp_loop (fun a w'=>∃ (j:Nat) (sl:List Nat),(j≤32)∧(sl.length=32)∧(∀ k,j≤k→sl[k]?=z0[k]?)∧(∀ k,k < j→sl[k]?=(xorL x y)[k]?)∧Sv 24 [] [(10,.int .i64 ((j:Int))),(8,dval z0),(9,.int .i64 32),(6,pt B6_5),(5,pt B5_4),(4,pt B4_3),(3,pt B3_2),(0,dval z0),(1,dval x),(2,dval y)] a∧w.grownBy w' none∧w'.heap[B3_2]?=some (.cells (bv sl).toArray 23 (0,0))∧w'.heap[B4_3]?=some (.cells (bv x).toArray 23 (0,0))∧w'.heap[B5_4]?=some (.cells (bv y).toArray 23 (0,0))∧w'.heap[B6_5]?=some (.cells ((bv zero32)).toArray 23 (0,0))) (fun a _=>(32 - intOf (a.tmps.getD 10 undef)).toNat) ⟨0,z0,by omega,hz0,fun k hk=>rfl,fun k hk=>by omega,⟨sv8.1,sv8.2.1,sv8.2.2.2.2.1,sv8.2.2.1,sv8.2.2.2.1,sv8.2.2.2.2.2.1,sv8.2.2.2.2.2.2.1,sv8.2.2.2.2.2.2.2.1,sv8.2.2.2.2.2.2.2.2.1,sv8.2.2.2.2.2.2.2.2.2.1,sv8.2.2.2.2.2.2.2.2.2.2.1,sv8.2.2.2.2.2.2.2.2.2.2.2.1,trivial⟩,HG,HB3_2,HB4_3,HB5_4,HB6_5⟩ fun a10 w10 hI10=>?_
 clear HB3_2
 clear HB4_3
 clear HB5_4
 clear HB6_5
 clear HG
 obtain ⟨j,sl,hj32,hsl,hkeep,hq,sv10,HG,HB3_2,HB4_3,HB5_4,HB6_5⟩:=hI10
 refine wp_seq_k fun K11 k11=>?_
 by_cases hj:j < 32
 · obtain ⟨xa,hxa⟩:∃ a,x[j]?=some a:=⟨_,List.getElem?_eq_getElem (by rw [hx.1];exact hj)⟩
   obtain ⟨xb,hxb⟩:∃ b,y[j]?=some b:=⟨_,List.getElem?_eq_getElem (by rw [hy.1];exact hj)⟩
   have ba:xa < 256:=hx.2 _ (List.mem_of_getElem? hxa)
   have bb:xb < 256:=hy.2 _ (List.mem_of_getElem? hxb)
   refine wp_region_lit ?_
   refine sx_hv sv10 1 [(11,.bool true)]
     ⟨ybt r7 (fun _=>rn_lss (by simp;omega)),trivial⟩ fun a12 w12 g12 sv12=>?_
   refine tl_nil ?_
   refine k11 _ _ ?_
   refine wp_seq_k fun K13 k13=>?_
   refine cx_ifT sv12 rfl rfl ?_
   refine wp_skip ?_
   refine k13 _ _ ?_
   refine wp_seq_k fun K14 k14=>?_
   refine cx_block fun Q15 x15 y15 rt15 o15=>?_
   refine wp_seq_k fun K16 k16=>?_
   refine wp_region_lit ?_
   refine sx_hv sv12 1 [(12,.int .i64 ((j:Int)))]
     ⟨ym r5,trivial⟩ fun a17 w17 g17 sv17=>?_
   have gc17:=grown_trans g12 g17
   refine tl_as (v:=.int .i64 ((j:Int))) sv17 r6 fun a18 sv18=>?_
   refine tl_nil ?_
   refine k16 _ _ ?_
   replace HB3_2:=rw_kn gc17 HB3_2
   replace HB4_3:=rw_kn gc17 HB4_3
   replace HB5_4:=rw_kn gc17 HB5_4
   replace HB6_5:=rw_kn gc17 HB6_5
   replace HG:=grown_trans HG gc17
   refine rx_tail (sv18.st w17) (by kernel_rfl) 9 [(13,Sp.is (.int .i64 ((j:Int)))),(14,Sp.is (.int .i64 ((j:Int)))),(15,Sp.is (pk B4_3 j)),(16,Sp.is (.int .u8 ((xa:Int)))),(17,Sp.is (.int .i64 ((j:Int)))),(18,Sp.is (pk B5_4 j)),(19,Sp.is (.int .u8 ((xb:Int)))),(20,Sp.is (.int .u8 (((xa ^^^ xb:Nat):Int)))),(21,Sp.is (pk B3_2 j))] rfl (by kernel_rfl) (by kernel_rfl) (by kernel_rfl) [] (by kernel_rfl)
     ⟨ym r5,ym r5,ox_index rfl rfl trivial (oy rfl rfl) (oy rfl rfl) (fun w=>ix_arr hj w) (fun _=>rfl),ox_load rfl rfl trivial (oy rfl rfl) (fun _ g=>loadsAt (tyU8 (xa:Int)) (by simpa using bv_range (o:=0) (rangeAt_row (row_of g HB4_3 (by simp))) hxa)) (fun _=>rfl),ym r5,ox_index rfl rfl trivial (oy rfl rfl) (oy rfl rfl) (fun w=>ix_arr hj w) (fun _=>rfl),ox_load rfl rfl trivial (oy rfl rfl) (fun _ g=>loadsAt (tyU8 (xb:Int)) (by simpa using bv_range (o:=0) (rangeAt_row (row_of g HB5_4 (by simp))) hxb)) (fun _=>rfl),ybt r7 (fun _=>rn_xor8 ba bb),ox_index rfl rfl trivial (oy rfl rfl) (oy rfl rfl) (fun w=>ix_arr hj w) (fun _=>rfl),trivial⟩ trivial
     [] (by kernel_rfl) trivial ⟨.inl rfl,.inl rfl,.inl rfl,.inl rfl,.inl rfl,.inl rfl,.inl rfl,.inl rfl,.inl rfl,trivial⟩ (by kernel_rfl) fun a19 w19 g19 st19 nd19=>?_
   obtain ⟨hn19,hd19,e19_13,e19_14,e19_15,e19_16,e19_17,e19_18,e19_19,e19_20,e19_21,e19_7,e19_12,e19_11,e19_10,e19_8,e19_9,e19_6,e19_5,e19_4,e19_3,e19_0,e19_1,e19_2,-⟩:=st19
   have sv19:Sv 24 [] [(7,_),(12,_),(11,_),(10,_),(8,_),(9,_),(6,_),(5,_),(4,_),(3,_),(0,_),(1,_),(2,_),(20,_),(21,_)] a19:=⟨hn19,hd19,e19_7,e19_12,e19_11,e19_10,e19_8,e19_9,e19_6,e19_5,e19_4,e19_3,e19_0,e19_1,e19_2,e19_20,e19_21,trivial⟩
   replace HB3_2:=rw_kn g19 HB3_2
   replace HB4_3:=rw_kn g19 HB4_3
   replace HB5_4:=rw_kn g19 HB5_4
   replace HB6_5:=rw_kn g19 HB6_5
   replace HG:=grown_trans HG g19
   refine tl_storeB sv19 rfl rfl rfl rfl rfl rfl rfl (tyU8 _) HB3_2 (by omega) fun w20 g20 h20=>?_
   replace HB4_3:=rw_st g20 HB4_3 ne_B4_3_B3_2
   replace HB5_4:=rw_st g20 HB5_4 ne_B5_4_B3_2
   replace HB6_5:=rw_st g20 HB6_5 ne_B6_5_B3_2
   replace HG:=grown_newR HG g20 lo_B3_2
   replace HB3_2:=h20
   refine tl_nil ?_
   refine y15 _ _ ?_
   refine k14 _ _ ?_
   refine wp_region_lit ?_
   refine sx_hv sv19 1 [(22,.int .i64 (((j+1:Nat):Int)))]
     ⟨ybc r6 (fun _=>rn_add (by rw [wrap_i64 (by omega) (by omega)];omega)),trivial⟩ fun a21 w21 g21 sv21=>?_
   refine sx_hv (sv21.dl [10]) 1 [(10,.int .i64 (((j+1:Nat):Int)))]
     ⟨ym r5,trivial⟩ fun a22 w22 g22 sv22=>?_
   have gc22:=grown_trans g21 g22
   refine tl_nil ?_
   replace HB3_2:=rw_kn gc22 HB3_2
   replace HB4_3:=rw_kn gc22 HB4_3
   replace HB5_4:=rw_kn gc22 HB5_4
   replace HB6_5:=rw_kn gc22 HB6_5
   replace HG:=grown_trans HG gc22
   exact ⟨⟨j+1,sl.set j (xa ^^^ xb),by omega,by rw [List.length_set];exact hsl,fun k hk=>by rw [List.getElem?_set_ne (by omega)];exact hkeep k (by omega),xor_step (by omega) hxa hxb hq,⟨sv22.1,sv22.2.1,sv22.2.2.1,sv22.2.2.2.2.2.2.2.1,sv22.2.2.2.2.2.2.2.2.1,sv22.2.2.2.2.2.2.2.2.2.1,sv22.2.2.2.2.2.2.2.2.2.2.1,sv22.2.2.2.2.2.2.2.2.2.2.2.1,sv22.2.2.2.2.2.2.2.2.2.2.2.2.1,sv22.2.2.2.2.2.2.2.2.2.2.2.2.2.1,sv22.2.2.2.2.2.2.2.2.2.2.2.2.2.2.1,sv22.2.2.2.2.2.2.2.2.2.2.2.2.2.2.2.1,trivial⟩,HG,HB3_2,HB4_3,HB5_4,HB6_5⟩,by rw [show _=_ from sv22.2.2.1,show _=_ from sv10.2.2.1];simp [intOf];omega⟩
 · have hfin:=xor_fin hx.1 (by rw [hy.1];omega) hsl (by omega) hq
   have hsn:Dg sl:=hfin▸xorD hx hy
   refine wp_region_lit ?_
   refine sx_hv sv10 1 [(11,.bool false)]
     ⟨ybt r7 (fun _=>rn_lss (by simp;omega)),trivial⟩ fun a23 w23 g23 sv23=>?_
   refine tl_nil ?_
   refine k11 _ _ ?_
   refine wp_seq_k fun K24 k24=>?_
   refine cx_ifF sv23 rfl rfl ?_
   refine wp_exit ?_
   repeat refine then_exit ?_
   refine x9 _ _ ?_
   refine k6 _ _ ?_
   refine wp_seq_k fun K25 k25=>?_
   refine wp_region_lit ?_
   refine sx_hv sv23 1 [(23,dval sl)]
     ⟨yl r6 (tyD sl hsn.1) (rw_kn g23 HB3_2),trivial⟩ fun a26 w26 g26 sv26=>?_
   have gc26:=grown_trans g23 g26
   refine tl_sw sv26 r7 (tyD sl hsn.1) (rw_kn gc26 HB6_5) (lenD hsn) fun w27 g27 h27=>?_
   replace HB3_2:=rw_s2 gc26 g27 HB3_2 (Ne.symm ne_B6_5_B3_2)
   replace HB4_3:=rw_s2 gc26 g27 HB4_3 (Ne.symm ne_B6_5_B4_3)
   replace HB5_4:=rw_s2 gc26 g27 HB5_4 (Ne.symm ne_B6_5_B5_4)
   replace HG:=grown_newR (grown_trans HG gc26) g27 lo_B6_5
   replace HB6_5:=h27
   refine tl_nil ?_
   refine k25 _ _ ?_
   refine wp_ret ?_
   repeat refine then_ret ?_
   refine cx_ret (fn:=Tryz.f104) sv26 (res_cell (p:=6) Tryz.results104 sv26 rfl rfl (tyD sl hsn.1) HB6_5) ?_
   exact ⟨by rw [hfin],HG⟩
set_option maxRecDepth 100000 in
set_option maxHeartbeats 4000000 in
theorem wrapped_walk (x k:List Nat) (hx:Dg x) (hk:Dg k) (w:World) :
   Calls Tryz.prog 56 #[dval x,dval k] w fun e w'=>e=.returned (dval (wrp x k))∧w.grownBy w' none:=by
 refine cx_enter Tryz.func56 rfl Tryz.ntmps56 rfl fun a0 sv0=>?_
 have HG:=World.grownBy.refl w none
 replace sv0:Sv 10 [] [(0,dval x),(1,dval k)] a0:=sv0
 refine wp_seq_k fun K1 k1=>?_
 refine wp_region_lit ?_
 refine tl_box sv0 rfl rfl rfl rfl rfl rfl (tyD x hx.1) fun a2 w2 B2_2 eq_B2_2 g2 z2 HB2_2 sv2=>?_
 have lo_B2_2:=nb_lo HG eq_B2_2
 replace HG:=grown_trans HG g2
 refine tl_box sv2 rfl rfl rfl rfl rfl rfl (tyD k hk.1) fun a3 w3 B3_3 eq_B3_3 g3 z3 HB3_3 sv3=>?_
 have ne_B3_3_B2_2:=nb_ne HB2_2 eq_B3_3
 have lo_B3_3:=nb_lo HG eq_B3_3
 replace HB2_2:=rw_kn g3 HB2_2
 replace HG:=grown_trans HG g3
 refine tl_alloc (T:=23) (Z:=(bv zero32)) sv3 rfl rfl rfl (fun a w=>by kernel_rfl) fun a4 w4 B4_4 eq_B4_4 g4 z4 HB4_4 sv4=>?_
 have ne_B4_4_B2_2:=nb_ne HB2_2 eq_B4_4
 have ne_B4_4_B3_3:=nb_ne HB3_3 eq_B4_4
 have lo_B4_4:=nb_lo HG eq_B4_4
 replace HB2_2:=rw_kn g4 HB2_2
 replace HB3_3:=rw_kn g4 HB3_3
 replace HG:=grown_trans HG g4
 refine tl_nil ?_
 refine k1 _ _ ?_
 refine wp_seq_k fun K5 k5=>?_
 refine rx_tail (sv4.st w4) (by kernel_rfl) 5 [(5,Sp.is (dval zero32)),(6,Sp.is (dval x)),(7,Sp.is (dval k)),(8,Sp.is (dval ((msk k)))),(9,Sp.is (dval ((wrp x k))))] rfl (by kernel_rfl) (by kernel_rfl) (by kernel_rfl) [] (by kernel_rfl)
   ⟨ox_build (vs:=[]) rfl rfl trivial trivial (fun _=>bD0 _) (fun _=>rfl),yl r6 (tyD x hx.1) HB2_2,yl r6 (tyD k hk.1) HB3_3,ox_call (Sp.is (dval ((msk k)))) [.int .u64 283,dval k,.slice none 0 0] rfl rfl trivial ⟨rfl,(oy rfl rfl),rfl,trivial⟩ (is_on fun W g=>keyed_c (n:=283) (by decide) rfl hk W) (fun _ _ h=>h) (enter_of Tryz.func66 (by kernel_rfl) rfl),ox_call (Sp.is (dval ((wrp x k)))) [dval zero32,dval x,dval ((msk k))] rfl rfl trivial ⟨(oy rfl rfl),(oy rfl rfl),(oy rfl rfl),trivial⟩ (is_on fun W g=>xord_walk zero32 x (msk k) zero32_dg hx (kd_dg 283 k) W) (fun _ _ h=>h) (enter_of Tryz.func104 (by kernel_rfl) rfl),trivial⟩ trivial
   [] (by kernel_rfl) trivial ⟨.inl rfl,.inl rfl,.inl rfl,.inl rfl,.inl rfl,trivial⟩ (by kernel_rfl) fun a6 w6 g6 st6 nd6=>?_
 obtain ⟨hn6,hd6,e6_5,e6_6,e6_7,e6_8,e6_9,e6_4,e6_3,e6_2,e6_0,e6_1,-⟩:=st6
 have sv6:Sv 10 [] [(4,_),(3,_),(2,_),(0,_),(1,_),(9,_)] a6:=⟨hn6,hd6,e6_4,e6_3,e6_2,e6_0,e6_1,e6_9,trivial⟩
 refine tl_sw sv6 r7 (tyD ((wrp x k)) (xorD hx (kd_dg 283 k)).1) (rw_kn g6 HB4_4) (lenD (xorD hx (kd_dg 283 k))) fun w7 g7 h7=>?_
 replace HB2_2:=rw_s2 g6 g7 HB2_2 (Ne.symm ne_B4_4_B2_2)
 replace HB3_3:=rw_s2 g6 g7 HB3_3 (Ne.symm ne_B4_4_B3_3)
 replace HG:=grown_newR (grown_trans HG g6) g7 lo_B4_4
 replace HB4_4:=h7
 refine tl_nil ?_
 refine k5 _ _ ?_
 refine wp_ret ?_
 repeat refine then_ret ?_
 refine cx_ret (fn:=Tryz.f56) sv6 (res_cell (p:=4) Tryz.results56 sv6 rfl rfl (tyD ((wrp x k)) (xorD hx (kd_dg 283 k)).1) HB4_4) ?_
 exact ⟨rfl,HG⟩
end Go.Proofs.YtbfjfnbcmojpiaaGreat
