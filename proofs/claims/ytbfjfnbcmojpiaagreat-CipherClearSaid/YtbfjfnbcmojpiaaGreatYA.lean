import Derived.Test.YtbfjfnbcmojpiaaGreatRT
namespace Go.Proofs.YtbfjfnbcmojpiaaGreat
open Go.RowKit Go.Shelf
set_option linter.unusedSimpArgs false
set_option linter.unusedVariables false
def decO (b:List Nat):V×Int:=match pV b with
 | .ok (x,[])=>(x,0)
 | _=>(V.nul,101)
theorem decO_ok {b:List Nat} {x:V} (h:pV b=.ok (x,[])):decO b=(x,0):=by unfold decO;rw [h]
theorem decO_rest {b r:List Nat} {x:V} (h:pV b=.ok (x,r)) (hr:0 < r.length):decO b=(V.nul,101):=by
 unfold decO
 rw [h]
 cases r with
 | nil=>simp at hr
 | cons c r=>rfl
theorem decO_err {b:List Nat} {e:Nat} (h:pV b=.error e):decO b=(V.nul,101):=by unfold decO;rw [h]
def recL (P:List VP) (a:Int):List (List Nat)→List (List Nat)→Option (List Nat)
 | [],_=>none
 | o :: own,wr=>if (keyO P o a).2=0 then some (wrp (lat wr 0) (keyO P o a).1) else recL P a own wr.tail
theorem recL_none {P:List VP} {a:Int}:∀ {own wr:List (List Nat)},(∀ j,j < own.length→(keyO P (lat own j) a).2≠0)→recL P a own wr=none
 | [],_,_=>rfl
 | o :: own,wr,h=>by
   have h0:(keyO P o a).2≠0:=h 0 (by simp)
   unfold recL
   rw [if_neg h0]
   exact recL_none fun j hj=>h (j+1) (by simpa using hj)
theorem recL_hit {P:List VP} {a:Int}:∀ {own wr:List (List Nat)} {i:Nat},i < own.length→(∀ j,j < i→(keyO P (lat own j) a).2≠0)→(keyO P (lat own i) a).2=0→recL P a own wr=some (wrp (lat wr i) (keyO P (lat own i) a).1)
 | [],_,_,hi,_,_=>by simp at hi
 | o :: own,wr,0,_,_,h=>by
   have h0:(keyO P o a).2=0:=h
   unfold recL
   rw [if_pos h0]
   rfl
 | o :: own,wr,i+1,hi,hj,h=>by
   have h0:(keyO P o a).2≠0:=hj 0 (by omega)
   have:=recL_hit (own:=own) (wr:=wr.tail) (i:=i) (by simpa using hi) (fun j hjj=>hj (j+1) (by omega)) h
   unfold recL
   rw [if_neg h0,this]
   cases wr <;> rfl
def recO (P:List VP) (s:Sd):Option (List Nat):=if s.joint=1 then recL P s.addr s.own s.wr else if (keysO P s.addr s.own).2=0 then some (cky (decide ((0:Int)=1)) (keysO P s.addr s.own).1) else none
def openO (P:List VP) (s:Sd):V×Int:=
 if vldS s && vldV P then
   (if s.own=[] then (if tgC s.addr s.body=s.tag then decO s.body else (V.nul,101))
   else match recO P s with
     | none=>(V.nul,10)
     | some c=>if tgK c s.addr s.body=s.tag then decO (cry s.body c) else (V.nul,101))
 else (V.nul,1)
theorem vldS_h {s:Sd} (h:vldS s=true):hd s.own s.joint s.addr=true:=by
 unfold vldS at h
 simp only [Bool.and_eq_true] at h
 exact h.1.1
theorem vldS_b {s:Sd} (h:vldS s=true):s.body.length≤64:=by
 unfold vldS at h
 simp only [Bool.and_eq_true,decide_eq_true_eq] at h
 exact h.1.2
theorem vldS_w {s:Sd} (h:vldS s=true) (hj:s.joint=1):s.wr.length=s.own.length:=by
 unfold vldS at h
 rw [if_pos hj] at h
 simp only [Bool.and_eq_true,decide_eq_true_eq] at h
 exact h.2
def RecR (w w':World) (r:Option (List Nat)) (e:Ending):Prop:=∃ c,e=.returned (.tuple #[dval c,.bool r.isSome])∧Dg c∧(∀ c',r=some c'→c'=c)∧w.grownBy w' none
theorem RecR.some {w w':World} {r:Option (List Nat)} {c:List Nat} (h:r=some c) (hc:Dg c) (g:w.grownBy w' none):RecR w w' r (.returned (.tuple #[dval c,.bool true])):=by
 subst h
 exact ⟨c,rfl,hc,fun c' h=>(Option.some.inj h).symm,g⟩
theorem RecR.none {w w':World} {r:Option (List Nat)} {c:List Nat} (h:r=none) (hc:Dg c) (g:w.grownBy w' none):RecR w w' r (.returned (.tuple #[dval c,.bool false])):=by
 subst h
 exact ⟨c,rfl,hc,fun c' h=>(by cases h),g⟩
set_option maxRecDepth 100000 in
set_option maxHeartbeats 4000000 in
theorem recov_walk (ks:List VK) (vo:Option Addr) (vc_:Nat) (sa po:List Nat) (hsa:Dg sa) (hpo:Dg po) (ad joint:Int) (od wd:List DD) (ao wo bo:Option Addr) (ac wc bc:Nat) (body tg:List Nat) (htg:Dg tg) (w:World) (hr:RdK w (.slice vo ks.length vc_) ks) (ho:RdD w (.slice ao od.length ac) od) (hw:RdD w (.slice wo wd.length wc) wd) (hb:SlB w 1 (.slice bo body.length bc) body.length (bv body)) (hvs:vldS ⟨ad,od.map DD.x,joint,wd.map DD.x,body,tg⟩=true) :
   Calls Tryz.prog 62 #[vval sa po (.slice vo ks.length vc_),sdval ad (.slice ao od.length ac) joint (.slice wo wd.length wc) (.slice bo body.length bc) tg] w fun e w'=>RecR w w' (recO (ks.map VK.p) ⟨ad,od.map DD.x,joint,wd.map DD.x,body,tg⟩) e:=by
 obtain ⟨P,hP⟩:∃ P,ks.map VK.p=P:=⟨_,rfl⟩
 obtain ⟨own,hown⟩:∃ own,od.map DD.x=own:=⟨_,rfl⟩
 have hownl:own.length=od.length:=by rw [← hown,List.length_map]
 have hnok:=hr.noks2
 rw [hP] at hnok
 rw [hP,hown]
 obtain ⟨haa,hjj,hol,_⟩:=hd_of (vldS_h hvs)
 have hol:own.length≤16:=by rw [← hown];exact hol
 have hwl:joint=1→wd.length=od.length:=fun h=>by have:=vldS_w hvs h;simpa using this
 refine cx_enter Tryz.func62 rfl Tryz.ntmps62 rfl fun a0 sv0=>?_
 have HG:=World.grownBy.refl w none
 replace sv0:Sv 64 [] [(0,vval sa po (.slice vo ks.length vc_)),(1,sdval ad (.slice ao od.length ac) joint (.slice wo wd.length wc) (.slice bo body.length bc) tg)] a0:=sv0
 refine wp_seq_k fun K1 k1=>?_
 refine wp_region_lit ?_
 refine tl_box sv0 rfl rfl rfl rfl rfl rfl (tyVa hsa hpo (.slice vo ks.length vc_) rfl) fun a2 w2 B2_2 eq_B2_2 g2 z2 HB2_2 sv2=>?_
 have lo_B2_2:=nb_lo HG eq_B2_2
 have ap_hr_B2_2:=nb_ap (hr.lt) eq_B2_2
 have ap_ho_B2_2:=nb_ap (ho.lt) eq_B2_2
 have ap_hw_B2_2:=nb_ap (hw.lt) eq_B2_2
 have ap_hb_B2_2:=nb_ap (hb.lt) eq_B2_2
 replace hr:=hr.kn g2
 replace ho:=ho.kn g2
 replace hw:=hw.kn g2
 replace hb:=hb.kn g2
 replace HG:=grown_trans HG g2
 refine tl_box sv2 rfl rfl rfl rfl rfl rfl (tySd _ _ htg (.slice ao od.length ac) (.slice wo wd.length wc) (.slice bo body.length bc) rfl rfl rfl) fun a3 w3 B3_3 eq_B3_3 g3 z3 HB3_3 sv3=>?_
 have ne_B3_3_B2_2:=nb_ne HB2_2 eq_B3_3
 have lo_B3_3:=nb_lo HG eq_B3_3
 have ap_hr_B3_3:=nb_ap (hr.lt) eq_B3_3
 have ap_ho_B3_3:=nb_ap (ho.lt) eq_B3_3
 have ap_hw_B3_3:=nb_ap (hw.lt) eq_B3_3
 have ap_hb_B3_3:=nb_ap (hb.lt) eq_B3_3
 replace HB2_2:=rw_kn g3 HB2_2
 replace hr:=hr.kn g3
 replace ho:=ho.kn g3
 replace hw:=hw.kn g3
 replace hb:=hb.kn g3
 replace HG:=grown_trans HG g3
 refine tl_alloc (T:=23) (Z:=(bv zero32)) sv3 rfl rfl rfl (fun a w=>by kernel_rfl) fun a4 w4 B4_4 eq_B4_4 g4 z4 HB4_4 sv4=>?_
 have ne_B4_4_B2_2:=nb_ne HB2_2 eq_B4_4
 have ne_B4_4_B3_3:=nb_ne HB3_3 eq_B4_4
 have lo_B4_4:=nb_lo HG eq_B4_4
 have ap_hr_B4_4:=nb_ap (hr.lt) eq_B4_4
 have ap_ho_B4_4:=nb_ap (ho.lt) eq_B4_4
 have ap_hw_B4_4:=nb_ap (hw.lt) eq_B4_4
 have ap_hb_B4_4:=nb_ap (hb.lt) eq_B4_4
 replace HB2_2:=rw_kn g4 HB2_2
 replace HB3_3:=rw_kn g4 HB3_3
 replace hr:=hr.kn g4
 replace ho:=ho.kn g4
 replace hw:=hw.kn g4
 replace hb:=hb.kn g4
 replace HG:=grown_trans HG g4
 refine tl_as (v:=.bool false) sv4 r6 fun a5 sv5=>?_
 refine tl_nil ?_
 refine k1 _ _ ?_
 refine wp_seq_k fun K6 k6=>?_
 refine wp_region_lit ?_
 refine tl_as (v:=.slice none 0 0) sv5 r6 fun a7 sv7=>?_
 refine tl_nil ?_
 refine k6 _ _ ?_
 refine wp_seq_k fun K8 k8=>?_
 refine wp_seq_k fun K9 k9=>?_
 rcases hjj with rfl | rfl
 · refine wp_region_lit ?_
   refine sx_hv sv7 4 [(11,pk B3_3 1),(12,.slice ao od.length ac),(13,.int .i64 ((od.length:Nat))),(14,.int .i64 0)]
     ⟨yf r6 (fun _=>by kernel_rfl),yp (i:=1) r6 (tyDs (.slice ao od.length ac) rfl) HB3_3 rfl rfl,ox_len (Tryz.underlying28) rfl rfl trivial (oy rfl rfl) (fun _=>rfl),ox_const (.inl rfl) rfl trivial (fun _=>rfl),trivial⟩ fun a10 w10 g10 sv10=>?_
   refine tl_nil ?_
   refine k9 _ _ ?_
   refine cx_block fun Q11 x11 y11 rt11 o11=>?_
   replace HB2_2:=rw_kn g10 HB2_2
   replace HB3_3:=rw_kn g10 HB3_3
   replace HB4_4:=rw_kn g10 HB4_4
   replace hr:=hr.kn g10
   replace ho:=ho.kn g10
   replace hw:=hw.kn g10
   replace hb:=hb.kn g10
   replace HG:=grown_trans HG g10
   have okk:=Own.nil w10 23 32
   have ap_okk_B2_2:∀ k,fpS (.slice none 0 0) k→k≠B2_2:=fun k hk=>by simp [fpS,Value.ownBlock] at hk
   have ap_okk_B3_3:∀ k,fpS (.slice none 0 0) k→k≠B3_3:=fun k hk=>by simp [fpS,Value.ownBlock] at hk
   have ap_okk_B4_4:∀ k,fpS (.slice none 0 0) k→k≠B4_4:=fun k hk=>by simp [fpS,Value.ownBlock] at hk
   have ap_hr_okk:∀ k,fpK (.slice vo ks.length vc_) ks k→¬ fpS (.slice none 0 0) k:=fun k _ hk=>by simp [fpS,Value.ownBlock] at hk
   have ap_ho_okk:∀ k,fpS (.slice ao od.length ac) k→¬ fpS (.slice none 0 0) k:=fun k _ hk=>by simp [fpS,Value.ownBlock] at hk
   have ap_hw_okk:∀ k,fpS (.slice wo wd.length wc) k→¬ fpS (.slice none 0 0) k:=fun k _ hk=>by simp [fpS,Value.ownBlock] at hk
   have ap_hb_okk:∀ k,fpS (.slice bo body.length bc) k→¬ fpS (.slice none 0 0) k:=fun k _ hk=>by simp [fpS,Value.ownBlock] at hk
   have lo_okk:∀ k,fpS (.slice none 0 0) k→w.heap.size≤k:=fun k hk=>by simp [fpS,Value.ownBlock] at hk
   refine wp_loop (fun a w'=>∃ (i:Nat) (ko:Option Addr) (kc:Nat) (kl:List DD),(i≤od.length)∧(kl.map DD.x=(own.take i).map fun z=>(keyO P z ad).1)∧(∀ j,j < i→(keyO P (lat own j) ad).2=0)∧Sv 64 [] [(14,.int .i64 ((i:Int))),(6,.slice ko i kc),(11,pk B3_3 1),(12,.slice ao od.length ac),(13,.int .i64 ((od.length:Nat))),(4,pt B4_4),(3,pt B3_3),(2,pt B2_2),(0,vval sa po (.slice vo ks.length vc_)),(1,sdval ad (.slice ao od.length ac) 0 (.slice wo wd.length wc) (.slice bo body.length bc) tg)] a∧w.grownBy w' none∧w'.heap[B2_2]?=some (.cells ([bv sa,bv po,[.slice vo ks.length vc_]].flatten).toArray 36 (0,0))∧w'.heap[B3_3]?=some (.cells ([[.int .i64 ad],[.slice ao od.length ac],[.int .i64 0],[.slice wo wd.length wc],[.slice bo body.length bc],bv tg].flatten).toArray 31 (0,0))∧w'.heap[B4_4]?=some (.cells ((bv zero32)).toArray 23 (0,0))∧RdK w' (.slice vo ks.length vc_) ks∧RdD w' (.slice ao od.length ac) od∧RdD w' (.slice wo wd.length wc) wd∧SlB w' 1 (.slice bo body.length bc) body.length (bv body)∧Own w' 23 32 (.slice ko i kc) i (kl.flatMap dcs)∧(∀ k,fpS (.slice ko i kc) k→k≠B2_2)∧(∀ k,fpS (.slice ko i kc) k→k≠B3_3)∧(∀ k,fpS (.slice ko i kc) k→k≠B4_4)∧(∀ k,fpK (.slice vo ks.length vc_) ks k→¬ fpS (.slice ko i kc) k)∧(∀ k,fpS (.slice ao od.length ac) k→¬ fpS (.slice ko i kc) k)∧(∀ k,fpS (.slice wo wd.length wc) k→¬ fpS (.slice ko i kc) k)∧(∀ k,fpS (.slice bo body.length bc) k→¬ fpS (.slice ko i kc) k)∧(∀ k,fpS (.slice ko i kc) k→w.heap.size≤k)) (fun a _=>(od.length - intOf (a.tmps.getD 14 undef)).toNat) ⟨0,none,0,[],Nat.zero_le _,rfl,fun j hj=>by omega,⟨sv10.1,sv10.2.1,sv10.2.2.2.2.2.1,sv10.2.2.2.2.2.2.1,sv10.2.2.1,sv10.2.2.2.1,sv10.2.2.2.2.1,sv10.2.2.2.2.2.2.2.2.1,sv10.2.2.2.2.2.2.2.2.2.1,sv10.2.2.2.2.2.2.2.2.2.2.1,sv10.2.2.2.2.2.2.2.2.2.2.2.1,sv10.2.2.2.2.2.2.2.2.2.2.2.2.1,trivial⟩,HG,HB2_2,HB3_3,HB4_4,hr,ho,hw,hb,okk,ap_okk_B2_2,ap_okk_B3_3,ap_okk_B4_4,ap_hr_okk,ap_ho_okk,ap_hw_okk,ap_hb_okk,lo_okk⟩ fun a12 w12 hI12=>?_
   clear HB2_2
   clear HB3_3
   clear HB4_4
   clear hr
   clear ho
   clear hw
   clear hb
   clear okk
   clear HG
   obtain ⟨i,ko,kc,kl,hin,hkl,hok,sv12,HG,HB2_2,HB3_3,HB4_4,hr,ho,hw,hb,okk,ap_okk_B2_2,ap_okk_B3_3,ap_okk_B4_4,ap_hr_okk,ap_ho_okk,ap_hw_okk,ap_hb_okk,lo_okk⟩:=hI12
   refine wp_seq_k fun K13 k13=>?_
   by_cases hi:i < od.length
   · obtain ⟨y,hx_y⟩:∃ zx,od[i]'hi=zx:=⟨_,rfl⟩
     have hla:lat own i=y.x:=by rw [← hown,lat_map hi,hx_y]
     obtain ⟨kx,hkx⟩:∃ q,keyO P y.x ad=q:=⟨_,rfl⟩
     have hkd:Dg kx.1:=hkx▸keyO_dg2 hnok
     refine wp_region_lit ?_
     refine sx_hv sv12 1 [(15,.bool true)]
       ⟨ybt r7 (fun _=>rn_lss (by simp;omega)),trivial⟩ fun a14 w14 g14 sv14=>?_
     refine tl_nil ?_
     refine k13 _ _ ?_
     refine wp_seq_k fun K15 k15=>?_
     refine cx_ifT sv14 rfl rfl ?_
     refine wp_skip ?_
     refine k15 _ _ ?_
     refine wp_seq_k fun K16 k16=>?_
     refine cx_block fun Q17 x17 y17 rt17 o17=>?_
     refine wp_seq_k fun K18 k18=>?_
     refine wp_region_lit ?_
     replace HB2_2:=rw_kn g14 HB2_2
     replace HB3_3:=rw_kn g14 HB3_3
     replace HB4_4:=rw_kn g14 HB4_4
     replace hr:=hr.kn g14
     replace ho:=ho.kn g14
     replace hw:=hw.kn g14
     replace hb:=hb.kn g14
     replace okk:=okk.kn g14
     replace HG:=grown_trans HG g14
     refine sx_hv sv14 3 [(16,.int .i64 ((i:Int))),(17,pk ((bO ao)) (oO ao+i * 32)),(18,dval y.x)]
       ⟨ym r5,ox_index rfl rfl trivial (oy rfl rfl) (oy rfl rfl) (fun w=>ix_sl Tryz.underlying28 (by kernel_rfl) (ho.1) (by omega) (rfl) w) (fun _=>rfl),ox_load rfl rfl trivial (oy rfl rfl) (fun _ g=>loadsAt (tyD y.x y.h.1) (by have:=el_range (ho.kn g).1 dcs_len hi (by decide);rw [hx_y] at this;exact this)) (fun _=>rfl),trivial⟩ fun a19 w19 g19 sv19=>?_
     replace HB2_2:=rw_kn g19 HB2_2
     replace HB3_3:=rw_kn g19 HB3_3
     replace HB4_4:=rw_kn g19 HB4_4
     replace hr:=hr.kn g19
     replace ho:=ho.kn g19
     replace hw:=hw.kn g19
     replace hb:=hb.kn g19
     replace okk:=okk.kn g19
     replace HG:=grown_trans HG g19
     refine tl_alloc (T:=23) (Z:=(bv zero32)) sv19 rfl rfl rfl (fun a w=>by kernel_rfl) fun a20 w20 B8_20 eq_B8_20 g20 z20 HB8_20 sv20=>?_
     have ne_B8_20_B2_2:=nb_ne HB2_2 eq_B8_20
     have ne_B8_20_B3_3:=nb_ne HB3_3 eq_B8_20
     have ne_B8_20_B4_4:=nb_ne HB4_4 eq_B8_20
     have lo_B8_20:=nb_lo HG eq_B8_20
     have ap_hr_B8_20:=nb_ap (hr.lt) eq_B8_20
     have ap_ho_B8_20:=nb_ap (ho.lt) eq_B8_20
     have ap_hw_B8_20:=nb_ap (hw.lt) eq_B8_20
     have ap_hb_B8_20:=nb_ap (hb.lt) eq_B8_20
     have ap_okk_B8_20:=nb_ap (Own.ltS okk) eq_B8_20
     replace HB2_2:=rw_kn g20 HB2_2
     replace HB3_3:=rw_kn g20 HB3_3
     replace HB4_4:=rw_kn g20 HB4_4
     replace hr:=hr.kn g20
     replace ho:=ho.kn g20
     replace hw:=hw.kn g20
     replace hb:=hb.kn g20
     replace okk:=okk.kn g20
     replace HG:=grown_trans HG g20
     refine tl_as (v:=.int .i64 ((i:Int))) sv20 r6 fun a21 sv21=>?_
     refine tl_sw sv21 r7 (tyD y.x y.h.1) HB8_20 (lenD y.h) fun w22 g22 h22=>?_
     replace HB2_2:=rw_st g22 HB2_2 (Ne.symm ne_B8_20_B2_2)
     replace HB3_3:=rw_st g22 HB3_3 (Ne.symm ne_B8_20_B3_3)
     replace HB4_4:=rw_st g22 HB4_4 (Ne.symm ne_B8_20_B4_4)
     replace hr:=hr.offR g22 (no_b ap_hr_B8_20)
     replace ho:=ho.offR g22 (no_b ap_ho_B8_20)
     replace hw:=hw.offR g22 (no_b ap_hw_B8_20)
     replace hb:=hb.offR g22 (no_b ap_hb_B8_20)
     replace okk:=okk.offR g22 (no_b ap_okk_B8_20)
     replace HG:=grown_newR HG g22 lo_B8_20
     replace HB8_20:=h22
     refine tl_nil ?_
     refine k18 _ _ ?_
     refine wp_seq_k fun K23 k23=>?_
     refine wp_region_lit ?_
     refine sx_hv sv21 8 [(20,vval sa po (.slice vo ks.length vc_)),(21,dval y.x),(22,pt B3_3),(23,.int .i64 ad),(24,.tuple #[dval kx.1,.int .i64 kx.2]),(19,.tuple #[dval kx.1,.int .i64 kx.2]),(25,dval kx.1),(26,.int .i64 kx.2)]
       ⟨yl r6 (tyVa hsa hpo (.slice vo ks.length vc_) rfl) HB2_2,yl r6 (tyD y.x y.h.1) HB8_20,yf r6 (fun _=>by kernel_rfl),yp (i:=0) r6 (tyInt64 ad) HB3_3 rfl rfl,ox_call (Sp.is (.tuple #[dval kx.1,.int .i64 kx.2])) [vval sa po (.slice vo ks.length vc_),dval y.x,.int .i64 ad] rfl rfl trivial ⟨(oy rfl rfl),(oy rfl rfl),(oy rfl rfl),trivial⟩ (is_on fun W g=>key_L hsa hpo y.h (hr.kn g) hP hkx) (fun _ _ h=>h) (enter_of Tryz.func32 (by kernel_rfl) rfl),ym r5,ox_extract rfl rfl rfl trivial (fun _ _ h=>⟨_,_,h,rfl,rfl⟩),ox_extract rfl rfl rfl trivial (fun _ _ h=>⟨_,_,h,rfl,rfl⟩),trivial⟩ fun a24 w24 g24 sv24=>?_
     replace HB2_2:=rw_kn g24 HB2_2
     replace HB3_3:=rw_kn g24 HB3_3
     replace HB4_4:=rw_kn g24 HB4_4
     replace HB8_20:=rw_kn g24 HB8_20
     replace hr:=hr.kn g24
     replace ho:=ho.kn g24
     replace hw:=hw.kn g24
     replace hb:=hb.kn g24
     replace okk:=okk.kn g24
     replace HG:=grown_trans HG g24
     refine tl_alloc (T:=23) (Z:=(bv zero32)) sv24 rfl rfl rfl (fun a w=>by kernel_rfl) fun a25 w25 B9_25 eq_B9_25 g25 z25 HB9_25 sv25=>?_
     have ne_B9_25_B2_2:=nb_ne HB2_2 eq_B9_25
     have ne_B9_25_B3_3:=nb_ne HB3_3 eq_B9_25
     have ne_B9_25_B4_4:=nb_ne HB4_4 eq_B9_25
     have ne_B9_25_B8_20:=nb_ne HB8_20 eq_B9_25
     have lo_B9_25:=nb_lo HG eq_B9_25
     have ap_hr_B9_25:=nb_ap (hr.lt) eq_B9_25
     have ap_ho_B9_25:=nb_ap (ho.lt) eq_B9_25
     have ap_hw_B9_25:=nb_ap (hw.lt) eq_B9_25
     have ap_hb_B9_25:=nb_ap (hb.lt) eq_B9_25
     have ap_okk_B9_25:=nb_ap (Own.ltS okk) eq_B9_25
     replace HB2_2:=rw_kn g25 HB2_2
     replace HB3_3:=rw_kn g25 HB3_3
     replace HB4_4:=rw_kn g25 HB4_4
     replace HB8_20:=rw_kn g25 HB8_20
     replace hr:=hr.kn g25
     replace ho:=ho.kn g25
     replace hw:=hw.kn g25
     replace hb:=hb.kn g25
     replace okk:=okk.kn g25
     replace HG:=grown_trans HG g25
     refine tl_sw sv25 r7 (tyD kx.1 hkd.1) HB9_25 (lenD hkd) fun w26 g26 h26=>?_
     replace HB2_2:=rw_st g26 HB2_2 (Ne.symm ne_B9_25_B2_2)
     replace HB3_3:=rw_st g26 HB3_3 (Ne.symm ne_B9_25_B3_3)
     replace HB4_4:=rw_st g26 HB4_4 (Ne.symm ne_B9_25_B4_4)
     replace HB8_20:=rw_st g26 HB8_20 (Ne.symm ne_B9_25_B8_20)
     replace hr:=hr.offR g26 (no_b ap_hr_B9_25)
     replace ho:=ho.offR g26 (no_b ap_ho_B9_25)
     replace hw:=hw.offR g26 (no_b ap_hw_B9_25)
     replace hb:=hb.offR g26 (no_b ap_hb_B9_25)
     replace okk:=okk.offR g26 (no_b ap_okk_B9_25)
     replace HG:=grown_newR HG g26 lo_B9_25
     replace HB9_25:=h26
     refine tl_as (v:=.int .i64 kx.2) sv25 r6 fun a27 sv27=>?_
     have sv28:Sv 64 [] [(10,_),(9,_),(7,_),(8,_),(16,_),(17,_),(18,_),(15,_),(14,_),(6,_),(11,_),(12,_),(13,_),(4,_),(3,_),(2,_),(0,_),(1,_)] a27:=sv27.dl [20,21,22,23,24,19,25,26]
     refine tl_nil ?_
     refine k23 _ _ ?_
     refine wp_seq_k fun K29 k29=>?_
     refine cx_block fun Q30 x30 y30 rt30 o30=>?_
     refine wp_seq_k fun K31 k31=>?_
     by_cases he:kx.2=0
     · have hkl1:=keys_step hkl (by omega) hla hkx (hkd:=hkd)
       have hok1:∀ j,j < i+1→(keyO P (lat own j) ad).2=0:=fun j hj=>if e:j=i then (by rw [e,hla,hkx];exact he) else hok j (by omega)
       refine wp_region_lit ?_
       refine sx_hv sv28 7 [(28,pk B3_3 2),(29,.int .i64 0),(30,.bool false),(31,.bool false),(32,undef),(33,undef),(34,.bool false)]
         ⟨yf r6 (fun _=>by kernel_rfl),yp (i:=2) r6 (tyInt' 0) HB3_3 rfl rfl,ybc r6 (fun _=>rn_eql rfl),ym r5,ox_off (gn rfl rfl rfl) rfl (fun _=>rfl),ox_off (gn rfl rfl rfl) rfl (fun _=>rfl),ox_pick rfl rfl trivial (oy rfl rfl) rfl (fun _=>rfl),trivial⟩ fun a32 w32 g32 sv32=>?_
       refine tl_as (v:=.bool false) sv32 r6 fun a33 sv33=>?_
       have sv34:Sv 64 [] [(27,_),(10,_),(9,_),(7,_),(8,_),(16,_),(17,_),(18,_),(15,_),(14,_),(6,_),(11,_),(12,_),(13,_),(4,_),(3,_),(2,_),(0,_),(1,_)] a33:=sv33.dl [28,29,30,31,32,33,34]
       refine tl_nil ?_
       refine k31 _ _ ?_
       refine cx_ifF sv34 rfl rfl ?_
       refine wp_seq_k fun K35 k35=>?_
       refine wp_region_lit ?_
       refine sx_hv sv34 7 [(43,pk B3_3 2),(44,.int .i64 0),(45,.bool true),(46,.bool true),(47,.int .i64 kx.2),(48,.bool false),(49,.bool false)]
         ⟨yf r6 (fun _=>by kernel_rfl),yp (i:=2) r6 (tyInt' 0) (rw_kn g32 HB3_3) rfl rfl,ybc r6 (fun _=>rn_eql rfl),ym r5,ox_move 10 47 (.inl rfl) rfl rfl (gy rfl rfl rfl) (fun _ _ h=>h),ox_bin rfl rfl (gy rfl rfl rfl) (oy rfl rfl) rfl (fun _=>rn_neq (by simpa using he)) (fun _=>rfl),ox_pick rfl rfl trivial (oy rfl rfl) (oy rfl rfl) (fun _=>rfl),trivial⟩ fun a36 w36 g36 sv36=>?_
       have gc36:=grown_trans g32 g36
       refine tl_as (v:=.bool false) sv36 r6 fun a37 sv37=>?_
       have sv38:Sv 64 [] [(42,_),(27,_),(10,_),(9,_),(7,_),(8,_),(16,_),(17,_),(18,_),(15,_),(14,_),(6,_),(11,_),(12,_),(13,_),(4,_),(3,_),(2,_),(0,_),(1,_)] a37:=sv37.dl [43,44,45,46,47,48,49]
       refine tl_nil ?_
       refine k35 _ _ ?_
       refine cx_ifF sv38 rfl rfl ?_
       refine wp_skip ?_
       refine y30 _ _ ?_
       refine k29 _ _ ?_
       refine wp_region_lit ?_
       refine sx_hv sv38 2 [(51,.slice ko i kc),(52,dval kx.1)]
         ⟨ym r5,yl r6 (tyD kx.1 hkd.1) (rw_kn gc36 HB9_25),trivial⟩ fun a39 w39 g39 sv39=>?_
       have gc39:=grown_trans gc36 g39
       replace HB2_2:=rw_kn gc39 HB2_2
       replace HB3_3:=rw_kn gc39 HB3_3
       replace HB4_4:=rw_kn gc39 HB4_4
       replace HB8_20:=rw_kn gc39 HB8_20
       replace HB9_25:=rw_kn gc39 HB9_25
       replace hr:=hr.kn gc39
       replace ho:=ho.kn gc39
       replace hw:=hw.kn gc39
       replace hb:=hb.kn gc39
       replace okk:=okk.kn gc39
       replace HG:=grown_trans HG gc39
       refine tl_lit1 (cs:=bv kx.1) (e:=23) sv39 rfl rfl rfl rfl rfl rfl (bS1D hkd) fun a40 w40 B53_40 eq_B53_40 g40 z40 HB53_40 sv40=>?_
       have ne_B53_40_B2_2:=nb_ne HB2_2 eq_B53_40
       have ne_B53_40_B3_3:=nb_ne HB3_3 eq_B53_40
       have ne_B53_40_B4_4:=nb_ne HB4_4 eq_B53_40
       have ne_B53_40_B8_20:=nb_ne HB8_20 eq_B53_40
       have ne_B53_40_B9_25:=nb_ne HB9_25 eq_B53_40
       have lo_B53_40:=nb_lo HG eq_B53_40
       have ap_hr_B53_40:=nb_ap (hr.lt) eq_B53_40
       have ap_ho_B53_40:=nb_ap (ho.lt) eq_B53_40
       have ap_hw_B53_40:=nb_ap (hw.lt) eq_B53_40
       have ap_hb_B53_40:=nb_ap (hb.lt) eq_B53_40
       have ap_okk_B53_40:=nb_ap (Own.ltS okk) eq_B53_40
       replace HB2_2:=rw_kn g40 HB2_2
       replace HB3_3:=rw_kn g40 HB3_3
       replace HB4_4:=rw_kn g40 HB4_4
       replace HB8_20:=rw_kn g40 HB8_20
       replace HB9_25:=rw_kn g40 HB9_25
       replace hr:=hr.kn g40
       replace ho:=ho.kn g40
       replace hw:=hw.kn g40
       replace hb:=hb.kn g40
       replace okk:=okk.kn g40
       replace HG:=grown_trans HG g40
       refine tl_app dsT sv40 rfl rfl rfl rfl rfl rfl rfl rfl okk (sl_oneD HB53_40 hkd) (bv_cells _) (by omega) fun a41 ao41 cap41 w41 owx41 stp sv41=>?_
       have ap_owx41_B2_2:∀ k,fpS (.slice ao41 (i+1) cap41) k→k≠B2_2:=fun k hk=>(stp.2 k hk).elim (ap_okk_B2_2 k) (fun h=>nh_ne HB2_2 h)
       have ap_owx41_B3_3:∀ k,fpS (.slice ao41 (i+1) cap41) k→k≠B3_3:=fun k hk=>(stp.2 k hk).elim (ap_okk_B3_3 k) (fun h=>nh_ne HB3_3 h)
       have ap_owx41_B4_4:∀ k,fpS (.slice ao41 (i+1) cap41) k→k≠B4_4:=fun k hk=>(stp.2 k hk).elim (ap_okk_B4_4 k) (fun h=>nh_ne HB4_4 h)
       have ap_owx41_B8_20:∀ k,fpS (.slice ao41 (i+1) cap41) k→k≠B8_20:=fun k hk=>(stp.2 k hk).elim (ap_okk_B8_20 k) (fun h=>nh_ne HB8_20 h)
       have ap_owx41_B9_25:∀ k,fpS (.slice ao41 (i+1) cap41) k→k≠B9_25:=fun k hk=>(stp.2 k hk).elim (ap_okk_B9_25 k) (fun h=>nh_ne HB9_25 h)
       have ap_owx41_B53_40:∀ k,fpS (.slice ao41 (i+1) cap41) k→k≠B53_40:=fun k hk=>(stp.2 k hk).elim (ap_okk_B53_40 k) (fun h=>nh_ne HB53_40 h)
       have ap_hr_owx41:∀ k,fpK (.slice vo ks.length vc_) ks k→¬ fpS (.slice ao41 (i+1) cap41) k:=fun k hk h2=>(stp.2 k h2).elim (ap_hr_okk k hk) (fun h=>absurd ((hr.lt) k hk) (Nat.not_lt.2 h))
       have ap_ho_owx41:∀ k,fpS (.slice ao od.length ac) k→¬ fpS (.slice ao41 (i+1) cap41) k:=fun k hk h2=>(stp.2 k h2).elim (ap_ho_okk k hk) (fun h=>absurd ((ho.lt) k hk) (Nat.not_lt.2 h))
       have ap_hw_owx41:∀ k,fpS (.slice wo wd.length wc) k→¬ fpS (.slice ao41 (i+1) cap41) k:=fun k hk h2=>(stp.2 k h2).elim (ap_hw_okk k hk) (fun h=>absurd ((hw.lt) k hk) (Nat.not_lt.2 h))
       have ap_hb_owx41:∀ k,fpS (.slice bo body.length bc) k→¬ fpS (.slice ao41 (i+1) cap41) k:=fun k hk h2=>(stp.2 k h2).elim (ap_hb_okk k hk) (fun h=>absurd ((hb.lt) k hk) (Nat.not_lt.2 h))
       have lo_owx41:∀ k,fpS (.slice ao41 (i+1) cap41) k→w.heap.size≤k:=fun k hk=>(stp.2 k hk).elim (lo_okk k) (fun h=>Nat.le_trans HG.size h)
       replace HB2_2:=row_of stp.1 HB2_2 (fun e=>ap_okk_B2_2 _ e.symm rfl)
       replace HB3_3:=row_of stp.1 HB3_3 (fun e=>ap_okk_B3_3 _ e.symm rfl)
       replace HB4_4:=row_of stp.1 HB4_4 (fun e=>ap_okk_B4_4 _ e.symm rfl)
       replace HB8_20:=row_of stp.1 HB8_20 (fun e=>ap_okk_B8_20 _ e.symm rfl)
       replace HB9_25:=row_of stp.1 HB9_25 (fun e=>ap_okk_B9_25 _ e.symm rfl)
       replace HB53_40:=row_of stp.1 HB53_40 (fun e=>ap_okk_B53_40 _ e.symm rfl)
       replace hr:=hr.offR stp.1 (fun k hk e=>ap_hr_okk k hk (e))
       replace ho:=ho.offR stp.1 (fun k hk e=>ap_ho_okk k hk (e))
       replace hw:=hw.offR stp.1 (fun k hk e=>ap_hw_okk k hk (e))
       replace hb:=hb.offR stp.1 (fun k hk e=>ap_hb_okk k hk (e))
       replace HG:=grown_from HG stp.1 fun k e=>lo_okk k (e)
       rw [fm_one kl ⟨kx.1,hkd⟩] at owx41
       refine tl_as (v:=.slice ao41 (i+1) cap41) sv41 r6 fun a42 sv42=>?_
       have sv43:Sv 64 [] [(6,_),(42,_),(27,_),(10,_),(9,_),(7,_),(8,_),(16,_),(17,_),(18,_),(15,_),(14,_),(11,_),(12,_),(13,_),(4,_),(3,_),(2,_),(0,_),(1,_)] a42:=sv42.dl [54,53,51,52]
       refine tl_nil ?_
       refine y17 _ _ ?_
       refine k16 _ _ ?_
       refine wp_region_lit ?_
       refine sx_hv sv43 1 [(55,.int .i64 (((i+1:Nat):Int)))]
         ⟨ybc r6 (fun _=>rn_add (by rw [wrap_i64 (by omega) (by omega)];omega)),trivial⟩ fun a44 w44 g44 sv44=>?_
       refine sx_hv (sv44.dl [14]) 1 [(14,.int .i64 (((i+1:Nat):Int)))]
         ⟨ym r5,trivial⟩ fun a45 w45 g45 sv45=>?_
       have gc45:=grown_trans g44 g45
       refine tl_nil ?_
       replace HB2_2:=rw_kn gc45 HB2_2
       replace HB3_3:=rw_kn gc45 HB3_3
       replace HB4_4:=rw_kn gc45 HB4_4
       replace HB8_20:=rw_kn gc45 HB8_20
       replace HB9_25:=rw_kn gc45 HB9_25
       replace HB53_40:=rw_kn gc45 HB53_40
       replace hr:=hr.kn gc45
       replace ho:=ho.kn gc45
       replace hw:=hw.kn gc45
       replace hb:=hb.kn gc45
       replace owx41:=owx41.kn gc45
       replace HG:=grown_trans HG gc45
       exact ⟨⟨i+1,ao41,cap41,(kl ++ [⟨kx.1,hkd⟩]),by omega,hkl1,hok1,⟨sv45.1,sv45.2.1,sv45.2.2.1,sv45.2.2.2.2.1,sv45.2.2.2.2.2.2.2.2.2.2.2.2.2.2.2.1,sv45.2.2.2.2.2.2.2.2.2.2.2.2.2.2.2.2.1,sv45.2.2.2.2.2.2.2.2.2.2.2.2.2.2.2.2.2.1,sv45.2.2.2.2.2.2.2.2.2.2.2.2.2.2.2.2.2.2.1,sv45.2.2.2.2.2.2.2.2.2.2.2.2.2.2.2.2.2.2.2.1,sv45.2.2.2.2.2.2.2.2.2.2.2.2.2.2.2.2.2.2.2.2.1,sv45.2.2.2.2.2.2.2.2.2.2.2.2.2.2.2.2.2.2.2.2.2.1,sv45.2.2.2.2.2.2.2.2.2.2.2.2.2.2.2.2.2.2.2.2.2.2.1,trivial⟩,HG,HB2_2,HB3_3,HB4_4,hr,ho,hw,hb,owx41,ap_owx41_B2_2,ap_owx41_B3_3,ap_owx41_B4_4,ap_hr_owx41,ap_ho_owx41,ap_hw_owx41,ap_hb_owx41,lo_owx41⟩,by rw [show _=_ from sv45.2.2.1,show _=_ from sv12.2.2.1];simp [intOf];omega⟩
     · have hke:=keysO_err (P:=P) (a:=ad) (own:=own) (i:=i) (by omega) hok (by rw [hla,hkx];exact he)
       rw [hla,hkx] at hke
       refine wp_region_lit ?_
       refine sx_hv sv28 7 [(28,pk B3_3 2),(29,.int .i64 0),(30,.bool false),(31,.bool false),(32,undef),(33,undef),(34,.bool false)]
         ⟨yf r6 (fun _=>by kernel_rfl),yp (i:=2) r6 (tyInt' 0) HB3_3 rfl rfl,ybc r6 (fun _=>rn_eql rfl),ym r5,ox_off (gn rfl rfl rfl) rfl (fun _=>rfl),ox_off (gn rfl rfl rfl) rfl (fun _=>rfl),ox_pick rfl rfl trivial (oy rfl rfl) rfl (fun _=>rfl),trivial⟩ fun a46 w46 g46 sv46=>?_
       refine tl_as (v:=.bool false) sv46 r6 fun a47 sv47=>?_
       have sv48:Sv 64 [] [(27,_),(10,_),(9,_),(7,_),(8,_),(16,_),(17,_),(18,_),(15,_),(14,_),(6,_),(11,_),(12,_),(13,_),(4,_),(3,_),(2,_),(0,_),(1,_)] a47:=sv47.dl [28,29,30,31,32,33,34]
       refine tl_nil ?_
       refine k31 _ _ ?_
       refine cx_ifF sv48 rfl rfl ?_
       refine wp_seq_k fun K49 k49=>?_
       refine wp_region_lit ?_
       refine sx_hv sv48 7 [(43,pk B3_3 2),(44,.int .i64 0),(45,.bool true),(46,.bool true),(47,.int .i64 kx.2),(48,.bool true),(49,.bool true)]
         ⟨yf r6 (fun _=>by kernel_rfl),yp (i:=2) r6 (tyInt' 0) (rw_kn g46 HB3_3) rfl rfl,ybc r6 (fun _=>rn_eql rfl),ym r5,ox_move 10 47 (.inl rfl) rfl rfl (gy rfl rfl rfl) (fun _ _ h=>h),ox_bin rfl rfl (gy rfl rfl rfl) (oy rfl rfl) rfl (fun _=>rn_neq (by simpa using he)) (fun _=>rfl),ox_pick rfl rfl trivial (oy rfl rfl) (oy rfl rfl) (fun _=>rfl),trivial⟩ fun a50 w50 g50 sv50=>?_
       have gc50:=grown_trans g46 g50
       refine tl_as (v:=.bool true) sv50 r6 fun a51 sv51=>?_
       have sv52:Sv 64 [] [(42,_),(27,_),(10,_),(9,_),(7,_),(8,_),(16,_),(17,_),(18,_),(15,_),(14,_),(6,_),(11,_),(12,_),(13,_),(4,_),(3,_),(2,_),(0,_),(1,_)] a51:=sv51.dl [43,44,45,46,47,48,49]
       refine tl_nil ?_
       refine k49 _ _ ?_
       refine cx_ifT sv52 rfl rfl ?_
       refine wp_seq_k fun K53 k53=>?_
       refine wp_region_lit ?_
       replace HB2_2:=rw_kn gc50 HB2_2
       replace HB3_3:=rw_kn gc50 HB3_3
       replace HB4_4:=rw_kn gc50 HB4_4
       replace HB8_20:=rw_kn gc50 HB8_20
       replace HB9_25:=rw_kn gc50 HB9_25
       replace hr:=hr.kn gc50
       replace ho:=ho.kn gc50
       replace hw:=hw.kn gc50
       replace hb:=hb.kn gc50
       replace okk:=okk.kn gc50
       replace HG:=grown_trans HG gc50
       refine sx_hv sv52 1 [(50,dval zero32)]
         ⟨ox_build (vs:=[]) rfl rfl trivial trivial (fun _=>bD0 _) (fun _=>rfl),trivial⟩ fun a54 w54 g54 sv54=>?_
       refine tl_sw sv54 r7 (tyD zero32 zero32_dg.1) (rw_kn g54 HB4_4) (lenD zero32_dg) fun w55 g55 h55=>?_
       replace HB2_2:=rw_s2 g54 g55 HB2_2 (Ne.symm ne_B4_4_B2_2)
       replace HB3_3:=rw_s2 g54 g55 HB3_3 (Ne.symm ne_B4_4_B3_3)
       replace HB8_20:=rw_s2 g54 g55 HB8_20 ne_B8_20_B4_4
       replace HB9_25:=rw_s2 g54 g55 HB9_25 ne_B9_25_B4_4
       replace hr:=(hr.kn g54).offR g55 (no_b ap_hr_B4_4)
       replace ho:=(ho.kn g54).offR g55 (no_b ap_ho_B4_4)
       replace hw:=(hw.kn g54).offR g55 (no_b ap_hw_B4_4)
       replace hb:=(hb.kn g54).offR g55 (no_b ap_hb_B4_4)
       replace okk:=(okk.kn g54).offR g55 (no_b ap_okk_B4_4)
       replace HG:=grown_newR (grown_trans HG g54) g55 lo_B4_4
       replace HB4_4:=h55
       refine tl_as (v:=.bool false) sv54 r6 fun a56 sv56=>?_
       refine tl_nil ?_
       refine k53 _ _ ?_
       refine wp_ret ?_
       repeat refine then_ret ?_
       refine rt30 _ _ ?_
       repeat refine then_ret ?_
       refine rt17 _ _ ?_
       repeat refine then_ret ?_
       refine rt11 _ _ ?_
       repeat refine then_ret ?_
       refine cx_ret (fn:=Tryz.f62) sv56 (res_ct (p:=4) (q:=5) Tryz.results62 sv56 rfl rfl rfl rfl (tyD zero32 zero32_dg.1) HB4_4) ?_
       exact RecR.none (show recO P _=_ by unfold recO;rw [if_neg (show ¬ (0:Int)=1 by decide),if_neg (by rw [hke];exact he)]) zero32_dg HG
   · obtain ⟨hK1,hK2⟩:=keysO_ok (P:=P) (a:=ad) (own:=own) fun j hj=>hok j (by omega)
     have hkm:kl.map DD.x=(keysO P ad own).1:=by rw [hK1,hkl,List.take_of_length_le (by omega)]
     refine wp_region_lit ?_
     refine sx_hv sv12 1 [(15,.bool false)]
       ⟨ybt r7 (fun _=>rn_lss (by simp;omega)),trivial⟩ fun a57 w57 g57 sv57=>?_
     refine tl_nil ?_
     refine k13 _ _ ?_
     refine wp_seq_k fun K58 k58=>?_
     refine cx_ifF sv57 rfl rfl ?_
     refine wp_exit ?_
     repeat refine then_exit ?_
     refine x11 _ _ ?_
     refine k8 _ _ ?_
     refine wp_seq_k fun K59 k59=>?_
     refine wp_seq_k fun K60 k60=>?_
     refine wp_region_lit ?_
     refine sx_hv sv57 3 [(56,pk B3_3 2),(57,.int .i64 0),(58,.bool false)]
       ⟨yf r6 (fun _=>by kernel_rfl),yp (i:=2) r6 (tyInt' 0) (rw_kn g57 HB3_3) rfl rfl,ybc r6 (fun _=>rn_eql rfl),trivial⟩ fun a61 w61 g61 sv61=>?_
     have gc61:=grown_trans g57 g61
     refine tl_nil ?_
     refine k60 _ _ ?_
     refine cx_ifF sv61 rfl rfl ?_
     refine wp_skip ?_
     refine k59 _ _ ?_
     refine wp_seq_k fun K62 k62=>?_
     refine wp_region_lit ?_
     refine sx_hv sv61 3 [(60,pk B3_3 2),(61,.int .i64 0),(62,.slice ko i kc)]
       ⟨yf r6 (fun _=>by kernel_rfl),yp (i:=2) r6 (tyInt' 0) (rw_kn gc61 HB3_3) rfl rfl,ym r5,trivial⟩ fun a63 w63 g63 sv63=>?_
     have gc63:=grown_trans gc61 g63
     replace HB2_2:=rw_kn gc63 HB2_2
     replace HB3_3:=rw_kn gc63 HB3_3
     replace HB4_4:=rw_kn gc63 HB4_4
     replace hr:=hr.kn gc63
     replace ho:=ho.kn gc63
     replace hw:=hw.kn gc63
     replace hb:=hb.kn gc63
     replace okk:=okk.kn gc63
     replace HG:=grown_trans HG gc63
     refine tl_call sv63 rfl rfl rfl rfl rfl (c_is (ckey_n (by have:=congrArg List.length hkl;simpa using this.trans (by rw [List.length_map,List.length_take];omega)) (Own.sb okk) (by omega) rfl)) (enter_of Tryz.func55 (by kernel_rfl) rfl) fun a64 v64 w64 hR64 sv64=>?_
     obtain ⟨rfl,g64⟩:=hR64
     replace HB2_2:=rw_kn g64 HB2_2
     replace HB3_3:=rw_kn g64 HB3_3
     replace HB4_4:=rw_kn g64 HB4_4
     replace hr:=hr.kn g64
     replace ho:=ho.kn g64
     replace hw:=hw.kn g64
     replace hb:=hb.kn g64
     replace okk:=okk.kn g64
     replace HG:=grown_trans HG g64
     refine tl_sw sv64 r7 (tyD ((cky (decide ((0:Int)=1)) (kl.map DD.x))) (cky_dg _ _).1) HB4_4 (lenD (cky_dg _ _)) fun w65 g65 h65=>?_
     replace HB2_2:=rw_st g65 HB2_2 (Ne.symm ne_B4_4_B2_2)
     replace HB3_3:=rw_st g65 HB3_3 (Ne.symm ne_B4_4_B3_3)
     replace hr:=hr.offR g65 (no_b ap_hr_B4_4)
     replace ho:=ho.offR g65 (no_b ap_ho_B4_4)
     replace hw:=hw.offR g65 (no_b ap_hw_B4_4)
     replace hb:=hb.offR g65 (no_b ap_hb_B4_4)
     replace okk:=okk.offR g65 (no_b ap_okk_B4_4)
     replace HG:=grown_newR HG g65 lo_B4_4
     replace HB4_4:=h65
     refine tl_as (v:=.bool true) sv64 r6 fun a66 sv66=>?_
     have sv67:Sv 64 [] [(5,_),(56,_),(57,_),(58,_),(15,_),(14,_),(6,_),(11,_),(12,_),(13,_),(4,_),(3,_),(2,_),(0,_),(1,_)] a66:=sv66.dl [63,60,61,62]
     refine tl_nil ?_
     refine k62 _ _ ?_
     refine wp_ret ?_
     repeat refine then_ret ?_
     refine cx_ret (fn:=Tryz.f62) sv67 (res_ct (p:=4) (q:=5) Tryz.results62 sv67 rfl rfl rfl rfl (tyD ((cky (decide ((0:Int)=1)) (kl.map DD.x))) (cky_dg _ _).1) HB4_4) ?_
     exact RecR.some (show recO P _=_ by unfold recO;rw [if_neg (show ¬ (0:Int)=1 by decide),if_pos hK2,← hkm]) (cky_dg _ _) HG
 · refine wp_region_lit ?_
   refine sx_hv sv7 4 [(11,pk B3_3 1),(12,.slice ao od.length ac),(13,.int .i64 ((od.length:Nat))),(14,.int .i64 0)]
     ⟨yf r6 (fun _=>by kernel_rfl),yp (i:=1) r6 (tyDs (.slice ao od.length ac) rfl) HB3_3 rfl rfl,ox_len (Tryz.underlying28) rfl rfl trivial (oy rfl rfl) (fun _=>rfl),ox_const (.inl rfl) rfl trivial (fun _=>rfl),trivial⟩ fun a68 w68 g68 sv68=>?_
   refine tl_nil ?_
   refine k9 _ _ ?_
   refine cx_block fun Q69 x69 y69 rt69 o69=>?_
   replace HB2_2:=rw_kn g68 HB2_2
   replace HB3_3:=rw_kn g68 HB3_3
   replace HB4_4:=rw_kn g68 HB4_4
   replace hr:=hr.kn g68
   replace ho:=ho.kn g68
   replace hw:=hw.kn g68
   replace hb:=hb.kn g68
   replace HG:=grown_trans HG g68
   have okk:=Own.nil w68 23 32
   have ap_okk_B2_2:∀ k,fpS (.slice none 0 0) k→k≠B2_2:=fun k hk=>by simp [fpS,Value.ownBlock] at hk
   have ap_okk_B3_3:∀ k,fpS (.slice none 0 0) k→k≠B3_3:=fun k hk=>by simp [fpS,Value.ownBlock] at hk
   have ap_okk_B4_4:∀ k,fpS (.slice none 0 0) k→k≠B4_4:=fun k hk=>by simp [fpS,Value.ownBlock] at hk
   have ap_hr_okk:∀ k,fpK (.slice vo ks.length vc_) ks k→¬ fpS (.slice none 0 0) k:=fun k _ hk=>by simp [fpS,Value.ownBlock] at hk
   have ap_ho_okk:∀ k,fpS (.slice ao od.length ac) k→¬ fpS (.slice none 0 0) k:=fun k _ hk=>by simp [fpS,Value.ownBlock] at hk
   have ap_hw_okk:∀ k,fpS (.slice wo wd.length wc) k→¬ fpS (.slice none 0 0) k:=fun k _ hk=>by simp [fpS,Value.ownBlock] at hk
   have ap_hb_okk:∀ k,fpS (.slice bo body.length bc) k→¬ fpS (.slice none 0 0) k:=fun k _ hk=>by simp [fpS,Value.ownBlock] at hk
   have lo_okk:∀ k,fpS (.slice none 0 0) k→w.heap.size≤k:=fun k hk=>by simp [fpS,Value.ownBlock] at hk
   refine wp_loop (fun a w'=>∃ (i:Nat) (ko:Option Addr) (kc:Nat) (kl:List DD),(i≤od.length)∧(kl.length=i)∧(∀ j,j < i→(keyO P (lat own j) ad).2≠0)∧Sv 64 [] [(14,.int .i64 ((i:Int))),(6,.slice ko i kc),(11,pk B3_3 1),(12,.slice ao od.length ac),(13,.int .i64 ((od.length:Nat))),(4,pt B4_4),(3,pt B3_3),(2,pt B2_2),(0,vval sa po (.slice vo ks.length vc_)),(1,sdval ad (.slice ao od.length ac) 1 (.slice wo wd.length wc) (.slice bo body.length bc) tg)] a∧w.grownBy w' none∧w'.heap[B2_2]?=some (.cells ([bv sa,bv po,[.slice vo ks.length vc_]].flatten).toArray 36 (0,0))∧w'.heap[B3_3]?=some (.cells ([[.int .i64 ad],[.slice ao od.length ac],[.int .i64 1],[.slice wo wd.length wc],[.slice bo body.length bc],bv tg].flatten).toArray 31 (0,0))∧w'.heap[B4_4]?=some (.cells ((bv zero32)).toArray 23 (0,0))∧RdK w' (.slice vo ks.length vc_) ks∧RdD w' (.slice ao od.length ac) od∧RdD w' (.slice wo wd.length wc) wd∧SlB w' 1 (.slice bo body.length bc) body.length (bv body)∧Own w' 23 32 (.slice ko i kc) i (kl.flatMap dcs)∧(∀ k,fpS (.slice ko i kc) k→k≠B2_2)∧(∀ k,fpS (.slice ko i kc) k→k≠B3_3)∧(∀ k,fpS (.slice ko i kc) k→k≠B4_4)∧(∀ k,fpK (.slice vo ks.length vc_) ks k→¬ fpS (.slice ko i kc) k)∧(∀ k,fpS (.slice ao od.length ac) k→¬ fpS (.slice ko i kc) k)∧(∀ k,fpS (.slice wo wd.length wc) k→¬ fpS (.slice ko i kc) k)∧(∀ k,fpS (.slice bo body.length bc) k→¬ fpS (.slice ko i kc) k)∧(∀ k,fpS (.slice ko i kc) k→w.heap.size≤k)) (fun a _=>(od.length - intOf (a.tmps.getD 14 undef)).toNat) ⟨0,none,0,[],Nat.zero_le _,rfl,fun j hj=>by omega,⟨sv68.1,sv68.2.1,sv68.2.2.2.2.2.1,sv68.2.2.2.2.2.2.1,sv68.2.2.1,sv68.2.2.2.1,sv68.2.2.2.2.1,sv68.2.2.2.2.2.2.2.2.1,sv68.2.2.2.2.2.2.2.2.2.1,sv68.2.2.2.2.2.2.2.2.2.2.1,sv68.2.2.2.2.2.2.2.2.2.2.2.1,sv68.2.2.2.2.2.2.2.2.2.2.2.2.1,trivial⟩,HG,HB2_2,HB3_3,HB4_4,hr,ho,hw,hb,okk,ap_okk_B2_2,ap_okk_B3_3,ap_okk_B4_4,ap_hr_okk,ap_ho_okk,ap_hw_okk,ap_hb_okk,lo_okk⟩ fun a70 w70 hI70=>?_
   clear HB2_2
   clear HB3_3
   clear HB4_4
   clear hr
   clear ho
   clear hw
   clear hb
   clear okk
   clear HG
   obtain ⟨i,ko,kc,kl,hin,hkll,hno,sv70,HG,HB2_2,HB3_3,HB4_4,hr,ho,hw,hb,okk,ap_okk_B2_2,ap_okk_B3_3,ap_okk_B4_4,ap_hr_okk,ap_ho_okk,ap_hw_okk,ap_hb_okk,lo_okk⟩:=hI70
   refine wp_seq_k fun K71 k71=>?_
   by_cases hi:i < od.length
   · obtain ⟨y,hx_y⟩:∃ zx,od[i]'hi=zx:=⟨_,rfl⟩
     have hla:lat own i=y.x:=by rw [← hown,lat_map hi,hx_y]
     obtain ⟨kx,hkx⟩:∃ q,keyO P y.x ad=q:=⟨_,rfl⟩
     have hkd:Dg kx.1:=hkx▸keyO_dg2 hnok
     refine wp_region_lit ?_
     refine sx_hv sv70 1 [(15,.bool true)]
       ⟨ybt r7 (fun _=>rn_lss (by simp;omega)),trivial⟩ fun a72 w72 g72 sv72=>?_
     refine tl_nil ?_
     refine k71 _ _ ?_
     refine wp_seq_k fun K73 k73=>?_
     refine cx_ifT sv72 rfl rfl ?_
     refine wp_skip ?_
     refine k73 _ _ ?_
     refine wp_seq_k fun K74 k74=>?_
     refine cx_block fun Q75 x75 y75 rt75 o75=>?_
     refine wp_seq_k fun K76 k76=>?_
     refine wp_region_lit ?_
     replace HB2_2:=rw_kn g72 HB2_2
     replace HB3_3:=rw_kn g72 HB3_3
     replace HB4_4:=rw_kn g72 HB4_4
     replace hr:=hr.kn g72
     replace ho:=ho.kn g72
     replace hw:=hw.kn g72
     replace hb:=hb.kn g72
     replace okk:=okk.kn g72
     replace HG:=grown_trans HG g72
     refine sx_hv sv72 3 [(16,.int .i64 ((i:Int))),(17,pk ((bO ao)) (oO ao+i * 32)),(18,dval y.x)]
       ⟨ym r5,ox_index rfl rfl trivial (oy rfl rfl) (oy rfl rfl) (fun w=>ix_sl Tryz.underlying28 (by kernel_rfl) (ho.1) (by omega) (rfl) w) (fun _=>rfl),ox_load rfl rfl trivial (oy rfl rfl) (fun _ g=>loadsAt (tyD y.x y.h.1) (by have:=el_range (ho.kn g).1 dcs_len hi (by decide);rw [hx_y] at this;exact this)) (fun _=>rfl),trivial⟩ fun a77 w77 g77 sv77=>?_
     replace HB2_2:=rw_kn g77 HB2_2
     replace HB3_3:=rw_kn g77 HB3_3
     replace HB4_4:=rw_kn g77 HB4_4
     replace hr:=hr.kn g77
     replace ho:=ho.kn g77
     replace hw:=hw.kn g77
     replace hb:=hb.kn g77
     replace okk:=okk.kn g77
     replace HG:=grown_trans HG g77
     refine tl_alloc (T:=23) (Z:=(bv zero32)) sv77 rfl rfl rfl (fun a w=>by kernel_rfl) fun a78 w78 B8_78 eq_B8_78 g78 z78 HB8_78 sv78=>?_
     have ne_B8_78_B2_2:=nb_ne HB2_2 eq_B8_78
     have ne_B8_78_B3_3:=nb_ne HB3_3 eq_B8_78
     have ne_B8_78_B4_4:=nb_ne HB4_4 eq_B8_78
     have lo_B8_78:=nb_lo HG eq_B8_78
     have ap_hr_B8_78:=nb_ap (hr.lt) eq_B8_78
     have ap_ho_B8_78:=nb_ap (ho.lt) eq_B8_78
     have ap_hw_B8_78:=nb_ap (hw.lt) eq_B8_78
     have ap_hb_B8_78:=nb_ap (hb.lt) eq_B8_78
     have ap_okk_B8_78:=nb_ap (Own.ltS okk) eq_B8_78
     replace HB2_2:=rw_kn g78 HB2_2
     replace HB3_3:=rw_kn g78 HB3_3
     replace HB4_4:=rw_kn g78 HB4_4
     replace hr:=hr.kn g78
     replace ho:=ho.kn g78
     replace hw:=hw.kn g78
     replace hb:=hb.kn g78
     replace okk:=okk.kn g78
     replace HG:=grown_trans HG g78
     refine tl_as (v:=.int .i64 ((i:Int))) sv78 r6 fun a79 sv79=>?_
     refine tl_sw sv79 r7 (tyD y.x y.h.1) HB8_78 (lenD y.h) fun w80 g80 h80=>?_
     replace HB2_2:=rw_st g80 HB2_2 (Ne.symm ne_B8_78_B2_2)
     replace HB3_3:=rw_st g80 HB3_3 (Ne.symm ne_B8_78_B3_3)
     replace HB4_4:=rw_st g80 HB4_4 (Ne.symm ne_B8_78_B4_4)
     replace hr:=hr.offR g80 (no_b ap_hr_B8_78)
     replace ho:=ho.offR g80 (no_b ap_ho_B8_78)
     replace hw:=hw.offR g80 (no_b ap_hw_B8_78)
     replace hb:=hb.offR g80 (no_b ap_hb_B8_78)
     replace okk:=okk.offR g80 (no_b ap_okk_B8_78)
     replace HG:=grown_newR HG g80 lo_B8_78
     replace HB8_78:=h80
     refine tl_nil ?_
     refine k76 _ _ ?_
     refine wp_seq_k fun K81 k81=>?_
     refine wp_region_lit ?_
     refine sx_hv sv79 8 [(20,vval sa po (.slice vo ks.length vc_)),(21,dval y.x),(22,pt B3_3),(23,.int .i64 ad),(24,.tuple #[dval kx.1,.int .i64 kx.2]),(19,.tuple #[dval kx.1,.int .i64 kx.2]),(25,dval kx.1),(26,.int .i64 kx.2)]
       ⟨yl r6 (tyVa hsa hpo (.slice vo ks.length vc_) rfl) HB2_2,yl r6 (tyD y.x y.h.1) HB8_78,yf r6 (fun _=>by kernel_rfl),yp (i:=0) r6 (tyInt64 ad) HB3_3 rfl rfl,ox_call (Sp.is (.tuple #[dval kx.1,.int .i64 kx.2])) [vval sa po (.slice vo ks.length vc_),dval y.x,.int .i64 ad] rfl rfl trivial ⟨(oy rfl rfl),(oy rfl rfl),(oy rfl rfl),trivial⟩ (is_on fun W g=>key_L hsa hpo y.h (hr.kn g) hP hkx) (fun _ _ h=>h) (enter_of Tryz.func32 (by kernel_rfl) rfl),ym r5,ox_extract rfl rfl rfl trivial (fun _ _ h=>⟨_,_,h,rfl,rfl⟩),ox_extract rfl rfl rfl trivial (fun _ _ h=>⟨_,_,h,rfl,rfl⟩),trivial⟩ fun a82 w82 g82 sv82=>?_
     replace HB2_2:=rw_kn g82 HB2_2
     replace HB3_3:=rw_kn g82 HB3_3
     replace HB4_4:=rw_kn g82 HB4_4
     replace HB8_78:=rw_kn g82 HB8_78
     replace hr:=hr.kn g82
     replace ho:=ho.kn g82
     replace hw:=hw.kn g82
     replace hb:=hb.kn g82
     replace okk:=okk.kn g82
     replace HG:=grown_trans HG g82
     refine tl_alloc (T:=23) (Z:=(bv zero32)) sv82 rfl rfl rfl (fun a w=>by kernel_rfl) fun a83 w83 B9_83 eq_B9_83 g83 z83 HB9_83 sv83=>?_
     have ne_B9_83_B2_2:=nb_ne HB2_2 eq_B9_83
     have ne_B9_83_B3_3:=nb_ne HB3_3 eq_B9_83
     have ne_B9_83_B4_4:=nb_ne HB4_4 eq_B9_83
     have ne_B9_83_B8_78:=nb_ne HB8_78 eq_B9_83
     have lo_B9_83:=nb_lo HG eq_B9_83
     have ap_hr_B9_83:=nb_ap (hr.lt) eq_B9_83
     have ap_ho_B9_83:=nb_ap (ho.lt) eq_B9_83
     have ap_hw_B9_83:=nb_ap (hw.lt) eq_B9_83
     have ap_hb_B9_83:=nb_ap (hb.lt) eq_B9_83
     have ap_okk_B9_83:=nb_ap (Own.ltS okk) eq_B9_83
     replace HB2_2:=rw_kn g83 HB2_2
     replace HB3_3:=rw_kn g83 HB3_3
     replace HB4_4:=rw_kn g83 HB4_4
     replace HB8_78:=rw_kn g83 HB8_78
     replace hr:=hr.kn g83
     replace ho:=ho.kn g83
     replace hw:=hw.kn g83
     replace hb:=hb.kn g83
     replace okk:=okk.kn g83
     replace HG:=grown_trans HG g83
     refine tl_sw sv83 r7 (tyD kx.1 hkd.1) HB9_83 (lenD hkd) fun w84 g84 h84=>?_
     replace HB2_2:=rw_st g84 HB2_2 (Ne.symm ne_B9_83_B2_2)
     replace HB3_3:=rw_st g84 HB3_3 (Ne.symm ne_B9_83_B3_3)
     replace HB4_4:=rw_st g84 HB4_4 (Ne.symm ne_B9_83_B4_4)
     replace HB8_78:=rw_st g84 HB8_78 (Ne.symm ne_B9_83_B8_78)
     replace hr:=hr.offR g84 (no_b ap_hr_B9_83)
     replace ho:=ho.offR g84 (no_b ap_ho_B9_83)
     replace hw:=hw.offR g84 (no_b ap_hw_B9_83)
     replace hb:=hb.offR g84 (no_b ap_hb_B9_83)
     replace okk:=okk.offR g84 (no_b ap_okk_B9_83)
     replace HG:=grown_newR HG g84 lo_B9_83
     replace HB9_83:=h84
     refine tl_as (v:=.int .i64 kx.2) sv83 r6 fun a85 sv85=>?_
     have sv86:Sv 64 [] [(10,_),(9,_),(7,_),(8,_),(16,_),(17,_),(18,_),(15,_),(14,_),(6,_),(11,_),(12,_),(13,_),(4,_),(3,_),(2,_),(0,_),(1,_)] a85:=sv85.dl [20,21,22,23,24,19,25,26]
     refine tl_nil ?_
     refine k81 _ _ ?_
     refine wp_seq_k fun K87 k87=>?_
     refine cx_block fun Q88 x88 y88 rt88 o88=>?_
     refine wp_seq_k fun K89 k89=>?_
     by_cases he:kx.2=0
     · have hiw:i < wd.length:=by have:=hwl rfl;omega
       obtain ⟨wx,hx_wx⟩:∃ zx,wd[i]'hiw=zx:=⟨_,rfl⟩
       have hhit:=recL_hit (P:=P) (a:=ad) (own:=own) (wr:=wd.map DD.x) (i:=i) (by omega) hno (by rw [hla,hkx];exact he)
       rw [hla,hkx,lat_map hiw,hx_wx] at hhit
       refine wp_region_lit ?_
       refine sx_hv sv86 7 [(28,pk B3_3 2),(29,.int .i64 1),(30,.bool true),(31,.bool true),(32,.int .i64 kx.2),(33,.bool true),(34,.bool true)]
         ⟨yf r6 (fun _=>by kernel_rfl),yp (i:=2) r6 (tyInt' 1) HB3_3 rfl rfl,ybc r6 (fun _=>rn_eql rfl),ym r5,ox_move 10 32 (.inl rfl) rfl rfl (gy rfl rfl rfl) (fun _ _ h=>h),ox_bin rfl rfl (gy rfl rfl rfl) (oy rfl rfl) rfl (fun _=>rn_eql (by simpa using he)) (fun _=>rfl),ox_pick rfl rfl trivial (oy rfl rfl) (oy rfl rfl) (fun _=>rfl),trivial⟩ fun a90 w90 g90 sv90=>?_
       refine tl_as (v:=.bool true) sv90 r6 fun a91 sv91=>?_
       have sv92:Sv 64 [] [(27,_),(10,_),(9,_),(7,_),(8,_),(16,_),(17,_),(18,_),(15,_),(14,_),(6,_),(11,_),(12,_),(13,_),(4,_),(3,_),(2,_),(0,_),(1,_)] a91:=sv91.dl [28,29,30,31,32,33,34]
       refine tl_nil ?_
       refine k89 _ _ ?_
       refine cx_ifT sv92 rfl rfl ?_
       refine wp_seq_k fun K93 k93=>?_
       replace HB2_2:=rw_kn g90 HB2_2
       replace HB3_3:=rw_kn g90 HB3_3
       replace HB4_4:=rw_kn g90 HB4_4
       replace HB8_78:=rw_kn g90 HB8_78
       replace HB9_83:=rw_kn g90 HB9_83
       replace hr:=hr.kn g90
       replace ho:=ho.kn g90
       replace hw:=hw.kn g90
       replace hb:=hb.kn g90
       replace okk:=okk.kn g90
       replace HG:=grown_trans HG g90
       refine rx_tail (sv92.st w90) (by kernel_rfl) 7 [(35,Sp.is (pk B3_3 3)),(36,Sp.is (.slice wo wd.length wc)),(37,Sp.is (.int .i64 ((i:Int)))),(38,Sp.is (pk ((bO wo)) (oO wo+i * 32))),(39,Sp.is (dval wx.x)),(40,Sp.is (dval kx.1)),(41,Sp.is (dval ((wrp wx.x kx.1))))] rfl (by kernel_rfl) (by kernel_rfl) (by kernel_rfl) [] (by kernel_rfl)
         ⟨yf r6 (fun _=>by kernel_rfl),yp (i:=3) r6 (tyDs (.slice wo wd.length wc) rfl) HB3_3 rfl rfl,ym r5,ox_index rfl rfl trivial (oy rfl rfl) (oy rfl rfl) (fun w=>ix_sl Tryz.underlying28 (by kernel_rfl) (hw.1) (by omega) (rfl) w) (fun _=>rfl),ox_load rfl rfl trivial (oy rfl rfl) (fun _ g=>loadsAt (tyD wx.x wx.h.1) (by have:=el_range (hw.kn g).1 dcs_len hiw (by decide);rw [hx_wx] at this;exact this)) (fun _=>rfl),yl r6 (tyD kx.1 hkd.1) HB9_83,ox_call (Sp.is (dval ((wrp wx.x kx.1)))) [dval wx.x,dval kx.1] rfl rfl trivial ⟨(oy rfl rfl),(oy rfl rfl),trivial⟩ (is_on fun W g=>wrapped_walk wx.x kx.1 wx.h hkd W) (fun _ _ h=>h) (enter_of Tryz.func56 (by kernel_rfl) rfl),trivial⟩ trivial
         [] (by kernel_rfl) trivial ⟨.inl rfl,.inl rfl,.inl rfl,.inl rfl,.inl rfl,.inl rfl,.inl rfl,trivial⟩ (by kernel_rfl) fun a94 w94 g94 st94 nd94=>?_
       obtain ⟨hn94,hd94,e94_35,e94_36,e94_37,e94_38,e94_39,e94_40,e94_41,e94_27,e94_10,e94_9,e94_7,e94_8,e94_16,e94_17,e94_18,e94_15,e94_14,e94_6,e94_11,e94_12,e94_13,e94_4,e94_3,e94_2,e94_0,e94_1,-⟩:=st94
       have sv94:Sv 64 [] [(27,_),(10,_),(9,_),(7,_),(8,_),(16,_),(17,_),(18,_),(15,_),(14,_),(6,_),(11,_),(12,_),(13,_),(4,_),(3,_),(2,_),(0,_),(1,_),(41,_)] a94:=⟨hn94,hd94,e94_27,e94_10,e94_9,e94_7,e94_8,e94_16,e94_17,e94_18,e94_15,e94_14,e94_6,e94_11,e94_12,e94_13,e94_4,e94_3,e94_2,e94_0,e94_1,e94_41,trivial⟩
       refine tl_sw sv94 r7 (tyD ((wrp wx.x kx.1)) (wrp_dg wx.h hkd).1) (rw_kn g94 HB4_4) (lenD (wrp_dg wx.h hkd)) fun w95 g95 h95=>?_
       replace HB2_2:=rw_s2 g94 g95 HB2_2 (Ne.symm ne_B4_4_B2_2)
       replace HB3_3:=rw_s2 g94 g95 HB3_3 (Ne.symm ne_B4_4_B3_3)
       replace HB8_78:=rw_s2 g94 g95 HB8_78 ne_B8_78_B4_4
       replace HB9_83:=rw_s2 g94 g95 HB9_83 ne_B9_83_B4_4
       replace hr:=(hr.kn g94).offR g95 (no_b ap_hr_B4_4)
       replace ho:=(ho.kn g94).offR g95 (no_b ap_ho_B4_4)
       replace hw:=(hw.kn g94).offR g95 (no_b ap_hw_B4_4)
       replace hb:=(hb.kn g94).offR g95 (no_b ap_hb_B4_4)
       replace okk:=(okk.kn g94).offR g95 (no_b ap_okk_B4_4)
       replace HG:=grown_newR (grown_trans HG g94) g95 lo_B4_4
       replace HB4_4:=h95
       refine tl_as (v:=.bool true) sv94 r6 fun a96 sv96=>?_
       refine tl_nil ?_
       refine k93 _ _ ?_
       refine wp_ret ?_
       repeat refine then_ret ?_
       refine rt88 _ _ ?_
       repeat refine then_ret ?_
       refine rt75 _ _ ?_
       repeat refine then_ret ?_
       refine rt69 _ _ ?_
       repeat refine then_ret ?_
       refine cx_ret (fn:=Tryz.f62) sv96 (res_ct (p:=4) (q:=5) Tryz.results62 sv96 rfl rfl rfl rfl (tyD ((wrp wx.x kx.1)) (wrp_dg wx.h hkd).1) HB4_4) ?_
       exact RecR.some (show recO P _=_ by unfold recO;rw [if_pos rfl];exact hhit) (wrp_dg wx.h hkd) HG
     · have hno1:∀ j,j < i+1→(keyO P (lat own j) ad).2≠0:=fun j hj=>if e:j=i then (by rw [e,hla,hkx];exact he) else hno j (by omega)
       refine wp_region_lit ?_
       refine sx_hv sv86 7 [(28,pk B3_3 2),(29,.int .i64 1),(30,.bool true),(31,.bool true),(32,.int .i64 kx.2),(33,.bool false),(34,.bool false)]
         ⟨yf r6 (fun _=>by kernel_rfl),yp (i:=2) r6 (tyInt' 1) HB3_3 rfl rfl,ybc r6 (fun _=>rn_eql rfl),ym r5,ox_move 10 32 (.inl rfl) rfl rfl (gy rfl rfl rfl) (fun _ _ h=>h),ox_bin rfl rfl (gy rfl rfl rfl) (oy rfl rfl) rfl (fun _=>rn_eql (by simpa using he)) (fun _=>rfl),ox_pick rfl rfl trivial (oy rfl rfl) (oy rfl rfl) (fun _=>rfl),trivial⟩ fun a97 w97 g97 sv97=>?_
       refine tl_as (v:=.bool false) sv97 r6 fun a98 sv98=>?_
       have sv99:Sv 64 [] [(27,_),(10,_),(9,_),(7,_),(8,_),(16,_),(17,_),(18,_),(15,_),(14,_),(6,_),(11,_),(12,_),(13,_),(4,_),(3,_),(2,_),(0,_),(1,_)] a98:=sv98.dl [28,29,30,31,32,33,34]
       refine tl_nil ?_
       refine k89 _ _ ?_
       refine cx_ifF sv99 rfl rfl ?_
       refine wp_seq_k fun K100 k100=>?_
       refine wp_region_lit ?_
       refine sx_hv sv99 7 [(43,pk B3_3 2),(44,.int .i64 1),(45,.bool false),(46,.bool false),(47,undef),(48,undef),(49,.bool false)]
         ⟨yf r6 (fun _=>by kernel_rfl),yp (i:=2) r6 (tyInt' 1) (rw_kn g97 HB3_3) rfl rfl,ybc r6 (fun _=>rn_eql rfl),ym r5,ox_off (gn rfl rfl rfl) rfl (fun _=>rfl),ox_off (gn rfl rfl rfl) rfl (fun _=>rfl),ox_pick rfl rfl trivial (oy rfl rfl) rfl (fun _=>rfl),trivial⟩ fun a101 w101 g101 sv101=>?_
       have gc101:=grown_trans g97 g101
       refine tl_as (v:=.bool false) sv101 r6 fun a102 sv102=>?_
       have sv103:Sv 64 [] [(42,_),(27,_),(10,_),(9,_),(7,_),(8,_),(16,_),(17,_),(18,_),(15,_),(14,_),(6,_),(11,_),(12,_),(13,_),(4,_),(3,_),(2,_),(0,_),(1,_)] a102:=sv102.dl [43,44,45,46,47,48,49]
       refine tl_nil ?_
       refine k100 _ _ ?_
       refine cx_ifF sv103 rfl rfl ?_
       refine wp_skip ?_
       refine y88 _ _ ?_
       refine k87 _ _ ?_
       refine wp_region_lit ?_
       refine sx_hv sv103 2 [(51,.slice ko i kc),(52,dval kx.1)]
         ⟨ym r5,yl r6 (tyD kx.1 hkd.1) (rw_kn gc101 HB9_83),trivial⟩ fun a104 w104 g104 sv104=>?_
       have gc104:=grown_trans gc101 g104
       replace HB2_2:=rw_kn gc104 HB2_2
       replace HB3_3:=rw_kn gc104 HB3_3
       replace HB4_4:=rw_kn gc104 HB4_4
       replace HB8_78:=rw_kn gc104 HB8_78
       replace HB9_83:=rw_kn gc104 HB9_83
       replace hr:=hr.kn gc104
       replace ho:=ho.kn gc104
       replace hw:=hw.kn gc104
       replace hb:=hb.kn gc104
       replace okk:=okk.kn gc104
       replace HG:=grown_trans HG gc104
       refine tl_lit1 (cs:=bv kx.1) (e:=23) sv104 rfl rfl rfl rfl rfl rfl (bS1D hkd) fun a105 w105 B53_105 eq_B53_105 g105 z105 HB53_105 sv105=>?_
       have ne_B53_105_B2_2:=nb_ne HB2_2 eq_B53_105
       have ne_B53_105_B3_3:=nb_ne HB3_3 eq_B53_105
       have ne_B53_105_B4_4:=nb_ne HB4_4 eq_B53_105
       have ne_B53_105_B8_78:=nb_ne HB8_78 eq_B53_105
       have ne_B53_105_B9_83:=nb_ne HB9_83 eq_B53_105
       have lo_B53_105:=nb_lo HG eq_B53_105
       have ap_hr_B53_105:=nb_ap (hr.lt) eq_B53_105
       have ap_ho_B53_105:=nb_ap (ho.lt) eq_B53_105
       have ap_hw_B53_105:=nb_ap (hw.lt) eq_B53_105
       have ap_hb_B53_105:=nb_ap (hb.lt) eq_B53_105
       have ap_okk_B53_105:=nb_ap (Own.ltS okk) eq_B53_105
       replace HB2_2:=rw_kn g105 HB2_2
       replace HB3_3:=rw_kn g105 HB3_3
       replace HB4_4:=rw_kn g105 HB4_4
       replace HB8_78:=rw_kn g105 HB8_78
       replace HB9_83:=rw_kn g105 HB9_83
       replace hr:=hr.kn g105
       replace ho:=ho.kn g105
       replace hw:=hw.kn g105
       replace hb:=hb.kn g105
       replace okk:=okk.kn g105
       replace HG:=grown_trans HG g105
       refine tl_app dsT sv105 rfl rfl rfl rfl rfl rfl rfl rfl okk (sl_oneD HB53_105 hkd) (bv_cells _) (by omega) fun a106 ao106 cap106 w106 owx106 stp sv106=>?_
       have ap_owx106_B2_2:∀ k,fpS (.slice ao106 (i+1) cap106) k→k≠B2_2:=fun k hk=>(stp.2 k hk).elim (ap_okk_B2_2 k) (fun h=>nh_ne HB2_2 h)
       have ap_owx106_B3_3:∀ k,fpS (.slice ao106 (i+1) cap106) k→k≠B3_3:=fun k hk=>(stp.2 k hk).elim (ap_okk_B3_3 k) (fun h=>nh_ne HB3_3 h)
       have ap_owx106_B4_4:∀ k,fpS (.slice ao106 (i+1) cap106) k→k≠B4_4:=fun k hk=>(stp.2 k hk).elim (ap_okk_B4_4 k) (fun h=>nh_ne HB4_4 h)
       have ap_owx106_B8_78:∀ k,fpS (.slice ao106 (i+1) cap106) k→k≠B8_78:=fun k hk=>(stp.2 k hk).elim (ap_okk_B8_78 k) (fun h=>nh_ne HB8_78 h)
       have ap_owx106_B9_83:∀ k,fpS (.slice ao106 (i+1) cap106) k→k≠B9_83:=fun k hk=>(stp.2 k hk).elim (ap_okk_B9_83 k) (fun h=>nh_ne HB9_83 h)
       have ap_owx106_B53_105:∀ k,fpS (.slice ao106 (i+1) cap106) k→k≠B53_105:=fun k hk=>(stp.2 k hk).elim (ap_okk_B53_105 k) (fun h=>nh_ne HB53_105 h)
       have ap_hr_owx106:∀ k,fpK (.slice vo ks.length vc_) ks k→¬ fpS (.slice ao106 (i+1) cap106) k:=fun k hk h2=>(stp.2 k h2).elim (ap_hr_okk k hk) (fun h=>absurd ((hr.lt) k hk) (Nat.not_lt.2 h))
       have ap_ho_owx106:∀ k,fpS (.slice ao od.length ac) k→¬ fpS (.slice ao106 (i+1) cap106) k:=fun k hk h2=>(stp.2 k h2).elim (ap_ho_okk k hk) (fun h=>absurd ((ho.lt) k hk) (Nat.not_lt.2 h))
       have ap_hw_owx106:∀ k,fpS (.slice wo wd.length wc) k→¬ fpS (.slice ao106 (i+1) cap106) k:=fun k hk h2=>(stp.2 k h2).elim (ap_hw_okk k hk) (fun h=>absurd ((hw.lt) k hk) (Nat.not_lt.2 h))
       have ap_hb_owx106:∀ k,fpS (.slice bo body.length bc) k→¬ fpS (.slice ao106 (i+1) cap106) k:=fun k hk h2=>(stp.2 k h2).elim (ap_hb_okk k hk) (fun h=>absurd ((hb.lt) k hk) (Nat.not_lt.2 h))
       have lo_owx106:∀ k,fpS (.slice ao106 (i+1) cap106) k→w.heap.size≤k:=fun k hk=>(stp.2 k hk).elim (lo_okk k) (fun h=>Nat.le_trans HG.size h)
       replace HB2_2:=row_of stp.1 HB2_2 (fun e=>ap_okk_B2_2 _ e.symm rfl)
       replace HB3_3:=row_of stp.1 HB3_3 (fun e=>ap_okk_B3_3 _ e.symm rfl)
       replace HB4_4:=row_of stp.1 HB4_4 (fun e=>ap_okk_B4_4 _ e.symm rfl)
       replace HB8_78:=row_of stp.1 HB8_78 (fun e=>ap_okk_B8_78 _ e.symm rfl)
       replace HB9_83:=row_of stp.1 HB9_83 (fun e=>ap_okk_B9_83 _ e.symm rfl)
       replace HB53_105:=row_of stp.1 HB53_105 (fun e=>ap_okk_B53_105 _ e.symm rfl)
       replace hr:=hr.offR stp.1 (fun k hk e=>ap_hr_okk k hk (e))
       replace ho:=ho.offR stp.1 (fun k hk e=>ap_ho_okk k hk (e))
       replace hw:=hw.offR stp.1 (fun k hk e=>ap_hw_okk k hk (e))
       replace hb:=hb.offR stp.1 (fun k hk e=>ap_hb_okk k hk (e))
       replace HG:=grown_from HG stp.1 fun k e=>lo_okk k (e)
       rw [fm_one kl ⟨kx.1,hkd⟩] at owx106
       refine tl_as (v:=.slice ao106 (i+1) cap106) sv106 r6 fun a107 sv107=>?_
       have sv108:Sv 64 [] [(6,_),(42,_),(27,_),(10,_),(9,_),(7,_),(8,_),(16,_),(17,_),(18,_),(15,_),(14,_),(11,_),(12,_),(13,_),(4,_),(3,_),(2,_),(0,_),(1,_)] a107:=sv107.dl [54,53,51,52]
       refine tl_nil ?_
       refine y75 _ _ ?_
       refine k74 _ _ ?_
       refine wp_region_lit ?_
       refine sx_hv sv108 1 [(55,.int .i64 (((i+1:Nat):Int)))]
         ⟨ybc r6 (fun _=>rn_add (by rw [wrap_i64 (by omega) (by omega)];omega)),trivial⟩ fun a109 w109 g109 sv109=>?_
       refine sx_hv (sv109.dl [14]) 1 [(14,.int .i64 (((i+1:Nat):Int)))]
         ⟨ym r5,trivial⟩ fun a110 w110 g110 sv110=>?_
       have gc110:=grown_trans g109 g110
       refine tl_nil ?_
       replace HB2_2:=rw_kn gc110 HB2_2
       replace HB3_3:=rw_kn gc110 HB3_3
       replace HB4_4:=rw_kn gc110 HB4_4
       replace HB8_78:=rw_kn gc110 HB8_78
       replace HB9_83:=rw_kn gc110 HB9_83
       replace HB53_105:=rw_kn gc110 HB53_105
       replace hr:=hr.kn gc110
       replace ho:=ho.kn gc110
       replace hw:=hw.kn gc110
       replace hb:=hb.kn gc110
       replace owx106:=owx106.kn gc110
       replace HG:=grown_trans HG gc110
       exact ⟨⟨i+1,ao106,cap106,(kl ++ [⟨kx.1,hkd⟩]),by omega,by rw [List.length_append];simp;omega,hno1,⟨sv110.1,sv110.2.1,sv110.2.2.1,sv110.2.2.2.2.1,sv110.2.2.2.2.2.2.2.2.2.2.2.2.2.2.2.1,sv110.2.2.2.2.2.2.2.2.2.2.2.2.2.2.2.2.1,sv110.2.2.2.2.2.2.2.2.2.2.2.2.2.2.2.2.2.1,sv110.2.2.2.2.2.2.2.2.2.2.2.2.2.2.2.2.2.2.1,sv110.2.2.2.2.2.2.2.2.2.2.2.2.2.2.2.2.2.2.2.1,sv110.2.2.2.2.2.2.2.2.2.2.2.2.2.2.2.2.2.2.2.2.1,sv110.2.2.2.2.2.2.2.2.2.2.2.2.2.2.2.2.2.2.2.2.2.1,sv110.2.2.2.2.2.2.2.2.2.2.2.2.2.2.2.2.2.2.2.2.2.2.1,trivial⟩,HG,HB2_2,HB3_3,HB4_4,hr,ho,hw,hb,owx106,ap_owx106_B2_2,ap_owx106_B3_3,ap_owx106_B4_4,ap_hr_owx106,ap_ho_owx106,ap_hw_owx106,ap_hb_owx106,lo_owx106⟩,by rw [show _=_ from sv110.2.2.1,show _=_ from sv70.2.2.1];simp [intOf];omega⟩
   · have hnone:=recL_none (P:=P) (a:=ad) (own:=own) (wr:=wd.map DD.x) fun j hj=>hno j (by omega)
     refine wp_region_lit ?_
     refine sx_hv sv70 1 [(15,.bool false)]
       ⟨ybt r7 (fun _=>rn_lss (by simp;omega)),trivial⟩ fun a111 w111 g111 sv111=>?_
     refine tl_nil ?_
     refine k71 _ _ ?_
     refine wp_seq_k fun K112 k112=>?_
     refine cx_ifF sv111 rfl rfl ?_
     refine wp_exit ?_
     repeat refine then_exit ?_
     refine x69 _ _ ?_
     refine k8 _ _ ?_
     refine wp_seq_k fun K113 k113=>?_
     refine wp_seq_k fun K114 k114=>?_
     refine wp_region_lit ?_
     refine sx_hv sv111 3 [(56,pk B3_3 2),(57,.int .i64 1),(58,.bool true)]
       ⟨yf r6 (fun _=>by kernel_rfl),yp (i:=2) r6 (tyInt' 1) (rw_kn g111 HB3_3) rfl rfl,ybc r6 (fun _=>rn_eql rfl),trivial⟩ fun a115 w115 g115 sv115=>?_
     have gc115:=grown_trans g111 g115
     refine tl_nil ?_
     refine k114 _ _ ?_
     refine cx_ifT sv115 rfl rfl ?_
     refine wp_seq_k fun K116 k116=>?_
     refine wp_region_lit ?_
     replace HB2_2:=rw_kn gc115 HB2_2
     replace HB3_3:=rw_kn gc115 HB3_3
     replace HB4_4:=rw_kn gc115 HB4_4
     replace hr:=hr.kn gc115
     replace ho:=ho.kn gc115
     replace hw:=hw.kn gc115
     replace hb:=hb.kn gc115
     replace okk:=okk.kn gc115
     replace HG:=grown_trans HG gc115
     refine sx_hv sv115 1 [(59,dval zero32)]
       ⟨ox_build (vs:=[]) rfl rfl trivial trivial (fun _=>bD0 _) (fun _=>rfl),trivial⟩ fun a117 w117 g117 sv117=>?_
     refine tl_sw sv117 r7 (tyD zero32 zero32_dg.1) (rw_kn g117 HB4_4) (lenD zero32_dg) fun w118 g118 h118=>?_
     replace HB2_2:=rw_s2 g117 g118 HB2_2 (Ne.symm ne_B4_4_B2_2)
     replace HB3_3:=rw_s2 g117 g118 HB3_3 (Ne.symm ne_B4_4_B3_3)
     replace hr:=(hr.kn g117).offR g118 (no_b ap_hr_B4_4)
     replace ho:=(ho.kn g117).offR g118 (no_b ap_ho_B4_4)
     replace hw:=(hw.kn g117).offR g118 (no_b ap_hw_B4_4)
     replace hb:=(hb.kn g117).offR g118 (no_b ap_hb_B4_4)
     replace okk:=(okk.kn g117).offR g118 (no_b ap_okk_B4_4)
     replace HG:=grown_newR (grown_trans HG g117) g118 lo_B4_4
     replace HB4_4:=h118
     refine tl_as (v:=.bool false) sv117 r6 fun a119 sv119=>?_
     refine tl_nil ?_
     refine k116 _ _ ?_
     refine wp_ret ?_
     repeat refine then_ret ?_
     refine cx_ret (fn:=Tryz.f62) sv119 (res_ct (p:=4) (q:=5) Tryz.results62 sv119 rfl rfl rfl rfl (tyD zero32 zero32_dg.1) HB4_4) ?_
     exact RecR.none (show recO P _=_ by unfold recO;rw [if_pos rfl];exact hnone) zero32_dg HG
end Go.Proofs.YtbfjfnbcmojpiaaGreat
