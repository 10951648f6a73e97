import Derived.Test.YtbfjfnbcmojpiaaGreatYA
namespace Go.Proofs.YtbfjfnbcmojpiaaGreat
open Go.RowKit Go.Shelf
set_option linter.unusedSimpArgs false
set_option linter.unusedVariables false
theorem bVal0 (w:World):(Instr.build 25 #[]).run Tryz.prog w=.ok (xval V.nul) w:=by kernel_rfl
theorem retV {x:V} {c:Int} {y:V×Int} (h:y=(x,c)):Ending.returned (.tuple #[xval x,.int .i64 c])=Ending.returned (.tuple #[xval y.1,.int .i64 y.2]):=by rw [h]
theorem readv_c {w:World} {b:List Nat} {v:Value} (hv:SlB w 1 v b.length (bv b)) (hb:By b) (hl:b.length≤100000):Calls Tryz.prog 107 #[v] w fun e w'=>∃ u,e=.returned u∧(∃ (x:V) (ao:Option Addr) (n cap:Nat) (er:Int),u=.tuple #[xval x,.slice ao n cap,.int .i64 er]∧w.grownBy w' none ∧
   ((er=0∧∃ r,r.length=n∧pV b=.ok (x,r))∨(er≠0∧∃ k,pV b=.error k))):=by
 refine (rdxValue_walk v b w hv.1 (by omega) hb hv.2).mono ?_
 intro e w' h
 unfold ReadPost at h
 obtain ⟨hg,h⟩:=h
 cases hp:pV b with
 | ok y =>
   obtain ⟨x,r⟩:=y
   rw [hp] at h
   obtain ⟨u,rv,rfl,hrep,hs,hlo⟩:=h
   obtain rfl:u=xval x:=hrep
   obtain ⟨ao,cap,rfl,_⟩:=Sl.shape hs
   exact ⟨_,rfl,x,ao,_,cap,0,rfl,hg,.inl ⟨rfl,r,rfl,rfl⟩⟩
 | error n =>
   rw [hp] at h
   obtain ⟨rfl,hn⟩:=h
   exact ⟨_,rfl,V.nul,none,0,0,n,rfl,hg,.inr ⟨by omega,n,rfl⟩⟩
theorem fin_len {b:List Nat} {x:V} {n:Nat} {er:Int} (h:(er=0∧∃ r,r.length=n∧pV b=.ok (x,r))∨(er≠0∧∃ k,pV b=.error k)):(er≠0→decO b=(V.nul,101))∧(er=0→n=0→decO b=(x,0))∧(er=0→0 < n→decO b=(V.nul,101)):=by
 rcases h with ⟨h0,r,rfl,hp⟩ | ⟨h0,k,hp⟩
 · exact ⟨fun h=>absurd h0 h,fun _ h=>decO_ok (by rw [hp,List.eq_nil_of_length_eq_zero h]),fun _ h=>decO_rest hp h⟩
 · exact ⟨fun _=>decO_err hp,fun h=>absurd h h0,fun h=>absurd h h0⟩
set_option maxRecDepth 100000 in
set_option maxHeartbeats 4000000 in
theorem decode_walk (b:List Nat) (hby:By b) (hl:b.length≤100000) (bo:Option Addr) (bc:Nat) (w:World) (hb:SlB w 1 (.slice bo b.length bc) b.length (bv b)) :
   Calls Tryz.prog 61 #[.slice bo b.length bc] w fun e w'=>e=.returned (.tuple #[xval (decO b).1,.int .i64 (decO b).2])∧w.grownBy w' none:=by
 refine cx_enter Tryz.func61 rfl Tryz.ntmps61 rfl fun a0 sv0=>?_
 have HG:=World.grownBy.refl w none
 replace sv0:Sv 22 [] [(0,.slice bo b.length bc)] a0:=sv0
 refine wp_seq_k fun K1 k1=>?_
 refine wp_region_lit ?_
 refine tl_alloc (T:=25) (Z:=[.int .i64 0,.int .i64 0,.string ⟨#[]⟩]) sv0 rfl rfl rfl (fun a w=>by kernel_rfl) fun a2 w2 B2_2 eq_B2_2 g2 z2 HB2_2 sv2=>?_
 have lo_B2_2:=nb_lo HG eq_B2_2
 have ap_hb_B2_2:=nb_ap (hb.lt) eq_B2_2
 replace hb:=hb.kn g2
 replace HG:=grown_trans HG g2
 refine tl_as (v:=.int .i64 0) sv2 r6 fun a3 sv3=>?_
 refine tl_nil ?_
 refine k1 _ _ ?_
 refine wp_seq_k fun K4 k4=>?_
 refine wp_region_lit ?_
 refine sx_hv sv3 1 [(8,.slice bo b.length bc)]
   ⟨ym r5,trivial⟩ fun a5 w5 g5 sv5=>?_
 replace HB2_2:=rw_kn g5 HB2_2
 replace hb:=hb.kn g5
 replace HG:=grown_trans HG g5
 refine tl_call sv5 rfl rfl rfl rfl rfl (readv_c hb hby hl) (enter_of Tryz.func107 (by kernel_rfl) rfl) fun a6 v6 w6 hR6 sv6=>?_
 obtain ⟨x,ro,rn,rc,er,rfl,g6,hcs⟩:=hR6
 obtain ⟨hf1,hf2,hf3⟩:=fin_len hcs
 replace HB2_2:=rw_kn g6 HB2_2
 replace hb:=hb.kn g6
 replace HG:=grown_trans HG g6
 refine sx_hv sv6 4 [(7,.tuple #[xval x,.slice ro rn rc,.int .i64 er]),(10,xval x),(11,.slice ro rn rc),(12,.int .i64 er)]
   ⟨ym r5,ox_extract rfl rfl rfl trivial (fun _ _ h=>⟨_,_,h,rfl,rfl⟩),ox_extract rfl rfl rfl trivial (fun _ _ h=>⟨_,_,h,rfl,rfl⟩),ox_extract rfl rfl rfl trivial (fun _ _ h=>⟨_,_,h,rfl,rfl⟩),trivial⟩ fun a7 w7 g7 sv7=>?_
 replace HB2_2:=rw_kn g7 HB2_2
 replace hb:=hb.kn g7
 replace HG:=grown_trans HG g7
 refine tl_alloc (T:=25) (Z:=[.int .i64 0,.int .i64 0,.string ⟨#[]⟩]) sv7 rfl rfl rfl (fun a w=>by kernel_rfl) fun a8 w8 B4_8 eq_B4_8 g8 z8 HB4_8 sv8=>?_
 have ne_B4_8_B2_2:=nb_ne HB2_2 eq_B4_8
 have lo_B4_8:=nb_lo HG eq_B4_8
 have ap_hb_B4_8:=nb_ap (hb.lt) eq_B4_8
 replace HB2_2:=rw_kn g8 HB2_2
 replace hb:=hb.kn g8
 replace HG:=grown_trans HG g8
 refine tl_sw sv8 r7 (tyV2 x) HB4_8 rfl fun w9 g9 h9=>?_
 replace HB2_2:=rw_st g9 HB2_2 (Ne.symm ne_B4_8_B2_2)
 replace hb:=hb.offR g9 (no_b ap_hb_B4_8)
 replace HG:=grown_newR HG g9 lo_B4_8
 replace HB4_8:=h9
 refine tl_as (v:=.slice ro rn rc) sv8 r6 fun a10 sv10=>?_
 refine tl_as (v:=.int .i64 er) sv10 r6 fun a11 sv11=>?_
 have sv12:Sv 22 [] [(6,_),(5,_),(4,_),(3,_),(2,_)] a11:=sv11.dl [7,10,11,12,9,8,0]
 refine tl_nil ?_
 refine k4 _ _ ?_
 refine wp_seq_k fun K13 k13=>?_
 refine wp_seq_k fun K14 k14=>?_
 rcases (show er≠0∨(er=0∧rn=0)∨(er=0∧0 < rn) by omega) with h1 | ⟨h1,h2⟩ | ⟨h1,h2⟩
 · refine wp_region_lit ?_
   refine sx_hv sv12 7 [(13,.int .i64 er),(14,.bool true),(15,.bool true),(16,undef),(17,undef),(18,undef),(19,.bool true)]
     ⟨ym r5,ybc r6 (fun _=>rn_neq (by simpa using h1)),ym r5,ox_off (gn rfl rfl rfl) rfl (fun _=>rfl),ox_off (gn rfl rfl rfl) rfl (fun _=>rfl),ox_off (gn rfl rfl rfl) rfl (fun _=>rfl),ox_pick rfl rfl trivial (oy rfl rfl) rfl (fun _=>rfl),trivial⟩ fun a15 w15 g15 sv15=>?_
   refine tl_nil ?_
   refine k14 _ _ ?_
   refine cx_ifT sv15 rfl rfl ?_
   refine wp_seq_k fun K16 k16=>?_
   refine wp_region_lit ?_
   replace HB2_2:=rw_kn g15 HB2_2
   replace HB4_8:=rw_kn g15 HB4_8
   replace hb:=hb.kn g15
   replace HG:=grown_trans HG g15
   refine sx_hv sv15 1 [(20,xval V.nul)]
     ⟨ox_build (vs:=[]) rfl rfl trivial trivial (fun _=>bVal0 _) (fun _=>rfl),trivial⟩ fun a17 w17 g17 sv17=>?_
   refine tl_sw sv17 r7 (tyV2 V.nul) (rw_kn g17 HB2_2) rfl fun w18 g18 h18=>?_
   replace HB4_8:=rw_s2 g17 g18 HB4_8 ne_B4_8_B2_2
   replace hb:=(hb.kn g17).offR g18 (no_b ap_hb_B2_2)
   replace HG:=grown_newR (grown_trans HG g17) g18 lo_B2_2
   replace HB2_2:=h18
   refine tl_as (v:=.int .i64 101) sv17 r6 fun a19 sv19=>?_
   refine tl_nil ?_
   refine k16 _ _ ?_
   refine wp_ret ?_
   repeat refine then_ret ?_
   refine cx_ret (fn:=Tryz.f61) sv19 (res_ct (p:=2) (q:=3) Tryz.results61 sv19 rfl rfl rfl rfl (tyV2 V.nul) HB2_2) ?_
   exact ⟨retV (hf1 h1),HG⟩
 · refine wp_region_lit ?_
   refine sx_hv sv12 7 [(13,.int .i64 er),(14,.bool false),(15,.bool false),(16,.slice ro rn rc),(17,.int .i64 ((rn:Nat))),(18,.bool false),(19,.bool false)]
     ⟨ym r5,ybc r6 (fun _=>rn_neq (by simpa using h1)),ym r5,ox_move 5 16 (.inl rfl) rfl rfl (gy rfl rfl rfl) (fun _ _ h=>h),ox_len (Tryz.underlying29) rfl rfl (gy rfl rfl rfl) (oy rfl rfl) (fun _=>rfl),ox_bin rfl rfl (gy rfl rfl rfl) (oy rfl rfl) rfl (fun _=>rn_gtr (decide_eq_false (by omega))) (fun _=>rfl),ox_pick rfl rfl trivial (oy rfl rfl) (oy rfl rfl) (fun _=>rfl),trivial⟩ fun a20 w20 g20 sv20=>?_
   refine tl_nil ?_
   refine k14 _ _ ?_
   refine cx_ifF sv20 rfl rfl ?_
   refine wp_skip ?_
   refine k13 _ _ ?_
   refine wp_seq_k fun K21 k21=>?_
   refine wp_region_lit ?_
   refine sx_hv sv20 1 [(21,xval x)]
     ⟨yl r6 (tyV2 x) (rw_kn g20 HB4_8),trivial⟩ fun a22 w22 g22 sv22=>?_
   have gc22:=grown_trans g20 g22
   refine tl_sw sv22 r7 (tyV2 x) (rw_kn gc22 HB2_2) rfl fun w23 g23 h23=>?_
   replace HB4_8:=rw_s2 gc22 g23 HB4_8 ne_B4_8_B2_2
   replace hb:=(hb.kn gc22).offR g23 (no_b ap_hb_B2_2)
   replace HG:=grown_newR (grown_trans HG gc22) g23 lo_B2_2
   replace HB2_2:=h23
   refine tl_as (v:=.int .i64 0) sv22 r6 fun a24 sv24=>?_
   refine tl_nil ?_
   refine k21 _ _ ?_
   refine wp_ret ?_
   repeat refine then_ret ?_
   refine cx_ret (fn:=Tryz.f61) sv24 (res_ct (p:=2) (q:=3) Tryz.results61 sv24 rfl rfl rfl rfl (tyV2 x) HB2_2) ?_
   exact ⟨retV (hf2 h1 h2),HG⟩
 · refine wp_region_lit ?_
   refine sx_hv sv12 7 [(13,.int .i64 er),(14,.bool false),(15,.bool false),(16,.slice ro rn rc),(17,.int .i64 ((rn:Nat))),(18,.bool true),(19,.bool true)]
     ⟨ym r5,ybc r6 (fun _=>rn_neq (by simpa using h1)),ym r5,ox_move 5 16 (.inl rfl) rfl rfl (gy rfl rfl rfl) (fun _ _ h=>h),ox_len (Tryz.underlying29) rfl rfl (gy rfl rfl rfl) (oy rfl rfl) (fun _=>rfl),ox_bin rfl rfl (gy rfl rfl rfl) (oy rfl rfl) rfl (fun _=>rn_gtr (decide_eq_true (by omega))) (fun _=>rfl),ox_pick rfl rfl trivial (oy rfl rfl) (oy rfl rfl) (fun _=>rfl),trivial⟩ fun a25 w25 g25 sv25=>?_
   refine tl_nil ?_
   refine k14 _ _ ?_
   refine cx_ifT sv25 rfl rfl ?_
   refine wp_seq_k fun K26 k26=>?_
   refine wp_region_lit ?_
   replace HB2_2:=rw_kn g25 HB2_2
   replace HB4_8:=rw_kn g25 HB4_8
   replace hb:=hb.kn g25
   replace HG:=grown_trans HG g25
   refine sx_hv sv25 1 [(20,xval V.nul)]
     ⟨ox_build (vs:=[]) rfl rfl trivial trivial (fun _=>bVal0 _) (fun _=>rfl),trivial⟩ fun a27 w27 g27 sv27=>?_
   refine tl_sw sv27 r7 (tyV2 V.nul) (rw_kn g27 HB2_2) rfl fun w28 g28 h28=>?_
   replace HB4_8:=rw_s2 g27 g28 HB4_8 ne_B4_8_B2_2
   replace hb:=(hb.kn g27).offR g28 (no_b ap_hb_B2_2)
   replace HG:=grown_newR (grown_trans HG g27) g28 lo_B2_2
   replace HB2_2:=h28
   refine tl_as (v:=.int .i64 101) sv27 r6 fun a29 sv29=>?_
   refine tl_nil ?_
   refine k26 _ _ ?_
   refine wp_ret ?_
   repeat refine then_ret ?_
   refine cx_ret (fn:=Tryz.f61) sv29 (res_ct (p:=2) (q:=3) Tryz.results61 sv29 rfl rfl rfl rfl (tyV2 V.nul) HB2_2) ?_
   exact ⟨retV (hf3 h1 h2),HG⟩
theorem dec_c {w:World} {b:List Nat} {q:V×Int} {v:Value} (hv:SlB w 1 v b.length (bv b)) (hb:By b) (hl:b.length≤100000) (hq:decO b=q):Calls Tryz.prog 61 #[v] w fun e w'=>e=.returned (.tuple #[xval q.1,.int .i64 q.2])∧w.grownBy w' none:=by
 subst hq
 obtain ⟨ao,cap,rfl,_⟩:=Sl.shape hv.1
 exact decode_walk b hb hl ao cap w hv
theorem openO_bad {P:List VP} {s:Sd} (h:vldS s=false∨vldV P=false):openO P s=(V.nul,1):=by
 unfold openO
 rcases h with h | h <;> simp [h]
theorem openO_clear {P:List VP} {s:Sd} (h1:vldS s=true) (h2:vldV P=true) (h3:s.own=[]):openO P s=if tgC s.addr s.body=s.tag then decO s.body else (V.nul,101):=by
 unfold openO
 simp [h1,h2,h3]
theorem openO_none {P:List VP} {s:Sd} (h1:vldS s=true) (h2:vldV P=true) (h3:s.own≠[]) (h4:recO P s=none):openO P s=(V.nul,10):=by
 unfold openO
 simp [h1,h2,h3,h4]
theorem openO_key {P:List VP} {s:Sd} {c:List Nat} (h1:vldS s=true) (h2:vldV P=true) (h3:s.own≠[]) (h4:recO P s=some c):openO P s=if tgK c s.addr s.body=s.tag then decO (cry s.body c) else (V.nul,101):=by
 unfold openO
 simp [h1,h2,h3,h4]
theorem recov_c {w:World} {ks:List VK} {vo:Option Addr} {vc:Nat} {sa po:List Nat} {P:List VP} {ad joint:Int} {od wd:List DD} {ao wo bo:Option Addr} {ac wc bc:Nat} {body tg:List Nat} {r:Option (List Nat)} {s:Sd} (hsa:Dg sa) (hpo:Dg po) (htg:Dg tg) (hr:RdK w (.slice vo ks.length vc) ks) (ho:RdD w (.slice ao od.length ac) od) (hw:RdD w (.slice wo wd.length wc) wd) (hb:SlB w 1 (.slice bo body.length bc) body.length (bv body)) (hP:ks.map VK.p=P) (hs:(⟨ad,od.map DD.x,joint,wd.map DD.x,body,tg⟩:Sd)=s) (hvs:vldS s=true) (hres:recO P s=r) :
   Calls Tryz.prog 62 #[vval sa po (.slice vo ks.length vc),sdval ad (.slice ao od.length ac) joint (.slice wo wd.length wc) (.slice bo body.length bc) tg] w fun e w'=>∃ u,e=.returned u∧(∃ c,u=.tuple #[dval c,.bool r.isSome]∧Dg c∧(∀ c',r=some c'→c'=c)∧w.grownBy w' none):=by
 subst hs hP hres
 exact (recov_walk ks vo vc sa po hsa hpo ad joint od wd ao wo bo ac wc bc body tg htg w hr ho hw hb hvs).mono fun e w' ⟨c,h1,h2⟩=>⟨_,h1,c,rfl,h2⟩
theorem valid_c {w:World} {ad joint:Int} {od wd:List DD} {ao wo bo:Option Addr} {ac wc bc:Nat} {body tg:List Nat} {b:Bool} {s:Sd} (htg:Dg tg) (ho:RdD w (.slice ao od.length ac) od) (hw:RdD w (.slice wo wd.length wc) wd) (hb:SlB w 1 (.slice bo body.length bc) body.length (bv body)) (hs:(⟨ad,od.map DD.x,joint,wd.map DD.x,body,tg⟩:Sd)=s) (hvs:vldS s=b) :
   Calls Tryz.prog 27 #[sdval ad (.slice ao od.length ac) joint (.slice wo wd.length wc) (.slice bo body.length bc) tg] w fun e w'=>e=.returned (.bool b)∧w.grownBy w' none:=by
 subst hs hvs
 exact valid_s ad joint od wd ao wo bo ac wc bc body tg htg w ho hw hb
set_option maxRecDepth 100000 in
set_option maxHeartbeats 4000000 in
theorem open_walk (ks:List VK) (vo:Option Addr) (vc_:Nat) (sa po:List Nat) (hsa:Dg sa) (hpo:Dg po) (ad joint:Int) (od wd:List DD) (ao wo bo:Option Addr) (ac wc bc:Nat) (body tg:List Nat) (htg:Dg tg) (bby:By body) (w:World) (hr:RdK w (.slice vo ks.length vc_) ks) (ho:RdD w (.slice ao od.length ac) od) (hw:RdD w (.slice wo wd.length wc) wd) (hb:SlB w 1 (.slice bo body.length bc) body.length (bv body)) :
   Calls Tryz.prog 22 #[vval sa po (.slice vo ks.length vc_),sdval ad (.slice ao od.length ac) joint (.slice wo wd.length wc) (.slice bo body.length bc) tg] w fun e w'=>e=.returned (.tuple #[xval (openO (ks.map VK.p) ⟨ad,od.map DD.x,joint,wd.map DD.x,body,tg⟩).1,.int .i64 (openO (ks.map VK.p) ⟨ad,od.map DD.x,joint,wd.map DD.x,body,tg⟩).2])∧w.grownBy w' none:=by
 obtain ⟨P,hP⟩:∃ P,ks.map VK.p=P:=⟨_,rfl⟩
 obtain ⟨S,hS⟩:∃ S:Sd,⟨ad,od.map DD.x,joint,wd.map DD.x,body,tg⟩=S:=⟨_,rfl⟩
 have s1:S.addr=ad:=by rw [← hS]
 have s2:S.own=od.map DD.x:=by rw [← hS]
 have s3:S.body=body:=by rw [← hS]
 have s4:S.tag=tg:=by rw [← hS]
 rw [hP,hS]
 refine cx_enterD Tryz.func22 rfl Tryz.ntmps22 rfl fun a0 sv0=>?_
 have HG:=World.grownBy.refl w none
 replace sv0:Sv 62 [] [(0,vval sa po (.slice vo ks.length vc_)),(1,sdval ad (.slice ao od.length ac) joint (.slice wo wd.length wc) (.slice bo body.length bc) tg)] a0:=sv0
 refine wp_seq_k fun K1 k1=>?_
 refine wp_region_lit ?_
 refine tl_box sv0 rfl rfl rfl rfl rfl rfl (tyVa hsa hpo (.slice vo ks.length vc_) rfl) fun a2 w2 B2_2 eq_B2_2 g2 z2 HB2_2 sv2=>?_
 have lo_B2_2:=nb_lo HG eq_B2_2
 have ap_hr_B2_2:=nb_ap (hr.lt) eq_B2_2
 have ap_ho_B2_2:=nb_ap (ho.lt) eq_B2_2
 have ap_hw_B2_2:=nb_ap (hw.lt) eq_B2_2
 have ap_hb_B2_2:=nb_ap (hb.lt) eq_B2_2
 replace hr:=hr.kn g2
 replace ho:=ho.kn g2
 replace hw:=hw.kn g2
 replace hb:=hb.kn g2
 replace HG:=grown_trans HG g2
 refine tl_box sv2 rfl rfl rfl rfl rfl rfl (tySd _ _ htg (.slice ao od.length ac) (.slice wo wd.length wc) (.slice bo body.length bc) rfl rfl rfl) fun a3 w3 B3_3 eq_B3_3 g3 z3 HB3_3 sv3=>?_
 have ne_B3_3_B2_2:=nb_ne HB2_2 eq_B3_3
 have lo_B3_3:=nb_lo HG eq_B3_3
 have ap_hr_B3_3:=nb_ap (hr.lt) eq_B3_3
 have ap_ho_B3_3:=nb_ap (ho.lt) eq_B3_3
 have ap_hw_B3_3:=nb_ap (hw.lt) eq_B3_3
 have ap_hb_B3_3:=nb_ap (hb.lt) eq_B3_3
 replace HB2_2:=rw_kn g3 HB2_2
 replace hr:=hr.kn g3
 replace ho:=ho.kn g3
 replace hw:=hw.kn g3
 replace hb:=hb.kn g3
 replace HG:=grown_trans HG g3
 refine tl_alloc (T:=25) (Z:=[.int .i64 0,.int .i64 0,.string ⟨#[]⟩]) sv3 rfl rfl rfl (fun a w=>by kernel_rfl) fun a4 w4 B4_4 eq_B4_4 g4 z4 HB4_4 sv4=>?_
 have ne_B4_4_B2_2:=nb_ne HB2_2 eq_B4_4
 have ne_B4_4_B3_3:=nb_ne HB3_3 eq_B4_4
 have lo_B4_4:=nb_lo HG eq_B4_4
 have ap_hr_B4_4:=nb_ap (hr.lt) eq_B4_4
 have ap_ho_B4_4:=nb_ap (ho.lt) eq_B4_4
 have ap_hw_B4_4:=nb_ap (hw.lt) eq_B4_4
 have ap_hb_B4_4:=nb_ap (hb.lt) eq_B4_4
 replace HB2_2:=rw_kn g4 HB2_2
 replace HB3_3:=rw_kn g4 HB3_3
 replace hr:=hr.kn g4
 replace ho:=ho.kn g4
 replace hw:=hw.kn g4
 replace hb:=hb.kn g4
 replace HG:=grown_trans HG g4
 refine tl_alloc (T:=38) (Z:=[.int .i64 0]) sv4 rfl rfl rfl (fun a w=>by kernel_rfl) fun a5 w5 B5_5 eq_B5_5 g5 z5 HB5_5 sv5=>?_
 have ne_B5_5_B2_2:=nb_ne HB2_2 eq_B5_5
 have ne_B5_5_B3_3:=nb_ne HB3_3 eq_B5_5
 have ne_B5_5_B4_4:=nb_ne HB4_4 eq_B5_5
 have lo_B5_5:=nb_lo HG eq_B5_5
 have ap_hr_B5_5:=nb_ap (hr.lt) eq_B5_5
 have ap_ho_B5_5:=nb_ap (ho.lt) eq_B5_5
 have ap_hw_B5_5:=nb_ap (hw.lt) eq_B5_5
 have ap_hb_B5_5:=nb_ap (hb.lt) eq_B5_5
 replace HB2_2:=rw_kn g5 HB2_2
 replace HB3_3:=rw_kn g5 HB3_3
 replace HB4_4:=rw_kn g5 HB4_4
 replace hr:=hr.kn g5
 replace ho:=ho.kn g5
 replace hw:=hw.kn g5
 replace hb:=hb.kn g5
 replace HG:=grown_trans HG g5
 refine tl_nil ?_
 refine k1 _ _ ?_
 refine wp_seq_k fun K6 k6=>?_
 refine wp_region_lit ?_
 refine tl_makeFunc sv5 rfl rfl rfl rfl rfl rfl fun a7 sv7=>?_
 refine tl_defer sv7 rfl (dd:={ target:=.fn (.func 60) #[pt B4_4,pt B5_5],args:=#[] }) rfl (by have e1:=sv7.ev (x:=.tmp 8) rfl rfl;simp [execOp,resolve,Deferred.ofValue,e1];try rfl) fun a8 sv8=>?_
 refine tl_nil ?_
 refine k6 _ _ ?_
 refine wp_seq_k fun K9 k9=>?_
 refine wp_seq_k fun K10 k10=>?_
 rcases (show (vldS S=false∧vldV P=false)∨(vldS S=false∧vldV P=true)∨(vldS S=true∧vldV P=false)∨(vldS S=true∧vldV P=true) by cases vldS S <;> cases vldV P <;> simp) with ⟨hh,hv⟩ | ⟨hh,hv⟩ | ⟨hh,hv⟩ | ⟨hh,hv⟩
 · refine wp_region_lit ?_
   refine sx_hv sv8 8 [(9,sdval ad (.slice ao od.length ac) joint (.slice wo wd.length wc) (.slice bo body.length bc) tg),(10,.bool false),(11,.bool true),(12,.bool true),(13,undef),(14,undef),(15,undef),(16,.bool true)]
     ⟨yl r6 (tySd _ _ htg (.slice ao od.length ac) (.slice wo wd.length wc) (.slice bo body.length bc) rfl rfl rfl) HB3_3,ox_call (Sp.is (.bool false)) [sdval ad (.slice ao od.length ac) joint (.slice wo wd.length wc) (.slice bo body.length bc) tg] rfl rfl trivial ⟨(oy rfl rfl),trivial⟩ (is_on fun W g=>valid_c htg (ho.kn g) (hw.kn g) (hb.kn g) hS hh) (fun _ _ h=>h) (enter_of Tryz.func27 (by kernel_rfl) rfl),ox_un rfl rfl trivial (oy rfl rfl) (fun _=>rn_not) (fun _=>rfl),ym r5,ox_off (gn rfl rfl rfl) rfl (fun _=>rfl),ox_off (gn rfl rfl rfl) rfl (fun _=>rfl),ox_off (gn rfl rfl rfl) rfl (fun _=>rfl),ox_pick rfl rfl trivial (oy rfl rfl) rfl (fun _=>rfl),trivial⟩ fun a11 w11 g11 sv11=>?_
   refine tl_nil ?_
   refine k10 _ _ ?_
   refine cx_ifT sv11 rfl rfl ?_
   refine wp_seq_k fun K12 k12=>?_
   refine wp_region_lit ?_
   replace HB2_2:=rw_kn g11 HB2_2
   replace HB3_3:=rw_kn g11 HB3_3
   replace HB4_4:=rw_kn g11 HB4_4
   replace HB5_5:=rw_kn g11 HB5_5
   replace hr:=hr.kn g11
   replace ho:=ho.kn g11
   replace hw:=hw.kn g11
   replace hb:=hb.kn g11
   replace HG:=grown_trans HG g11
   refine sx_hv sv11 1 [(17,xval V.nul)]
     ⟨ox_build (vs:=[]) rfl rfl trivial trivial (fun _=>bVal0 _) (fun _=>rfl),trivial⟩ fun a13 w13 g13 sv13=>?_
   refine tl_sw sv13 r7 (tyV2 V.nul) (rw_kn g13 HB4_4) rfl fun w14 g14 h14=>?_
   replace HB2_2:=rw_s2 g13 g14 HB2_2 (Ne.symm ne_B4_4_B2_2)
   replace HB3_3:=rw_s2 g13 g14 HB3_3 (Ne.symm ne_B4_4_B3_3)
   replace HB5_5:=rw_s2 g13 g14 HB5_5 ne_B5_5_B4_4
   replace hr:=(hr.kn g13).offR g14 (no_b ap_hr_B4_4)
   replace ho:=(ho.kn g13).offR g14 (no_b ap_ho_B4_4)
   replace hw:=(hw.kn g13).offR g14 (no_b ap_hw_B4_4)
   replace hb:=(hb.kn g13).offR g14 (no_b ap_hb_B4_4)
   replace HG:=grown_newR (grown_trans HG g13) g14 lo_B4_4
   replace HB4_4:=h14
   refine tl_sw sv13 r7 (tyE 1) HB5_5 rfl fun w15 g15 h15=>?_
   replace HB2_2:=rw_st g15 HB2_2 (Ne.symm ne_B5_5_B2_2)
   replace HB3_3:=rw_st g15 HB3_3 (Ne.symm ne_B5_5_B3_3)
   replace HB4_4:=rw_st g15 HB4_4 (Ne.symm ne_B5_5_B4_4)
   replace hr:=hr.offR g15 (no_b ap_hr_B5_5)
   replace ho:=ho.offR g15 (no_b ap_ho_B5_5)
   replace hw:=hw.offR g15 (no_b ap_hw_B5_5)
   replace hb:=hb.offR g15 (no_b ap_hb_B5_5)
   replace HG:=grown_newR HG g15 lo_B5_5
   replace HB5_5:=h15
   refine tl_nil ?_
   refine k12 _ _ ?_
   refine wp_ret ?_
   repeat refine then_ret ?_
   refine cx_retD (fn:=Tryz.f22) sv13 (res_cell2 (p:=4) (q:=5) Tryz.results22 sv13 rfl rfl rfl rfl (tyV2 V.nul) (tyE 1) HB4_4 HB5_5) (inv_of Tryz.func60 (by kernel_rfl) rfl _ _) (recOpen_walk _ _ _) ?_
   exact ⟨retV (openO_bad (.inl hh)),HG⟩
 · refine wp_region_lit ?_
   refine sx_hv sv8 8 [(9,sdval ad (.slice ao od.length ac) joint (.slice wo wd.length wc) (.slice bo body.length bc) tg),(10,.bool false),(11,.bool true),(12,.bool true),(13,undef),(14,undef),(15,undef),(16,.bool true)]
     ⟨yl r6 (tySd _ _ htg (.slice ao od.length ac) (.slice wo wd.length wc) (.slice bo body.length bc) rfl rfl rfl) HB3_3,ox_call (Sp.is (.bool false)) [sdval ad (.slice ao od.length ac) joint (.slice wo wd.length wc) (.slice bo body.length bc) tg] rfl rfl trivial ⟨(oy rfl rfl),trivial⟩ (is_on fun W g=>valid_c htg (ho.kn g) (hw.kn g) (hb.kn g) hS hh) (fun _ _ h=>h) (enter_of Tryz.func27 (by kernel_rfl) rfl),ox_un rfl rfl trivial (oy rfl rfl) (fun _=>rn_not) (fun _=>rfl),ym r5,ox_off (gn rfl rfl rfl) rfl (fun _=>rfl),ox_off (gn rfl rfl rfl) rfl (fun _=>rfl),ox_off (gn rfl rfl rfl) rfl (fun _=>rfl),ox_pick rfl rfl trivial (oy rfl rfl) rfl (fun _=>rfl),trivial⟩ fun a16 w16 g16 sv16=>?_
   refine tl_nil ?_
   refine k10 _ _ ?_
   refine cx_ifT sv16 rfl rfl ?_
   refine wp_seq_k fun K17 k17=>?_
   refine wp_region_lit ?_
   replace HB2_2:=rw_kn g16 HB2_2
   replace HB3_3:=rw_kn g16 HB3_3
   replace HB4_4:=rw_kn g16 HB4_4
   replace HB5_5:=rw_kn g16 HB5_5
   replace hr:=hr.kn g16
   replace ho:=ho.kn g16
   replace hw:=hw.kn g16
   replace hb:=hb.kn g16
   replace HG:=grown_trans HG g16
   refine sx_hv sv16 1 [(17,xval V.nul)]
     ⟨ox_build (vs:=[]) rfl rfl trivial trivial (fun _=>bVal0 _) (fun _=>rfl),trivial⟩ fun a18 w18 g18 sv18=>?_
   refine tl_sw sv18 r7 (tyV2 V.nul) (rw_kn g18 HB4_4) rfl fun w19 g19 h19=>?_
   replace HB2_2:=rw_s2 g18 g19 HB2_2 (Ne.symm ne_B4_4_B2_2)
   replace HB3_3:=rw_s2 g18 g19 HB3_3 (Ne.symm ne_B4_4_B3_3)
   replace HB5_5:=rw_s2 g18 g19 HB5_5 ne_B5_5_B4_4
   replace hr:=(hr.kn g18).offR g19 (no_b ap_hr_B4_4)
   replace ho:=(ho.kn g18).offR g19 (no_b ap_ho_B4_4)
   replace hw:=(hw.kn g18).offR g19 (no_b ap_hw_B4_4)
   replace hb:=(hb.kn g18).offR g19 (no_b ap_hb_B4_4)
   replace HG:=grown_newR (grown_trans HG g18) g19 lo_B4_4
   replace HB4_4:=h19
   refine tl_sw sv18 r7 (tyE 1) HB5_5 rfl fun w20 g20 h20=>?_
   replace HB2_2:=rw_st g20 HB2_2 (Ne.symm ne_B5_5_B2_2)
   replace HB3_3:=rw_st g20 HB3_3 (Ne.symm ne_B5_5_B3_3)
   replace HB4_4:=rw_st g20 HB4_4 (Ne.symm ne_B5_5_B4_4)
   replace hr:=hr.offR g20 (no_b ap_hr_B5_5)
   replace ho:=ho.offR g20 (no_b ap_ho_B5_5)
   replace hw:=hw.offR g20 (no_b ap_hw_B5_5)
   replace hb:=hb.offR g20 (no_b ap_hb_B5_5)
   replace HG:=grown_newR HG g20 lo_B5_5
   replace HB5_5:=h20
   refine tl_nil ?_
   refine k17 _ _ ?_
   refine wp_ret ?_
   repeat refine then_ret ?_
   refine cx_retD (fn:=Tryz.f22) sv18 (res_cell2 (p:=4) (q:=5) Tryz.results22 sv18 rfl rfl rfl rfl (tyV2 V.nul) (tyE 1) HB4_4 HB5_5) (inv_of Tryz.func60 (by kernel_rfl) rfl _ _) (recOpen_walk _ _ _) ?_
   exact ⟨retV (openO_bad (.inl hh)),HG⟩
 · refine wp_region_lit ?_
   refine sx_hv sv8 8 [(9,sdval ad (.slice ao od.length ac) joint (.slice wo wd.length wc) (.slice bo body.length bc) tg),(10,.bool true),(11,.bool false),(12,.bool false),(13,vval sa po (.slice vo ks.length vc_)),(14,.bool false),(15,.bool true),(16,.bool true)]
     ⟨yl r6 (tySd _ _ htg (.slice ao od.length ac) (.slice wo wd.length wc) (.slice bo body.length bc) rfl rfl rfl) HB3_3,ox_call (Sp.is (.bool true)) [sdval ad (.slice ao od.length ac) joint (.slice wo wd.length wc) (.slice bo body.length bc) tg] rfl rfl trivial ⟨(oy rfl rfl),trivial⟩ (is_on fun W g=>valid_c htg (ho.kn g) (hw.kn g) (hb.kn g) hS hh) (fun _ _ h=>h) (enter_of Tryz.func27 (by kernel_rfl) rfl),ox_un rfl rfl trivial (oy rfl rfl) (fun _=>rn_not) (fun _=>rfl),ym r5,ox_load rfl rfl (gy rfl rfl rfl) (oy rfl rfl) (fun _ g=>loadsAt (tyVa hsa hpo (.slice vo ks.length vc_) rfl) (rangeAt_row (row_of g HB2_2 (by simp)))) (fun _=>rfl),ox_call (Sp.is (.bool false)) [vval sa po (.slice vo ks.length vc_)] rfl rfl (gy rfl rfl rfl) ⟨(oy rfl rfl),trivial⟩ (is_on fun W g=>vvalid_P hsa hpo (hr.kn g) hP hv) (fun _ _ h=>h) (enter_of Tryz.func51 (by kernel_rfl) rfl),ox_un rfl rfl (gy rfl rfl rfl) (oy rfl rfl) (fun _=>rn_not) (fun _=>rfl),ox_pick rfl rfl trivial (oy rfl rfl) (oy rfl rfl) (fun _=>rfl),trivial⟩ fun a21 w21 g21 sv21=>?_
   refine tl_nil ?_
   refine k10 _ _ ?_
   refine cx_ifT sv21 rfl rfl ?_
   refine wp_seq_k fun K22 k22=>?_
   refine wp_region_lit ?_
   replace HB2_2:=rw_kn g21 HB2_2
   replace HB3_3:=rw_kn g21 HB3_3
   replace HB4_4:=rw_kn g21 HB4_4
   replace HB5_5:=rw_kn g21 HB5_5
   replace hr:=hr.kn g21
   replace ho:=ho.kn g21
   replace hw:=hw.kn g21
   replace hb:=hb.kn g21
   replace HG:=grown_trans HG g21
   refine sx_hv sv21 1 [(17,xval V.nul)]
     ⟨ox_build (vs:=[]) rfl rfl trivial trivial (fun _=>bVal0 _) (fun _=>rfl),trivial⟩ fun a23 w23 g23 sv23=>?_
   refine tl_sw sv23 r7 (tyV2 V.nul) (rw_kn g23 HB4_4) rfl fun w24 g24 h24=>?_
   replace HB2_2:=rw_s2 g23 g24 HB2_2 (Ne.symm ne_B4_4_B2_2)
   replace HB3_3:=rw_s2 g23 g24 HB3_3 (Ne.symm ne_B4_4_B3_3)
   replace HB5_5:=rw_s2 g23 g24 HB5_5 ne_B5_5_B4_4
   replace hr:=(hr.kn g23).offR g24 (no_b ap_hr_B4_4)
   replace ho:=(ho.kn g23).offR g24 (no_b ap_ho_B4_4)
   replace hw:=(hw.kn g23).offR g24 (no_b ap_hw_B4_4)
   replace hb:=(hb.kn g23).offR g24 (no_b ap_hb_B4_4)
   replace HG:=grown_newR (grown_trans HG g23) g24 lo_B4_4
   replace HB4_4:=h24
   refine tl_sw sv23 r7 (tyE 1) HB5_5 rfl fun w25 g25 h25=>?_
   replace HB2_2:=rw_st g25 HB2_2 (Ne.symm ne_B5_5_B2_2)
   replace HB3_3:=rw_st g25 HB3_3 (Ne.symm ne_B5_5_B3_3)
   replace HB4_4:=rw_st g25 HB4_4 (Ne.symm ne_B5_5_B4_4)
   replace hr:=hr.offR g25 (no_b ap_hr_B5_5)
   replace ho:=ho.offR g25 (no_b ap_ho_B5_5)
   replace hw:=hw.offR g25 (no_b ap_hw_B5_5)
   replace hb:=hb.offR g25 (no_b ap_hb_B5_5)
   replace HG:=grown_newR HG g25 lo_B5_5
   replace HB5_5:=h25
   refine tl_nil ?_
   refine k22 _ _ ?_
   refine wp_ret ?_
   repeat refine then_ret ?_
   refine cx_retD (fn:=Tryz.f22) sv23 (res_cell2 (p:=4) (q:=5) Tryz.results22 sv23 rfl rfl rfl rfl (tyV2 V.nul) (tyE 1) HB4_4 HB5_5) (inv_of Tryz.func60 (by kernel_rfl) rfl _ _) (recOpen_walk _ _ _) ?_
   exact ⟨retV (openO_bad (.inr hv)),HG⟩
 · have hb64:body.length≤64:=s3▸vldS_b hh
   have hia:In64 ad:=by have:=(hd_of (vldS_h hh)).1;rw [s1] at this;exact ⟨by omega,by omega⟩
   refine wp_region_lit ?_
   refine sx_hv sv8 8 [(9,sdval ad (.slice ao od.length ac) joint (.slice wo wd.length wc) (.slice bo body.length bc) tg),(10,.bool true),(11,.bool false),(12,.bool false),(13,vval sa po (.slice vo ks.length vc_)),(14,.bool true),(15,.bool false),(16,.bool false)]
     ⟨yl r6 (tySd _ _ htg (.slice ao od.length ac) (.slice wo wd.length wc) (.slice bo body.length bc) rfl rfl rfl) HB3_3,ox_call (Sp.is (.bool true)) [sdval ad (.slice ao od.length ac) joint (.slice wo wd.length wc) (.slice bo body.length bc) tg] rfl rfl trivial ⟨(oy rfl rfl),trivial⟩ (is_on fun W g=>valid_c htg (ho.kn g) (hw.kn g) (hb.kn g) hS hh) (fun _ _ h=>h) (enter_of Tryz.func27 (by kernel_rfl) rfl),ox_un rfl rfl trivial (oy rfl rfl) (fun _=>rn_not) (fun _=>rfl),ym r5,ox_load rfl rfl (gy rfl rfl rfl) (oy rfl rfl) (fun _ g=>loadsAt (tyVa hsa hpo (.slice vo ks.length vc_) rfl) (rangeAt_row (row_of g HB2_2 (by simp)))) (fun _=>rfl),ox_call (Sp.is (.bool true)) [vval sa po (.slice vo ks.length vc_)] rfl rfl (gy rfl rfl rfl) ⟨(oy rfl rfl),trivial⟩ (is_on fun W g=>vvalid_P hsa hpo (hr.kn g) hP hv) (fun _ _ h=>h) (enter_of Tryz.func51 (by kernel_rfl) rfl),ox_un rfl rfl (gy rfl rfl rfl) (oy rfl rfl) (fun _=>rn_not) (fun _=>rfl),ox_pick rfl rfl trivial (oy rfl rfl) (oy rfl rfl) (fun _=>rfl),trivial⟩ fun a26 w26 g26 sv26=>?_
   refine tl_nil ?_
   refine k10 _ _ ?_
   refine cx_ifF sv26 rfl rfl ?_
   refine wp_skip ?_
   refine k9 _ _ ?_
   refine wp_seq_k fun K27 k27=>?_
   refine wp_seq_k fun K28 k28=>?_
   replace HB2_2:=rw_kn g26 HB2_2
   replace HB3_3:=rw_kn g26 HB3_3
   replace HB4_4:=rw_kn g26 HB4_4
   replace HB5_5:=rw_kn g26 HB5_5
   replace hr:=hr.kn g26
   replace ho:=ho.kn g26
   replace hw:=hw.kn g26
   replace hb:=hb.kn g26
   replace HG:=grown_trans HG g26
   rcases Nat.eq_zero_or_pos od.length with hz | hz
   · have hnil:S.own=[]:=by rw [s2,List.eq_nil_of_length_eq_zero hz];rfl
     have hopen:=openO_clear hh hv hnil
     rw [s1,s3,s4] at hopen
     refine wp_region_lit ?_
     refine sx_hv sv26 4 [(18,pk B3_3 1),(19,.slice ao od.length ac),(20,.int .i64 ((od.length:Nat))),(21,.bool true)]
       ⟨yf r6 (fun _=>by kernel_rfl),yp (i:=1) r6 (tyDs (.slice ao od.length ac) rfl) HB3_3 rfl rfl,ox_len (Tryz.underlying28) rfl rfl trivial (oy rfl rfl) (fun _=>rfl),ybc r6 (fun _=>rn_eql (beqT (by omega))),trivial⟩ fun a29 w29 g29 sv29=>?_
     refine tl_nil ?_
     refine k28 _ _ ?_
     refine cx_ifT sv29 rfl rfl ?_
     refine wp_seq_k fun K30 k30=>?_
     refine wp_seq_k fun K31 k31=>?_
     replace HB2_2:=rw_kn g29 HB2_2
     replace HB3_3:=rw_kn g29 HB3_3
     replace HB4_4:=rw_kn g29 HB4_4
     replace HB5_5:=rw_kn g29 HB5_5
     replace hr:=hr.kn g29
     replace ho:=ho.kn g29
     replace hw:=hw.kn g29
     replace hb:=hb.kn g29
     replace HG:=grown_trans HG g29
     by_cases htt:tgC ad body=tg
     · rw [if_pos htt] at hopen
       obtain ⟨dq,hdq⟩:∃ q,decO body=q:=⟨_,rfl⟩
       rw [hdq] at hopen
       refine rx_av sv29 [(22,pk B3_3 5),(23,dval tg),(24,pt B3_3),(25,.int .i64 ad),(26,pk B3_3 4),(27,.slice bo body.length bc),(28,dval ((tgC ad body))),(29,.bool false)]
         ⟨yf r6 (fun _=>by kernel_rfl),yp (i:=5) r6 (tyD tg htg.1) HB3_3 rfl rfl,yf r6 (fun _=>by kernel_rfl),yp (i:=0) r6 (tyInt64 ad) HB3_3 rfl rfl,yf r6 (fun _=>by kernel_rfl),yp (i:=4) r6 (tyBys (.slice bo body.length bc) rfl) HB3_3 rfl rfl,ox_call (Sp.is (dval ((tgC ad body)))) [.int .i64 ad,.slice bo body.length bc] rfl rfl trivial ⟨(oy rfl rfl),(oy rfl rfl),trivial⟩ (is_on fun W g=>cleartag_walk ad hia body bby (by omega) _ _ _ (hb.kn g)) (fun _ _ h=>h) (enter_of Tryz.func54 (by kernel_rfl) rfl),ybt r7 (fun _=>(dig_eqb htg (tgC_dg ad body) _ _ _).2.trans (by rw [decide_eq_true (htt.symm)];rfl)),trivial⟩ fun a32 w32 g32 sv32=>?_
       refine k31 _ _ ?_
       refine cx_ifF sv32 rfl rfl ?_
       refine wp_skip ?_
       refine k30 _ _ ?_
       refine wp_seq_k fun K33 k33=>?_
       refine wp_region_lit ?_
       refine sx_hv sv32 2 [(31,pk B3_3 4),(32,.slice bo body.length bc)]
         ⟨yf r6 (fun _=>by kernel_rfl),yp (i:=4) r6 (tyBys (.slice bo body.length bc) rfl) (rw_kn g32 HB3_3) rfl rfl,trivial⟩ fun a34 w34 g34 sv34=>?_
       have gc34:=grown_trans g32 g34
       replace HB2_2:=rw_kn gc34 HB2_2
       replace HB3_3:=rw_kn gc34 HB3_3
       replace HB4_4:=rw_kn gc34 HB4_4
       replace HB5_5:=rw_kn gc34 HB5_5
       replace hr:=hr.kn gc34
       replace ho:=ho.kn gc34
       replace hw:=hw.kn gc34
       replace hb:=hb.kn gc34
       replace HG:=grown_trans HG gc34
       refine tl_call sv34 rfl rfl rfl rfl rfl (c_is (dec_c hb bby (by omega) hdq)) (enter_of Tryz.func61 (by kernel_rfl) rfl) fun a35 v35 w35 hR35 sv35=>?_
       obtain ⟨rfl,g35⟩:=hR35
       replace HB2_2:=rw_kn g35 HB2_2
       replace HB3_3:=rw_kn g35 HB3_3
       replace HB4_4:=rw_kn g35 HB4_4
       replace HB5_5:=rw_kn g35 HB5_5
       replace hr:=hr.kn g35
       replace ho:=ho.kn g35
       replace hw:=hw.kn g35
       replace hb:=hb.kn g35
       replace HG:=grown_trans HG g35
       refine sx_hv sv35 2 [(34,xval dq.1),(35,.int .i64 dq.2)]
         ⟨ox_extract rfl rfl rfl trivial (fun _ _ h=>⟨_,_,h,rfl,rfl⟩),ox_extract rfl rfl rfl trivial (fun _ _ h=>⟨_,_,h,rfl,rfl⟩),trivial⟩ fun a36 w36 g36 sv36=>?_
       refine tl_sw sv36 r7 (tyV2 dq.1) (rw_kn g36 HB4_4) rfl fun w37 g37 h37=>?_
       replace HB2_2:=rw_s2 g36 g37 HB2_2 (Ne.symm ne_B4_4_B2_2)
       replace HB3_3:=rw_s2 g36 g37 HB3_3 (Ne.symm ne_B4_4_B3_3)
       replace HB5_5:=rw_s2 g36 g37 HB5_5 ne_B5_5_B4_4
       replace hr:=(hr.kn g36).offR g37 (no_b ap_hr_B4_4)
       replace ho:=(ho.kn g36).offR g37 (no_b ap_ho_B4_4)
       replace hw:=(hw.kn g36).offR g37 (no_b ap_hw_B4_4)
       replace hb:=(hb.kn g36).offR g37 (no_b ap_hb_B4_4)
       replace HG:=grown_newR (grown_trans HG g36) g37 lo_B4_4
       replace HB4_4:=h37
       refine tl_sw sv36 r7 (tyE dq.2) HB5_5 rfl fun w38 g38 h38=>?_
       replace HB2_2:=rw_st g38 HB2_2 (Ne.symm ne_B5_5_B2_2)
       replace HB3_3:=rw_st g38 HB3_3 (Ne.symm ne_B5_5_B3_3)
       replace HB4_4:=rw_st g38 HB4_4 (Ne.symm ne_B5_5_B4_4)
       replace hr:=hr.offR g38 (no_b ap_hr_B5_5)
       replace ho:=ho.offR g38 (no_b ap_ho_B5_5)
       replace hw:=hw.offR g38 (no_b ap_hw_B5_5)
       replace hb:=hb.offR g38 (no_b ap_hb_B5_5)
       replace HG:=grown_newR HG g38 lo_B5_5
       replace HB5_5:=h38
       have sv39:Sv 62 [{ target:=.fn (.func 60) #[pt B4_4,pt B5_5],args:=#[] }] [(22,_),(23,_),(24,_),(25,_),(26,_),(27,_),(28,_),(29,_),(18,_),(19,_),(20,_),(21,_),(9,_),(10,_),(11,_),(12,_),(13,_),(14,_),(15,_),(16,_),(8,_),(5,_),(4,_),(3,_),(2,_),(0,_),(1,_)] a36:=sv36.dl [34,35,33,31,32]
       refine tl_nil ?_
       refine k33 _ _ ?_
       refine wp_ret ?_
       repeat refine then_ret ?_
       refine cx_retD (fn:=Tryz.f22) sv39 (res_cell2 (p:=4) (q:=5) Tryz.results22 sv39 rfl rfl rfl rfl (tyV2 dq.1) (tyE dq.2) HB4_4 HB5_5) (inv_of Tryz.func60 (by kernel_rfl) rfl _ _) (recOpen_walk _ _ _) ?_
       exact ⟨retV (hopen),HG⟩
     · rw [if_neg htt] at hopen
       refine rx_av sv29 [(22,pk B3_3 5),(23,dval tg),(24,pt B3_3),(25,.int .i64 ad),(26,pk B3_3 4),(27,.slice bo body.length bc),(28,dval ((tgC ad body))),(29,.bool true)]
         ⟨yf r6 (fun _=>by kernel_rfl),yp (i:=5) r6 (tyD tg htg.1) HB3_3 rfl rfl,yf r6 (fun _=>by kernel_rfl),yp (i:=0) r6 (tyInt64 ad) HB3_3 rfl rfl,yf r6 (fun _=>by kernel_rfl),yp (i:=4) r6 (tyBys (.slice bo body.length bc) rfl) HB3_3 rfl rfl,ox_call (Sp.is (dval ((tgC ad body)))) [.int .i64 ad,.slice bo body.length bc] rfl rfl trivial ⟨(oy rfl rfl),(oy rfl rfl),trivial⟩ (is_on fun W g=>cleartag_walk ad hia body bby (by omega) _ _ _ (hb.kn g)) (fun _ _ h=>h) (enter_of Tryz.func54 (by kernel_rfl) rfl),ybt r7 (fun _=>(dig_eqb htg (tgC_dg ad body) _ _ _).2.trans (by rw [decide_eq_false ((fun h=>htt h.symm))];rfl)),trivial⟩ fun a40 w40 g40 sv40=>?_
       refine k31 _ _ ?_
       refine cx_ifT sv40 rfl rfl ?_
       refine wp_seq_k fun K41 k41=>?_
       refine wp_region_lit ?_
       replace HB2_2:=rw_kn g40 HB2_2
       replace HB3_3:=rw_kn g40 HB3_3
       replace HB4_4:=rw_kn g40 HB4_4
       replace HB5_5:=rw_kn g40 HB5_5
       replace hr:=hr.kn g40
       replace ho:=ho.kn g40
       replace hw:=hw.kn g40
       replace hb:=hb.kn g40
       replace HG:=grown_trans HG g40
       refine sx_hv sv40 1 [(30,xval V.nul)]
         ⟨ox_build (vs:=[]) rfl rfl trivial trivial (fun _=>bVal0 _) (fun _=>rfl),trivial⟩ fun a42 w42 g42 sv42=>?_
       refine tl_sw sv42 r7 (tyV2 V.nul) (rw_kn g42 HB4_4) rfl fun w43 g43 h43=>?_
       replace HB2_2:=rw_s2 g42 g43 HB2_2 (Ne.symm ne_B4_4_B2_2)
       replace HB3_3:=rw_s2 g42 g43 HB3_3 (Ne.symm ne_B4_4_B3_3)
       replace HB5_5:=rw_s2 g42 g43 HB5_5 ne_B5_5_B4_4
       replace hr:=(hr.kn g42).offR g43 (no_b ap_hr_B4_4)
       replace ho:=(ho.kn g42).offR g43 (no_b ap_ho_B4_4)
       replace hw:=(hw.kn g42).offR g43 (no_b ap_hw_B4_4)
       replace hb:=(hb.kn g42).offR g43 (no_b ap_hb_B4_4)
       replace HG:=grown_newR (grown_trans HG g42) g43 lo_B4_4
       replace HB4_4:=h43
       refine tl_sw sv42 r7 (tyE 101) HB5_5 rfl fun w44 g44 h44=>?_
       replace HB2_2:=rw_st g44 HB2_2 (Ne.symm ne_B5_5_B2_2)
       replace HB3_3:=rw_st g44 HB3_3 (Ne.symm ne_B5_5_B3_3)
       replace HB4_4:=rw_st g44 HB4_4 (Ne.symm ne_B5_5_B4_4)
       replace hr:=hr.offR g44 (no_b ap_hr_B5_5)
       replace ho:=ho.offR g44 (no_b ap_ho_B5_5)
       replace hw:=hw.offR g44 (no_b ap_hw_B5_5)
       replace hb:=hb.offR g44 (no_b ap_hb_B5_5)
       replace HG:=grown_newR HG g44 lo_B5_5
       replace HB5_5:=h44
       refine tl_nil ?_
       refine k41 _ _ ?_
       refine wp_ret ?_
       repeat refine then_ret ?_
       refine cx_retD (fn:=Tryz.f22) sv42 (res_cell2 (p:=4) (q:=5) Tryz.results22 sv42 rfl rfl rfl rfl (tyV2 V.nul) (tyE 101) HB4_4 HB5_5) (inv_of Tryz.func60 (by kernel_rfl) rfl _ _) (recOpen_walk _ _ _) ?_
       exact ⟨retV (hopen),HG⟩
   · have hne:S.own≠[]:=fun h=>by rw [s2] at h;have h2:od.length=0:=(List.length_map _).symm.trans (congrArg List.length h);omega
     refine wp_region_lit ?_
     refine sx_hv sv26 4 [(18,pk B3_3 1),(19,.slice ao od.length ac),(20,.int .i64 ((od.length:Nat))),(21,.bool false)]
       ⟨yf r6 (fun _=>by kernel_rfl),yp (i:=1) r6 (tyDs (.slice ao od.length ac) rfl) HB3_3 rfl rfl,ox_len (Tryz.underlying28) rfl rfl trivial (oy rfl rfl) (fun _=>rfl),ybc r6 (fun _=>rn_eql (beqF (by omega))),trivial⟩ fun a45 w45 g45 sv45=>?_
     refine tl_nil ?_
     refine k28 _ _ ?_
     refine cx_ifF sv45 rfl rfl ?_
     refine wp_skip ?_
     refine k27 _ _ ?_
     refine wp_seq_k fun K46 k46=>?_
     replace HB2_2:=rw_kn g45 HB2_2
     replace HB3_3:=rw_kn g45 HB3_3
     replace HB4_4:=rw_kn g45 HB4_4
     replace HB5_5:=rw_kn g45 HB5_5
     replace hr:=hr.kn g45
     replace ho:=ho.kn g45
     replace hw:=hw.kn g45
     replace hb:=hb.kn g45
     replace HG:=grown_trans HG g45
     rcases (show recO P S=none∨∃ c,recO P S=some c by cases recO P S <;> simp) with hrec | ⟨c,hrec⟩
     · refine wp_region_lit ?_
       refine sx_hv sv45 2 [(37,vval sa po (.slice vo ks.length vc_)),(38,sdval ad (.slice ao od.length ac) joint (.slice wo wd.length wc) (.slice bo body.length bc) tg)]
         ⟨yl r6 (tyVa hsa hpo (.slice vo ks.length vc_) rfl) HB2_2,yl r6 (tySd _ _ htg (.slice ao od.length ac) (.slice wo wd.length wc) (.slice bo body.length bc) rfl rfl rfl) HB3_3,trivial⟩ fun a47 w47 g47 sv47=>?_
       replace HB2_2:=rw_kn g47 HB2_2
       replace HB3_3:=rw_kn g47 HB3_3
       replace HB4_4:=rw_kn g47 HB4_4
       replace HB5_5:=rw_kn g47 HB5_5
       replace hr:=hr.kn g47
       replace ho:=ho.kn g47
       replace hw:=hw.kn g47
       replace hb:=hb.kn g47
       replace HG:=grown_trans HG g47
       refine tl_call sv47 rfl rfl rfl rfl rfl (recov_c hsa hpo htg hr ho hw hb hP hS hh hrec) (enter_of Tryz.func62 (by kernel_rfl) rfl) fun a48 v48 w48 hR48 sv48=>?_
       obtain ⟨cz,rfl,hcd,_,g48⟩:=hR48
       replace HB2_2:=rw_kn g48 HB2_2
       replace HB3_3:=rw_kn g48 HB3_3
       replace HB4_4:=rw_kn g48 HB4_4
       replace HB5_5:=rw_kn g48 HB5_5
       replace hr:=hr.kn g48
       replace ho:=ho.kn g48
       replace hw:=hw.kn g48
       replace hb:=hb.kn g48
       replace HG:=grown_trans HG g48
       refine sx_hv sv48 3 [(36,.tuple #[dval cz,.bool false]),(40,dval cz),(41,.bool false)]
         ⟨ym r5,ox_extract rfl rfl rfl trivial (fun _ _ h=>⟨_,_,h,rfl,rfl⟩),ox_extract rfl rfl rfl trivial (fun _ _ h=>⟨_,_,h,rfl,rfl⟩),trivial⟩ fun a49 w49 g49 sv49=>?_
       replace HB2_2:=rw_kn g49 HB2_2
       replace HB3_3:=rw_kn g49 HB3_3
       replace HB4_4:=rw_kn g49 HB4_4
       replace HB5_5:=rw_kn g49 HB5_5
       replace hr:=hr.kn g49
       replace ho:=ho.kn g49
       replace hw:=hw.kn g49
       replace hb:=hb.kn g49
       replace HG:=grown_trans HG g49
       refine tl_alloc (T:=23) (Z:=(bv zero32)) sv49 rfl rfl rfl (fun a w=>by kernel_rfl) fun a50 w50 B6_50 eq_B6_50 g50 z50 HB6_50 sv50=>?_
       have ne_B6_50_B2_2:=nb_ne HB2_2 eq_B6_50
       have ne_B6_50_B3_3:=nb_ne HB3_3 eq_B6_50
       have ne_B6_50_B4_4:=nb_ne HB4_4 eq_B6_50
       have ne_B6_50_B5_5:=nb_ne HB5_5 eq_B6_50
       have lo_B6_50:=nb_lo HG eq_B6_50
       have ap_hr_B6_50:=nb_ap (hr.lt) eq_B6_50
       have ap_ho_B6_50:=nb_ap (ho.lt) eq_B6_50
       have ap_hw_B6_50:=nb_ap (hw.lt) eq_B6_50
       have ap_hb_B6_50:=nb_ap (hb.lt) eq_B6_50
       replace HB2_2:=rw_kn g50 HB2_2
       replace HB3_3:=rw_kn g50 HB3_3
       replace HB4_4:=rw_kn g50 HB4_4
       replace HB5_5:=rw_kn g50 HB5_5
       replace hr:=hr.kn g50
       replace ho:=ho.kn g50
       replace hw:=hw.kn g50
       replace hb:=hb.kn g50
       replace HG:=grown_trans HG g50
       refine tl_sw sv50 r7 (tyD cz hcd.1) HB6_50 (lenD hcd) fun w51 g51 h51=>?_
       replace HB2_2:=rw_st g51 HB2_2 (Ne.symm ne_B6_50_B2_2)
       replace HB3_3:=rw_st g51 HB3_3 (Ne.symm ne_B6_50_B3_3)
       replace HB4_4:=rw_st g51 HB4_4 (Ne.symm ne_B6_50_B4_4)
       replace HB5_5:=rw_st g51 HB5_5 (Ne.symm ne_B6_50_B5_5)
       replace hr:=hr.offR g51 (no_b ap_hr_B6_50)
       replace ho:=ho.offR g51 (no_b ap_ho_B6_50)
       replace hw:=hw.offR g51 (no_b ap_hw_B6_50)
       replace hb:=hb.offR g51 (no_b ap_hb_B6_50)
       replace HG:=grown_newR HG g51 lo_B6_50
       replace HB6_50:=h51
       refine tl_as (v:=.bool false) sv50 r6 fun a52 sv52=>?_
       have sv53:Sv 62 [{ target:=.fn (.func 60) #[pt B4_4,pt B5_5],args:=#[] }] [(7,_),(6,_),(18,_),(19,_),(20,_),(21,_),(9,_),(10,_),(11,_),(12,_),(13,_),(14,_),(15,_),(16,_),(8,_),(5,_),(4,_),(3,_),(2,_),(0,_),(1,_)] a52:=sv52.dl [36,40,41,39,37,38]
       refine tl_nil ?_
       refine k46 _ _ ?_
       refine wp_seq_k fun K54 k54=>?_
       refine wp_seq_k fun K55 k55=>?_
       refine wp_region_lit ?_
       refine sx_hv sv53 2 [(42,.bool false),(43,.bool true)]
         ⟨ym r5,ox_un rfl rfl trivial (oy rfl rfl) (fun _=>rn_not) (fun _=>rfl),trivial⟩ fun a56 w56 g56 sv56=>?_
       refine tl_nil ?_
       refine k55 _ _ ?_
       refine cx_ifT sv56 rfl rfl ?_
       refine wp_seq_k fun K57 k57=>?_
       refine wp_region_lit ?_
       replace HB2_2:=rw_kn g56 HB2_2
       replace HB3_3:=rw_kn g56 HB3_3
       replace HB4_4:=rw_kn g56 HB4_4
       replace HB5_5:=rw_kn g56 HB5_5
       replace HB6_50:=rw_kn g56 HB6_50
       replace hr:=hr.kn g56
       replace ho:=ho.kn g56
       replace hw:=hw.kn g56
       replace hb:=hb.kn g56
       replace HG:=grown_trans HG g56
       refine sx_hv sv56 1 [(44,xval V.nul)]
         ⟨ox_build (vs:=[]) rfl rfl trivial trivial (fun _=>bVal0 _) (fun _=>rfl),trivial⟩ fun a58 w58 g58 sv58=>?_
       refine tl_sw sv58 r7 (tyV2 V.nul) (rw_kn g58 HB4_4) rfl fun w59 g59 h59=>?_
       replace HB2_2:=rw_s2 g58 g59 HB2_2 (Ne.symm ne_B4_4_B2_2)
       replace HB3_3:=rw_s2 g58 g59 HB3_3 (Ne.symm ne_B4_4_B3_3)
       replace HB5_5:=rw_s2 g58 g59 HB5_5 ne_B5_5_B4_4
       replace HB6_50:=rw_s2 g58 g59 HB6_50 ne_B6_50_B4_4
       replace hr:=(hr.kn g58).offR g59 (no_b ap_hr_B4_4)
       replace ho:=(ho.kn g58).offR g59 (no_b ap_ho_B4_4)
       replace hw:=(hw.kn g58).offR g59 (no_b ap_hw_B4_4)
       replace hb:=(hb.kn g58).offR g59 (no_b ap_hb_B4_4)
       replace HG:=grown_newR (grown_trans HG g58) g59 lo_B4_4
       replace HB4_4:=h59
       refine tl_sw sv58 r7 (tyE 10) HB5_5 rfl fun w60 g60 h60=>?_
       replace HB2_2:=rw_st g60 HB2_2 (Ne.symm ne_B5_5_B2_2)
       replace HB3_3:=rw_st g60 HB3_3 (Ne.symm ne_B5_5_B3_3)
       replace HB4_4:=rw_st g60 HB4_4 (Ne.symm ne_B5_5_B4_4)
       replace HB6_50:=rw_st g60 HB6_50 ne_B6_50_B5_5
       replace hr:=hr.offR g60 (no_b ap_hr_B5_5)
       replace ho:=ho.offR g60 (no_b ap_ho_B5_5)
       replace hw:=hw.offR g60 (no_b ap_hw_B5_5)
       replace hb:=hb.offR g60 (no_b ap_hb_B5_5)
       replace HG:=grown_newR HG g60 lo_B5_5
       replace HB5_5:=h60
       refine tl_nil ?_
       refine k57 _ _ ?_
       refine wp_ret ?_
       repeat refine then_ret ?_
       refine cx_retD (fn:=Tryz.f22) sv58 (res_cell2 (p:=4) (q:=5) Tryz.results22 sv58 rfl rfl rfl rfl (tyV2 V.nul) (tyE 10) HB4_4 HB5_5) (inv_of Tryz.func60 (by kernel_rfl) rfl _ _) (recOpen_walk _ _ _) ?_
       exact ⟨retV (openO_none hh hv hne hrec),HG⟩
     · have hopen:=openO_key hh hv hne hrec
       rw [s1,s3,s4] at hopen
       refine wp_region_lit ?_
       refine sx_hv sv45 2 [(37,vval sa po (.slice vo ks.length vc_)),(38,sdval ad (.slice ao od.length ac) joint (.slice wo wd.length wc) (.slice bo body.length bc) tg)]
         ⟨yl r6 (tyVa hsa hpo (.slice vo ks.length vc_) rfl) HB2_2,yl r6 (tySd _ _ htg (.slice ao od.length ac) (.slice wo wd.length wc) (.slice bo body.length bc) rfl rfl rfl) HB3_3,trivial⟩ fun a61 w61 g61 sv61=>?_
       replace HB2_2:=rw_kn g61 HB2_2
       replace HB3_3:=rw_kn g61 HB3_3
       replace HB4_4:=rw_kn g61 HB4_4
       replace HB5_5:=rw_kn g61 HB5_5
       replace hr:=hr.kn g61
       replace ho:=ho.kn g61
       replace hw:=hw.kn g61
       replace hb:=hb.kn g61
       replace HG:=grown_trans HG g61
       refine tl_call sv61 rfl rfl rfl rfl rfl (recov_c hsa hpo htg hr ho hw hb hP hS hh hrec) (enter_of Tryz.func62 (by kernel_rfl) rfl) fun a62 v62 w62 hR62 sv62=>?_
       obtain ⟨cz,rfl,hcd,hcc,g62⟩:=hR62
       obtain rfl:=hcc c rfl
       replace HB2_2:=rw_kn g62 HB2_2
       replace HB3_3:=rw_kn g62 HB3_3
       replace HB4_4:=rw_kn g62 HB4_4
       replace HB5_5:=rw_kn g62 HB5_5
       replace hr:=hr.kn g62
       replace ho:=ho.kn g62
       replace hw:=hw.kn g62
       replace hb:=hb.kn g62
       replace HG:=grown_trans HG g62
       refine sx_hv sv62 3 [(36,.tuple #[dval c,.bool true]),(40,dval c),(41,.bool true)]
         ⟨ym r5,ox_extract rfl rfl rfl trivial (fun _ _ h=>⟨_,_,h,rfl,rfl⟩),ox_extract rfl rfl rfl trivial (fun _ _ h=>⟨_,_,h,rfl,rfl⟩),trivial⟩ fun a63 w63 g63 sv63=>?_
       replace HB2_2:=rw_kn g63 HB2_2
       replace HB3_3:=rw_kn g63 HB3_3
       replace HB4_4:=rw_kn g63 HB4_4
       replace HB5_5:=rw_kn g63 HB5_5
       replace hr:=hr.kn g63
       replace ho:=ho.kn g63
       replace hw:=hw.kn g63
       replace hb:=hb.kn g63
       replace HG:=grown_trans HG g63
       refine tl_alloc (T:=23) (Z:=(bv zero32)) sv63 rfl rfl rfl (fun a w=>by kernel_rfl) fun a64 w64 B6_64 eq_B6_64 g64 z64 HB6_64 sv64=>?_
       have ne_B6_64_B2_2:=nb_ne HB2_2 eq_B6_64
       have ne_B6_64_B3_3:=nb_ne HB3_3 eq_B6_64
       have ne_B6_64_B4_4:=nb_ne HB4_4 eq_B6_64
       have ne_B6_64_B5_5:=nb_ne HB5_5 eq_B6_64
       have lo_B6_64:=nb_lo HG eq_B6_64
       have ap_hr_B6_64:=nb_ap (hr.lt) eq_B6_64
       have ap_ho_B6_64:=nb_ap (ho.lt) eq_B6_64
       have ap_hw_B6_64:=nb_ap (hw.lt) eq_B6_64
       have ap_hb_B6_64:=nb_ap (hb.lt) eq_B6_64
       replace HB2_2:=rw_kn g64 HB2_2
       replace HB3_3:=rw_kn g64 HB3_3
       replace HB4_4:=rw_kn g64 HB4_4
       replace HB5_5:=rw_kn g64 HB5_5
       replace hr:=hr.kn g64
       replace ho:=ho.kn g64
       replace hw:=hw.kn g64
       replace hb:=hb.kn g64
       replace HG:=grown_trans HG g64
       refine tl_sw sv64 r7 (tyD c hcd.1) HB6_64 (lenD hcd) fun w65 g65 h65=>?_
       replace HB2_2:=rw_st g65 HB2_2 (Ne.symm ne_B6_64_B2_2)
       replace HB3_3:=rw_st g65 HB3_3 (Ne.symm ne_B6_64_B3_3)
       replace HB4_4:=rw_st g65 HB4_4 (Ne.symm ne_B6_64_B4_4)
       replace HB5_5:=rw_st g65 HB5_5 (Ne.symm ne_B6_64_B5_5)
       replace hr:=hr.offR g65 (no_b ap_hr_B6_64)
       replace ho:=ho.offR g65 (no_b ap_ho_B6_64)
       replace hw:=hw.offR g65 (no_b ap_hw_B6_64)
       replace hb:=hb.offR g65 (no_b ap_hb_B6_64)
       replace HG:=grown_newR HG g65 lo_B6_64
       replace HB6_64:=h65
       refine tl_as (v:=.bool true) sv64 r6 fun a66 sv66=>?_
       have sv67:Sv 62 [{ target:=.fn (.func 60) #[pt B4_4,pt B5_5],args:=#[] }] [(7,_),(6,_),(18,_),(19,_),(20,_),(21,_),(9,_),(10,_),(11,_),(12,_),(13,_),(14,_),(15,_),(16,_),(8,_),(5,_),(4,_),(3,_),(2,_),(0,_),(1,_)] a66:=sv66.dl [36,40,41,39,37,38]
       refine tl_nil ?_
       refine k46 _ _ ?_
       refine wp_seq_k fun K68 k68=>?_
       refine wp_seq_k fun K69 k69=>?_
       refine wp_region_lit ?_
       refine sx_hv sv67 2 [(42,.bool true),(43,.bool false)]
         ⟨ym r5,ox_un rfl rfl trivial (oy rfl rfl) (fun _=>rn_not) (fun _=>rfl),trivial⟩ fun a70 w70 g70 sv70=>?_
       refine tl_nil ?_
       refine k69 _ _ ?_
       refine cx_ifF sv70 rfl rfl ?_
       refine wp_skip ?_
       refine k68 _ _ ?_
       refine wp_seq_k fun K71 k71=>?_
       refine wp_seq_k fun K72 k72=>?_
       replace HB2_2:=rw_kn g70 HB2_2
       replace HB3_3:=rw_kn g70 HB3_3
       replace HB4_4:=rw_kn g70 HB4_4
       replace HB5_5:=rw_kn g70 HB5_5
       replace HB6_64:=rw_kn g70 HB6_64
       replace hr:=hr.kn g70
       replace ho:=ho.kn g70
       replace hw:=hw.kn g70
       replace hb:=hb.kn g70
       replace HG:=grown_trans HG g70
       by_cases htt:tgK c ad body=tg
       · rw [if_pos htt] at hopen
         obtain ⟨dq,hdq⟩:∃ q,decO (cry body c)=q:=⟨_,rfl⟩
         rw [hdq] at hopen
         refine rx_av sv70 [(45,pk B3_3 5),(46,dval tg),(47,dval c),(48,pt B3_3),(49,.int .i64 ad),(50,pk B3_3 4),(51,.slice bo body.length bc),(52,dval ((tgK c ad body))),(53,.bool false)]
           ⟨yf r6 (fun _=>by kernel_rfl),yp (i:=5) r6 (tyD tg htg.1) HB3_3 rfl rfl,yl r6 (tyD c hcd.1) HB6_64,yf r6 (fun _=>by kernel_rfl),yp (i:=0) r6 (tyInt64 ad) HB3_3 rfl rfl,yf r6 (fun _=>by kernel_rfl),yp (i:=4) r6 (tyBys (.slice bo body.length bc) rfl) HB3_3 rfl rfl,ox_call (Sp.is (dval ((tgK c ad body)))) [dval c,.int .i64 ad,.slice bo body.length bc] rfl rfl trivial ⟨(oy rfl rfl),(oy rfl rfl),(oy rfl rfl),trivial⟩ (is_on fun W g=>keyedtag_walk c hcd ad hia body bby (by omega) _ _ _ (hb.kn g)) (fun _ _ h=>h) (enter_of Tryz.func58 (by kernel_rfl) rfl),ybt r7 (fun _=>(dig_eqb htg (tgK_dg c ad body) _ _ _).2.trans (by rw [decide_eq_true (htt.symm)];rfl)),trivial⟩ fun a73 w73 g73 sv73=>?_
         refine k72 _ _ ?_
         refine cx_ifF sv73 rfl rfl ?_
         refine wp_skip ?_
         refine k71 _ _ ?_
         refine wp_seq_k fun K74 k74=>?_
         refine wp_region_lit ?_
         refine sx_hv sv73 3 [(55,pk B3_3 4),(56,.slice bo body.length bc),(57,dval c)]
           ⟨yf r6 (fun _=>by kernel_rfl),yp (i:=4) r6 (tyBys (.slice bo body.length bc) rfl) (rw_kn g73 HB3_3) rfl rfl,yl r6 (tyD c hcd.1) (rw_kn g73 HB6_64),trivial⟩ fun a75 w75 g75 sv75=>?_
         have gc75:=grown_trans g73 g75
         replace HB2_2:=rw_kn gc75 HB2_2
         replace HB3_3:=rw_kn gc75 HB3_3
         replace HB4_4:=rw_kn gc75 HB4_4
         replace HB5_5:=rw_kn gc75 HB5_5
         replace HB6_64:=rw_kn gc75 HB6_64
         replace hr:=hr.kn gc75
         replace ho:=ho.kn gc75
         replace hw:=hw.kn gc75
         replace hb:=hb.kn gc75
         replace HG:=grown_trans HG gc75
         refine tl_call sv75 rfl rfl rfl rfl rfl (nwr_c (crypted_walk body bby (by omega) _ _ c hcd _ hb)) (enter_of Tryz.func57 (by kernel_rfl) rfl) fun a76 v76 w76 hR76 sv76=>?_
         obtain ⟨ao76,cap76,rfl,_⟩:=(Sl.of_own hR76.1).shape
         obtain ⟨ow76,fr76⟩:=hR76
         replace fr76:=step_nil fr76
         have oy_:=ow76
         clear ow76
         have g76:=fr76.1
         replace fr76:=fr76.2
         have ap_oy__B2_2:=fr_ap fr76 HB2_2
         have ap_oy__B3_3:=fr_ap fr76 HB3_3
         have ap_oy__B4_4:=fr_ap fr76 HB4_4
         have ap_oy__B5_5:=fr_ap fr76 HB5_5
         have ap_oy__B6_64:=fr_ap fr76 HB6_64
         have ap_hr_oy_:∀ k,fpK (.slice vo ks.length vc_) ks k→¬ fpS (.slice ao76 ((cry body c)).length cap76) k:=fun k hzr hk=>absurd (hr.lt k hzr) (Nat.not_lt.2 (fr76 k hk))
         have ap_ho_oy_:∀ k,fpS (.slice ao od.length ac) k→¬ fpS (.slice ao76 ((cry body c)).length cap76) k:=fun k hzr hk=>absurd (ho.lt k hzr) (Nat.not_lt.2 (fr76 k hk))
         have ap_hw_oy_:∀ k,fpS (.slice wo wd.length wc) k→¬ fpS (.slice ao76 ((cry body c)).length cap76) k:=fun k hzr hk=>absurd (hw.lt k hzr) (Nat.not_lt.2 (fr76 k hk))
         have ap_hb_oy_:∀ k,fpS (.slice bo body.length bc) k→¬ fpS (.slice ao76 ((cry body c)).length cap76) k:=fun k hzr hk=>absurd (hb.lt k hzr) (Nat.not_lt.2 (fr76 k hk))
         have lo_oy_:∀ k,fpS (.slice ao76 ((cry body c)).length cap76) k→w.heap.size≤k:=fun k hk=>Nat.le_trans HG.size (fr76 k hk)
         replace HB2_2:=rw_kn g76 HB2_2
         replace HB3_3:=rw_kn g76 HB3_3
         replace HB4_4:=rw_kn g76 HB4_4
         replace HB5_5:=rw_kn g76 HB5_5
         replace HB6_64:=rw_kn g76 HB6_64
         replace hr:=hr.kn g76
         replace ho:=ho.kn g76
         replace hw:=hw.kn g76
         replace hb:=hb.kn g76
         replace HG:=grown_trans HG g76
         refine tl_call sv76 rfl rfl rfl rfl rfl (c_is (dec_c (Own.sb oy_) (cry_by _ bby) (by rw [cry_len];omega) hdq)) (enter_of Tryz.func61 (by kernel_rfl) rfl) fun a77 v77 w77 hR77 sv77=>?_
         obtain ⟨rfl,g77⟩:=hR77
         replace HB2_2:=rw_kn g77 HB2_2
         replace HB3_3:=rw_kn g77 HB3_3
         replace HB4_4:=rw_kn g77 HB4_4
         replace HB5_5:=rw_kn g77 HB5_5
         replace HB6_64:=rw_kn g77 HB6_64
         replace hr:=hr.kn g77
         replace ho:=ho.kn g77
         replace hw:=hw.kn g77
         replace hb:=hb.kn g77
         replace oy_:=oy_.kn g77
         replace HG:=grown_trans HG g77
         have sv78:Sv 62 [{ target:=.fn (.func 60) #[pt B4_4,pt B5_5],args:=#[] }] [(59,_),(45,_),(46,_),(47,_),(48,_),(49,_),(50,_),(51,_),(52,_),(53,_),(42,_),(43,_),(7,_),(6,_),(18,_),(19,_),(20,_),(21,_),(9,_),(10,_),(11,_),(12,_),(13,_),(14,_),(15,_),(16,_),(8,_),(5,_),(4,_),(3,_),(2,_),(0,_),(1,_)] a77:=sv77.dl [58,55,56,57]
         refine sx_hv sv78 2 [(60,xval dq.1),(61,.int .i64 dq.2)]
           ⟨ox_extract rfl rfl rfl trivial (fun _ _ h=>⟨_,_,h,rfl,rfl⟩),ox_extract rfl rfl rfl trivial (fun _ _ h=>⟨_,_,h,rfl,rfl⟩),trivial⟩ fun a79 w79 g79 sv79=>?_
         refine tl_sw sv79 r7 (tyV2 dq.1) (rw_kn g79 HB4_4) rfl fun w80 g80 h80=>?_
         replace HB2_2:=rw_s2 g79 g80 HB2_2 (Ne.symm ne_B4_4_B2_2)
         replace HB3_3:=rw_s2 g79 g80 HB3_3 (Ne.symm ne_B4_4_B3_3)
         replace HB5_5:=rw_s2 g79 g80 HB5_5 ne_B5_5_B4_4
         replace HB6_64:=rw_s2 g79 g80 HB6_64 ne_B6_64_B4_4
         replace hr:=(hr.kn g79).offR g80 (no_b ap_hr_B4_4)
         replace ho:=(ho.kn g79).offR g80 (no_b ap_ho_B4_4)
         replace hw:=(hw.kn g79).offR g80 (no_b ap_hw_B4_4)
         replace hb:=(hb.kn g79).offR g80 (no_b ap_hb_B4_4)
         replace oy_:=(oy_.kn g79).offR g80 (no_b ap_oy__B4_4)
         replace HG:=grown_newR (grown_trans HG g79) g80 lo_B4_4
         replace HB4_4:=h80
         refine tl_sw sv79 r7 (tyE dq.2) HB5_5 rfl fun w81 g81 h81=>?_
         replace HB2_2:=rw_st g81 HB2_2 (Ne.symm ne_B5_5_B2_2)
         replace HB3_3:=rw_st g81 HB3_3 (Ne.symm ne_B5_5_B3_3)
         replace HB4_4:=rw_st g81 HB4_4 (Ne.symm ne_B5_5_B4_4)
         replace HB6_64:=rw_st g81 HB6_64 ne_B6_64_B5_5
         replace hr:=hr.offR g81 (no_b ap_hr_B5_5)
         replace ho:=ho.offR g81 (no_b ap_ho_B5_5)
         replace hw:=hw.offR g81 (no_b ap_hw_B5_5)
         replace hb:=hb.offR g81 (no_b ap_hb_B5_5)
         replace oy_:=oy_.offR g81 (no_b ap_oy__B5_5)
         replace HG:=grown_newR HG g81 lo_B5_5
         replace HB5_5:=h81
         refine tl_nil ?_
         refine k74 _ _ ?_
         refine wp_ret ?_
         repeat refine then_ret ?_
         refine cx_retD (fn:=Tryz.f22) sv79 (res_cell2 (p:=4) (q:=5) Tryz.results22 sv79 rfl rfl rfl rfl (tyV2 dq.1) (tyE dq.2) HB4_4 HB5_5) (inv_of Tryz.func60 (by kernel_rfl) rfl _ _) (recOpen_walk _ _ _) ?_
         exact ⟨retV (hopen),HG⟩
       · rw [if_neg htt] at hopen
         refine rx_av sv70 [(45,pk B3_3 5),(46,dval tg),(47,dval c),(48,pt B3_3),(49,.int .i64 ad),(50,pk B3_3 4),(51,.slice bo body.length bc),(52,dval ((tgK c ad body))),(53,.bool true)]
           ⟨yf r6 (fun _=>by kernel_rfl),yp (i:=5) r6 (tyD tg htg.1) HB3_3 rfl rfl,yl r6 (tyD c hcd.1) HB6_64,yf r6 (fun _=>by kernel_rfl),yp (i:=0) r6 (tyInt64 ad) HB3_3 rfl rfl,yf r6 (fun _=>by kernel_rfl),yp (i:=4) r6 (tyBys (.slice bo body.length bc) rfl) HB3_3 rfl rfl,ox_call (Sp.is (dval ((tgK c ad body)))) [dval c,.int .i64 ad,.slice bo body.length bc] rfl rfl trivial ⟨(oy rfl rfl),(oy rfl rfl),(oy rfl rfl),trivial⟩ (is_on fun W g=>keyedtag_walk c hcd ad hia body bby (by omega) _ _ _ (hb.kn g)) (fun _ _ h=>h) (enter_of Tryz.func58 (by kernel_rfl) rfl),ybt r7 (fun _=>(dig_eqb htg (tgK_dg c ad body) _ _ _).2.trans (by rw [decide_eq_false ((fun h=>htt h.symm))];rfl)),trivial⟩ fun a82 w82 g82 sv82=>?_
         refine k72 _ _ ?_
         refine cx_ifT sv82 rfl rfl ?_
         refine wp_seq_k fun K83 k83=>?_
         refine wp_region_lit ?_
         replace HB2_2:=rw_kn g82 HB2_2
         replace HB3_3:=rw_kn g82 HB3_3
         replace HB4_4:=rw_kn g82 HB4_4
         replace HB5_5:=rw_kn g82 HB5_5
         replace HB6_64:=rw_kn g82 HB6_64
         replace hr:=hr.kn g82
         replace ho:=ho.kn g82
         replace hw:=hw.kn g82
         replace hb:=hb.kn g82
         replace HG:=grown_trans HG g82
         refine sx_hv sv82 1 [(54,xval V.nul)]
           ⟨ox_build (vs:=[]) rfl rfl trivial trivial (fun _=>bVal0 _) (fun _=>rfl),trivial⟩ fun a84 w84 g84 sv84=>?_
         refine tl_sw sv84 r7 (tyV2 V.nul) (rw_kn g84 HB4_4) rfl fun w85 g85 h85=>?_
         replace HB2_2:=rw_s2 g84 g85 HB2_2 (Ne.symm ne_B4_4_B2_2)
         replace HB3_3:=rw_s2 g84 g85 HB3_3 (Ne.symm ne_B4_4_B3_3)
         replace HB5_5:=rw_s2 g84 g85 HB5_5 ne_B5_5_B4_4
         replace HB6_64:=rw_s2 g84 g85 HB6_64 ne_B6_64_B4_4
         replace hr:=(hr.kn g84).offR g85 (no_b ap_hr_B4_4)
         replace ho:=(ho.kn g84).offR g85 (no_b ap_ho_B4_4)
         replace hw:=(hw.kn g84).offR g85 (no_b ap_hw_B4_4)
         replace hb:=(hb.kn g84).offR g85 (no_b ap_hb_B4_4)
         replace HG:=grown_newR (grown_trans HG g84) g85 lo_B4_4
         replace HB4_4:=h85
         refine tl_sw sv84 r7 (tyE 101) HB5_5 rfl fun w86 g86 h86=>?_
         replace HB2_2:=rw_st g86 HB2_2 (Ne.symm ne_B5_5_B2_2)
         replace HB3_3:=rw_st g86 HB3_3 (Ne.symm ne_B5_5_B3_3)
         replace HB4_4:=rw_st g86 HB4_4 (Ne.symm ne_B5_5_B4_4)
         replace HB6_64:=rw_st g86 HB6_64 ne_B6_64_B5_5
         replace hr:=hr.offR g86 (no_b ap_hr_B5_5)
         replace ho:=ho.offR g86 (no_b ap_ho_B5_5)
         replace hw:=hw.offR g86 (no_b ap_hw_B5_5)
         replace hb:=hb.offR g86 (no_b ap_hb_B5_5)
         replace HG:=grown_newR HG g86 lo_B5_5
         replace HB5_5:=h86
         refine tl_nil ?_
         refine k83 _ _ ?_
         refine wp_ret ?_
         repeat refine then_ret ?_
         refine cx_retD (fn:=Tryz.f22) sv84 (res_cell2 (p:=4) (q:=5) Tryz.results22 sv84 rfl rfl rfl rfl (tyV2 V.nul) (tyE 101) HB4_4 HB5_5) (inv_of Tryz.func60 (by kernel_rfl) rfl _ _) (recOpen_walk _ _ _) ?_
         exact ⟨retV (hopen),HG⟩
theorem open_c {w:World} {ks:List VK} {vo:Option Addr} {vc_:Nat} {sa po:List Nat} {ad joint:Int} {od wd:List DD} {ao wo bo:Option Addr} {ac wc bc:Nat} {body tg:List Nat} {q:V×Int} (hsa:Dg sa) (hpo:Dg po) (htg:Dg tg) (bby:By body) (hr:RdK w (.slice vo ks.length vc_) ks) (ho:RdD w (.slice ao od.length ac) od) (hw:RdD w (.slice wo wd.length wc) wd) (hb:SlB w 1 (.slice bo body.length bc) body.length (bv body)) (hq:openO (ks.map VK.p) ⟨ad,od.map DD.x,joint,wd.map DD.x,body,tg⟩=q) :
   Calls Tryz.prog 22 #[vval sa po (.slice vo ks.length vc_),sdval ad (.slice ao od.length ac) joint (.slice wo wd.length wc) (.slice bo body.length bc) tg] w fun e w'=>e=.returned (.tuple #[xval q.1,.int .i64 q.2])∧w.grownBy w' none:=by
 subst hq
 exact open_walk ks vo vc_ sa po hsa hpo ad joint od wd ao wo bo ac wc bc body tg htg bby w hr ho hw hb
end Go.Proofs.YtbfjfnbcmojpiaaGreat
