import Derived.Test.YtbfjfnbcmojpiaaGreatY7
namespace Go.Proofs.YtbfjfnbcmojpiaaGreat
open Go.RowKit Go.Shelf
set_option linter.unusedSimpArgs false
set_option linter.unusedVariables false
set_option maxRecDepth 100000 in
theorem recSeal_walk (p q:Value) (w:World):CallsD Tryz.prog 49 #[p,q] .returning w fun e u' w'=>e=.returned (.tuple #[])∧u'=.returning∧w'=w:=by
 refine callsD_of_wpS Tryz.func49 rfl fun c₀ cs hu=>?_
 apply wpS_seq
 apply wpS_region
 simp [wpOpsS,go_sem,recoverD,hu,Tryz.ntmps49,Exit.thenS]
 refine wpS_cond (t:=false) (by simp [Act.eval,Array.replicate]) ?_
 simp only [Bool.false_eq_true,if_false]
 refine wpS_of_wp (wp_skip ?_)
 cases c₀
 simp_all [bodyPostS,results,Tryz.results49]
set_option maxRecDepth 100000 in
theorem recOpen_walk (p q:Value) (w:World):CallsD Tryz.prog 60 #[p,q] .returning w fun e u' w'=>e=.returned (.tuple #[])∧u'=.returning∧w'=w:=by
 refine callsD_of_wpS Tryz.func60 rfl fun c₀ cs hu=>?_
 apply wpS_seq
 apply wpS_region
 simp [wpOpsS,go_sem,recoverD,hu,Tryz.ntmps60,Exit.thenS]
 refine wpS_cond (t:=false) (by simp [Act.eval,Array.replicate]) ?_
 simp only [Bool.false_eq_true,if_false]
 refine wpS_of_wp (wp_skip ?_)
 cases c₀
 simp_all [bodyPostS,results,Tryz.results60]
def SRes (w w':World) (r:Sd×Int) (e:Ending):Prop:=
 ∃ (own wr:List DD) (ao wo bo:Option Addr) (ac wc bc:Nat),e=.returned (.tuple #[sdval r.1.addr (.slice ao own.length ac) r.1.joint (.slice wo wr.length wc) (.slice bo r.1.body.length bc) r.1.tag,.int .i64 r.2])∧own.map DD.x=r.1.own∧wr.map DD.x=r.1.wr ∧
   Own w' 23 32 (.slice ao own.length ac) own.length (own.flatMap dcs)∧Own w' 23 32 (.slice wo wr.length wc) wr.length (wr.flatMap dcs)∧Own w' 5 1 (.slice bo r.1.body.length bc) r.1.body.length (bv r.1.body) ∧
   (∀ k,fpS (.slice ao own.length ac) k→w.heap.size≤k)∧(∀ k,fpS (.slice wo wr.length wc) k→w.heap.size≤k)∧(∀ k,fpS (.slice bo r.1.body.length bc) k→w.heap.size≤k)∧(∀ k,fpS (.slice ao own.length ac) k→¬ fpS (.slice wo wr.length wc) k)∧Dg r.1.tag∧By r.1.body∧w.grownBy w' none
theorem SRes.mk {w w':World} {r:Sd×Int} {s:Sd} {er:Int} {own wr:List DD} {ao wo bo:Option Addr} {ac wc bc n m l:Nat} (hr:r=(s,er)) (hn:own.length=n) (hm:wr.length=m) (hl:s.body.length=l) (h1:own.map DD.x=s.own) (h2:wr.map DD.x=s.wr)
   (h3:Own w' 23 32 (.slice ao n ac) n (own.flatMap dcs)) (h4:Own w' 23 32 (.slice wo m wc) m (wr.flatMap dcs)) (h5:Own w' 5 1 (.slice bo l bc) l (bv s.body)) (f1:∀ k,fpS (.slice ao n ac) k→w.heap.size≤k) (f2:∀ k,fpS (.slice wo m wc) k→w.heap.size≤k) (f3:∀ k,fpS (.slice bo l bc) k→w.heap.size≤k) (f4:∀ k,fpS (.slice ao n ac) k→¬ fpS (.slice wo m wc) k)
   (ht:Dg s.tag) (hb:By s.body) (g:w.grownBy w' none) {v:Value} (hv:v=sdval s.addr (.slice ao n ac) s.joint (.slice wo m wc) (.slice bo l bc) s.tag):SRes w w' r (.returned (.tuple #[v,.int .i64 er])):=by
 subst hr hn hm hl hv
 exact ⟨own,wr,ao,wo,bo,ac,wc,bc,rfl,h1,h2,h3,h4,h5,f1,f2,f3,f4,ht,hb,g⟩
theorem SRes.zero {w w':World} {r:Sd×Int} {er:Int} (hr:r=(Sd.zero,er)) (g:w.grownBy w' none):SRes w w' r (.returned (.tuple #[sdval 0 (.slice none 0 0) 0 (.slice none 0 0) (.slice none 0 0) zero32,.int .i64 er])):=
 SRes.mk (own:=[]) (wr:=[]) (ao:=none) (wo:=none) (bo:=none) (ac:=0) (wc:=0) (bc:=0) hr rfl rfl rfl rfl rfl (Own.nil _ _ _) (Own.nil _ _ _) (Own.nil _ _ _) (fun k hk=>by simp [fpS,Value.ownBlock] at hk) (fun k hk=>by simp [fpS,Value.ownBlock] at hk) (fun k hk=>by simp [fpS,Value.ownBlock] at hk) (fun k hk=>by simp [fpS,Value.ownBlock] at hk) zero32_dg (fun b hb=>by simp [Sd.zero] at hb) g rfl
theorem sealO_bad {P:List VP} {own:List (List Nat)} {joint a:Int} {x:V} (h:hd own joint a=false∨vldV P=false):sealO P own joint a x=(Sd.zero,1):=by
 unfold sealO
 rcases h with h | h <;> simp [h]
theorem sealO_nil {P:List VP} {joint a:Int} {x:V} (h1:hd [] joint a=true) (h2:vldV P=true):sealO P [] joint a x=(⟨a,[],joint,[],encV x,tgC a (encV x)⟩,0):=by
 unfold sealO
 simp [h1,h2]
theorem sealO_err {P:List VP} {own:List (List Nat)} {joint a:Int} {x:V} {e:Int} (h1:hd own joint a=true) (h2:vldV P=true) (h3:own≠[]) (h4:(keysO P a own).2=e) (h5:e≠0):sealO P own joint a x=(Sd.zero,e):=by
 unfold sealO
 simp [h1,h2,h3,h4,h5]
theorem sealO_ok {P:List VP} {own:List (List Nat)} {joint a:Int} {x:V} {K:List (List Nat)} {c:List Nat} (h1:hd own joint a=true) (h2:vldV P=true) (h3:own≠[]) (h4:(keysO P a own).2=0) (h5:K=(keysO P a own).1) (h6:cky (decide (joint=1)) K=c) :
   sealO P own joint a x=(⟨a,own,joint,if joint=1 then K.map (wrp c) else [],cry (encV x) c,tgK c a (cry (encV x) c)⟩,0):=by
 subst h5
 subst h6
 unfold sealO
 simp [h1,h2,h3,h4]
theorem keysO_ok {P:List VP} {a:Int}:∀ {own:List (List Nat)},(∀ j,j < own.length→(keyO P (lat own j) a).2=0)→(keysO P a own).1=own.map (fun z=>(keyO P z a).1)∧(keysO P a own).2=0
 | [],_=>⟨rfl,rfl⟩
 | o :: l,h=>by
   have h0:(keyO P o a).2=0:=h 0 (by simp)
   obtain ⟨h1,h2⟩:=keysO_ok (own:=l) fun j hj=>h (j+1) (by simpa using hj)
   unfold keysO
   rw [if_pos h0]
   exact ⟨by rw [h1];rfl,h2⟩
theorem keysO_err {P:List VP} {a:Int}:∀ {own:List (List Nat)} {i:Nat},i < own.length→(∀ j,j < i→(keyO P (lat own j) a).2=0)→(keyO P (lat own i) a).2≠0→(keysO P a own).2=(keyO P (lat own i) a).2
 | [],i,hi,_,_=>by simp at hi
 | o :: l,0,_,_,h=>by
   have h0:(keyO P o a).2≠0:=h
   unfold keysO
   rw [if_neg h0]
   rfl
 | o :: l,i+1,hi,hj,h=>by
   have h0:(keyO P o a).2=0:=hj 0 (by omega)
   have:=keysO_err (own:=l) (i:=i) (by simpa using hi) (fun j hjj=>hj (j+1) (by omega)) h
   unfold keysO
   rw [if_pos h0]
   exact this
theorem keys_step {P:List VP} {a:Int} {own:List (List Nat)} {i:Nat} {kl:List DD} {y:List Nat} {kx:List Nat×Int} (h:kl.map DD.x=(own.take i).map fun z=>(keyO P z a).1) (hi:i < own.length) (hla:lat own i=y) (hkx:keyO P y a=kx) {hkd:Dg kx.1}:(kl ++ [(⟨kx.1,hkd⟩:DD)]).map DD.x=(own.take (i+1)).map fun z=>(keyO P z a).1:=by
 rw [List.take_add_one,List.getElem?_eq_getElem hi,List.map_append,List.map_append,h]
 rw [lat_at hi] at hla
 simp [hla,hkx]
theorem fm_one (kl:List DD) (d:DD):kl.flatMap dcs ++ bv d.x=(kl ++ [d]).flatMap dcs:=by rw [List.flatMap_append];simp [dcs]
theorem sl_oneD {w:World} {B:Nat} {d:List Nat} {t:TypeId} {fr:Nat×Nat} (h:w.heap[B]?=some (.cells (bv d).toArray t fr)) (hd:Dg d):Sl w 32 (.slice (some ⟨B,0,none⟩) 1 1) 1 (bv d):=by
 refine ⟨by rw [bv_length,hd.1],_,_,rfl,Nat.le_refl _,by decide,fun h=>(by cases h),fun ad had=>?_⟩
 obtain rfl:=Option.some.inj had
 refine ⟨fun _=>rfl,fun j u hu=>?_⟩
 have:=rangeAt_row h j u hu
 simpa using this
set_option maxRecDepth 100000 in
theorem bS1D {d:List Nat} (hd:Dg d) (W:World):(Instr.buildSlice 28 1 #[(0,dval d)]).run Tryz.prog W=.ok (.slice (some ⟨W.heap.size,0,none⟩) 1 1) (W.alloc (.cells (bv d).toArray 23)):=by
 obtain ⟨x0,x1,x2,x3,x4,x5,x6,x7,x8,x9,x10,x11,x12,x13,x14,x15,x16,x17,x18,x19,x20,x21,x22,x23,x24,x25,x26,x27,x28,x29,x30,x31,rfl⟩:=list32 _ hd.1
 kernel_rfl
theorem wrp_dg {c y:List Nat} (hc:Dg c) (hy:Dg y):Dg (wrp c y):=xorD hc (kd_dg 283 y)
def wrL (c:List Nat) (hc:Dg c) (kl:List DD) (j:Nat):List DD:=(kl.take j).map fun z=>⟨wrp c z.x,wrp_dg hc z.h⟩
theorem wrL_succ {c:List Nat} (hc:Dg c) {kl:List DD} {j:Nat} {z:DD} (hj:j < kl.length) (hz:kl[j]=z):(wrL c hc kl j).flatMap dcs ++ bv (wrp c z.x)=(wrL c hc kl (j+1)).flatMap dcs:=by
 unfold wrL
 rw [List.take_add_one,List.getElem?_eq_getElem hj,hz,List.map_append,List.flatMap_append]
 simp [dcs]
theorem wrL_all {c:List Nat} {hc:Dg c} {kl:List DD} {j:Nat} (hj:kl.length≤j):(wrL c hc kl j).map DD.x=kl.map fun z=>wrp c z.x:=by
 unfold wrL
 rw [List.take_of_length_le hj,List.map_map]
 rfl
theorem wrL_len {c:List Nat} {hc:Dg c} {kl:List DD} {j:Nat} (hj:j≤kl.length):(wrL c hc kl j).length=j:=by
 unfold wrL
 rw [List.length_map,List.length_take]
 omega
theorem ckey_n {w:World} {kl:List DD} {n:Nat} {ko:Option Addr} {kc:Nat} {joint:Int} {c:List Nat} (hn:kl.length=n) (hr:SlB w 32 (.slice ko n kc) n (kl.flatMap dcs)) (hl:n≤1000) (hc:cky (decide (joint=1)) (kl.map DD.x)=c):Calls Tryz.prog 55 #[.int .i64 joint,.slice ko n kc] w fun e w'=>e=.returned (dval c)∧w.grownBy w' none:=by
 subst hn hc
 exact ckey_walk joint kl ko kc w hr hl
theorem RdK.noks2 {w:World} {v:Value} {ks:List VK} (h:RdK w v ks):∀ i,i < (ks.map VK.p).length→∀ n ∈ tr (ks.map VK.p) i,Nok n:=fun i hi n hn=>by
 have hi':i < ks.length:=by simpa using hi
 rw [tr_map hi'] at hn
 exact (h.2 _ (List.getElem_mem hi')).2.1 n hn
theorem keyO_dg2 {P:List VP} {o:List Nat} {a:Int} (h:∀ i,i < P.length→∀ n ∈ tr P i,Nok n):Dg (keyO P o a).1:=by
 unfold keyO
 split
 · split
   · rename_i hf
     exact leafOf_dg (h _ (fnd_at hf).1) a
   · exact zero32_dg
 · exact zero32_dg
theorem key_L {w:World} {ks:List VK} {vo:Option Addr} {vc:Nat} {sa po o:List Nat} {P:List VP} {a:Int} {q:List Nat×Int} (hsa:Dg sa) (hpo:Dg po) (ho:Dg o) (hk:RdK w (.slice vo ks.length vc) ks) (hm:ks.map VK.p=P) (hres:keyO P o a=q) :
   Calls Tryz.prog 32 #[vval sa po (.slice vo ks.length vc),dval o,.int .i64 a] w fun e w'=>e=.returned (.tuple #[dval q.1,.int .i64 q.2])∧w.grownBy w' none:=key_B hsa hpo ho hk hm hres
theorem vhead_O {w:World} {ds:List DD} {own:List (List Nat)} {ao:Option Addr} {cap:Nat} {joint addr:Int} {b:Bool} (hr:RdD w (.slice ao ds.length cap) ds) (hown:ds.map DD.x=own) (hb:hd own joint addr=b):Calls Tryz.prog 50 #[.slice ao ds.length cap,.int .i64 joint,.int .i64 addr] w fun e w'=>e=.returned (.bool b)∧w.grownBy w' none:=vhead_B hr (hown▸hb)
theorem encV_by (x:V):By (encV x):=fun b hb=>encC_lt _ b hb
theorem map_map_x (kl:List DD) (c:List Nat):(kl.map fun z=>wrp c z.x)=(kl.map DD.x).map (wrp c):=by rw [List.map_map];rfl
set_option maxRecDepth 100000 in
set_option maxHeartbeats 4000000 in
theorem seal_walk (ks:List VK) (vo:Option Addr) (vc_:Nat) (sa po:List Nat) (hsa:Dg sa) (hpo:Dg po) (ds:List DD) (ao:Option Addr) (ac:Nat) (joint ad:Int) (x:V) (w:World) (hr:RdK w (.slice vo ks.length vc_) ks) (ho:RdD w (.slice ao ds.length ac) ds) (hdl:ds.length≤1000) :
   Calls Tryz.prog 20 #[vval sa po (.slice vo ks.length vc_),.slice ao ds.length ac,.int .i64 joint,.int .i64 ad,xval x] w fun e w'=>SRes w w' (sealO (ks.map VK.p) (ds.map DD.x) joint ad x) e:=by
 obtain ⟨P,hP⟩:∃ P,ks.map VK.p=P:=⟨_,rfl⟩
 obtain ⟨own,hown⟩:∃ own,ds.map DD.x=own:=⟨_,rfl⟩
 have hownl:own.length=ds.length:=by rw [← hown,List.length_map]
 have hnok:=hr.noks2
 rw [hP] at hnok
 rw [hP,hown]
 refine cx_enterD Tryz.func20 rfl Tryz.ntmps20 rfl fun a0 sv0=>?_
 have HG:=World.grownBy.refl w none
 replace sv0:Sv 104 [] [(0,vval sa po (.slice vo ks.length vc_)),(1,.slice ao ds.length ac),(2,.int .i64 joint),(3,.int .i64 ad),(4,xval x)] a0:=sv0
 refine wp_seq_k fun K1 k1=>?_
 refine wp_region_lit ?_
 refine tl_box sv0 rfl rfl rfl rfl rfl rfl (tyVa hsa hpo (.slice vo ks.length vc_) rfl) fun a2 w2 B5_2 eq_B5_2 g2 z2 HB5_2 sv2=>?_
 have lo_B5_2:=nb_lo HG eq_B5_2
 have ap_hr_B5_2:=nb_ap (hr.lt) eq_B5_2
 have ap_ho_B5_2:=nb_ap (ho.lt) eq_B5_2
 replace hr:=hr.kn g2
 replace ho:=ho.kn g2
 replace HG:=grown_trans HG g2
 refine tl_box sv2 rfl rfl rfl rfl rfl rfl (tyV2 x) fun a3 w3 B9_3 eq_B9_3 g3 z3 HB9_3 sv3=>?_
 have ne_B9_3_B5_2:=nb_ne HB5_2 eq_B9_3
 have lo_B9_3:=nb_lo HG eq_B9_3
 have ap_hr_B9_3:=nb_ap (hr.lt) eq_B9_3
 have ap_ho_B9_3:=nb_ap (ho.lt) eq_B9_3
 replace HB5_2:=rw_kn g3 HB5_2
 replace hr:=hr.kn g3
 replace ho:=ho.kn g3
 replace HG:=grown_trans HG g3
 refine tl_alloc (T:=31) (Z:=([[.int .i64 0],[.slice none 0 0],[.int .i64 0],[.slice none 0 0],[.slice none 0 0],bv zero32].flatten)) sv3 rfl rfl rfl (fun a w=>by kernel_rfl) fun a4 w4 B10_4 eq_B10_4 g4 z4 HB10_4 sv4=>?_
 have ne_B10_4_B5_2:=nb_ne HB5_2 eq_B10_4
 have ne_B10_4_B9_3:=nb_ne HB9_3 eq_B10_4
 have lo_B10_4:=nb_lo HG eq_B10_4
 have ap_hr_B10_4:=nb_ap (hr.lt) eq_B10_4
 have ap_ho_B10_4:=nb_ap (ho.lt) eq_B10_4
 replace HB5_2:=rw_kn g4 HB5_2
 replace HB9_3:=rw_kn g4 HB9_3
 replace hr:=hr.kn g4
 replace ho:=ho.kn g4
 replace HG:=grown_trans HG g4
 refine tl_alloc (T:=38) (Z:=[.int .i64 0]) sv4 rfl rfl rfl (fun a w=>by kernel_rfl) fun a5 w5 B11_5 eq_B11_5 g5 z5 HB11_5 sv5=>?_
 have ne_B11_5_B5_2:=nb_ne HB5_2 eq_B11_5
 have ne_B11_5_B9_3:=nb_ne HB9_3 eq_B11_5
 have ne_B11_5_B10_4:=nb_ne HB10_4 eq_B11_5
 have lo_B11_5:=nb_lo HG eq_B11_5
 have ap_hr_B11_5:=nb_ap (hr.lt) eq_B11_5
 have ap_ho_B11_5:=nb_ap (ho.lt) eq_B11_5
 replace HB5_2:=rw_kn g5 HB5_2
 replace HB9_3:=rw_kn g5 HB9_3
 replace HB10_4:=rw_kn g5 HB10_4
 replace hr:=hr.kn g5
 replace ho:=ho.kn g5
 replace HG:=grown_trans HG g5
 refine tl_nil ?_
 refine k1 _ _ ?_
 refine wp_seq_k fun K6 k6=>?_
 refine wp_region_lit ?_
 refine tl_makeFunc sv5 rfl rfl rfl rfl rfl rfl fun a7 sv7=>?_
 refine tl_defer sv7 rfl (dd:={ target:=.fn (.func 49) #[pt B10_4,pt B11_5],args:=#[] }) rfl (by have e1:=sv7.ev (x:=.tmp 22) rfl rfl;simp [execOp,resolve,Deferred.ofValue,e1];try rfl) fun a8 sv8=>?_
 refine tl_nil ?_
 refine k6 _ _ ?_
 refine wp_seq_k fun K9 k9=>?_
 refine wp_seq_k fun K10 k10=>?_
 rcases (show (hd own joint ad=false∧vldV P=false)∨(hd own joint ad=false∧vldV P=true)∨(hd own joint ad=true∧vldV P=false)∨(hd own joint ad=true∧vldV P=true) by cases hd own joint ad <;> cases vldV P <;> simp) with ⟨hh,hv⟩ | ⟨hh,hv⟩ | ⟨hh,hv⟩ | ⟨hh,hv⟩
 · refine wp_region_lit ?_
   refine sx_hv sv8 10 [(23,.slice ao ds.length ac),(24,.int .i64 joint),(25,.int .i64 ad),(26,.bool false),(27,.bool true),(28,.bool true),(29,undef),(30,undef),(31,undef),(32,.bool true)]
     ⟨ym r5,ym r5,ym r5,ox_call (Sp.is (.bool false)) [.slice ao ds.length ac,.int .i64 joint,.int .i64 ad] rfl rfl trivial ⟨(oy rfl rfl),(oy rfl rfl),(oy rfl rfl),trivial⟩ (is_on fun W g=>vhead_O (ho.kn g) hown hh) (fun _ _ h=>h) (enter_of Tryz.func50 (by kernel_rfl) rfl),ox_un rfl rfl trivial (oy rfl rfl) (fun _=>rn_not) (fun _=>rfl),ym r5,ox_off (gn rfl rfl rfl) rfl (fun _=>rfl),ox_off (gn rfl rfl rfl) rfl (fun _=>rfl),ox_off (gn rfl rfl rfl) rfl (fun _=>rfl),ox_pick rfl rfl trivial (oy rfl rfl) rfl (fun _=>rfl),trivial⟩ fun a11 w11 g11 sv11=>?_
   refine tl_nil ?_
   refine k10 _ _ ?_
   refine cx_ifT sv11 rfl rfl ?_
   refine wp_seq_k fun K12 k12=>?_
   refine wp_region_lit ?_
   replace HB5_2:=rw_kn g11 HB5_2
   replace HB9_3:=rw_kn g11 HB9_3
   replace HB10_4:=rw_kn g11 HB10_4
   replace HB11_5:=rw_kn g11 HB11_5
   replace hr:=hr.kn g11
   replace ho:=ho.kn g11
   replace HG:=grown_trans HG g11
   refine sx_hv sv11 1 [(33,sdval 0 (.slice none 0 0) 0 (.slice none 0 0) (.slice none 0 0) zero32)]
     ⟨ox_build (vs:=[]) rfl rfl trivial trivial (fun _=>bSd0 _) (fun _=>rfl),trivial⟩ fun a13 w13 g13 sv13=>?_
   refine tl_sw sv13 r7 (tySd _ _ zero32_dg (.slice none 0 0) (.slice none 0 0) (.slice none 0 0) rfl rfl rfl) (rw_kn g13 HB10_4) (sd_size zero32_dg zero32_dg) fun w14 g14 h14=>?_
   replace HB5_2:=rw_s2 g13 g14 HB5_2 (Ne.symm ne_B10_4_B5_2)
   replace HB9_3:=rw_s2 g13 g14 HB9_3 (Ne.symm ne_B10_4_B9_3)
   replace HB11_5:=rw_s2 g13 g14 HB11_5 ne_B11_5_B10_4
   replace hr:=(hr.kn g13).offR g14 (no_b ap_hr_B10_4)
   replace ho:=(ho.kn g13).offR g14 (no_b ap_ho_B10_4)
   replace HG:=grown_newR (grown_trans HG g13) g14 lo_B10_4
   replace HB10_4:=h14
   refine tl_sw sv13 r7 (tyE 1) HB11_5 rfl fun w15 g15 h15=>?_
   replace HB5_2:=rw_st g15 HB5_2 (Ne.symm ne_B11_5_B5_2)
   replace HB9_3:=rw_st g15 HB9_3 (Ne.symm ne_B11_5_B9_3)
   replace HB10_4:=rw_st g15 HB10_4 (Ne.symm ne_B11_5_B10_4)
   replace hr:=hr.offR g15 (no_b ap_hr_B11_5)
   replace ho:=ho.offR g15 (no_b ap_ho_B11_5)
   replace HG:=grown_newR HG g15 lo_B11_5
   replace HB11_5:=h15
   refine tl_nil ?_
   refine k12 _ _ ?_
   refine wp_ret ?_
   repeat refine then_ret ?_
   refine cx_retD (fn:=Tryz.f20) sv13 (res_cell2 (p:=10) (q:=11) Tryz.results20 sv13 rfl rfl rfl rfl (tySd _ _ zero32_dg (.slice none 0 0) (.slice none 0 0) (.slice none 0 0) rfl rfl rfl) (tyE 1) HB10_4 HB11_5) (inv_of Tryz.func49 (by kernel_rfl) rfl _ _) (recSeal_walk _ _ _) ?_
   exact SRes.zero (sealO_bad (.inl hh)) HG
 · refine wp_region_lit ?_
   refine sx_hv sv8 10 [(23,.slice ao ds.length ac),(24,.int .i64 joint),(25,.int .i64 ad),(26,.bool false),(27,.bool true),(28,.bool true),(29,undef),(30,undef),(31,undef),(32,.bool true)]
     ⟨ym r5,ym r5,ym r5,ox_call (Sp.is (.bool false)) [.slice ao ds.length ac,.int .i64 joint,.int .i64 ad] rfl rfl trivial ⟨(oy rfl rfl),(oy rfl rfl),(oy rfl rfl),trivial⟩ (is_on fun W g=>vhead_O (ho.kn g) hown hh) (fun _ _ h=>h) (enter_of Tryz.func50 (by kernel_rfl) rfl),ox_un rfl rfl trivial (oy rfl rfl) (fun _=>rn_not) (fun _=>rfl),ym r5,ox_off (gn rfl rfl rfl) rfl (fun _=>rfl),ox_off (gn rfl rfl rfl) rfl (fun _=>rfl),ox_off (gn rfl rfl rfl) rfl (fun _=>rfl),ox_pick rfl rfl trivial (oy rfl rfl) rfl (fun _=>rfl),trivial⟩ fun a16 w16 g16 sv16=>?_
   refine tl_nil ?_
   refine k10 _ _ ?_
   refine cx_ifT sv16 rfl rfl ?_
   refine wp_seq_k fun K17 k17=>?_
   refine wp_region_lit ?_
   replace HB5_2:=rw_kn g16 HB5_2
   replace HB9_3:=rw_kn g16 HB9_3
   replace HB10_4:=rw_kn g16 HB10_4
   replace HB11_5:=rw_kn g16 HB11_5
   replace hr:=hr.kn g16
   replace ho:=ho.kn g16
   replace HG:=grown_trans HG g16
   refine sx_hv sv16 1 [(33,sdval 0 (.slice none 0 0) 0 (.slice none 0 0) (.slice none 0 0) zero32)]
     ⟨ox_build (vs:=[]) rfl rfl trivial trivial (fun _=>bSd0 _) (fun _=>rfl),trivial⟩ fun a18 w18 g18 sv18=>?_
   refine tl_sw sv18 r7 (tySd _ _ zero32_dg (.slice none 0 0) (.slice none 0 0) (.slice none 0 0) rfl rfl rfl) (rw_kn g18 HB10_4) (sd_size zero32_dg zero32_dg) fun w19 g19 h19=>?_
   replace HB5_2:=rw_s2 g18 g19 HB5_2 (Ne.symm ne_B10_4_B5_2)
   replace HB9_3:=rw_s2 g18 g19 HB9_3 (Ne.symm ne_B10_4_B9_3)
   replace HB11_5:=rw_s2 g18 g19 HB11_5 ne_B11_5_B10_4
   replace hr:=(hr.kn g18).offR g19 (no_b ap_hr_B10_4)
   replace ho:=(ho.kn g18).offR g19 (no_b ap_ho_B10_4)
   replace HG:=grown_newR (grown_trans HG g18) g19 lo_B10_4
   replace HB10_4:=h19
   refine tl_sw sv18 r7 (tyE 1) HB11_5 rfl fun w20 g20 h20=>?_
   replace HB5_2:=rw_st g20 HB5_2 (Ne.symm ne_B11_5_B5_2)
   replace HB9_3:=rw_st g20 HB9_3 (Ne.symm ne_B11_5_B9_3)
   replace HB10_4:=rw_st g20 HB10_4 (Ne.symm ne_B11_5_B10_4)
   replace hr:=hr.offR g20 (no_b ap_hr_B11_5)
   replace ho:=ho.offR g20 (no_b ap_ho_B11_5)
   replace HG:=grown_newR HG g20 lo_B11_5
   replace HB11_5:=h20
   refine tl_nil ?_
   refine k17 _ _ ?_
   refine wp_ret ?_
   repeat refine then_ret ?_
   refine cx_retD (fn:=Tryz.f20) sv18 (res_cell2 (p:=10) (q:=11) Tryz.results20 sv18 rfl rfl rfl rfl (tySd _ _ zero32_dg (.slice none 0 0) (.slice none 0 0) (.slice none 0 0) rfl rfl rfl) (tyE 1) HB10_4 HB11_5) (inv_of Tryz.func49 (by kernel_rfl) rfl _ _) (recSeal_walk _ _ _) ?_
   exact SRes.zero (sealO_bad (.inl hh)) HG
 · refine wp_region_lit ?_
   refine sx_hv sv8 10 [(23,.slice ao ds.length ac),(24,.int .i64 joint),(25,.int .i64 ad),(26,.bool true),(27,.bool false),(28,.bool false),(29,vval sa po (.slice vo ks.length vc_)),(30,.bool false),(31,.bool true),(32,.bool true)]
     ⟨ym r5,ym r5,ym r5,ox_call (Sp.is (.bool true)) [.slice ao ds.length ac,.int .i64 joint,.int .i64 ad] rfl rfl trivial ⟨(oy rfl rfl),(oy rfl rfl),(oy rfl rfl),trivial⟩ (is_on fun W g=>vhead_O (ho.kn g) hown hh) (fun _ _ h=>h) (enter_of Tryz.func50 (by kernel_rfl) rfl),ox_un rfl rfl trivial (oy rfl rfl) (fun _=>rn_not) (fun _=>rfl),ym r5,ox_load rfl rfl (gy rfl rfl rfl) (oy rfl rfl) (fun _ g=>loadsAt (tyVa hsa hpo (.slice vo ks.length vc_) rfl) (rangeAt_row (row_of g HB5_2 (by simp)))) (fun _=>rfl),ox_call (Sp.is (.bool false)) [vval sa po (.slice vo ks.length vc_)] rfl rfl (gy rfl rfl rfl) ⟨(oy rfl rfl),trivial⟩ (is_on fun W g=>vvalid_P hsa hpo (hr.kn g) hP hv) (fun _ _ h=>h) (enter_of Tryz.func51 (by kernel_rfl) rfl),ox_un rfl rfl (gy rfl rfl rfl) (oy rfl rfl) (fun _=>rn_not) (fun _=>rfl),ox_pick rfl rfl trivial (oy rfl rfl) (oy rfl rfl) (fun _=>rfl),trivial⟩ fun a21 w21 g21 sv21=>?_
   refine tl_nil ?_
   refine k10 _ _ ?_
   refine cx_ifT sv21 rfl rfl ?_
   refine wp_seq_k fun K22 k22=>?_
   refine wp_region_lit ?_
   replace HB5_2:=rw_kn g21 HB5_2
   replace HB9_3:=rw_kn g21 HB9_3
   replace HB10_4:=rw_kn g21 HB10_4
   replace HB11_5:=rw_kn g21 HB11_5
   replace hr:=hr.kn g21
   replace ho:=ho.kn g21
   replace HG:=grown_trans HG g21
   refine sx_hv sv21 1 [(33,sdval 0 (.slice none 0 0) 0 (.slice none 0 0) (.slice none 0 0) zero32)]
     ⟨ox_build (vs:=[]) rfl rfl trivial trivial (fun _=>bSd0 _) (fun _=>rfl),trivial⟩ fun a23 w23 g23 sv23=>?_
   refine tl_sw sv23 r7 (tySd _ _ zero32_dg (.slice none 0 0) (.slice none 0 0) (.slice none 0 0) rfl rfl rfl) (rw_kn g23 HB10_4) (sd_size zero32_dg zero32_dg) fun w24 g24 h24=>?_
   replace HB5_2:=rw_s2 g23 g24 HB5_2 (Ne.symm ne_B10_4_B5_2)
   replace HB9_3:=rw_s2 g23 g24 HB9_3 (Ne.symm ne_B10_4_B9_3)
   replace HB11_5:=rw_s2 g23 g24 HB11_5 ne_B11_5_B10_4
   replace hr:=(hr.kn g23).offR g24 (no_b ap_hr_B10_4)
   replace ho:=(ho.kn g23).offR g24 (no_b ap_ho_B10_4)
   replace HG:=grown_newR (grown_trans HG g23) g24 lo_B10_4
   replace HB10_4:=h24
   refine tl_sw sv23 r7 (tyE 1) HB11_5 rfl fun w25 g25 h25=>?_
   replace HB5_2:=rw_st g25 HB5_2 (Ne.symm ne_B11_5_B5_2)
   replace HB9_3:=rw_st g25 HB9_3 (Ne.symm ne_B11_5_B9_3)
   replace HB10_4:=rw_st g25 HB10_4 (Ne.symm ne_B11_5_B10_4)
   replace hr:=hr.offR g25 (no_b ap_hr_B11_5)
   replace ho:=ho.offR g25 (no_b ap_ho_B11_5)
   replace HG:=grown_newR HG g25 lo_B11_5
   replace HB11_5:=h25
   refine tl_nil ?_
   refine k22 _ _ ?_
   refine wp_ret ?_
   repeat refine then_ret ?_
   refine cx_retD (fn:=Tryz.f20) sv23 (res_cell2 (p:=10) (q:=11) Tryz.results20 sv23 rfl rfl rfl rfl (tySd _ _ zero32_dg (.slice none 0 0) (.slice none 0 0) (.slice none 0 0) rfl rfl rfl) (tyE 1) HB10_4 HB11_5) (inv_of Tryz.func49 (by kernel_rfl) rfl _ _) (recSeal_walk _ _ _) ?_
   exact SRes.zero (sealO_bad (.inr hv)) HG
 · obtain ⟨haa,hjj,hol,hasc⟩:=hd_of hh
   have hia:In64 ad:=⟨by omega,by omega⟩
   refine wp_region_lit ?_
   refine sx_hv sv8 10 [(23,.slice ao ds.length ac),(24,.int .i64 joint),(25,.int .i64 ad),(26,.bool true),(27,.bool false),(28,.bool false),(29,vval sa po (.slice vo ks.length vc_)),(30,.bool true),(31,.bool false),(32,.bool false)]
     ⟨ym r5,ym r5,ym r5,ox_call (Sp.is (.bool true)) [.slice ao ds.length ac,.int .i64 joint,.int .i64 ad] rfl rfl trivial ⟨(oy rfl rfl),(oy rfl rfl),(oy rfl rfl),trivial⟩ (is_on fun W g=>vhead_O (ho.kn g) hown hh) (fun _ _ h=>h) (enter_of Tryz.func50 (by kernel_rfl) rfl),ox_un rfl rfl trivial (oy rfl rfl) (fun _=>rn_not) (fun _=>rfl),ym r5,ox_load rfl rfl (gy rfl rfl rfl) (oy rfl rfl) (fun _ g=>loadsAt (tyVa hsa hpo (.slice vo ks.length vc_) rfl) (rangeAt_row (row_of g HB5_2 (by simp)))) (fun _=>rfl),ox_call (Sp.is (.bool true)) [vval sa po (.slice vo ks.length vc_)] rfl rfl (gy rfl rfl rfl) ⟨(oy rfl rfl),trivial⟩ (is_on fun W g=>vvalid_P hsa hpo (hr.kn g) hP hv) (fun _ _ h=>h) (enter_of Tryz.func51 (by kernel_rfl) rfl),ox_un rfl rfl (gy rfl rfl rfl) (oy rfl rfl) (fun _=>rn_not) (fun _=>rfl),ox_pick rfl rfl trivial (oy rfl rfl) (oy rfl rfl) (fun _=>rfl),trivial⟩ fun a26 w26 g26 sv26=>?_
   refine tl_nil ?_
   refine k10 _ _ ?_
   refine cx_ifF sv26 rfl rfl ?_
   refine wp_skip ?_
   refine k9 _ _ ?_
   refine wp_seq_k fun K27 k27=>?_
   refine wp_region_lit ?_
   refine sx_hv sv26 2 [(34,.int .i64 ad),(35,.slice ao ds.length ac)]
     ⟨ym r5,ym r5,trivial⟩ fun a28 w28 g28 sv28=>?_
   have gc28:=grown_trans g26 g28
   replace HB5_2:=rw_kn gc28 HB5_2
   replace HB9_3:=rw_kn gc28 HB9_3
   replace HB10_4:=rw_kn gc28 HB10_4
   replace HB11_5:=rw_kn gc28 HB11_5
   replace hr:=hr.kn gc28
   replace ho:=ho.kn gc28
   replace HG:=grown_trans HG gc28
   refine tl_call sv28 rfl rfl rfl rfl rfl (clnD_c (by omega) ho) (enter_of Tryz.func52 (by kernel_rfl) rfl) fun a29 v29 w29 hR29 sv29=>?_
   obtain ⟨ao29,cap29,rfl,g29,oc,fr29⟩:=hR29
   have ap_oc_B5_2:=fr_ap fr29 HB5_2
   have ap_oc_B9_3:=fr_ap fr29 HB9_3
   have ap_oc_B10_4:=fr_ap fr29 HB10_4
   have ap_oc_B11_5:=fr_ap fr29 HB11_5
   have ap_hr_oc:∀ k,fpK (.slice vo ks.length vc_) ks k→¬ fpS (.slice ao29 ds.length cap29) k:=fun k hzr hk=>absurd (hr.lt k hzr) (Nat.not_lt.2 (fr29 k hk))
   have ap_ho_oc:∀ k,fpS (.slice ao ds.length ac) k→¬ fpS (.slice ao29 ds.length cap29) k:=fun k hzr hk=>absurd (ho.lt k hzr) (Nat.not_lt.2 (fr29 k hk))
   have lo_oc:∀ k,fpS (.slice ao29 ds.length cap29) k→w.heap.size≤k:=fun k hk=>Nat.le_trans HG.size (fr29 k hk)
   replace HB5_2:=rw_kn g29 HB5_2
   replace HB9_3:=rw_kn g29 HB9_3
   replace HB10_4:=rw_kn g29 HB10_4
   replace HB11_5:=rw_kn g29 HB11_5
   replace hr:=hr.kn g29
   replace ho:=ho.kn g29
   replace HG:=grown_trans HG g29
   refine sx_hv sv29 2 [(37,.int .i64 joint),(38,sdval ad (.slice ao29 ds.length cap29) joint (.slice none 0 0) (.slice none 0 0) zero32)]
     ⟨ym r5,ox_build (vs:=[.int .i64 ad,.slice ao29 ds.length cap29,.int .i64 joint]) rfl rfl trivial ⟨(oy rfl rfl),(oy rfl rfl),(oy rfl rfl),trivial⟩ (fun _=>bSd3 _ _ _ _ _ _) (fun _=>rfl),trivial⟩ fun a30 w30 g30 sv30=>?_
   replace HB5_2:=rw_kn g30 HB5_2
   replace HB9_3:=rw_kn g30 HB9_3
   replace HB10_4:=rw_kn g30 HB10_4
   replace HB11_5:=rw_kn g30 HB11_5
   replace hr:=hr.kn g30
   replace ho:=ho.kn g30
   replace oc:=oc.kn g30
   replace HG:=grown_trans HG g30
   refine tl_alloc (T:=31) (Z:=([[.int .i64 0],[.slice none 0 0],[.int .i64 0],[.slice none 0 0],[.slice none 0 0],bv zero32].flatten)) sv30 rfl rfl rfl (fun a w=>by kernel_rfl) fun a31 w31 B12_31 eq_B12_31 g31 z31 HB12_31 sv31=>?_
   have ne_B12_31_B5_2:=nb_ne HB5_2 eq_B12_31
   have ne_B12_31_B9_3:=nb_ne HB9_3 eq_B12_31
   have ne_B12_31_B10_4:=nb_ne HB10_4 eq_B12_31
   have ne_B12_31_B11_5:=nb_ne HB11_5 eq_B12_31
   have lo_B12_31:=nb_lo HG eq_B12_31
   have ap_hr_B12_31:=nb_ap (hr.lt) eq_B12_31
   have ap_ho_B12_31:=nb_ap (ho.lt) eq_B12_31
   have ap_oc_B12_31:=nb_ap (Own.ltS oc) eq_B12_31
   replace HB5_2:=rw_kn g31 HB5_2
   replace HB9_3:=rw_kn g31 HB9_3
   replace HB10_4:=rw_kn g31 HB10_4
   replace HB11_5:=rw_kn g31 HB11_5
   replace hr:=hr.kn g31
   replace ho:=ho.kn g31
   replace oc:=oc.kn g31
   replace HG:=grown_trans HG g31
   refine tl_sw sv31 r7 (tySd _ _ zero32_dg (.slice ao29 ds.length cap29) (.slice none 0 0) (.slice none 0 0) rfl rfl rfl) HB12_31 (sd_size zero32_dg zero32_dg) fun w32 g32 h32=>?_
   replace HB5_2:=rw_st g32 HB5_2 (Ne.symm ne_B12_31_B5_2)
   replace HB9_3:=rw_st g32 HB9_3 (Ne.symm ne_B12_31_B9_3)
   replace HB10_4:=rw_st g32 HB10_4 (Ne.symm ne_B12_31_B10_4)
   replace HB11_5:=rw_st g32 HB11_5 (Ne.symm ne_B12_31_B11_5)
   replace hr:=hr.offR g32 (no_b ap_hr_B12_31)
   replace ho:=ho.offR g32 (no_b ap_ho_B12_31)
   replace oc:=oc.offR g32 (no_b ap_oc_B12_31)
   replace HG:=grown_newR HG g32 lo_B12_31
   replace HB12_31:=h32
   have sv33:Sv 104 [{ target:=.fn (.func 49) #[pt B10_4,pt B11_5],args:=#[] }] [(12,_),(23,_),(24,_),(25,_),(26,_),(27,_),(28,_),(29,_),(30,_),(31,_),(32,_),(22,_),(11,_),(10,_),(9,_),(5,_),(0,_),(1,_),(2,_),(3,_),(4,_)] a31:=sv31.dl [37,38,36,34,35]
   refine tl_nil ?_
   refine k27 _ _ ?_
   refine wp_seq_k fun K34 k34=>?_
   refine wp_region_lit ?_
   refine sx_hv sv33 1 [(39,xval x)]
     ⟨yl r6 (tyV2 x) HB9_3,trivial⟩ fun a35 w35 g35 sv35=>?_
   replace HB5_2:=rw_kn g35 HB5_2
   replace HB9_3:=rw_kn g35 HB9_3
   replace HB10_4:=rw_kn g35 HB10_4
   replace HB11_5:=rw_kn g35 HB11_5
   replace HB12_31:=rw_kn g35 HB12_31
   replace hr:=hr.kn g35
   replace ho:=ho.kn g35
   replace oc:=oc.kn g35
   replace HG:=grown_trans HG g35
   refine tl_call sv35 rfl rfl rfl rfl rfl (nwr_c (apval_walk x _)) (enter_of Tryz.func53 (by kernel_rfl) rfl) fun a36 v36 w36 hR36 sv36=>?_
   obtain ⟨ao36,cap36,rfl,_⟩:=(Sl.of_own hR36.1).shape
   obtain ⟨ow36,fr36⟩:=hR36
   replace fr36:=step_nil fr36
   have op:=ow36
   clear ow36
   have g36:=fr36.1
   replace fr36:=fr36.2
   have ap_op_B5_2:=fr_ap fr36 HB5_2
   have ap_op_B9_3:=fr_ap fr36 HB9_3
   have ap_op_B10_4:=fr_ap fr36 HB10_4
   have ap_op_B11_5:=fr_ap fr36 HB11_5
   have ap_op_B12_31:=fr_ap fr36 HB12_31
   have ap_hr_op:∀ k,fpK (.slice vo ks.length vc_) ks k→¬ fpS (.slice ao36 ((encV x)).length cap36) k:=fun k hzr hk=>absurd (hr.lt k hzr) (Nat.not_lt.2 (fr36 k hk))
   have ap_ho_op:∀ k,fpS (.slice ao ds.length ac) k→¬ fpS (.slice ao36 ((encV x)).length cap36) k:=fun k hzr hk=>absurd (ho.lt k hzr) (Nat.not_lt.2 (fr36 k hk))
   have ap_op_oc:∀ k,fpS (.slice ao36 ((encV x)).length cap36) k→¬ fpS (.slice ao29 ds.length cap29) k:=fun k hk hzr=>absurd (Own.ltS oc k hzr) (Nat.not_lt.2 (fr36 k hk))
   have ap_oc_op:∀ k,fpS (.slice ao29 ds.length cap29) k→¬ fpS (.slice ao36 ((encV x)).length cap36) k:=fun k hzr hk=>absurd (Own.ltS oc k hzr) (Nat.not_lt.2 (fr36 k hk))
   have lo_op:∀ k,fpS (.slice ao36 ((encV x)).length cap36) k→w.heap.size≤k:=fun k hk=>Nat.le_trans HG.size (fr36 k hk)
   replace HB5_2:=rw_kn g36 HB5_2
   replace HB9_3:=rw_kn g36 HB9_3
   replace HB10_4:=rw_kn g36 HB10_4
   replace HB11_5:=rw_kn g36 HB11_5
   replace HB12_31:=rw_kn g36 HB12_31
   replace hr:=hr.kn g36
   replace ho:=ho.kn g36
   replace oc:=oc.kn g36
   replace HG:=grown_trans HG g36
   refine tl_as (v:=.slice ao36 ((encV x)).length cap36) sv36 r6 fun a37 sv37=>?_
   refine tl_nil ?_
   refine k34 _ _ ?_
   refine wp_seq_k fun K38 k38=>?_
   refine wp_seq_k fun K39 k39=>?_
   rcases Nat.eq_zero_or_pos ds.length with hz | hz
   · obtain rfl:own=[]:=List.eq_nil_of_length_eq_zero (by omega)
     refine wp_region_lit ?_
     refine sx_hv sv37 3 [(41,.slice ao ds.length ac),(42,.int .i64 ((ds.length:Nat))),(43,.bool true)]
       ⟨ym r5,ox_len (Tryz.underlying28) rfl rfl trivial (oy rfl rfl) (fun _=>rfl),ybc r6 (fun _=>rn_eql (beqT (by omega))),trivial⟩ fun a40 w40 g40 sv40=>?_
     refine tl_nil ?_
     refine k39 _ _ ?_
     refine cx_ifT sv40 rfl rfl ?_
     refine wp_seq_k fun K41 k41=>?_
     refine wp_region_lit ?_
     refine sx_hv sv40 2 [(44,.slice ao36 ((encV x)).length cap36),(45,pk B12_31 4)]
       ⟨ym r5,yf r6 (fun _=>by kernel_rfl),trivial⟩ fun a42 w42 g42 sv42=>?_
     have gc42:=grown_trans g40 g42
     refine tl_sp (L:=[[.int .i64 ad],[.slice ao29 ds.length cap29],[.int .i64 joint],[.slice none 0 0],[.slice none 0 0],bv zero32]) (i:=4) sv42 r7 (tyBys (.slice ao36 ((encV x)).length cap36) rfl) (rw_kn gc42 HB12_31) rfl rfl rfl fun w43 g43 h43=>?_
     replace HB5_2:=rw_s2 gc42 g43 HB5_2 (Ne.symm ne_B12_31_B5_2)
     replace HB9_3:=rw_s2 gc42 g43 HB9_3 (Ne.symm ne_B12_31_B9_3)
     replace HB10_4:=rw_s2 gc42 g43 HB10_4 (Ne.symm ne_B12_31_B10_4)
     replace HB11_5:=rw_s2 gc42 g43 HB11_5 (Ne.symm ne_B12_31_B11_5)
     replace hr:=(hr.kn gc42).offR g43 (no_b ap_hr_B12_31)
     replace ho:=(ho.kn gc42).offR g43 (no_b ap_ho_B12_31)
     replace oc:=(oc.kn gc42).offR g43 (no_b ap_oc_B12_31)
     replace op:=(op.kn gc42).offR g43 (no_b ap_op_B12_31)
     replace HG:=grown_newR (grown_trans HG gc42) g43 lo_B12_31
     replace HB12_31:=h43
     refine tl_nil ?_
     refine k41 _ _ ?_
     refine wp_seq_k fun K44 k44=>?_
     refine wp_region_lit ?_
     refine sx_hv sv42 2 [(46,.int .i64 ad),(47,.slice ao36 ((encV x)).length cap36)]
       ⟨ym r5,ym r5,trivial⟩ fun a45 w45 g45 sv45=>?_
     replace HB5_2:=rw_kn g45 HB5_2
     replace HB9_3:=rw_kn g45 HB9_3
     replace HB10_4:=rw_kn g45 HB10_4
     replace HB11_5:=rw_kn g45 HB11_5
     replace HB12_31:=rw_kn g45 HB12_31
     replace hr:=hr.kn g45
     replace ho:=ho.kn g45
     replace oc:=oc.kn g45
     replace op:=op.kn g45
     replace HG:=grown_trans HG g45
     refine tl_call sv45 rfl rfl rfl rfl rfl (c_is (cleartag_walk ad hia (encV x) (encV_by x) (by have:=encV_len x;omega) _ _ _ (Own.sb op))) (enter_of Tryz.func54 (by kernel_rfl) rfl) fun a46 v46 w46 hR46 sv46=>?_
     obtain ⟨rfl,g46⟩:=hR46
     replace HB5_2:=rw_kn g46 HB5_2
     replace HB9_3:=rw_kn g46 HB9_3
     replace HB10_4:=rw_kn g46 HB10_4
     replace HB11_5:=rw_kn g46 HB11_5
     replace HB12_31:=rw_kn g46 HB12_31
     replace hr:=hr.kn g46
     replace ho:=ho.kn g46
     replace oc:=oc.kn g46
     replace op:=op.kn g46
     replace HG:=grown_trans HG g46
     refine sx_hv sv46 1 [(49,pk B12_31 5)]
       ⟨yf r6 (fun _=>by kernel_rfl),trivial⟩ fun a47 w47 g47 sv47=>?_
     refine tl_sp (L:=[[.int .i64 ad],[.slice ao29 ds.length cap29],[.int .i64 joint],[.slice none 0 0],[.slice ao36 ((encV x)).length cap36],bv zero32]) (i:=5) sv47 r7 (tyD ((tgC ad (encV x))) (tgC_dg ad (encV x)).1) (rw_kn g47 HB12_31) rfl rfl (lenDD zero32_dg (tgC_dg ad (encV x))) fun w48 g48 h48=>?_
     replace HB5_2:=rw_s2 g47 g48 HB5_2 (Ne.symm ne_B12_31_B5_2)
     replace HB9_3:=rw_s2 g47 g48 HB9_3 (Ne.symm ne_B12_31_B9_3)
     replace HB10_4:=rw_s2 g47 g48 HB10_4 (Ne.symm ne_B12_31_B10_4)
     replace HB11_5:=rw_s2 g47 g48 HB11_5 (Ne.symm ne_B12_31_B11_5)
     replace hr:=(hr.kn g47).offR g48 (no_b ap_hr_B12_31)
     replace ho:=(ho.kn g47).offR g48 (no_b ap_ho_B12_31)
     replace oc:=(oc.kn g47).offR g48 (no_b ap_oc_B12_31)
     replace op:=(op.kn g47).offR g48 (no_b ap_op_B12_31)
     replace HG:=grown_newR (grown_trans HG g47) g48 lo_B12_31
     replace HB12_31:=h48
     have sv49:Sv 104 [{ target:=.fn (.func 49) #[pt B10_4,pt B11_5],args:=#[] }] [(44,_),(45,_),(41,_),(42,_),(43,_),(13,_),(40,_),(39,_),(12,_),(23,_),(24,_),(25,_),(26,_),(27,_),(28,_),(29,_),(30,_),(31,_),(32,_),(22,_),(11,_),(10,_),(9,_),(5,_),(0,_),(1,_),(2,_),(3,_),(4,_)] a47:=sv47.dl [49,48,46,47]
     refine tl_nil ?_
     refine k44 _ _ ?_
     refine wp_seq_k fun K50 k50=>?_
     refine wp_region_lit ?_
     refine sx_hv sv49 1 [(50,sdval ad (.slice ao29 ds.length cap29) joint (.slice none 0 0) (.slice ao36 ((encV x)).length cap36) ((tgC ad (encV x))))]
       ⟨yl r6 (tySd _ _ (tgC_dg ad (encV x)) (.slice ao29 ds.length cap29) (.slice none 0 0) (.slice ao36 ((encV x)).length cap36) rfl rfl rfl) HB12_31,trivial⟩ fun a51 w51 g51 sv51=>?_
     refine tl_sw sv51 r7 (tySd _ _ (tgC_dg ad (encV x)) (.slice ao29 ds.length cap29) (.slice none 0 0) (.slice ao36 ((encV x)).length cap36) rfl rfl rfl) (rw_kn g51 HB10_4) (sd_size zero32_dg (tgC_dg ad (encV x))) fun w52 g52 h52=>?_
     replace HB5_2:=rw_s2 g51 g52 HB5_2 (Ne.symm ne_B10_4_B5_2)
     replace HB9_3:=rw_s2 g51 g52 HB9_3 (Ne.symm ne_B10_4_B9_3)
     replace HB11_5:=rw_s2 g51 g52 HB11_5 ne_B11_5_B10_4
     replace HB12_31:=rw_s2 g51 g52 HB12_31 ne_B12_31_B10_4
     replace hr:=(hr.kn g51).offR g52 (no_b ap_hr_B10_4)
     replace ho:=(ho.kn g51).offR g52 (no_b ap_ho_B10_4)
     replace oc:=(oc.kn g51).offR g52 (no_b ap_oc_B10_4)
     replace op:=(op.kn g51).offR g52 (no_b ap_op_B10_4)
     replace HG:=grown_newR (grown_trans HG g51) g52 lo_B10_4
     replace HB10_4:=h52
     refine tl_sw sv51 r7 (tyE 0) HB11_5 rfl fun w53 g53 h53=>?_
     replace HB5_2:=rw_st g53 HB5_2 (Ne.symm ne_B11_5_B5_2)
     replace HB9_3:=rw_st g53 HB9_3 (Ne.symm ne_B11_5_B9_3)
     replace HB10_4:=rw_st g53 HB10_4 (Ne.symm ne_B11_5_B10_4)
     replace HB12_31:=rw_st g53 HB12_31 ne_B12_31_B11_5
     replace hr:=hr.offR g53 (no_b ap_hr_B11_5)
     replace ho:=ho.offR g53 (no_b ap_ho_B11_5)
     replace oc:=oc.offR g53 (no_b ap_oc_B11_5)
     replace op:=op.offR g53 (no_b ap_op_B11_5)
     replace HG:=grown_newR HG g53 lo_B11_5
     replace HB11_5:=h53
     refine tl_nil ?_
     refine k50 _ _ ?_
     refine wp_ret ?_
     repeat refine then_ret ?_
     refine cx_retD (fn:=Tryz.f20) sv51 (res_cell2 (p:=10) (q:=11) Tryz.results20 sv51 rfl rfl rfl rfl (tySd _ _ (tgC_dg ad (encV x)) (.slice ao29 ds.length cap29) (.slice none 0 0) (.slice ao36 ((encV x)).length cap36) rfl rfl rfl) (tyE 0) HB10_4 HB11_5) (inv_of Tryz.func49 (by kernel_rfl) rfl _ _) (recSeal_walk _ _ _) ?_
     exact SRes.mk (own:=ds) (wr:=[]) (sealO_nil hh hv) rfl rfl rfl hown rfl oc (Own.nil _ _ _) op lo_oc (fun k hk=>by simp [fpS,Value.ownBlock] at hk) lo_op (fun k _ hk=>by simp [fpS,Value.ownBlock] at hk) (tgC_dg _ _) (encV_by x) HG rfl
   · have hne:own≠[]:=fun h=>by rw [h] at hownl;simp at hownl;omega
     refine wp_region_lit ?_
     refine sx_hv sv37 3 [(41,.slice ao ds.length ac),(42,.int .i64 ((ds.length:Nat))),(43,.bool false)]
       ⟨ym r5,ox_len (Tryz.underlying28) rfl rfl trivial (oy rfl rfl) (fun _=>rfl),ybc r6 (fun _=>rn_eql (beqF (by omega))),trivial⟩ fun a54 w54 g54 sv54=>?_
     refine tl_nil ?_
     refine k39 _ _ ?_
     refine cx_ifF sv54 rfl rfl ?_
     refine wp_skip ?_
     refine k38 _ _ ?_
     refine wp_seq_k fun K55 k55=>?_
     refine wp_region_lit ?_
     refine tl_as (v:=.slice none 0 0) sv54 r6 fun a56 sv56=>?_
     refine tl_nil ?_
     refine k55 _ _ ?_
     refine wp_seq_k fun K57 k57=>?_
     refine wp_seq_k fun K58 k58=>?_
     refine wp_region_lit ?_
     refine sx_hv sv56 3 [(51,.slice ao ds.length ac),(52,.int .i64 ((ds.length:Nat))),(53,.int .i64 0)]
       ⟨ym r5,ox_len (Tryz.underlying28) rfl rfl trivial (oy rfl rfl) (fun _=>rfl),ox_const (.inl rfl) rfl trivial (fun _=>rfl),trivial⟩ fun a59 w59 g59 sv59=>?_
     have gc59:=grown_trans g54 g59
     refine tl_nil ?_
     refine k58 _ _ ?_
     refine cx_block fun Q60 x60 y60 rt60 o60=>?_
     replace HB5_2:=rw_kn gc59 HB5_2
     replace HB9_3:=rw_kn gc59 HB9_3
     replace HB10_4:=rw_kn gc59 HB10_4
     replace HB11_5:=rw_kn gc59 HB11_5
     replace HB12_31:=rw_kn gc59 HB12_31
     replace hr:=hr.kn gc59
     replace ho:=ho.kn gc59
     replace oc:=oc.kn gc59
     replace op:=op.kn gc59
     replace HG:=grown_trans HG gc59
     have okk:=Own.nil w59 23 32
     have ap_okk_B5_2:∀ k,fpS (.slice none 0 0) k→k≠B5_2:=fun k hk=>by simp [fpS,Value.ownBlock] at hk
     have ap_okk_B9_3:∀ k,fpS (.slice none 0 0) k→k≠B9_3:=fun k hk=>by simp [fpS,Value.ownBlock] at hk
     have ap_okk_B10_4:∀ k,fpS (.slice none 0 0) k→k≠B10_4:=fun k hk=>by simp [fpS,Value.ownBlock] at hk
     have ap_okk_B11_5:∀ k,fpS (.slice none 0 0) k→k≠B11_5:=fun k hk=>by simp [fpS,Value.ownBlock] at hk
     have ap_okk_B12_31:∀ k,fpS (.slice none 0 0) k→k≠B12_31:=fun k hk=>by simp [fpS,Value.ownBlock] at hk
     have ap_hr_okk:∀ k,fpK (.slice vo ks.length vc_) ks k→¬ fpS (.slice none 0 0) k:=fun k _ hk=>by simp [fpS,Value.ownBlock] at hk
     have ap_ho_okk:∀ k,fpS (.slice ao ds.length ac) k→¬ fpS (.slice none 0 0) k:=fun k _ hk=>by simp [fpS,Value.ownBlock] at hk
     have ap_oc_okk:∀ k,fpS (.slice ao29 ds.length cap29) k→¬ fpS (.slice none 0 0) k:=fun k _ hk=>by simp [fpS,Value.ownBlock] at hk
     have ap_okk_oc:∀ k,fpS (.slice none 0 0) k→¬ fpS (.slice ao29 ds.length cap29) k:=fun k hk=>by simp [fpS,Value.ownBlock] at hk
     have ap_op_okk:∀ k,fpS (.slice ao36 ((encV x)).length cap36) k→¬ fpS (.slice none 0 0) k:=fun k _ hk=>by simp [fpS,Value.ownBlock] at hk
     have ap_okk_op:∀ k,fpS (.slice none 0 0) k→¬ fpS (.slice ao36 ((encV x)).length cap36) k:=fun k hk=>by simp [fpS,Value.ownBlock] at hk
     have lo_okk:∀ k,fpS (.slice none 0 0) k→w.heap.size≤k:=fun k hk=>by simp [fpS,Value.ownBlock] at hk
     refine wp_loop (fun a w'=>∃ (i:Nat) (ko:Option Addr) (kc:Nat) (kl:List DD),(i≤ds.length)∧(kl.map DD.x=(own.take i).map fun z=>(keyO P z ad).1)∧(∀ j,j < i→(keyO P (lat own j) ad).2=0)∧Sv 104 [{ target:=.fn (.func 49) #[pt B10_4,pt B11_5],args:=#[] }] [(53,.int .i64 ((i:Int))),(14,.slice ko i kc),(51,.slice ao ds.length ac),(52,.int .i64 ((ds.length:Nat))),(41,.slice ao ds.length ac),(42,.int .i64 ((ds.length:Nat))),(43,.bool false),(13,.slice ao36 ((encV x)).length cap36),(40,.slice ao36 ((encV x)).length cap36),(39,xval x),(12,pt B12_31),(23,.slice ao ds.length ac),(24,.int .i64 joint),(25,.int .i64 ad),(26,.bool true),(27,.bool false),(28,.bool false),(29,vval sa po (.slice vo ks.length vc_)),(30,.bool true),(31,.bool false),(32,.bool false),(22,.func (.func 49) #[] #[pt B10_4,pt B11_5]),(11,pt B11_5),(10,pt B10_4),(9,pt B9_3),(5,pt B5_2),(0,vval sa po (.slice vo ks.length vc_)),(1,.slice ao ds.length ac),(2,.int .i64 joint),(3,.int .i64 ad),(4,xval x)] a∧w.grownBy w' none∧w'.heap[B5_2]?=some (.cells ([bv sa,bv po,[.slice vo ks.length vc_]].flatten).toArray 36 (0,0))∧w'.heap[B9_3]?=some (.cells (vc x).toArray 25 (0,0))∧w'.heap[B10_4]?=some (.cells (([[.int .i64 0],[.slice none 0 0],[.int .i64 0],[.slice none 0 0],[.slice none 0 0],bv zero32].flatten)).toArray 31 (0,0))∧w'.heap[B11_5]?=some (.cells ([.int .i64 0]).toArray 38 (0,0))∧w'.heap[B12_31]?=some (.cells ([[.int .i64 ad],[.slice ao29 ds.length cap29],[.int .i64 joint],[.slice none 0 0],[.slice none 0 0],bv zero32].flatten).toArray 31 (0,0))∧RdK w' (.slice vo ks.length vc_) ks∧RdD w' (.slice ao ds.length ac) ds∧Own w' 23 32 (.slice ao29 ds.length cap29) ds.length (ds.flatMap dcs)∧Own w' 5 1 (.slice ao36 ((encV x)).length cap36) (((encV x)).length) (bv ((encV x)))∧Own w' 23 32 (.slice ko i kc) i (kl.flatMap dcs)∧(∀ k,fpS (.slice ko i kc) k→k≠B5_2)∧(∀ k,fpS (.slice ko i kc) k→k≠B9_3)∧(∀ k,fpS (.slice ko i kc) k→k≠B10_4)∧(∀ k,fpS (.slice ko i kc) k→k≠B11_5)∧(∀ k,fpS (.slice ko i kc) k→k≠B12_31)∧(∀ k,fpK (.slice vo ks.length vc_) ks k→¬ fpS (.slice ko i kc) k)∧(∀ k,fpS (.slice ao ds.length ac) k→¬ fpS (.slice ko i kc) k)∧(∀ k,fpS (.slice ao29 ds.length cap29) k→¬ fpS (.slice ko i kc) k)∧(∀ k,fpS (.slice ko i kc) k→¬ fpS (.slice ao29 ds.length cap29) k)∧(∀ k,fpS (.slice ao36 ((encV x)).length cap36) k→¬ fpS (.slice ko i kc) k)∧(∀ k,fpS (.slice ko i kc) k→¬ fpS (.slice ao36 ((encV x)).length cap36) k)∧(∀ k,fpS (.slice ko i kc) k→w.heap.size≤k)) (fun a _=>(ds.length - intOf (a.tmps.getD 53 undef)).toNat) ⟨0,none,0,[],Nat.zero_le _,rfl,fun j hj=>by omega,⟨sv59.1,sv59.2.1,sv59.2.2.2.2.1,sv59.2.2.2.2.2.1,sv59.2.2.1,sv59.2.2.2.1,sv59.2.2.2.2.2.2.1,sv59.2.2.2.2.2.2.2.1,sv59.2.2.2.2.2.2.2.2.1,sv59.2.2.2.2.2.2.2.2.2.1,sv59.2.2.2.2.2.2.2.2.2.2.1,sv59.2.2.2.2.2.2.2.2.2.2.2.1,sv59.2.2.2.2.2.2.2.2.2.2.2.2.1,sv59.2.2.2.2.2.2.2.2.2.2.2.2.2.1,sv59.2.2.2.2.2.2.2.2.2.2.2.2.2.2.1,sv59.2.2.2.2.2.2.2.2.2.2.2.2.2.2.2.1,sv59.2.2.2.2.2.2.2.2.2.2.2.2.2.2.2.2.1,sv59.2.2.2.2.2.2.2.2.2.2.2.2.2.2.2.2.2.1,sv59.2.2.2.2.2.2.2.2.2.2.2.2.2.2.2.2.2.2.1,sv59.2.2.2.2.2.2.2.2.2.2.2.2.2.2.2.2.2.2.2.1,sv59.2.2.2.2.2.2.2.2.2.2.2.2.2.2.2.2.2.2.2.2.1,sv59.2.2.2.2.2.2.2.2.2.2.2.2.2.2.2.2.2.2.2.2.2.1,sv59.2.2.2.2.2.2.2.2.2.2.2.2.2.2.2.2.2.2.2.2.2.2.1,sv59.2.2.2.2.2.2.2.2.2.2.2.2.2.2.2.2.2.2.2.2.2.2.2.1,sv59.2.2.2.2.2.2.2.2.2.2.2.2.2.2.2.2.2.2.2.2.2.2.2.2.1,sv59.2.2.2.2.2.2.2.2.2.2.2.2.2.2.2.2.2.2.2.2.2.2.2.2.2.1,sv59.2.2.2.2.2.2.2.2.2.2.2.2.2.2.2.2.2.2.2.2.2.2.2.2.2.2.1,sv59.2.2.2.2.2.2.2.2.2.2.2.2.2.2.2.2.2.2.2.2.2.2.2.2.2.2.2.1,sv59.2.2.2.2.2.2.2.2.2.2.2.2.2.2.2.2.2.2.2.2.2.2.2.2.2.2.2.2.1,sv59.2.2.2.2.2.2.2.2.2.2.2.2.2.2.2.2.2.2.2.2.2.2.2.2.2.2.2.2.2.1,sv59.2.2.2.2.2.2.2.2.2.2.2.2.2.2.2.2.2.2.2.2.2.2.2.2.2.2.2.2.2.2.1,sv59.2.2.2.2.2.2.2.2.2.2.2.2.2.2.2.2.2.2.2.2.2.2.2.2.2.2.2.2.2.2.2.1,sv59.2.2.2.2.2.2.2.2.2.2.2.2.2.2.2.2.2.2.2.2.2.2.2.2.2.2.2.2.2.2.2.2.1,trivial⟩,HG,HB5_2,HB9_3,HB10_4,HB11_5,HB12_31,hr,ho,oc,op,okk,ap_okk_B5_2,ap_okk_B9_3,ap_okk_B10_4,ap_okk_B11_5,ap_okk_B12_31,ap_hr_okk,ap_ho_okk,ap_oc_okk,ap_okk_oc,ap_op_okk,ap_okk_op,lo_okk⟩ fun a61 w61 hI61=>?_
     clear HB5_2
     clear HB9_3
     clear HB10_4
     clear HB11_5
     clear HB12_31
     clear hr
     clear ho
     clear oc
     clear op
     clear okk
     clear HG
     obtain ⟨i,ko,kc,kl,hin,hkl,hok,sv61,HG,HB5_2,HB9_3,HB10_4,HB11_5,HB12_31,hr,ho,oc,op,okk,ap_okk_B5_2,ap_okk_B9_3,ap_okk_B10_4,ap_okk_B11_5,ap_okk_B12_31,ap_hr_okk,ap_ho_okk,ap_oc_okk,ap_okk_oc,ap_op_okk,ap_okk_op,lo_okk⟩:=hI61
     refine wp_seq_k fun K62 k62=>?_
     by_cases hi:i < ds.length
     · obtain ⟨y,hx_y⟩:∃ zx,ds[i]'hi=zx:=⟨_,rfl⟩
       have hla:lat own i=y.x:=by rw [← hown,lat_map hi,hx_y]
       obtain ⟨kx,hkx⟩:∃ q,keyO P y.x ad=q:=⟨_,rfl⟩
       have hkd:Dg kx.1:=hkx▸keyO_dg2 hnok
       refine wp_region_lit ?_
       refine sx_hv sv61 1 [(54,.bool true)]
         ⟨ybt r7 (fun _=>rn_lss (by simp;omega)),trivial⟩ fun a63 w63 g63 sv63=>?_
       refine tl_nil ?_
       refine k62 _ _ ?_
       refine wp_seq_k fun K64 k64=>?_
       refine cx_ifT sv63 rfl rfl ?_
       refine wp_skip ?_
       refine k64 _ _ ?_
       refine wp_seq_k fun K65 k65=>?_
       refine cx_block fun Q66 x66 y66 rt66 o66=>?_
       refine wp_seq_k fun K67 k67=>?_
       refine wp_region_lit ?_
       replace HB5_2:=rw_kn g63 HB5_2
       replace HB9_3:=rw_kn g63 HB9_3
       replace HB10_4:=rw_kn g63 HB10_4
       replace HB11_5:=rw_kn g63 HB11_5
       replace HB12_31:=rw_kn g63 HB12_31
       replace hr:=hr.kn g63
       replace ho:=ho.kn g63
       replace oc:=oc.kn g63
       replace op:=op.kn g63
       replace okk:=okk.kn g63
       replace HG:=grown_trans HG g63
       refine sx_hv sv63 2 [(55,pk ((bO ao)) (oO ao+i * 32)),(56,dval y.x)]
         ⟨ox_index rfl rfl trivial (oy rfl rfl) (oy rfl rfl) (fun w=>ix_sl Tryz.underlying28 (by kernel_rfl) (ho.1) (by omega) (rfl) w) (fun _=>rfl),ox_load rfl rfl trivial (oy rfl rfl) (fun _ g=>loadsAt (tyD y.x y.h.1) (by have:=el_range (ho.kn g).1 dcs_len hi (by decide);rw [hx_y] at this;exact this)) (fun _=>rfl),trivial⟩ fun a68 w68 g68 sv68=>?_
       replace HB5_2:=rw_kn g68 HB5_2
       replace HB9_3:=rw_kn g68 HB9_3
       replace HB10_4:=rw_kn g68 HB10_4
       replace HB11_5:=rw_kn g68 HB11_5
       replace HB12_31:=rw_kn g68 HB12_31
       replace hr:=hr.kn g68
       replace ho:=ho.kn g68
       replace oc:=oc.kn g68
       replace op:=op.kn g68
       replace okk:=okk.kn g68
       replace HG:=grown_trans HG g68
       refine tl_alloc (T:=23) (Z:=(bv zero32)) sv68 rfl rfl rfl (fun a w=>by kernel_rfl) fun a69 w69 B16_69 eq_B16_69 g69 z69 HB16_69 sv69=>?_
       have ne_B16_69_B5_2:=nb_ne HB5_2 eq_B16_69
       have ne_B16_69_B9_3:=nb_ne HB9_3 eq_B16_69
       have ne_B16_69_B10_4:=nb_ne HB10_4 eq_B16_69
       have ne_B16_69_B11_5:=nb_ne HB11_5 eq_B16_69
       have ne_B16_69_B12_31:=nb_ne HB12_31 eq_B16_69
       have lo_B16_69:=nb_lo HG eq_B16_69
       have ap_hr_B16_69:=nb_ap (hr.lt) eq_B16_69
       have ap_ho_B16_69:=nb_ap (ho.lt) eq_B16_69
       have ap_oc_B16_69:=nb_ap (Own.ltS oc) eq_B16_69
       have ap_op_B16_69:=nb_ap (Own.ltS op) eq_B16_69
       have ap_okk_B16_69:=nb_ap (Own.ltS okk) eq_B16_69
       replace HB5_2:=rw_kn g69 HB5_2
       replace HB9_3:=rw_kn g69 HB9_3
       replace HB10_4:=rw_kn g69 HB10_4
       replace HB11_5:=rw_kn g69 HB11_5
       replace HB12_31:=rw_kn g69 HB12_31
       replace hr:=hr.kn g69
       replace ho:=ho.kn g69
       replace oc:=oc.kn g69
       replace op:=op.kn g69
       replace okk:=okk.kn g69
       replace HG:=grown_trans HG g69
       refine tl_sw sv69 r7 (tyD y.x y.h.1) HB16_69 (lenD y.h) fun w70 g70 h70=>?_
       replace HB5_2:=rw_st g70 HB5_2 (Ne.symm ne_B16_69_B5_2)
       replace HB9_3:=rw_st g70 HB9_3 (Ne.symm ne_B16_69_B9_3)
       replace HB10_4:=rw_st g70 HB10_4 (Ne.symm ne_B16_69_B10_4)
       replace HB11_5:=rw_st g70 HB11_5 (Ne.symm ne_B16_69_B11_5)
       replace HB12_31:=rw_st g70 HB12_31 (Ne.symm ne_B16_69_B12_31)
       replace hr:=hr.offR g70 (no_b ap_hr_B16_69)
       replace ho:=ho.offR g70 (no_b ap_ho_B16_69)
       replace oc:=oc.offR g70 (no_b ap_oc_B16_69)
       replace op:=op.offR g70 (no_b ap_op_B16_69)
       replace okk:=okk.offR g70 (no_b ap_okk_B16_69)
       replace HG:=grown_newR HG g70 lo_B16_69
       replace HB16_69:=h70
       refine tl_nil ?_
       refine k67 _ _ ?_
       refine wp_seq_k fun K71 k71=>?_
       refine wp_region_lit ?_
       refine sx_hv sv69 7 [(58,vval sa po (.slice vo ks.length vc_)),(59,dval y.x),(60,.int .i64 ad),(61,.tuple #[dval kx.1,.int .i64 kx.2]),(57,.tuple #[dval kx.1,.int .i64 kx.2]),(62,dval kx.1),(63,.int .i64 kx.2)]
         ⟨yl r6 (tyVa hsa hpo (.slice vo ks.length vc_) rfl) HB5_2,yl r6 (tyD y.x y.h.1) HB16_69,ym r5,ox_call (Sp.is (.tuple #[dval kx.1,.int .i64 kx.2])) [vval sa po (.slice vo ks.length vc_),dval y.x,.int .i64 ad] rfl rfl trivial ⟨(oy rfl rfl),(oy rfl rfl),(oy rfl rfl),trivial⟩ (is_on fun W g=>key_L hsa hpo y.h (hr.kn g) hP hkx) (fun _ _ h=>h) (enter_of Tryz.func32 (by kernel_rfl) rfl),ym r5,ox_extract rfl rfl rfl trivial (fun _ _ h=>⟨_,_,h,rfl,rfl⟩),ox_extract rfl rfl rfl trivial (fun _ _ h=>⟨_,_,h,rfl,rfl⟩),trivial⟩ fun a72 w72 g72 sv72=>?_
       replace HB5_2:=rw_kn g72 HB5_2
       replace HB9_3:=rw_kn g72 HB9_3
       replace HB10_4:=rw_kn g72 HB10_4
       replace HB11_5:=rw_kn g72 HB11_5
       replace HB12_31:=rw_kn g72 HB12_31
       replace HB16_69:=rw_kn g72 HB16_69
       replace hr:=hr.kn g72
       replace ho:=ho.kn g72
       replace oc:=oc.kn g72
       replace op:=op.kn g72
       replace okk:=okk.kn g72
       replace HG:=grown_trans HG g72
       refine tl_alloc (T:=23) (Z:=(bv zero32)) sv72 rfl rfl rfl (fun a w=>by kernel_rfl) fun a73 w73 B17_73 eq_B17_73 g73 z73 HB17_73 sv73=>?_
       have ne_B17_73_B5_2:=nb_ne HB5_2 eq_B17_73
       have ne_B17_73_B9_3:=nb_ne HB9_3 eq_B17_73
       have ne_B17_73_B10_4:=nb_ne HB10_4 eq_B17_73
       have ne_B17_73_B11_5:=nb_ne HB11_5 eq_B17_73
       have ne_B17_73_B12_31:=nb_ne HB12_31 eq_B17_73
       have ne_B17_73_B16_69:=nb_ne HB16_69 eq_B17_73
       have lo_B17_73:=nb_lo HG eq_B17_73
       have ap_hr_B17_73:=nb_ap (hr.lt) eq_B17_73
       have ap_ho_B17_73:=nb_ap (ho.lt) eq_B17_73
       have ap_oc_B17_73:=nb_ap (Own.ltS oc) eq_B17_73
       have ap_op_B17_73:=nb_ap (Own.ltS op) eq_B17_73
       have ap_okk_B17_73:=nb_ap (Own.ltS okk) eq_B17_73
       replace HB5_2:=rw_kn g73 HB5_2
       replace HB9_3:=rw_kn g73 HB9_3
       replace HB10_4:=rw_kn g73 HB10_4
       replace HB11_5:=rw_kn g73 HB11_5
       replace HB12_31:=rw_kn g73 HB12_31
       replace HB16_69:=rw_kn g73 HB16_69
       replace hr:=hr.kn g73
       replace ho:=ho.kn g73
       replace oc:=oc.kn g73
       replace op:=op.kn g73
       replace okk:=okk.kn g73
       replace HG:=grown_trans HG g73
       refine tl_sw sv73 r7 (tyD kx.1 hkd.1) HB17_73 (lenD hkd) fun w74 g74 h74=>?_
       replace HB5_2:=rw_st g74 HB5_2 (Ne.symm ne_B17_73_B5_2)
       replace HB9_3:=rw_st g74 HB9_3 (Ne.symm ne_B17_73_B9_3)
       replace HB10_4:=rw_st g74 HB10_4 (Ne.symm ne_B17_73_B10_4)
       replace HB11_5:=rw_st g74 HB11_5 (Ne.symm ne_B17_73_B11_5)
       replace HB12_31:=rw_st g74 HB12_31 (Ne.symm ne_B17_73_B12_31)
       replace HB16_69:=rw_st g74 HB16_69 (Ne.symm ne_B17_73_B16_69)
       replace hr:=hr.offR g74 (no_b ap_hr_B17_73)
       replace ho:=ho.offR g74 (no_b ap_ho_B17_73)
       replace oc:=oc.offR g74 (no_b ap_oc_B17_73)
       replace op:=op.offR g74 (no_b ap_op_B17_73)
       replace okk:=okk.offR g74 (no_b ap_okk_B17_73)
       replace HG:=grown_newR HG g74 lo_B17_73
       replace HB17_73:=h74
       refine tl_as (v:=.int .i64 kx.2) sv73 r6 fun a75 sv75=>?_
       have sv76:Sv 104 [{ target:=.fn (.func 49) #[pt B10_4,pt B11_5],args:=#[] }] [(18,_),(17,_),(16,_),(55,_),(56,_),(54,_),(53,_),(14,_),(51,_),(52,_),(41,_),(42,_),(43,_),(13,_),(40,_),(39,_),(12,_),(23,_),(24,_),(25,_),(26,_),(27,_),(28,_),(29,_),(30,_),(31,_),(32,_),(22,_),(11,_),(10,_),(9,_),(5,_),(0,_),(1,_),(2,_),(3,_),(4,_)] a75:=sv75.dl [58,59,60,61,57,62,63]
       refine tl_nil ?_
       refine k71 _ _ ?_
       refine wp_seq_k fun K77 k77=>?_
       refine wp_seq_k fun K78 k78=>?_
       by_cases he:kx.2=0
       · have hkl1:=keys_step hkl (by omega) hla hkx (hkd:=hkd)
         have hok1:∀ j,j < i+1→(keyO P (lat own j) ad).2=0:=fun j hj=>if e:j=i then (by rw [e,hla,hkx];exact he) else hok j (by omega)
         refine wp_region_lit ?_
         refine sx_hv sv76 2 [(64,.int .i64 kx.2),(65,.bool false)]
           ⟨ym r5,ybc r6 (fun _=>rn_neq (by simpa using he)),trivial⟩ fun a79 w79 g79 sv79=>?_
         refine tl_nil ?_
         refine k78 _ _ ?_
         refine cx_ifF sv79 rfl rfl ?_
         refine wp_skip ?_
         refine k77 _ _ ?_
         refine wp_region_lit ?_
         refine sx_hv sv79 2 [(68,.slice ko i kc),(69,dval kx.1)]
           ⟨ym r5,yl r6 (tyD kx.1 hkd.1) (rw_kn g79 HB17_73),trivial⟩ fun a80 w80 g80 sv80=>?_
         have gc80:=grown_trans g79 g80
         replace HB5_2:=rw_kn gc80 HB5_2
         replace HB9_3:=rw_kn gc80 HB9_3
         replace HB10_4:=rw_kn gc80 HB10_4
         replace HB11_5:=rw_kn gc80 HB11_5
         replace HB12_31:=rw_kn gc80 HB12_31
         replace HB16_69:=rw_kn gc80 HB16_69
         replace HB17_73:=rw_kn gc80 HB17_73
         replace hr:=hr.kn gc80
         replace ho:=ho.kn gc80
         replace oc:=oc.kn gc80
         replace op:=op.kn gc80
         replace okk:=okk.kn gc80
         replace HG:=grown_trans HG gc80
         refine tl_lit1 (cs:=bv kx.1) (e:=23) sv80 rfl rfl rfl rfl rfl rfl (bS1D hkd) fun a81 w81 B70_81 eq_B70_81 g81 z81 HB70_81 sv81=>?_
         have ne_B70_81_B5_2:=nb_ne HB5_2 eq_B70_81
         have ne_B70_81_B9_3:=nb_ne HB9_3 eq_B70_81
         have ne_B70_81_B10_4:=nb_ne HB10_4 eq_B70_81
         have ne_B70_81_B11_5:=nb_ne HB11_5 eq_B70_81
         have ne_B70_81_B12_31:=nb_ne HB12_31 eq_B70_81
         have ne_B70_81_B16_69:=nb_ne HB16_69 eq_B70_81
         have ne_B70_81_B17_73:=nb_ne HB17_73 eq_B70_81
         have lo_B70_81:=nb_lo HG eq_B70_81
         have ap_hr_B70_81:=nb_ap (hr.lt) eq_B70_81
         have ap_ho_B70_81:=nb_ap (ho.lt) eq_B70_81
         have ap_oc_B70_81:=nb_ap (Own.ltS oc) eq_B70_81
         have ap_op_B70_81:=nb_ap (Own.ltS op) eq_B70_81
         have ap_okk_B70_81:=nb_ap (Own.ltS okk) eq_B70_81
         replace HB5_2:=rw_kn g81 HB5_2
         replace HB9_3:=rw_kn g81 HB9_3
         replace HB10_4:=rw_kn g81 HB10_4
         replace HB11_5:=rw_kn g81 HB11_5
         replace HB12_31:=rw_kn g81 HB12_31
         replace HB16_69:=rw_kn g81 HB16_69
         replace HB17_73:=rw_kn g81 HB17_73
         replace hr:=hr.kn g81
         replace ho:=ho.kn g81
         replace oc:=oc.kn g81
         replace op:=op.kn g81
         replace okk:=okk.kn g81
         replace HG:=grown_trans HG g81
         refine tl_app dsT sv81 rfl rfl rfl rfl rfl rfl rfl rfl okk (sl_oneD HB70_81 hkd) (bv_cells _) (by omega) fun a82 ao82 cap82 w82 owx82 stp sv82=>?_
         have ap_owx82_B5_2:∀ k,fpS (.slice ao82 (i+1) cap82) k→k≠B5_2:=fun k hk=>(stp.2 k hk).elim (ap_okk_B5_2 k) (fun h=>nh_ne HB5_2 h)
         have ap_owx82_B9_3:∀ k,fpS (.slice ao82 (i+1) cap82) k→k≠B9_3:=fun k hk=>(stp.2 k hk).elim (ap_okk_B9_3 k) (fun h=>nh_ne HB9_3 h)
         have ap_owx82_B10_4:∀ k,fpS (.slice ao82 (i+1) cap82) k→k≠B10_4:=fun k hk=>(stp.2 k hk).elim (ap_okk_B10_4 k) (fun h=>nh_ne HB10_4 h)
         have ap_owx82_B11_5:∀ k,fpS (.slice ao82 (i+1) cap82) k→k≠B11_5:=fun k hk=>(stp.2 k hk).elim (ap_okk_B11_5 k) (fun h=>nh_ne HB11_5 h)
         have ap_owx82_B12_31:∀ k,fpS (.slice ao82 (i+1) cap82) k→k≠B12_31:=fun k hk=>(stp.2 k hk).elim (ap_okk_B12_31 k) (fun h=>nh_ne HB12_31 h)
         have ap_owx82_B16_69:∀ k,fpS (.slice ao82 (i+1) cap82) k→k≠B16_69:=fun k hk=>(stp.2 k hk).elim (ap_okk_B16_69 k) (fun h=>nh_ne HB16_69 h)
         have ap_owx82_B17_73:∀ k,fpS (.slice ao82 (i+1) cap82) k→k≠B17_73:=fun k hk=>(stp.2 k hk).elim (ap_okk_B17_73 k) (fun h=>nh_ne HB17_73 h)
         have ap_owx82_B70_81:∀ k,fpS (.slice ao82 (i+1) cap82) k→k≠B70_81:=fun k hk=>(stp.2 k hk).elim (ap_okk_B70_81 k) (fun h=>nh_ne HB70_81 h)
         have ap_hr_owx82:∀ k,fpK (.slice vo ks.length vc_) ks k→¬ fpS (.slice ao82 (i+1) cap82) k:=fun k hk h2=>(stp.2 k h2).elim (ap_hr_okk k hk) (fun h=>absurd ((hr.lt) k hk) (Nat.not_lt.2 h))
         have ap_ho_owx82:∀ k,fpS (.slice ao ds.length ac) k→¬ fpS (.slice ao82 (i+1) cap82) k:=fun k hk h2=>(stp.2 k h2).elim (ap_ho_okk k hk) (fun h=>absurd ((ho.lt) k hk) (Nat.not_lt.2 h))
         have ap_oc_owx82:∀ k,fpS (.slice ao29 ds.length cap29) k→¬ fpS (.slice ao82 (i+1) cap82) k:=fun k hk h2=>(stp.2 k h2).elim (ap_oc_okk k hk) (fun h=>absurd ((Own.ltS oc) k hk) (Nat.not_lt.2 h))
         have ap_op_owx82:∀ k,fpS (.slice ao36 ((encV x)).length cap36) k→¬ fpS (.slice ao82 (i+1) cap82) k:=fun k hk h2=>(stp.2 k h2).elim (ap_op_okk k hk) (fun h=>absurd ((Own.ltS op) k hk) (Nat.not_lt.2 h))
         have ap_owx82_oc:∀ k,fpS (.slice ao82 (i+1) cap82) k→¬ fpS (.slice ao29 ds.length cap29) k:=fun k hk h2=>ap_oc_owx82 k h2 hk
         have ap_owx82_op:∀ k,fpS (.slice ao82 (i+1) cap82) k→¬ fpS (.slice ao36 ((encV x)).length cap36) k:=fun k hk h2=>ap_op_owx82 k h2 hk
         have lo_owx82:∀ k,fpS (.slice ao82 (i+1) cap82) k→w.heap.size≤k:=fun k hk=>(stp.2 k hk).elim (lo_okk k) (fun h=>Nat.le_trans HG.size h)
         replace HB5_2:=row_of stp.1 HB5_2 (fun e=>ap_okk_B5_2 _ e.symm rfl)
         replace HB9_3:=row_of stp.1 HB9_3 (fun e=>ap_okk_B9_3 _ e.symm rfl)
         replace HB10_4:=row_of stp.1 HB10_4 (fun e=>ap_okk_B10_4 _ e.symm rfl)
         replace HB11_5:=row_of stp.1 HB11_5 (fun e=>ap_okk_B11_5 _ e.symm rfl)
         replace HB12_31:=row_of stp.1 HB12_31 (fun e=>ap_okk_B12_31 _ e.symm rfl)
         replace HB16_69:=row_of stp.1 HB16_69 (fun e=>ap_okk_B16_69 _ e.symm rfl)
         replace HB17_73:=row_of stp.1 HB17_73 (fun e=>ap_okk_B17_73 _ e.symm rfl)
         replace HB70_81:=row_of stp.1 HB70_81 (fun e=>ap_okk_B70_81 _ e.symm rfl)
         replace hr:=hr.offR stp.1 (fun k hk e=>ap_hr_okk k hk (e))
         replace ho:=ho.offR stp.1 (fun k hk e=>ap_ho_okk k hk (e))
         replace oc:=oc.offR stp.1 (fun k hk e=>ap_oc_okk k hk (e))
         replace op:=op.offR stp.1 (fun k hk e=>ap_op_okk k hk (e))
         replace HG:=grown_from HG stp.1 fun k e=>lo_okk k (e)
         rw [fm_one kl ⟨kx.1,hkd⟩] at owx82
         refine tl_as (v:=.slice ao82 (i+1) cap82) sv82 r6 fun a83 sv83=>?_
         have sv84:Sv 104 [{ target:=.fn (.func 49) #[pt B10_4,pt B11_5],args:=#[] }] [(14,_),(64,_),(65,_),(18,_),(17,_),(16,_),(55,_),(56,_),(54,_),(53,_),(51,_),(52,_),(41,_),(42,_),(43,_),(13,_),(40,_),(39,_),(12,_),(23,_),(24,_),(25,_),(26,_),(27,_),(28,_),(29,_),(30,_),(31,_),(32,_),(22,_),(11,_),(10,_),(9,_),(5,_),(0,_),(1,_),(2,_),(3,_),(4,_)] a83:=sv83.dl [71,70,68,69]
         refine tl_nil ?_
         refine y66 _ _ ?_
         refine k65 _ _ ?_
         refine wp_region_lit ?_
         refine sx_hv sv84 1 [(72,.int .i64 (((i+1:Nat):Int)))]
           ⟨ybc r6 (fun _=>rn_add (by rw [wrap_i64 (by omega) (by omega)];omega)),trivial⟩ fun a85 w85 g85 sv85=>?_
         refine sx_hv (sv85.dl [53]) 1 [(53,.int .i64 (((i+1:Nat):Int)))]
           ⟨ym r5,trivial⟩ fun a86 w86 g86 sv86=>?_
         have gc86:=grown_trans g85 g86
         refine tl_nil ?_
         replace HB5_2:=rw_kn gc86 HB5_2
         replace HB9_3:=rw_kn gc86 HB9_3
         replace HB10_4:=rw_kn gc86 HB10_4
         replace HB11_5:=rw_kn gc86 HB11_5
         replace HB12_31:=rw_kn gc86 HB12_31
         replace HB16_69:=rw_kn gc86 HB16_69
         replace HB17_73:=rw_kn gc86 HB17_73
         replace HB70_81:=rw_kn gc86 HB70_81
         replace hr:=hr.kn gc86
         replace ho:=ho.kn gc86
         replace oc:=oc.kn gc86
         replace op:=op.kn gc86
         replace owx82:=owx82.kn gc86
         replace HG:=grown_trans HG gc86
         exact ⟨⟨i+1,ao82,cap82,(kl ++ [⟨kx.1,hkd⟩]),by omega,hkl1,hok1,⟨sv86.1,sv86.2.1,sv86.2.2.1,sv86.2.2.2.2.1,sv86.2.2.2.2.2.2.2.2.2.2.2.2.2.1,sv86.2.2.2.2.2.2.2.2.2.2.2.2.2.2.1,sv86.2.2.2.2.2.2.2.2.2.2.2.2.2.2.2.1,sv86.2.2.2.2.2.2.2.2.2.2.2.2.2.2.2.2.1,sv86.2.2.2.2.2.2.2.2.2.2.2.2.2.2.2.2.2.1,sv86.2.2.2.2.2.2.2.2.2.2.2.2.2.2.2.2.2.2.1,sv86.2.2.2.2.2.2.2.2.2.2.2.2.2.2.2.2.2.2.2.1,sv86.2.2.2.2.2.2.2.2.2.2.2.2.2.2.2.2.2.2.2.2.1,sv86.2.2.2.2.2.2.2.2.2.2.2.2.2.2.2.2.2.2.2.2.2.1,sv86.2.2.2.2.2.2.2.2.2.2.2.2.2.2.2.2.2.2.2.2.2.2.1,sv86.2.2.2.2.2.2.2.2.2.2.2.2.2.2.2.2.2.2.2.2.2.2.2.1,sv86.2.2.2.2.2.2.2.2.2.2.2.2.2.2.2.2.2.2.2.2.2.2.2.2.1,sv86.2.2.2.2.2.2.2.2.2.2.2.2.2.2.2.2.2.2.2.2.2.2.2.2.2.1,sv86.2.2.2.2.2.2.2.2.2.2.2.2.2.2.2.2.2.2.2.2.2.2.2.2.2.2.1,sv86.2.2.2.2.2.2.2.2.2.2.2.2.2.2.2.2.2.2.2.2.2.2.2.2.2.2.2.1,sv86.2.2.2.2.2.2.2.2.2.2.2.2.2.2.2.2.2.2.2.2.2.2.2.2.2.2.2.2.1,sv86.2.2.2.2.2.2.2.2.2.2.2.2.2.2.2.2.2.2.2.2.2.2.2.2.2.2.2.2.2.1,sv86.2.2.2.2.2.2.2.2.2.2.2.2.2.2.2.2.2.2.2.2.2.2.2.2.2.2.2.2.2.2.1,sv86.2.2.2.2.2.2.2.2.2.2.2.2.2.2.2.2.2.2.2.2.2.2.2.2.2.2.2.2.2.2.2.1,sv86.2.2.2.2.2.2.2.2.2.2.2.2.2.2.2.2.2.2.2.2.2.2.2.2.2.2.2.2.2.2.2.2.1,sv86.2.2.2.2.2.2.2.2.2.2.2.2.2.2.2.2.2.2.2.2.2.2.2.2.2.2.2.2.2.2.2.2.2.1,sv86.2.2.2.2.2.2.2.2.2.2.2.2.2.2.2.2.2.2.2.2.2.2.2.2.2.2.2.2.2.2.2.2.2.2.1,sv86.2.2.2.2.2.2.2.2.2.2.2.2.2.2.2.2.2.2.2.2.2.2.2.2.2.2.2.2.2.2.2.2.2.2.2.1,sv86.2.2.2.2.2.2.2.2.2.2.2.2.2.2.2.2.2.2.2.2.2.2.2.2.2.2.2.2.2.2.2.2.2.2.2.2.1,sv86.2.2.2.2.2.2.2.2.2.2.2.2.2.2.2.2.2.2.2.2.2.2.2.2.2.2.2.2.2.2.2.2.2.2.2.2.2.1,sv86.2.2.2.2.2.2.2.2.2.2.2.2.2.2.2.2.2.2.2.2.2.2.2.2.2.2.2.2.2.2.2.2.2.2.2.2.2.2.1,sv86.2.2.2.2.2.2.2.2.2.2.2.2.2.2.2.2.2.2.2.2.2.2.2.2.2.2.2.2.2.2.2.2.2.2.2.2.2.2.2.1,sv86.2.2.2.2.2.2.2.2.2.2.2.2.2.2.2.2.2.2.2.2.2.2.2.2.2.2.2.2.2.2.2.2.2.2.2.2.2.2.2.2.1,sv86.2.2.2.2.2.2.2.2.2.2.2.2.2.2.2.2.2.2.2.2.2.2.2.2.2.2.2.2.2.2.2.2.2.2.2.2.2.2.2.2.2.1,trivial⟩,HG,HB5_2,HB9_3,HB10_4,HB11_5,HB12_31,hr,ho,oc,op,owx82,ap_owx82_B5_2,ap_owx82_B9_3,ap_owx82_B10_4,ap_owx82_B11_5,ap_owx82_B12_31,ap_hr_owx82,ap_ho_owx82,ap_oc_owx82,ap_owx82_oc,ap_op_owx82,ap_owx82_op,lo_owx82⟩,by rw [show _=_ from sv86.2.2.1,show _=_ from sv61.2.2.1];simp [intOf];omega⟩
       · have hke:=keysO_err (P:=P) (a:=ad) (own:=own) (i:=i) (by omega) hok (by rw [hla,hkx];exact he)
         rw [hla,hkx] at hke
         refine wp_region_lit ?_
         refine sx_hv sv76 2 [(64,.int .i64 kx.2),(65,.bool true)]
           ⟨ym r5,ybc r6 (fun _=>rn_neq (by simpa using he)),trivial⟩ fun a87 w87 g87 sv87=>?_
         refine tl_nil ?_
         refine k78 _ _ ?_
         refine cx_ifT sv87 rfl rfl ?_
         refine wp_seq_k fun K88 k88=>?_
         refine wp_region_lit ?_
         replace HB5_2:=rw_kn g87 HB5_2
         replace HB9_3:=rw_kn g87 HB9_3
         replace HB10_4:=rw_kn g87 HB10_4
         replace HB11_5:=rw_kn g87 HB11_5
         replace HB12_31:=rw_kn g87 HB12_31
         replace HB16_69:=rw_kn g87 HB16_69
         replace HB17_73:=rw_kn g87 HB17_73
         replace hr:=hr.kn g87
         replace ho:=ho.kn g87
         replace oc:=oc.kn g87
         replace op:=op.kn g87
         replace okk:=okk.kn g87
         replace HG:=grown_trans HG g87
         refine sx_hv sv87 2 [(66,sdval 0 (.slice none 0 0) 0 (.slice none 0 0) (.slice none 0 0) zero32),(67,.int .i64 kx.2)]
           ⟨ox_build (vs:=[]) rfl rfl trivial trivial (fun _=>bSd0 _) (fun _=>rfl),ym r5,trivial⟩ fun a89 w89 g89 sv89=>?_
         refine tl_sw sv89 r7 (tySd _ _ zero32_dg (.slice none 0 0) (.slice none 0 0) (.slice none 0 0) rfl rfl rfl) (rw_kn g89 HB10_4) (sd_size zero32_dg zero32_dg) fun w90 g90 h90=>?_
         replace HB5_2:=rw_s2 g89 g90 HB5_2 (Ne.symm ne_B10_4_B5_2)
         replace HB9_3:=rw_s2 g89 g90 HB9_3 (Ne.symm ne_B10_4_B9_3)
         replace HB11_5:=rw_s2 g89 g90 HB11_5 ne_B11_5_B10_4
         replace HB12_31:=rw_s2 g89 g90 HB12_31 ne_B12_31_B10_4
         replace HB16_69:=rw_s2 g89 g90 HB16_69 ne_B16_69_B10_4
         replace HB17_73:=rw_s2 g89 g90 HB17_73 ne_B17_73_B10_4
         replace hr:=(hr.kn g89).offR g90 (no_b ap_hr_B10_4)
         replace ho:=(ho.kn g89).offR g90 (no_b ap_ho_B10_4)
         replace oc:=(oc.kn g89).offR g90 (no_b ap_oc_B10_4)
         replace op:=(op.kn g89).offR g90 (no_b ap_op_B10_4)
         replace okk:=(okk.kn g89).offR g90 (no_b ap_okk_B10_4)
         replace HG:=grown_newR (grown_trans HG g89) g90 lo_B10_4
         replace HB10_4:=h90
         refine tl_sw sv89 r7 (tyE kx.2) HB11_5 rfl fun w91 g91 h91=>?_
         replace HB5_2:=rw_st g91 HB5_2 (Ne.symm ne_B11_5_B5_2)
         replace HB9_3:=rw_st g91 HB9_3 (Ne.symm ne_B11_5_B9_3)
         replace HB10_4:=rw_st g91 HB10_4 (Ne.symm ne_B11_5_B10_4)
         replace HB12_31:=rw_st g91 HB12_31 ne_B12_31_B11_5
         replace HB16_69:=rw_st g91 HB16_69 ne_B16_69_B11_5
         replace HB17_73:=rw_st g91 HB17_73 ne_B17_73_B11_5
         replace hr:=hr.offR g91 (no_b ap_hr_B11_5)
         replace ho:=ho.offR g91 (no_b ap_ho_B11_5)
         replace oc:=oc.offR g91 (no_b ap_oc_B11_5)
         replace op:=op.offR g91 (no_b ap_op_B11_5)
         replace okk:=okk.offR g91 (no_b ap_okk_B11_5)
         replace HG:=grown_newR HG g91 lo_B11_5
         replace HB11_5:=h91
         refine tl_nil ?_
         refine k88 _ _ ?_
         refine wp_ret ?_
         repeat refine then_ret ?_
         refine rt66 _ _ ?_
         repeat refine then_ret ?_
         refine rt60 _ _ ?_
         repeat refine then_ret ?_
         refine cx_retD (fn:=Tryz.f20) sv89 (res_cell2 (p:=10) (q:=11) Tryz.results20 sv89 rfl rfl rfl rfl (tySd _ _ zero32_dg (.slice none 0 0) (.slice none 0 0) (.slice none 0 0) rfl rfl rfl) (tyE kx.2) HB10_4 HB11_5) (inv_of Tryz.func49 (by kernel_rfl) rfl _ _) (recSeal_walk _ _ _) ?_
         exact SRes.zero (sealO_err hh hv hne hke he) HG
     · obtain ⟨hK1,hK2⟩:=keysO_ok (P:=P) (a:=ad) (own:=own) fun j hj=>hok j (by omega)
       have hkm:kl.map DD.x=(keysO P ad own).1:=by rw [hK1,hkl,List.take_of_length_le (by omega)]
       refine wp_region_lit ?_
       refine sx_hv sv61 1 [(54,.bool false)]
         ⟨ybt r7 (fun _=>rn_lss (by simp;omega)),trivial⟩ fun a92 w92 g92 sv92=>?_
       refine tl_nil ?_
       refine k62 _ _ ?_
       refine wp_seq_k fun K93 k93=>?_
       refine cx_ifF sv92 rfl rfl ?_
       refine wp_exit ?_
       repeat refine then_exit ?_
       refine x60 _ _ ?_
       refine k57 _ _ ?_
       refine wp_seq_k fun K94 k94=>?_
       replace HB5_2:=rw_kn g92 HB5_2
       replace HB9_3:=rw_kn g92 HB9_3
       replace HB10_4:=rw_kn g92 HB10_4
       replace HB11_5:=rw_kn g92 HB11_5
       replace HB12_31:=rw_kn g92 HB12_31
       replace hr:=hr.kn g92
       replace ho:=ho.kn g92
       replace oc:=oc.kn g92
       replace op:=op.kn g92
       replace okk:=okk.kn g92
       replace HG:=grown_trans HG g92
       have hkll:kl.length=i:=by have:=congrArg List.length hkl;simpa using this.trans (by rw [List.length_map,List.length_take];omega)
       obtain ⟨ck,hcke⟩:∃ c,cky (decide (joint=1)) (kl.map DD.x)=c:=⟨_,rfl⟩
       have hck:Dg ck:=hcke▸cky_dg _ _
       refine wp_region_lit ?_
       refine sx_hv sv92 2 [(73,.int .i64 joint),(74,.slice ko i kc)]
         ⟨ym r5,ym r5,trivial⟩ fun a95 w95 g95 sv95=>?_
       replace HB5_2:=rw_kn g95 HB5_2
       replace HB9_3:=rw_kn g95 HB9_3
       replace HB10_4:=rw_kn g95 HB10_4
       replace HB11_5:=rw_kn g95 HB11_5
       replace HB12_31:=rw_kn g95 HB12_31
       replace hr:=hr.kn g95
       replace ho:=ho.kn g95
       replace oc:=oc.kn g95
       replace op:=op.kn g95
       replace okk:=okk.kn g95
       replace HG:=grown_trans HG g95
       refine tl_call sv95 rfl rfl rfl rfl rfl (c_is (ckey_n hkll (Own.sb okk) (by omega) hcke)) (enter_of Tryz.func55 (by kernel_rfl) rfl) fun a96 v96 w96 hR96 sv96=>?_
       obtain ⟨rfl,g96⟩:=hR96
       replace HB5_2:=rw_kn g96 HB5_2
       replace HB9_3:=rw_kn g96 HB9_3
       replace HB10_4:=rw_kn g96 HB10_4
       replace HB11_5:=rw_kn g96 HB11_5
       replace HB12_31:=rw_kn g96 HB12_31
       replace hr:=hr.kn g96
       replace ho:=ho.kn g96
       replace oc:=oc.kn g96
       replace op:=op.kn g96
       replace okk:=okk.kn g96
       replace HG:=grown_trans HG g96
       refine tl_alloc (T:=23) (Z:=(bv zero32)) sv96 rfl rfl rfl (fun a w=>by kernel_rfl) fun a97 w97 B19_97 eq_B19_97 g97 z97 HB19_97 sv97=>?_
       have ne_B19_97_B5_2:=nb_ne HB5_2 eq_B19_97
       have ne_B19_97_B9_3:=nb_ne HB9_3 eq_B19_97
       have ne_B19_97_B10_4:=nb_ne HB10_4 eq_B19_97
       have ne_B19_97_B11_5:=nb_ne HB11_5 eq_B19_97
       have ne_B19_97_B12_31:=nb_ne HB12_31 eq_B19_97
       have lo_B19_97:=nb_lo HG eq_B19_97
       have ap_hr_B19_97:=nb_ap (hr.lt) eq_B19_97
       have ap_ho_B19_97:=nb_ap (ho.lt) eq_B19_97
       have ap_oc_B19_97:=nb_ap (Own.ltS oc) eq_B19_97
       have ap_op_B19_97:=nb_ap (Own.ltS op) eq_B19_97
       have ap_okk_B19_97:=nb_ap (Own.ltS okk) eq_B19_97
       replace HB5_2:=rw_kn g97 HB5_2
       replace HB9_3:=rw_kn g97 HB9_3
       replace HB10_4:=rw_kn g97 HB10_4
       replace HB11_5:=rw_kn g97 HB11_5
       replace HB12_31:=rw_kn g97 HB12_31
       replace hr:=hr.kn g97
       replace ho:=ho.kn g97
       replace oc:=oc.kn g97
       replace op:=op.kn g97
       replace okk:=okk.kn g97
       replace HG:=grown_trans HG g97
       refine tl_sw sv97 r7 (tyD ck hck.1) HB19_97 (lenD hck) fun w98 g98 h98=>?_
       replace HB5_2:=rw_st g98 HB5_2 (Ne.symm ne_B19_97_B5_2)
       replace HB9_3:=rw_st g98 HB9_3 (Ne.symm ne_B19_97_B9_3)
       replace HB10_4:=rw_st g98 HB10_4 (Ne.symm ne_B19_97_B10_4)
       replace HB11_5:=rw_st g98 HB11_5 (Ne.symm ne_B19_97_B11_5)
       replace HB12_31:=rw_st g98 HB12_31 (Ne.symm ne_B19_97_B12_31)
       replace hr:=hr.offR g98 (no_b ap_hr_B19_97)
       replace ho:=ho.offR g98 (no_b ap_ho_B19_97)
       replace oc:=oc.offR g98 (no_b ap_oc_B19_97)
       replace op:=op.offR g98 (no_b ap_op_B19_97)
       replace okk:=okk.offR g98 (no_b ap_okk_B19_97)
       replace HG:=grown_newR HG g98 lo_B19_97
       replace HB19_97:=h98
       refine tl_nil ?_
       refine k94 _ _ ?_
       refine wp_seq_k fun K99 k99=>?_
       refine wp_seq_k fun K100 k100=>?_
       rcases hjj with rfl | rfl
       · refine wp_region_lit ?_
         refine sx_hv sv97 2 [(76,.int .i64 0),(77,.bool false)]
           ⟨ym r5,ybc r6 (fun _=>rn_eql rfl),trivial⟩ fun a101 w101 g101 sv101=>?_
         refine tl_nil ?_
         refine k100 _ _ ?_
         refine cx_ifF sv101 rfl rfl ?_
         refine wp_skip ?_
         refine k99 _ _ ?_
         refine wp_seq_k fun K102 k102=>?_
         refine wp_region_lit ?_
         refine sx_hv sv101 2 [(93,.slice ao36 ((encV x)).length cap36),(94,dval ck)]
           ⟨ym r5,yl r6 (tyD ck hck.1) (rw_kn g101 HB19_97),trivial⟩ fun a103 w103 g103 sv103=>?_
         have gc103:=grown_trans g101 g103
         replace HB5_2:=rw_kn gc103 HB5_2
         replace HB9_3:=rw_kn gc103 HB9_3
         replace HB10_4:=rw_kn gc103 HB10_4
         replace HB11_5:=rw_kn gc103 HB11_5
         replace HB12_31:=rw_kn gc103 HB12_31
         replace HB19_97:=rw_kn gc103 HB19_97
         replace hr:=hr.kn gc103
         replace ho:=ho.kn gc103
         replace oc:=oc.kn gc103
         replace op:=op.kn gc103
         replace okk:=okk.kn gc103
         replace HG:=grown_trans HG gc103
         refine tl_call sv103 rfl rfl rfl rfl rfl (nwr_c (crypted_walk (encV x) (encV_by x) (by have:=encV_len x;omega) _ _ ck hck _ (Own.sb op))) (enter_of Tryz.func57 (by kernel_rfl) rfl) fun a104 v104 w104 hR104 sv104=>?_
         obtain ⟨ao104,cap104,rfl,_⟩:=(Sl.of_own hR104.1).shape
         obtain ⟨ow104,fr104⟩:=hR104
         replace fr104:=step_nil fr104
         have oy_:=ow104
         clear ow104
         have g104:=fr104.1
         replace fr104:=fr104.2
         have ap_oy__B5_2:=fr_ap fr104 HB5_2
         have ap_oy__B9_3:=fr_ap fr104 HB9_3
         have ap_oy__B10_4:=fr_ap fr104 HB10_4
         have ap_oy__B11_5:=fr_ap fr104 HB11_5
         have ap_oy__B12_31:=fr_ap fr104 HB12_31
         have ap_oy__B19_97:=fr_ap fr104 HB19_97
         have ap_hr_oy_:∀ k,fpK (.slice vo ks.length vc_) ks k→¬ fpS (.slice ao104 ((cry (encV x) ck)).length cap104) k:=fun k hzr hk=>absurd (hr.lt k hzr) (Nat.not_lt.2 (fr104 k hk))
         have ap_ho_oy_:∀ k,fpS (.slice ao ds.length ac) k→¬ fpS (.slice ao104 ((cry (encV x) ck)).length cap104) k:=fun k hzr hk=>absurd (ho.lt k hzr) (Nat.not_lt.2 (fr104 k hk))
         have ap_oy__oc:∀ k,fpS (.slice ao104 ((cry (encV x) ck)).length cap104) k→¬ fpS (.slice ao29 ds.length cap29) k:=fun k hk hzr=>absurd (Own.ltS oc k hzr) (Nat.not_lt.2 (fr104 k hk))
         have ap_oc_oy_:∀ k,fpS (.slice ao29 ds.length cap29) k→¬ fpS (.slice ao104 ((cry (encV x) ck)).length cap104) k:=fun k hzr hk=>absurd (Own.ltS oc k hzr) (Nat.not_lt.2 (fr104 k hk))
         have ap_oy__op:∀ k,fpS (.slice ao104 ((cry (encV x) ck)).length cap104) k→¬ fpS (.slice ao36 ((encV x)).length cap36) k:=fun k hk hzr=>absurd (Own.ltS op k hzr) (Nat.not_lt.2 (fr104 k hk))
         have ap_op_oy_:∀ k,fpS (.slice ao36 ((encV x)).length cap36) k→¬ fpS (.slice ao104 ((cry (encV x) ck)).length cap104) k:=fun k hzr hk=>absurd (Own.ltS op k hzr) (Nat.not_lt.2 (fr104 k hk))
         have ap_oy__okk:∀ k,fpS (.slice ao104 ((cry (encV x) ck)).length cap104) k→¬ fpS (.slice ko i kc) k:=fun k hk hzr=>absurd (Own.ltS okk k hzr) (Nat.not_lt.2 (fr104 k hk))
         have ap_okk_oy_:∀ k,fpS (.slice ko i kc) k→¬ fpS (.slice ao104 ((cry (encV x) ck)).length cap104) k:=fun k hzr hk=>absurd (Own.ltS okk k hzr) (Nat.not_lt.2 (fr104 k hk))
         have lo_oy_:∀ k,fpS (.slice ao104 ((cry (encV x) ck)).length cap104) k→w.heap.size≤k:=fun k hk=>Nat.le_trans HG.size (fr104 k hk)
         replace HB5_2:=rw_kn g104 HB5_2
         replace HB9_3:=rw_kn g104 HB9_3
         replace HB10_4:=rw_kn g104 HB10_4
         replace HB11_5:=rw_kn g104 HB11_5
         replace HB12_31:=rw_kn g104 HB12_31
         replace HB19_97:=rw_kn g104 HB19_97
         replace hr:=hr.kn g104
         replace ho:=ho.kn g104
         replace oc:=oc.kn g104
         replace op:=op.kn g104
         replace okk:=okk.kn g104
         replace HG:=grown_trans HG g104
         refine sx_hv sv104 1 [(96,pk B12_31 4)]
           ⟨yf r6 (fun _=>by kernel_rfl),trivial⟩ fun a105 w105 g105 sv105=>?_
         refine tl_sp (L:=[[.int .i64 ad],[.slice ao29 ds.length cap29],[.int .i64 0],[.slice none 0 0],[.slice none 0 0],bv zero32]) (i:=4) sv105 r7 (tyBys (.slice ao104 ((cry (encV x) ck)).length cap104) rfl) (rw_kn g105 HB12_31) rfl rfl rfl fun w106 g106 h106=>?_
         replace HB5_2:=rw_s2 g105 g106 HB5_2 (Ne.symm ne_B12_31_B5_2)
         replace HB9_3:=rw_s2 g105 g106 HB9_3 (Ne.symm ne_B12_31_B9_3)
         replace HB10_4:=rw_s2 g105 g106 HB10_4 (Ne.symm ne_B12_31_B10_4)
         replace HB11_5:=rw_s2 g105 g106 HB11_5 (Ne.symm ne_B12_31_B11_5)
         replace HB19_97:=rw_s2 g105 g106 HB19_97 ne_B19_97_B12_31
         replace hr:=(hr.kn g105).offR g106 (no_b ap_hr_B12_31)
         replace ho:=(ho.kn g105).offR g106 (no_b ap_ho_B12_31)
         replace oc:=(oc.kn g105).offR g106 (no_b ap_oc_B12_31)
         replace op:=(op.kn g105).offR g106 (no_b ap_op_B12_31)
         replace okk:=(okk.kn g105).offR g106 (no_b ap_okk_B12_31)
         replace oy_:=(oy_.kn g105).offR g106 (no_b ap_oy__B12_31)
         replace HG:=grown_newR (grown_trans HG g105) g106 lo_B12_31
         replace HB12_31:=h106
         have sv107:Sv 104 [{ target:=.fn (.func 49) #[pt B10_4,pt B11_5],args:=#[] }] [(76,_),(77,_),(19,_),(75,_),(73,_),(74,_),(54,_),(53,_),(14,_),(51,_),(52,_),(41,_),(42,_),(43,_),(13,_),(40,_),(39,_),(12,_),(23,_),(24,_),(25,_),(26,_),(27,_),(28,_),(29,_),(30,_),(31,_),(32,_),(22,_),(11,_),(10,_),(9,_),(5,_),(0,_),(1,_),(2,_),(3,_),(4,_)] a105:=sv105.dl [96,95,93,94]
         refine tl_nil ?_
         refine k102 _ _ ?_
         refine wp_seq_k fun K108 k108=>?_
         refine wp_region_lit ?_
         refine sx_hv sv107 4 [(97,dval ck),(98,.int .i64 ad),(99,pk B12_31 4),(100,.slice ao104 ((cry (encV x) ck)).length cap104)]
           ⟨yl r6 (tyD ck hck.1) HB19_97,ym r5,yf r6 (fun _=>by kernel_rfl),yp (i:=4) r6 (tyBys (.slice ao104 ((cry (encV x) ck)).length cap104) rfl) HB12_31 rfl rfl,trivial⟩ fun a109 w109 g109 sv109=>?_
         replace HB5_2:=rw_kn g109 HB5_2
         replace HB9_3:=rw_kn g109 HB9_3
         replace HB10_4:=rw_kn g109 HB10_4
         replace HB11_5:=rw_kn g109 HB11_5
         replace HB12_31:=rw_kn g109 HB12_31
         replace HB19_97:=rw_kn g109 HB19_97
         replace hr:=hr.kn g109
         replace ho:=ho.kn g109
         replace oc:=oc.kn g109
         replace op:=op.kn g109
         replace okk:=okk.kn g109
         replace oy_:=oy_.kn g109
         replace HG:=grown_trans HG g109
         refine tl_call sv109 rfl rfl rfl rfl rfl (c_is (keyedtag_walk ck hck ad hia (cry (encV x) ck) (cry_by _ (encV_by x)) (by have:=encV_len x;rw [cry_len];omega) _ _ _ (Own.sb oy_))) (enter_of Tryz.func58 (by kernel_rfl) rfl) fun a110 v110 w110 hR110 sv110=>?_
         obtain ⟨rfl,g110⟩:=hR110
         replace HB5_2:=rw_kn g110 HB5_2
         replace HB9_3:=rw_kn g110 HB9_3
         replace HB10_4:=rw_kn g110 HB10_4
         replace HB11_5:=rw_kn g110 HB11_5
         replace HB12_31:=rw_kn g110 HB12_31
         replace HB19_97:=rw_kn g110 HB19_97
         replace hr:=hr.kn g110
         replace ho:=ho.kn g110
         replace oc:=oc.kn g110
         replace op:=op.kn g110
         replace okk:=okk.kn g110
         replace oy_:=oy_.kn g110
         replace HG:=grown_trans HG g110
         have sv111:Sv 104 [{ target:=.fn (.func 49) #[pt B10_4,pt B11_5],args:=#[] }] [(101,_),(76,_),(77,_),(19,_),(75,_),(73,_),(74,_),(54,_),(53,_),(14,_),(51,_),(52,_),(41,_),(42,_),(43,_),(13,_),(40,_),(39,_),(12,_),(23,_),(24,_),(25,_),(26,_),(27,_),(28,_),(29,_),(30,_),(31,_),(32,_),(22,_),(11,_),(10,_),(9,_),(5,_),(0,_),(1,_),(2,_),(3,_),(4,_)] a110:=sv110.dl [97,98,99,100]
         refine sx_hv sv111 1 [(102,pk B12_31 5)]
           ⟨yf r6 (fun _=>by kernel_rfl),trivial⟩ fun a112 w112 g112 sv112=>?_
         refine tl_sp (L:=[[.int .i64 ad],[.slice ao29 ds.length cap29],[.int .i64 0],[.slice none 0 0],[.slice ao104 ((cry (encV x) ck)).length cap104],bv zero32]) (i:=5) sv112 r7 (tyD ((tgK ck ad (cry (encV x) ck))) (tgK_dg _ _ _).1) (rw_kn g112 HB12_31) rfl rfl (lenDD zero32_dg (tgK_dg _ _ _)) fun w113 g113 h113=>?_
         replace HB5_2:=rw_s2 g112 g113 HB5_2 (Ne.symm ne_B12_31_B5_2)
         replace HB9_3:=rw_s2 g112 g113 HB9_3 (Ne.symm ne_B12_31_B9_3)
         replace HB10_4:=rw_s2 g112 g113 HB10_4 (Ne.symm ne_B12_31_B10_4)
         replace HB11_5:=rw_s2 g112 g113 HB11_5 (Ne.symm ne_B12_31_B11_5)
         replace HB19_97:=rw_s2 g112 g113 HB19_97 ne_B19_97_B12_31
         replace hr:=(hr.kn g112).offR g113 (no_b ap_hr_B12_31)
         replace ho:=(ho.kn g112).offR g113 (no_b ap_ho_B12_31)
         replace oc:=(oc.kn g112).offR g113 (no_b ap_oc_B12_31)
         replace op:=(op.kn g112).offR g113 (no_b ap_op_B12_31)
         replace okk:=(okk.kn g112).offR g113 (no_b ap_okk_B12_31)
         replace oy_:=(oy_.kn g112).offR g113 (no_b ap_oy__B12_31)
         replace HG:=grown_newR (grown_trans HG g112) g113 lo_B12_31
         replace HB12_31:=h113
         refine tl_nil ?_
         refine k108 _ _ ?_
         refine wp_seq_k fun K114 k114=>?_
         refine wp_region_lit ?_
         refine sx_hv sv112 1 [(103,sdval ad (.slice ao29 ds.length cap29) 0 (.slice none 0 0) (.slice ao104 ((cry (encV x) ck)).length cap104) ((tgK ck ad (cry (encV x) ck))))]
           ⟨yl r6 (tySd _ _ (tgK_dg _ _ _) (.slice ao29 ds.length cap29) (.slice none 0 0) (.slice ao104 ((cry (encV x) ck)).length cap104) rfl rfl rfl) HB12_31,trivial⟩ fun a115 w115 g115 sv115=>?_
         refine tl_sw sv115 r7 (tySd _ _ (tgK_dg _ _ _) (.slice ao29 ds.length cap29) (.slice none 0 0) (.slice ao104 ((cry (encV x) ck)).length cap104) rfl rfl rfl) (rw_kn g115 HB10_4) (sd_size zero32_dg (tgK_dg _ _ _)) fun w116 g116 h116=>?_
         replace HB5_2:=rw_s2 g115 g116 HB5_2 (Ne.symm ne_B10_4_B5_2)
         replace HB9_3:=rw_s2 g115 g116 HB9_3 (Ne.symm ne_B10_4_B9_3)
         replace HB11_5:=rw_s2 g115 g116 HB11_5 ne_B11_5_B10_4
         replace HB12_31:=rw_s2 g115 g116 HB12_31 ne_B12_31_B10_4
         replace HB19_97:=rw_s2 g115 g116 HB19_97 ne_B19_97_B10_4
         replace hr:=(hr.kn g115).offR g116 (no_b ap_hr_B10_4)
         replace ho:=(ho.kn g115).offR g116 (no_b ap_ho_B10_4)
         replace oc:=(oc.kn g115).offR g116 (no_b ap_oc_B10_4)
         replace op:=(op.kn g115).offR g116 (no_b ap_op_B10_4)
         replace okk:=(okk.kn g115).offR g116 (no_b ap_okk_B10_4)
         replace oy_:=(oy_.kn g115).offR g116 (no_b ap_oy__B10_4)
         replace HG:=grown_newR (grown_trans HG g115) g116 lo_B10_4
         replace HB10_4:=h116
         refine tl_sw sv115 r7 (tyE 0) HB11_5 rfl fun w117 g117 h117=>?_
         replace HB5_2:=rw_st g117 HB5_2 (Ne.symm ne_B11_5_B5_2)
         replace HB9_3:=rw_st g117 HB9_3 (Ne.symm ne_B11_5_B9_3)
         replace HB10_4:=rw_st g117 HB10_4 (Ne.symm ne_B11_5_B10_4)
         replace HB12_31:=rw_st g117 HB12_31 ne_B12_31_B11_5
         replace HB19_97:=rw_st g117 HB19_97 ne_B19_97_B11_5
         replace hr:=hr.offR g117 (no_b ap_hr_B11_5)
         replace ho:=ho.offR g117 (no_b ap_ho_B11_5)
         replace oc:=oc.offR g117 (no_b ap_oc_B11_5)
         replace op:=op.offR g117 (no_b ap_op_B11_5)
         replace okk:=okk.offR g117 (no_b ap_okk_B11_5)
         replace oy_:=oy_.offR g117 (no_b ap_oy__B11_5)
         replace HG:=grown_newR HG g117 lo_B11_5
         replace HB11_5:=h117
         refine tl_nil ?_
         refine k114 _ _ ?_
         refine wp_ret ?_
         repeat refine then_ret ?_
         refine cx_retD (fn:=Tryz.f20) sv115 (res_cell2 (p:=10) (q:=11) Tryz.results20 sv115 rfl rfl rfl rfl (tySd _ _ (tgK_dg _ _ _) (.slice ao29 ds.length cap29) (.slice none 0 0) (.slice ao104 ((cry (encV x) ck)).length cap104) rfl rfl rfl) (tyE 0) HB10_4 HB11_5) (inv_of Tryz.func49 (by kernel_rfl) rfl _ _) (recSeal_walk _ _ _) ?_
         exact SRes.mk (own:=ds) (wr:=[]) (sealO_ok hh hv hne hK2 hkm hcke) rfl rfl rfl hown rfl oc (Own.nil _ _ _) oy_ lo_oc (fun k hk=>by simp [fpS,Value.ownBlock] at hk) lo_oy_ (fun k _ hk=>by simp [fpS,Value.ownBlock] at hk) (tgK_dg _ _ _) (cry_by _ (encV_by x)) HG rfl
       · refine wp_region_lit ?_
         refine sx_hv sv97 2 [(76,.int .i64 1),(77,.bool true)]
           ⟨ym r5,ybc r6 (fun _=>rn_eql rfl),trivial⟩ fun a118 w118 g118 sv118=>?_
         refine tl_nil ?_
         refine k100 _ _ ?_
         refine cx_ifT sv118 rfl rfl ?_
         refine wp_seq_k fun K119 k119=>?_
         refine wp_region_lit ?_
         refine sx_hv sv118 3 [(78,.slice ko i kc),(79,.int .i64 ((i:Nat))),(80,.int .i64 0)]
           ⟨ym r5,ox_len (Tryz.underlying28) rfl rfl trivial (oy rfl rfl) (fun _=>rfl),ox_const (.inl rfl) rfl trivial (fun _=>rfl),trivial⟩ fun a120 w120 g120 sv120=>?_
         have gc120:=grown_trans g118 g120
         refine tl_nil ?_
         refine k119 _ _ ?_
         refine cx_block fun Q121 x121 y121 rt121 o121=>?_
         replace HB5_2:=rw_kn gc120 HB5_2
         replace HB9_3:=rw_kn gc120 HB9_3
         replace HB10_4:=rw_kn gc120 HB10_4
         replace HB11_5:=rw_kn gc120 HB11_5
         replace HB12_31:=rw_kn gc120 HB12_31
         replace HB19_97:=rw_kn gc120 HB19_97
         replace hr:=hr.kn gc120
         replace ho:=ho.kn gc120
         replace oc:=oc.kn gc120
         replace op:=op.kn gc120
         replace okk:=okk.kn gc120
         replace HG:=grown_trans HG gc120
         have ow:=Own.nil w120 23 32
         have ap_ow_B5_2:∀ k,fpS (.slice none 0 0) k→k≠B5_2:=fun k hk=>by simp [fpS,Value.ownBlock] at hk
         have ap_ow_B9_3:∀ k,fpS (.slice none 0 0) k→k≠B9_3:=fun k hk=>by simp [fpS,Value.ownBlock] at hk
         have ap_ow_B10_4:∀ k,fpS (.slice none 0 0) k→k≠B10_4:=fun k hk=>by simp [fpS,Value.ownBlock] at hk
         have ap_ow_B11_5:∀ k,fpS (.slice none 0 0) k→k≠B11_5:=fun k hk=>by simp [fpS,Value.ownBlock] at hk
         have ap_ow_B12_31:∀ k,fpS (.slice none 0 0) k→k≠B12_31:=fun k hk=>by simp [fpS,Value.ownBlock] at hk
         have ap_ow_B19_97:∀ k,fpS (.slice none 0 0) k→k≠B19_97:=fun k hk=>by simp [fpS,Value.ownBlock] at hk
         have ap_hr_ow:∀ k,fpK (.slice vo ks.length vc_) ks k→¬ fpS (.slice none 0 0) k:=fun k _ hk=>by simp [fpS,Value.ownBlock] at hk
         have ap_ho_ow:∀ k,fpS (.slice ao ds.length ac) k→¬ fpS (.slice none 0 0) k:=fun k _ hk=>by simp [fpS,Value.ownBlock] at hk
         have ap_oc_ow:∀ k,fpS (.slice ao29 ds.length cap29) k→¬ fpS (.slice none 0 0) k:=fun k _ hk=>by simp [fpS,Value.ownBlock] at hk
         have ap_ow_oc:∀ k,fpS (.slice none 0 0) k→¬ fpS (.slice ao29 ds.length cap29) k:=fun k hk=>by simp [fpS,Value.ownBlock] at hk
         have ap_op_ow:∀ k,fpS (.slice ao36 ((encV x)).length cap36) k→¬ fpS (.slice none 0 0) k:=fun k _ hk=>by simp [fpS,Value.ownBlock] at hk
         have ap_ow_op:∀ k,fpS (.slice none 0 0) k→¬ fpS (.slice ao36 ((encV x)).length cap36) k:=fun k hk=>by simp [fpS,Value.ownBlock] at hk
         have ap_okk_ow:∀ k,fpS (.slice ko i kc) k→¬ fpS (.slice none 0 0) k:=fun k _ hk=>by simp [fpS,Value.ownBlock] at hk
         have ap_ow_okk:∀ k,fpS (.slice none 0 0) k→¬ fpS (.slice ko i kc) k:=fun k hk=>by simp [fpS,Value.ownBlock] at hk
         have lo_ow:∀ k,fpS (.slice none 0 0) k→w.heap.size≤k:=fun k hk=>by simp [fpS,Value.ownBlock] at hk
         refine wp_loop (fun a w'=>∃ (j:Nat) (wo:Option Addr) (wc:Nat),(j≤i)∧Sv 104 [{ target:=.fn (.func 49) #[pt B10_4,pt B11_5],args:=#[] }] [(80,.int .i64 ((j:Int))),(78,.slice ko i kc),(79,.int .i64 ((i:Nat))),(76,.int .i64 1),(77,.bool true),(19,pt B19_97),(75,dval ck),(73,.int .i64 1),(74,.slice ko i kc),(54,.bool false),(53,.int .i64 ((i:Int))),(14,.slice ko i kc),(51,.slice ao ds.length ac),(52,.int .i64 ((ds.length:Nat))),(41,.slice ao ds.length ac),(42,.int .i64 ((ds.length:Nat))),(43,.bool false),(13,.slice ao36 ((encV x)).length cap36),(40,.slice ao36 ((encV x)).length cap36),(39,xval x),(12,pt B12_31),(23,.slice ao ds.length ac),(24,.int .i64 1),(25,.int .i64 ad),(26,.bool true),(27,.bool false),(28,.bool false),(29,vval sa po (.slice vo ks.length vc_)),(30,.bool true),(31,.bool false),(32,.bool false),(22,.func (.func 49) #[] #[pt B10_4,pt B11_5]),(11,pt B11_5),(10,pt B10_4),(9,pt B9_3),(5,pt B5_2),(0,vval sa po (.slice vo ks.length vc_)),(1,.slice ao ds.length ac),(2,.int .i64 1),(3,.int .i64 ad),(4,xval x)] a∧w.grownBy w' none∧w'.heap[B5_2]?=some (.cells ([bv sa,bv po,[.slice vo ks.length vc_]].flatten).toArray 36 (0,0))∧w'.heap[B9_3]?=some (.cells (vc x).toArray 25 (0,0))∧w'.heap[B10_4]?=some (.cells (([[.int .i64 0],[.slice none 0 0],[.int .i64 0],[.slice none 0 0],[.slice none 0 0],bv zero32].flatten)).toArray 31 (0,0))∧w'.heap[B11_5]?=some (.cells ([.int .i64 0]).toArray 38 (0,0))∧w'.heap[B12_31]?=some (.cells ([[.int .i64 ad],[.slice ao29 ds.length cap29],[.int .i64 1],[.slice wo j wc],[.slice none 0 0],bv zero32].flatten).toArray 31 (0,0))∧w'.heap[B19_97]?=some (.cells (bv ck).toArray 23 (0,0))∧RdK w' (.slice vo ks.length vc_) ks∧RdD w' (.slice ao ds.length ac) ds∧Own w' 23 32 (.slice ao29 ds.length cap29) ds.length (ds.flatMap dcs)∧Own w' 5 1 (.slice ao36 ((encV x)).length cap36) (((encV x)).length) (bv ((encV x)))∧Own w' 23 32 (.slice ko i kc) i (kl.flatMap dcs)∧Own w' 23 32 (.slice wo j wc) j (((wrL ck hck kl j)).flatMap dcs)∧(∀ k,fpS (.slice wo j wc) k→k≠B5_2)∧(∀ k,fpS (.slice wo j wc) k→k≠B9_3)∧(∀ k,fpS (.slice wo j wc) k→k≠B10_4)∧(∀ k,fpS (.slice wo j wc) k→k≠B11_5)∧(∀ k,fpS (.slice wo j wc) k→k≠B12_31)∧(∀ k,fpS (.slice wo j wc) k→k≠B19_97)∧(∀ k,fpK (.slice vo ks.length vc_) ks k→¬ fpS (.slice wo j wc) k)∧(∀ k,fpS (.slice ao ds.length ac) k→¬ fpS (.slice wo j wc) k)∧(∀ k,fpS (.slice ao29 ds.length cap29) k→¬ fpS (.slice wo j wc) k)∧(∀ k,fpS (.slice wo j wc) k→¬ fpS (.slice ao29 ds.length cap29) k)∧(∀ k,fpS (.slice ao36 ((encV x)).length cap36) k→¬ fpS (.slice wo j wc) k)∧(∀ k,fpS (.slice wo j wc) k→¬ fpS (.slice ao36 ((encV x)).length cap36) k)∧(∀ k,fpS (.slice ko i kc) k→¬ fpS (.slice wo j wc) k)∧(∀ k,fpS (.slice wo j wc) k→¬ fpS (.slice ko i kc) k)∧(∀ k,fpS (.slice wo j wc) k→w.heap.size≤k)) (fun a _=>(i - intOf (a.tmps.getD 80 undef)).toNat) ⟨0,none,0,Nat.zero_le _,⟨sv120.1,sv120.2.1,sv120.2.2.2.2.1,sv120.2.2.1,sv120.2.2.2.1,sv120.2.2.2.2.2.1,sv120.2.2.2.2.2.2.1,sv120.2.2.2.2.2.2.2.1,sv120.2.2.2.2.2.2.2.2.1,sv120.2.2.2.2.2.2.2.2.2.1,sv120.2.2.2.2.2.2.2.2.2.2.1,sv120.2.2.2.2.2.2.2.2.2.2.2.1,sv120.2.2.2.2.2.2.2.2.2.2.2.2.1,sv120.2.2.2.2.2.2.2.2.2.2.2.2.2.1,sv120.2.2.2.2.2.2.2.2.2.2.2.2.2.2.1,sv120.2.2.2.2.2.2.2.2.2.2.2.2.2.2.2.1,sv120.2.2.2.2.2.2.2.2.2.2.2.2.2.2.2.2.1,sv120.2.2.2.2.2.2.2.2.2.2.2.2.2.2.2.2.2.1,sv120.2.2.2.2.2.2.2.2.2.2.2.2.2.2.2.2.2.2.1,sv120.2.2.2.2.2.2.2.2.2.2.2.2.2.2.2.2.2.2.2.1,sv120.2.2.2.2.2.2.2.2.2.2.2.2.2.2.2.2.2.2.2.2.1,sv120.2.2.2.2.2.2.2.2.2.2.2.2.2.2.2.2.2.2.2.2.2.1,sv120.2.2.2.2.2.2.2.2.2.2.2.2.2.2.2.2.2.2.2.2.2.2.1,sv120.2.2.2.2.2.2.2.2.2.2.2.2.2.2.2.2.2.2.2.2.2.2.2.1,sv120.2.2.2.2.2.2.2.2.2.2.2.2.2.2.2.2.2.2.2.2.2.2.2.2.1,sv120.2.2.2.2.2.2.2.2.2.2.2.2.2.2.2.2.2.2.2.2.2.2.2.2.2.1,sv120.2.2.2.2.2.2.2.2.2.2.2.2.2.2.2.2.2.2.2.2.2.2.2.2.2.2.1,sv120.2.2.2.2.2.2.2.2.2.2.2.2.2.2.2.2.2.2.2.2.2.2.2.2.2.2.2.1,sv120.2.2.2.2.2.2.2.2.2.2.2.2.2.2.2.2.2.2.2.2.2.2.2.2.2.2.2.2.1,sv120.2.2.2.2.2.2.2.2.2.2.2.2.2.2.2.2.2.2.2.2.2.2.2.2.2.2.2.2.2.1,sv120.2.2.2.2.2.2.2.2.2.2.2.2.2.2.2.2.2.2.2.2.2.2.2.2.2.2.2.2.2.2.1,sv120.2.2.2.2.2.2.2.2.2.2.2.2.2.2.2.2.2.2.2.2.2.2.2.2.2.2.2.2.2.2.2.1,sv120.2.2.2.2.2.2.2.2.2.2.2.2.2.2.2.2.2.2.2.2.2.2.2.2.2.2.2.2.2.2.2.2.1,sv120.2.2.2.2.2.2.2.2.2.2.2.2.2.2.2.2.2.2.2.2.2.2.2.2.2.2.2.2.2.2.2.2.2.1,sv120.2.2.2.2.2.2.2.2.2.2.2.2.2.2.2.2.2.2.2.2.2.2.2.2.2.2.2.2.2.2.2.2.2.2.1,sv120.2.2.2.2.2.2.2.2.2.2.2.2.2.2.2.2.2.2.2.2.2.2.2.2.2.2.2.2.2.2.2.2.2.2.2.1,sv120.2.2.2.2.2.2.2.2.2.2.2.2.2.2.2.2.2.2.2.2.2.2.2.2.2.2.2.2.2.2.2.2.2.2.2.2.1,sv120.2.2.2.2.2.2.2.2.2.2.2.2.2.2.2.2.2.2.2.2.2.2.2.2.2.2.2.2.2.2.2.2.2.2.2.2.2.1,sv120.2.2.2.2.2.2.2.2.2.2.2.2.2.2.2.2.2.2.2.2.2.2.2.2.2.2.2.2.2.2.2.2.2.2.2.2.2.2.1,sv120.2.2.2.2.2.2.2.2.2.2.2.2.2.2.2.2.2.2.2.2.2.2.2.2.2.2.2.2.2.2.2.2.2.2.2.2.2.2.2.1,sv120.2.2.2.2.2.2.2.2.2.2.2.2.2.2.2.2.2.2.2.2.2.2.2.2.2.2.2.2.2.2.2.2.2.2.2.2.2.2.2.2.1,sv120.2.2.2.2.2.2.2.2.2.2.2.2.2.2.2.2.2.2.2.2.2.2.2.2.2.2.2.2.2.2.2.2.2.2.2.2.2.2.2.2.2.1,sv120.2.2.2.2.2.2.2.2.2.2.2.2.2.2.2.2.2.2.2.2.2.2.2.2.2.2.2.2.2.2.2.2.2.2.2.2.2.2.2.2.2.2.1,trivial⟩,HG,HB5_2,HB9_3,HB10_4,HB11_5,HB12_31,HB19_97,hr,ho,oc,op,okk,ow,ap_ow_B5_2,ap_ow_B9_3,ap_ow_B10_4,ap_ow_B11_5,ap_ow_B12_31,ap_ow_B19_97,ap_hr_ow,ap_ho_ow,ap_oc_ow,ap_ow_oc,ap_op_ow,ap_ow_op,ap_okk_ow,ap_ow_okk,lo_ow⟩ fun a122 w122 hI122=>?_
         clear HB5_2
         clear HB9_3
         clear HB10_4
         clear HB11_5
         clear HB12_31
         clear HB19_97
         clear hr
         clear ho
         clear oc
         clear op
         clear okk
         clear ow
         clear HG
         obtain ⟨j,wo,wc,hjn,sv122,HG,HB5_2,HB9_3,HB10_4,HB11_5,HB12_31,HB19_97,hr,ho,oc,op,okk,ow,ap_ow_B5_2,ap_ow_B9_3,ap_ow_B10_4,ap_ow_B11_5,ap_ow_B12_31,ap_ow_B19_97,ap_hr_ow,ap_ho_ow,ap_oc_ow,ap_ow_oc,ap_op_ow,ap_ow_op,ap_okk_ow,ap_ow_okk,lo_ow⟩:=hI122
         refine wp_seq_k fun K123 k123=>?_
         by_cases hjl:j < i
         · have hjk:j < kl.length:=by omega
           obtain ⟨ky,hx_ky⟩:∃ zx,kl[j]'hjk=zx:=⟨_,rfl⟩
           refine wp_region_lit ?_
           refine sx_hv sv122 1 [(81,.bool true)]
             ⟨ybt r7 (fun _=>rn_lss (by simp;omega)),trivial⟩ fun a124 w124 g124 sv124=>?_
           refine tl_nil ?_
           refine k123 _ _ ?_
           refine wp_seq_k fun K125 k125=>?_
           refine cx_ifT sv124 rfl rfl ?_
           refine wp_skip ?_
           refine k125 _ _ ?_
           refine wp_seq_k fun K126 k126=>?_
           refine cx_block fun Q127 x127 y127 rt127 o127=>?_
           refine wp_seq_k fun K128 k128=>?_
           refine wp_region_lit ?_
           replace HB5_2:=rw_kn g124 HB5_2
           replace HB9_3:=rw_kn g124 HB9_3
           replace HB10_4:=rw_kn g124 HB10_4
           replace HB11_5:=rw_kn g124 HB11_5
           replace HB12_31:=rw_kn g124 HB12_31
           replace HB19_97:=rw_kn g124 HB19_97
           replace hr:=hr.kn g124
           replace ho:=ho.kn g124
           replace oc:=oc.kn g124
           replace op:=op.kn g124
           replace okk:=okk.kn g124
           replace ow:=ow.kn g124
           replace HG:=grown_trans HG g124
           refine sx_hv sv124 2 [(82,pk ((bO ko)) (oO ko+j * 32)),(83,dval ky.x)]
             ⟨ox_index rfl rfl trivial (oy rfl rfl) (oy rfl rfl) (fun w=>ix_sl Tryz.underlying28 (by kernel_rfl) ((Sl.of_own okk)) (by omega) (rfl) w) (fun _=>rfl),ox_load rfl rfl trivial (oy rfl rfl) (fun _ g=>loadsAt (tyD ky.x ky.h.1) (by have:=el_range (Sl.of_own (okk.kn g)) dcs_len hjk (by decide);rw [hx_ky] at this;exact this)) (fun _=>rfl),trivial⟩ fun a129 w129 g129 sv129=>?_
           replace HB5_2:=rw_kn g129 HB5_2
           replace HB9_3:=rw_kn g129 HB9_3
           replace HB10_4:=rw_kn g129 HB10_4
           replace HB11_5:=rw_kn g129 HB11_5
           replace HB12_31:=rw_kn g129 HB12_31
           replace HB19_97:=rw_kn g129 HB19_97
           replace hr:=hr.kn g129
           replace ho:=ho.kn g129
           replace oc:=oc.kn g129
           replace op:=op.kn g129
           replace okk:=okk.kn g129
           replace ow:=ow.kn g129
           replace HG:=grown_trans HG g129
           refine tl_alloc (T:=23) (Z:=(bv zero32)) sv129 rfl rfl rfl (fun a w=>by kernel_rfl) fun a130 w130 B21_130 eq_B21_130 g130 z130 HB21_130 sv130=>?_
           have ne_B21_130_B5_2:=nb_ne HB5_2 eq_B21_130
           have ne_B21_130_B9_3:=nb_ne HB9_3 eq_B21_130
           have ne_B21_130_B10_4:=nb_ne HB10_4 eq_B21_130
           have ne_B21_130_B11_5:=nb_ne HB11_5 eq_B21_130
           have ne_B21_130_B12_31:=nb_ne HB12_31 eq_B21_130
           have ne_B21_130_B19_97:=nb_ne HB19_97 eq_B21_130
           have lo_B21_130:=nb_lo HG eq_B21_130
           have ap_hr_B21_130:=nb_ap (hr.lt) eq_B21_130
           have ap_ho_B21_130:=nb_ap (ho.lt) eq_B21_130
           have ap_oc_B21_130:=nb_ap (Own.ltS oc) eq_B21_130
           have ap_op_B21_130:=nb_ap (Own.ltS op) eq_B21_130
           have ap_okk_B21_130:=nb_ap (Own.ltS okk) eq_B21_130
           have ap_ow_B21_130:=nb_ap (Own.ltS ow) eq_B21_130
           replace HB5_2:=rw_kn g130 HB5_2
           replace HB9_3:=rw_kn g130 HB9_3
           replace HB10_4:=rw_kn g130 HB10_4
           replace HB11_5:=rw_kn g130 HB11_5
           replace HB12_31:=rw_kn g130 HB12_31
           replace HB19_97:=rw_kn g130 HB19_97
           replace hr:=hr.kn g130
           replace ho:=ho.kn g130
           replace oc:=oc.kn g130
           replace op:=op.kn g130
           replace okk:=okk.kn g130
           replace ow:=ow.kn g130
           replace HG:=grown_trans HG g130
           refine tl_sw sv130 r7 (tyD ky.x ky.h.1) HB21_130 (lenD ky.h) fun w131 g131 h131=>?_
           replace HB5_2:=rw_st g131 HB5_2 (Ne.symm ne_B21_130_B5_2)
           replace HB9_3:=rw_st g131 HB9_3 (Ne.symm ne_B21_130_B9_3)
           replace HB10_4:=rw_st g131 HB10_4 (Ne.symm ne_B21_130_B10_4)
           replace HB11_5:=rw_st g131 HB11_5 (Ne.symm ne_B21_130_B11_5)
           replace HB12_31:=rw_st g131 HB12_31 (Ne.symm ne_B21_130_B12_31)
           replace HB19_97:=rw_st g131 HB19_97 (Ne.symm ne_B21_130_B19_97)
           replace hr:=hr.offR g131 (no_b ap_hr_B21_130)
           replace ho:=ho.offR g131 (no_b ap_ho_B21_130)
           replace oc:=oc.offR g131 (no_b ap_oc_B21_130)
           replace op:=op.offR g131 (no_b ap_op_B21_130)
           replace okk:=okk.offR g131 (no_b ap_okk_B21_130)
           replace ow:=ow.offR g131 (no_b ap_ow_B21_130)
           replace HG:=grown_newR HG g131 lo_B21_130
           replace HB21_130:=h131
           refine tl_nil ?_
           refine k128 _ _ ?_
           refine rx_tail (sv130.st w131) (by kernel_rfl) 6 [(84,Sp.is (pk B12_31 3)),(85,Sp.is (.slice wo j wc)),(86,Sp.is (dval ck)),(87,Sp.is (dval ky.x)),(88,Sp.is (dval ((wrp ck ky.x)))),(89,Sp.lit1 w131.heap.size 23 (bv (wrp ck ky.x)))] rfl (by kernel_rfl) (by kernel_rfl) (by kernel_rfl) [] (by kernel_rfl)
             ⟨yf r6 (fun _=>by kernel_rfl),yp (i:=3) r6 (tyDs (.slice wo j wc) rfl) HB12_31 rfl rfl,yl r6 (tyD ck hck.1) HB19_97,yl r6 (tyD ky.x ky.h.1) HB21_130,ox_call (Sp.is (dval ((wrp ck ky.x)))) [dval ck,dval ky.x] rfl rfl trivial ⟨(oy rfl rfl),(oy rfl rfl),trivial⟩ (is_on fun W g=>wrapped_walk ck ky.x hck ky.h W) (fun _ _ h=>h) (enter_of Tryz.func56 (by kernel_rfl) rfl),ox_lit1 rfl rfl trivial (Nat.le_refl _) rfl (fun W hw v h=>match v,h with | _,⟨rfl,_⟩=>⟨bv (wrp ck ky.x),bS1D (wrp_dg hck ky.h) W,fun w' _ hh=>⟨_,rfl,hw.size,hh⟩⟩),trivial⟩ trivial
             [] (by kernel_rfl) trivial ⟨.inl rfl,.inl rfl,.inl rfl,.inl rfl,.inl rfl,.inl rfl,trivial⟩ (by kernel_rfl) fun a132 w132 g132 st132 nd132=>?_
           obtain ⟨hn132,hd132,e132_84,e132_85,e132_86,e132_87,e132_88,e132_89,e132_21,e132_82,e132_83,e132_81,e132_80,e132_78,e132_79,e132_76,e132_77,e132_19,e132_75,e132_73,e132_74,e132_54,e132_53,e132_14,e132_51,e132_52,e132_41,e132_42,e132_43,e132_13,e132_40,e132_39,e132_12,e132_23,e132_24,e132_25,e132_26,e132_27,e132_28,e132_29,e132_30,e132_31,e132_32,e132_22,e132_11,e132_10,e132_9,e132_5,e132_0,e132_1,e132_2,e132_3,e132_4,-⟩:=st132
           obtain ⟨V,e132_89q,geV,HV⟩:=e132_89
           have ne_V_B5_2:V≠B5_2:=Nat.ne_of_gt (Nat.lt_of_lt_of_le (Array.getElem?_eq_some_iff.1 HB5_2).1 geV)
           have ne_V_B9_3:V≠B9_3:=Nat.ne_of_gt (Nat.lt_of_lt_of_le (Array.getElem?_eq_some_iff.1 HB9_3).1 geV)
           have ne_V_B10_4:V≠B10_4:=Nat.ne_of_gt (Nat.lt_of_lt_of_le (Array.getElem?_eq_some_iff.1 HB10_4).1 geV)
           have ne_V_B11_5:V≠B11_5:=Nat.ne_of_gt (Nat.lt_of_lt_of_le (Array.getElem?_eq_some_iff.1 HB11_5).1 geV)
           have ne_V_B12_31:V≠B12_31:=Nat.ne_of_gt (Nat.lt_of_lt_of_le (Array.getElem?_eq_some_iff.1 HB12_31).1 geV)
           have ne_V_B19_97:V≠B19_97:=Nat.ne_of_gt (Nat.lt_of_lt_of_le (Array.getElem?_eq_some_iff.1 HB19_97).1 geV)
           have ne_V_B21_130:V≠B21_130:=Nat.ne_of_gt (Nat.lt_of_lt_of_le (Array.getElem?_eq_some_iff.1 HB21_130).1 geV)
           have lo_V:w.heap.size≤V:=Nat.le_trans HG.size geV
           have ap_hr_V:=nh_ap (hr.lt) geV
           have ap_ho_V:=nh_ap (ho.lt) geV
           have ap_oc_V:=nh_ap (Own.ltS oc) geV
           have ap_op_V:=nh_ap (Own.ltS op) geV
           have ap_okk_V:=nh_ap (Own.ltS okk) geV
           have ap_ow_V:=nh_ap (Own.ltS ow) geV
           replace HB5_2:=rw_kn g132 HB5_2
           replace HB9_3:=rw_kn g132 HB9_3
           replace HB10_4:=rw_kn g132 HB10_4
           replace HB11_5:=rw_kn g132 HB11_5
           replace HB12_31:=rw_kn g132 HB12_31
           replace HB19_97:=rw_kn g132 HB19_97
           replace HB21_130:=rw_kn g132 HB21_130
           replace hr:=hr.kn g132
           replace ho:=ho.kn g132
           replace oc:=oc.kn g132
           replace op:=op.kn g132
           replace okk:=okk.kn g132
           replace ow:=ow.kn g132
           replace HG:=grown_trans HG g132
           have sv132:Sv 104 [{ target:=.fn (.func 49) #[pt B10_4,pt B11_5],args:=#[] }] [(21,_),(82,_),(83,_),(81,_),(80,_),(78,_),(79,_),(76,_),(77,_),(19,_),(75,_),(73,_),(74,_),(54,_),(53,_),(14,_),(51,_),(52,_),(41,_),(42,_),(43,_),(13,_),(40,_),(39,_),(12,_),(23,_),(24,_),(25,_),(26,_),(27,_),(28,_),(29,_),(30,_),(31,_),(32,_),(22,_),(11,_),(10,_),(9,_),(5,_),(0,_),(1,_),(2,_),(3,_),(4,_),(85,_),(89,_)] a132:=⟨hn132,hd132,e132_21,e132_82,e132_83,e132_81,e132_80,e132_78,e132_79,e132_76,e132_77,e132_19,e132_75,e132_73,e132_74,e132_54,e132_53,e132_14,e132_51,e132_52,e132_41,e132_42,e132_43,e132_13,e132_40,e132_39,e132_12,e132_23,e132_24,e132_25,e132_26,e132_27,e132_28,e132_29,e132_30,e132_31,e132_32,e132_22,e132_11,e132_10,e132_9,e132_5,e132_0,e132_1,e132_2,e132_3,e132_4,e132_85,e132_89q,trivial⟩
           refine tl_app dsT sv132 rfl rfl rfl rfl rfl rfl rfl rfl ow (sl_oneD HV (wrp_dg hck ky.h)) (bv_cells _) (by omega) fun a133 ao133 cap133 w133 owx133 stp sv133=>?_
           have ap_owx133_B5_2:∀ k,fpS (.slice ao133 (j+1) cap133) k→k≠B5_2:=fun k hk=>(stp.2 k hk).elim (ap_ow_B5_2 k) (fun h=>nh_ne HB5_2 h)
           have ap_owx133_B9_3:∀ k,fpS (.slice ao133 (j+1) cap133) k→k≠B9_3:=fun k hk=>(stp.2 k hk).elim (ap_ow_B9_3 k) (fun h=>nh_ne HB9_3 h)
           have ap_owx133_B10_4:∀ k,fpS (.slice ao133 (j+1) cap133) k→k≠B10_4:=fun k hk=>(stp.2 k hk).elim (ap_ow_B10_4 k) (fun h=>nh_ne HB10_4 h)
           have ap_owx133_B11_5:∀ k,fpS (.slice ao133 (j+1) cap133) k→k≠B11_5:=fun k hk=>(stp.2 k hk).elim (ap_ow_B11_5 k) (fun h=>nh_ne HB11_5 h)
           have ap_owx133_B12_31:∀ k,fpS (.slice ao133 (j+1) cap133) k→k≠B12_31:=fun k hk=>(stp.2 k hk).elim (ap_ow_B12_31 k) (fun h=>nh_ne HB12_31 h)
           have ap_owx133_B19_97:∀ k,fpS (.slice ao133 (j+1) cap133) k→k≠B19_97:=fun k hk=>(stp.2 k hk).elim (ap_ow_B19_97 k) (fun h=>nh_ne HB19_97 h)
           have ap_owx133_B21_130:∀ k,fpS (.slice ao133 (j+1) cap133) k→k≠B21_130:=fun k hk=>(stp.2 k hk).elim (ap_ow_B21_130 k) (fun h=>nh_ne HB21_130 h)
           have ap_owx133_V:∀ k,fpS (.slice ao133 (j+1) cap133) k→k≠V:=fun k hk=>(stp.2 k hk).elim (ap_ow_V k) (fun h=>nh_ne HV h)
           have ap_hr_owx133:∀ k,fpK (.slice vo ks.length vc_) ks k→¬ fpS (.slice ao133 (j+1) cap133) k:=fun k hk h2=>(stp.2 k h2).elim (ap_hr_ow k hk) (fun h=>absurd ((hr.lt) k hk) (Nat.not_lt.2 h))
           have ap_ho_owx133:∀ k,fpS (.slice ao ds.length ac) k→¬ fpS (.slice ao133 (j+1) cap133) k:=fun k hk h2=>(stp.2 k h2).elim (ap_ho_ow k hk) (fun h=>absurd ((ho.lt) k hk) (Nat.not_lt.2 h))
           have ap_oc_owx133:∀ k,fpS (.slice ao29 ds.length cap29) k→¬ fpS (.slice ao133 (j+1) cap133) k:=fun k hk h2=>(stp.2 k h2).elim (ap_oc_ow k hk) (fun h=>absurd ((Own.ltS oc) k hk) (Nat.not_lt.2 h))
           have ap_op_owx133:∀ k,fpS (.slice ao36 ((encV x)).length cap36) k→¬ fpS (.slice ao133 (j+1) cap133) k:=fun k hk h2=>(stp.2 k h2).elim (ap_op_ow k hk) (fun h=>absurd ((Own.ltS op) k hk) (Nat.not_lt.2 h))
           have ap_okk_owx133:∀ k,fpS (.slice ko i kc) k→¬ fpS (.slice ao133 (j+1) cap133) k:=fun k hk h2=>(stp.2 k h2).elim (ap_okk_ow k hk) (fun h=>absurd ((Own.ltS okk) k hk) (Nat.not_lt.2 h))
           have ap_owx133_oc:∀ k,fpS (.slice ao133 (j+1) cap133) k→¬ fpS (.slice ao29 ds.length cap29) k:=fun k hk h2=>ap_oc_owx133 k h2 hk
           have ap_owx133_op:∀ k,fpS (.slice ao133 (j+1) cap133) k→¬ fpS (.slice ao36 ((encV x)).length cap36) k:=fun k hk h2=>ap_op_owx133 k h2 hk
           have ap_owx133_okk:∀ k,fpS (.slice ao133 (j+1) cap133) k→¬ fpS (.slice ko i kc) k:=fun k hk h2=>ap_okk_owx133 k h2 hk
           have lo_owx133:∀ k,fpS (.slice ao133 (j+1) cap133) k→w.heap.size≤k:=fun k hk=>(stp.2 k hk).elim (lo_ow k) (fun h=>Nat.le_trans HG.size h)
           replace HB5_2:=row_of stp.1 HB5_2 (fun e=>ap_ow_B5_2 _ e.symm rfl)
           replace HB9_3:=row_of stp.1 HB9_3 (fun e=>ap_ow_B9_3 _ e.symm rfl)
           replace HB10_4:=row_of stp.1 HB10_4 (fun e=>ap_ow_B10_4 _ e.symm rfl)
           replace HB11_5:=row_of stp.1 HB11_5 (fun e=>ap_ow_B11_5 _ e.symm rfl)
           replace HB12_31:=row_of stp.1 HB12_31 (fun e=>ap_ow_B12_31 _ e.symm rfl)
           replace HB19_97:=row_of stp.1 HB19_97 (fun e=>ap_ow_B19_97 _ e.symm rfl)
           replace HB21_130:=row_of stp.1 HB21_130 (fun e=>ap_ow_B21_130 _ e.symm rfl)
           replace HV:=row_of stp.1 HV (fun e=>ap_ow_V _ e.symm rfl)
           replace hr:=hr.offR stp.1 (fun k hk e=>ap_hr_ow k hk (e))
           replace ho:=ho.offR stp.1 (fun k hk e=>ap_ho_ow k hk (e))
           replace oc:=oc.offR stp.1 (fun k hk e=>ap_oc_ow k hk (e))
           replace op:=op.offR stp.1 (fun k hk e=>ap_op_ow k hk (e))
           replace okk:=okk.offR stp.1 (fun k hk e=>ap_okk_ow k hk (e))
           replace HG:=grown_from HG stp.1 fun k e=>lo_ow k (e)
           rw [wrL_succ hck hjk hx_ky] at owx133
           refine sx_hv sv133 1 [(91,pk B12_31 3)]
             ⟨yf r6 (fun _=>by kernel_rfl),trivial⟩ fun a134 w134 g134 sv134=>?_
           refine tl_sp (L:=[[.int .i64 ad],[.slice ao29 ds.length cap29],[.int .i64 1],[.slice wo j wc],[.slice none 0 0],bv zero32]) (i:=3) sv134 r7 (tyDs (.slice ao133 (j+1) cap133) rfl) (rw_kn g134 HB12_31) rfl rfl rfl fun w135 g135 h135=>?_
           replace HB5_2:=rw_s2 g134 g135 HB5_2 (Ne.symm ne_B12_31_B5_2)
           replace HB9_3:=rw_s2 g134 g135 HB9_3 (Ne.symm ne_B12_31_B9_3)
           replace HB10_4:=rw_s2 g134 g135 HB10_4 (Ne.symm ne_B12_31_B10_4)
           replace HB11_5:=rw_s2 g134 g135 HB11_5 (Ne.symm ne_B12_31_B11_5)
           replace HB19_97:=rw_s2 g134 g135 HB19_97 ne_B19_97_B12_31
           replace HB21_130:=rw_s2 g134 g135 HB21_130 ne_B21_130_B12_31
           replace HV:=rw_s2 g134 g135 HV ne_V_B12_31
           replace hr:=(hr.kn g134).offR g135 (no_b ap_hr_B12_31)
           replace ho:=(ho.kn g134).offR g135 (no_b ap_ho_B12_31)
           replace oc:=(oc.kn g134).offR g135 (no_b ap_oc_B12_31)
           replace op:=(op.kn g134).offR g135 (no_b ap_op_B12_31)
           replace okk:=(okk.kn g134).offR g135 (no_b ap_okk_B12_31)
           replace owx133:=(owx133.kn g134).offR g135 (no_b ap_owx133_B12_31)
           replace HG:=grown_newR (grown_trans HG g134) g135 lo_B12_31
           replace HB12_31:=h135
           have sv136:Sv 104 [{ target:=.fn (.func 49) #[pt B10_4,pt B11_5],args:=#[] }] [(21,_),(82,_),(83,_),(81,_),(80,_),(78,_),(79,_),(76,_),(77,_),(19,_),(75,_),(73,_),(74,_),(54,_),(53,_),(14,_),(51,_),(52,_),(41,_),(42,_),(43,_),(13,_),(40,_),(39,_),(12,_),(23,_),(24,_),(25,_),(26,_),(27,_),(28,_),(29,_),(30,_),(31,_),(32,_),(22,_),(11,_),(10,_),(9,_),(5,_),(0,_),(1,_),(2,_),(3,_),(4,_)] a134:=sv134.dl [91,90,85,89]
           refine tl_nil ?_
           refine y127 _ _ ?_
           refine k126 _ _ ?_
           refine wp_region_lit ?_
           refine sx_hv sv136 1 [(92,.int .i64 (((j+1:Nat):Int)))]
             ⟨ybc r6 (fun _=>rn_add (by rw [wrap_i64 (by omega) (by omega)];omega)),trivial⟩ fun a137 w137 g137 sv137=>?_
           refine sx_hv (sv137.dl [80]) 1 [(80,.int .i64 (((j+1:Nat):Int)))]
             ⟨ym r5,trivial⟩ fun a138 w138 g138 sv138=>?_
           have gc138:=grown_trans g137 g138
           refine tl_nil ?_
           replace HB5_2:=rw_kn gc138 HB5_2
           replace HB9_3:=rw_kn gc138 HB9_3
           replace HB10_4:=rw_kn gc138 HB10_4
           replace HB11_5:=rw_kn gc138 HB11_5
           replace HB12_31:=rw_kn gc138 HB12_31
           replace HB19_97:=rw_kn gc138 HB19_97
           replace HB21_130:=rw_kn gc138 HB21_130
           replace HV:=rw_kn gc138 HV
           replace hr:=hr.kn gc138
           replace ho:=ho.kn gc138
           replace oc:=oc.kn gc138
           replace op:=op.kn gc138
           replace okk:=okk.kn gc138
           replace owx133:=owx133.kn gc138
           replace HG:=grown_trans HG gc138
           exact ⟨⟨j+1,ao133,cap133,by omega,⟨sv138.1,sv138.2.1,sv138.2.2.1,sv138.2.2.2.2.2.2.2.2.1,sv138.2.2.2.2.2.2.2.2.2.1,sv138.2.2.2.2.2.2.2.2.2.2.1,sv138.2.2.2.2.2.2.2.2.2.2.2.1,sv138.2.2.2.2.2.2.2.2.2.2.2.2.1,sv138.2.2.2.2.2.2.2.2.2.2.2.2.2.1,sv138.2.2.2.2.2.2.2.2.2.2.2.2.2.2.1,sv138.2.2.2.2.2.2.2.2.2.2.2.2.2.2.2.1,sv138.2.2.2.2.2.2.2.2.2.2.2.2.2.2.2.2.1,sv138.2.2.2.2.2.2.2.2.2.2.2.2.2.2.2.2.2.1,sv138.2.2.2.2.2.2.2.2.2.2.2.2.2.2.2.2.2.2.1,sv138.2.2.2.2.2.2.2.2.2.2.2.2.2.2.2.2.2.2.2.1,sv138.2.2.2.2.2.2.2.2.2.2.2.2.2.2.2.2.2.2.2.2.1,sv138.2.2.2.2.2.2.2.2.2.2.2.2.2.2.2.2.2.2.2.2.2.1,sv138.2.2.2.2.2.2.2.2.2.2.2.2.2.2.2.2.2.2.2.2.2.2.1,sv138.2.2.2.2.2.2.2.2.2.2.2.2.2.2.2.2.2.2.2.2.2.2.2.1,sv138.2.2.2.2.2.2.2.2.2.2.2.2.2.2.2.2.2.2.2.2.2.2.2.2.1,sv138.2.2.2.2.2.2.2.2.2.2.2.2.2.2.2.2.2.2.2.2.2.2.2.2.2.1,sv138.2.2.2.2.2.2.2.2.2.2.2.2.2.2.2.2.2.2.2.2.2.2.2.2.2.2.1,sv138.2.2.2.2.2.2.2.2.2.2.2.2.2.2.2.2.2.2.2.2.2.2.2.2.2.2.2.1,sv138.2.2.2.2.2.2.2.2.2.2.2.2.2.2.2.2.2.2.2.2.2.2.2.2.2.2.2.2.1,sv138.2.2.2.2.2.2.2.2.2.2.2.2.2.2.2.2.2.2.2.2.2.2.2.2.2.2.2.2.2.1,sv138.2.2.2.2.2.2.2.2.2.2.2.2.2.2.2.2.2.2.2.2.2.2.2.2.2.2.2.2.2.2.1,sv138.2.2.2.2.2.2.2.2.2.2.2.2.2.2.2.2.2.2.2.2.2.2.2.2.2.2.2.2.2.2.2.1,sv138.2.2.2.2.2.2.2.2.2.2.2.2.2.2.2.2.2.2.2.2.2.2.2.2.2.2.2.2.2.2.2.2.1,sv138.2.2.2.2.2.2.2.2.2.2.2.2.2.2.2.2.2.2.2.2.2.2.2.2.2.2.2.2.2.2.2.2.2.1,sv138.2.2.2.2.2.2.2.2.2.2.2.2.2.2.2.2.2.2.2.2.2.2.2.2.2.2.2.2.2.2.2.2.2.2.1,sv138.2.2.2.2.2.2.2.2.2.2.2.2.2.2.2.2.2.2.2.2.2.2.2.2.2.2.2.2.2.2.2.2.2.2.2.1,sv138.2.2.2.2.2.2.2.2.2.2.2.2.2.2.2.2.2.2.2.2.2.2.2.2.2.2.2.2.2.2.2.2.2.2.2.2.1,sv138.2.2.2.2.2.2.2.2.2.2.2.2.2.2.2.2.2.2.2.2.2.2.2.2.2.2.2.2.2.2.2.2.2.2.2.2.2.1,sv138.2.2.2.2.2.2.2.2.2.2.2.2.2.2.2.2.2.2.2.2.2.2.2.2.2.2.2.2.2.2.2.2.2.2.2.2.2.2.1,sv138.2.2.2.2.2.2.2.2.2.2.2.2.2.2.2.2.2.2.2.2.2.2.2.2.2.2.2.2.2.2.2.2.2.2.2.2.2.2.2.1,sv138.2.2.2.2.2.2.2.2.2.2.2.2.2.2.2.2.2.2.2.2.2.2.2.2.2.2.2.2.2.2.2.2.2.2.2.2.2.2.2.2.1,sv138.2.2.2.2.2.2.2.2.2.2.2.2.2.2.2.2.2.2.2.2.2.2.2.2.2.2.2.2.2.2.2.2.2.2.2.2.2.2.2.2.2.1,sv138.2.2.2.2.2.2.2.2.2.2.2.2.2.2.2.2.2.2.2.2.2.2.2.2.2.2.2.2.2.2.2.2.2.2.2.2.2.2.2.2.2.2.1,sv138.2.2.2.2.2.2.2.2.2.2.2.2.2.2.2.2.2.2.2.2.2.2.2.2.2.2.2.2.2.2.2.2.2.2.2.2.2.2.2.2.2.2.2.1,sv138.2.2.2.2.2.2.2.2.2.2.2.2.2.2.2.2.2.2.2.2.2.2.2.2.2.2.2.2.2.2.2.2.2.2.2.2.2.2.2.2.2.2.2.2.1,sv138.2.2.2.2.2.2.2.2.2.2.2.2.2.2.2.2.2.2.2.2.2.2.2.2.2.2.2.2.2.2.2.2.2.2.2.2.2.2.2.2.2.2.2.2.2.1,sv138.2.2.2.2.2.2.2.2.2.2.2.2.2.2.2.2.2.2.2.2.2.2.2.2.2.2.2.2.2.2.2.2.2.2.2.2.2.2.2.2.2.2.2.2.2.2.1,sv138.2.2.2.2.2.2.2.2.2.2.2.2.2.2.2.2.2.2.2.2.2.2.2.2.2.2.2.2.2.2.2.2.2.2.2.2.2.2.2.2.2.2.2.2.2.2.2.1,trivial⟩,HG,HB5_2,HB9_3,HB10_4,HB11_5,HB12_31,HB19_97,hr,ho,oc,op,okk,owx133,ap_owx133_B5_2,ap_owx133_B9_3,ap_owx133_B10_4,ap_owx133_B11_5,ap_owx133_B12_31,ap_owx133_B19_97,ap_hr_owx133,ap_ho_owx133,ap_oc_owx133,ap_owx133_oc,ap_op_owx133,ap_owx133_op,ap_okk_owx133,ap_owx133_okk,lo_owx133⟩,by rw [show _=_ from sv138.2.2.1,show _=_ from sv122.2.2.1];simp [intOf];omega⟩
         · have hwr:(wrL ck hck kl j).map DD.x=kl.map fun z=>wrp ck z.x:=wrL_all (by omega)
           refine wp_region_lit ?_
           refine sx_hv sv122 1 [(81,.bool false)]
             ⟨ybt r7 (fun _=>rn_lss (by simp;omega)),trivial⟩ fun a139 w139 g139 sv139=>?_
           refine tl_nil ?_
           refine k123 _ _ ?_
           refine wp_seq_k fun K140 k140=>?_
           refine cx_ifF sv139 rfl rfl ?_
           refine wp_exit ?_
           repeat refine then_exit ?_
           refine x121 _ _ ?_
           refine k99 _ _ ?_
           refine wp_seq_k fun K141 k141=>?_
           refine wp_region_lit ?_
           refine sx_hv sv139 2 [(93,.slice ao36 ((encV x)).length cap36),(94,dval ck)]
             ⟨ym r5,yl r6 (tyD ck hck.1) (rw_kn g139 HB19_97),trivial⟩ fun a142 w142 g142 sv142=>?_
           have gc142:=grown_trans g139 g142
           replace HB5_2:=rw_kn gc142 HB5_2
           replace HB9_3:=rw_kn gc142 HB9_3
           replace HB10_4:=rw_kn gc142 HB10_4
           replace HB11_5:=rw_kn gc142 HB11_5
           replace HB12_31:=rw_kn gc142 HB12_31
           replace HB19_97:=rw_kn gc142 HB19_97
           replace hr:=hr.kn gc142
           replace ho:=ho.kn gc142
           replace oc:=oc.kn gc142
           replace op:=op.kn gc142
           replace okk:=okk.kn gc142
           replace ow:=ow.kn gc142
           replace HG:=grown_trans HG gc142
           refine tl_call sv142 rfl rfl rfl rfl rfl (nwr_c (crypted_walk (encV x) (encV_by x) (by have:=encV_len x;omega) _ _ ck hck _ (Own.sb op))) (enter_of Tryz.func57 (by kernel_rfl) rfl) fun a143 v143 w143 hR143 sv143=>?_
           obtain ⟨ao143,cap143,rfl,_⟩:=(Sl.of_own hR143.1).shape
           obtain ⟨ow143,fr143⟩:=hR143
           replace fr143:=step_nil fr143
           have oy_:=ow143
           clear ow143
           have g143:=fr143.1
           replace fr143:=fr143.2
           have ap_oy__B5_2:=fr_ap fr143 HB5_2
           have ap_oy__B9_3:=fr_ap fr143 HB9_3
           have ap_oy__B10_4:=fr_ap fr143 HB10_4
           have ap_oy__B11_5:=fr_ap fr143 HB11_5
           have ap_oy__B12_31:=fr_ap fr143 HB12_31
           have ap_oy__B19_97:=fr_ap fr143 HB19_97
           have ap_hr_oy_:∀ k,fpK (.slice vo ks.length vc_) ks k→¬ fpS (.slice ao143 ((cry (encV x) ck)).length cap143) k:=fun k hzr hk=>absurd (hr.lt k hzr) (Nat.not_lt.2 (fr143 k hk))
           have ap_ho_oy_:∀ k,fpS (.slice ao ds.length ac) k→¬ fpS (.slice ao143 ((cry (encV x) ck)).length cap143) k:=fun k hzr hk=>absurd (ho.lt k hzr) (Nat.not_lt.2 (fr143 k hk))
           have ap_oy__oc:∀ k,fpS (.slice ao143 ((cry (encV x) ck)).length cap143) k→¬ fpS (.slice ao29 ds.length cap29) k:=fun k hk hzr=>absurd (Own.ltS oc k hzr) (Nat.not_lt.2 (fr143 k hk))
           have ap_oc_oy_:∀ k,fpS (.slice ao29 ds.length cap29) k→¬ fpS (.slice ao143 ((cry (encV x) ck)).length cap143) k:=fun k hzr hk=>absurd (Own.ltS oc k hzr) (Nat.not_lt.2 (fr143 k hk))
           have ap_oy__op:∀ k,fpS (.slice ao143 ((cry (encV x) ck)).length cap143) k→¬ fpS (.slice ao36 ((encV x)).length cap36) k:=fun k hk hzr=>absurd (Own.ltS op k hzr) (Nat.not_lt.2 (fr143 k hk))
           have ap_op_oy_:∀ k,fpS (.slice ao36 ((encV x)).length cap36) k→¬ fpS (.slice ao143 ((cry (encV x) ck)).length cap143) k:=fun k hzr hk=>absurd (Own.ltS op k hzr) (Nat.not_lt.2 (fr143 k hk))
           have ap_oy__okk:∀ k,fpS (.slice ao143 ((cry (encV x) ck)).length cap143) k→¬ fpS (.slice ko i kc) k:=fun k hk hzr=>absurd (Own.ltS okk k hzr) (Nat.not_lt.2 (fr143 k hk))
           have ap_okk_oy_:∀ k,fpS (.slice ko i kc) k→¬ fpS (.slice ao143 ((cry (encV x) ck)).length cap143) k:=fun k hzr hk=>absurd (Own.ltS okk k hzr) (Nat.not_lt.2 (fr143 k hk))
           have ap_oy__ow:∀ k,fpS (.slice ao143 ((cry (encV x) ck)).length cap143) k→¬ fpS (.slice wo j wc) k:=fun k hk hzr=>absurd (Own.ltS ow k hzr) (Nat.not_lt.2 (fr143 k hk))
           have ap_ow_oy_:∀ k,fpS (.slice wo j wc) k→¬ fpS (.slice ao143 ((cry (encV x) ck)).length cap143) k:=fun k hzr hk=>absurd (Own.ltS ow k hzr) (Nat.not_lt.2 (fr143 k hk))
           have lo_oy_:∀ k,fpS (.slice ao143 ((cry (encV x) ck)).length cap143) k→w.heap.size≤k:=fun k hk=>Nat.le_trans HG.size (fr143 k hk)
           replace HB5_2:=rw_kn g143 HB5_2
           replace HB9_3:=rw_kn g143 HB9_3
           replace HB10_4:=rw_kn g143 HB10_4
           replace HB11_5:=rw_kn g143 HB11_5
           replace HB12_31:=rw_kn g143 HB12_31
           replace HB19_97:=rw_kn g143 HB19_97
           replace hr:=hr.kn g143
           replace ho:=ho.kn g143
           replace oc:=oc.kn g143
           replace op:=op.kn g143
           replace okk:=okk.kn g143
           replace ow:=ow.kn g143
           replace HG:=grown_trans HG g143
           refine sx_hv sv143 1 [(96,pk B12_31 4)]
             ⟨yf r6 (fun _=>by kernel_rfl),trivial⟩ fun a144 w144 g144 sv144=>?_
           refine tl_sp (L:=[[.int .i64 ad],[.slice ao29 ds.length cap29],[.int .i64 1],[.slice wo j wc],[.slice none 0 0],bv zero32]) (i:=4) sv144 r7 (tyBys (.slice ao143 ((cry (encV x) ck)).length cap143) rfl) (rw_kn g144 HB12_31) rfl rfl rfl fun w145 g145 h145=>?_
           replace HB5_2:=rw_s2 g144 g145 HB5_2 (Ne.symm ne_B12_31_B5_2)
           replace HB9_3:=rw_s2 g144 g145 HB9_3 (Ne.symm ne_B12_31_B9_3)
           replace HB10_4:=rw_s2 g144 g145 HB10_4 (Ne.symm ne_B12_31_B10_4)
           replace HB11_5:=rw_s2 g144 g145 HB11_5 (Ne.symm ne_B12_31_B11_5)
           replace HB19_97:=rw_s2 g144 g145 HB19_97 ne_B19_97_B12_31
           replace hr:=(hr.kn g144).offR g145 (no_b ap_hr_B12_31)
           replace ho:=(ho.kn g144).offR g145 (no_b ap_ho_B12_31)
           replace oc:=(oc.kn g144).offR g145 (no_b ap_oc_B12_31)
           replace op:=(op.kn g144).offR g145 (no_b ap_op_B12_31)
           replace okk:=(okk.kn g144).offR g145 (no_b ap_okk_B12_31)
           replace ow:=(ow.kn g144).offR g145 (no_b ap_ow_B12_31)
           replace oy_:=(oy_.kn g144).offR g145 (no_b ap_oy__B12_31)
           replace HG:=grown_newR (grown_trans HG g144) g145 lo_B12_31
           replace HB12_31:=h145
           have sv146:Sv 104 [{ target:=.fn (.func 49) #[pt B10_4,pt B11_5],args:=#[] }] [(81,_),(80,_),(78,_),(79,_),(76,_),(77,_),(19,_),(75,_),(73,_),(74,_),(54,_),(53,_),(14,_),(51,_),(52,_),(41,_),(42,_),(43,_),(13,_),(40,_),(39,_),(12,_),(23,_),(24,_),(25,_),(26,_),(27,_),(28,_),(29,_),(30,_),(31,_),(32,_),(22,_),(11,_),(10,_),(9,_),(5,_),(0,_),(1,_),(2,_),(3,_),(4,_)] a144:=sv144.dl [96,95,93,94]
           refine tl_nil ?_
           refine k141 _ _ ?_
           refine wp_seq_k fun K147 k147=>?_
           refine wp_region_lit ?_
           refine sx_hv sv146 4 [(97,dval ck),(98,.int .i64 ad),(99,pk B12_31 4),(100,.slice ao143 ((cry (encV x) ck)).length cap143)]
             ⟨yl r6 (tyD ck hck.1) HB19_97,ym r5,yf r6 (fun _=>by kernel_rfl),yp (i:=4) r6 (tyBys (.slice ao143 ((cry (encV x) ck)).length cap143) rfl) HB12_31 rfl rfl,trivial⟩ fun a148 w148 g148 sv148=>?_
           replace HB5_2:=rw_kn g148 HB5_2
           replace HB9_3:=rw_kn g148 HB9_3
           replace HB10_4:=rw_kn g148 HB10_4
           replace HB11_5:=rw_kn g148 HB11_5
           replace HB12_31:=rw_kn g148 HB12_31
           replace HB19_97:=rw_kn g148 HB19_97
           replace hr:=hr.kn g148
           replace ho:=ho.kn g148
           replace oc:=oc.kn g148
           replace op:=op.kn g148
           replace okk:=okk.kn g148
           replace ow:=ow.kn g148
           replace oy_:=oy_.kn g148
           replace HG:=grown_trans HG g148
           refine tl_call sv148 rfl rfl rfl rfl rfl (c_is (keyedtag_walk ck hck ad hia (cry (encV x) ck) (cry_by _ (encV_by x)) (by have:=encV_len x;rw [cry_len];omega) _ _ _ (Own.sb oy_))) (enter_of Tryz.func58 (by kernel_rfl) rfl) fun a149 v149 w149 hR149 sv149=>?_
           obtain ⟨rfl,g149⟩:=hR149
           replace HB5_2:=rw_kn g149 HB5_2
           replace HB9_3:=rw_kn g149 HB9_3
           replace HB10_4:=rw_kn g149 HB10_4
           replace HB11_5:=rw_kn g149 HB11_5
           replace HB12_31:=rw_kn g149 HB12_31
           replace HB19_97:=rw_kn g149 HB19_97
           replace hr:=hr.kn g149
           replace ho:=ho.kn g149
           replace oc:=oc.kn g149
           replace op:=op.kn g149
           replace okk:=okk.kn g149
           replace ow:=ow.kn g149
           replace oy_:=oy_.kn g149
           replace HG:=grown_trans HG g149
           have sv150:Sv 104 [{ target:=.fn (.func 49) #[pt B10_4,pt B11_5],args:=#[] }] [(101,_),(81,_),(80,_),(78,_),(79,_),(76,_),(77,_),(19,_),(75,_),(73,_),(74,_),(54,_),(53,_),(14,_),(51,_),(52,_),(41,_),(42,_),(43,_),(13,_),(40,_),(39,_),(12,_),(23,_),(24,_),(25,_),(26,_),(27,_),(28,_),(29,_),(30,_),(31,_),(32,_),(22,_),(11,_),(10,_),(9,_),(5,_),(0,_),(1,_),(2,_),(3,_),(4,_)] a149:=sv149.dl [97,98,99,100]
           refine sx_hv sv150 1 [(102,pk B12_31 5)]
             ⟨yf r6 (fun _=>by kernel_rfl),trivial⟩ fun a151 w151 g151 sv151=>?_
           refine tl_sp (L:=[[.int .i64 ad],[.slice ao29 ds.length cap29],[.int .i64 1],[.slice wo j wc],[.slice ao143 ((cry (encV x) ck)).length cap143],bv zero32]) (i:=5) sv151 r7 (tyD ((tgK ck ad (cry (encV x) ck))) (tgK_dg _ _ _).1) (rw_kn g151 HB12_31) rfl rfl (lenDD zero32_dg (tgK_dg _ _ _)) fun w152 g152 h152=>?_
           replace HB5_2:=rw_s2 g151 g152 HB5_2 (Ne.symm ne_B12_31_B5_2)
           replace HB9_3:=rw_s2 g151 g152 HB9_3 (Ne.symm ne_B12_31_B9_3)
           replace HB10_4:=rw_s2 g151 g152 HB10_4 (Ne.symm ne_B12_31_B10_4)
           replace HB11_5:=rw_s2 g151 g152 HB11_5 (Ne.symm ne_B12_31_B11_5)
           replace HB19_97:=rw_s2 g151 g152 HB19_97 ne_B19_97_B12_31
           replace hr:=(hr.kn g151).offR g152 (no_b ap_hr_B12_31)
           replace ho:=(ho.kn g151).offR g152 (no_b ap_ho_B12_31)
           replace oc:=(oc.kn g151).offR g152 (no_b ap_oc_B12_31)
           replace op:=(op.kn g151).offR g152 (no_b ap_op_B12_31)
           replace okk:=(okk.kn g151).offR g152 (no_b ap_okk_B12_31)
           replace ow:=(ow.kn g151).offR g152 (no_b ap_ow_B12_31)
           replace oy_:=(oy_.kn g151).offR g152 (no_b ap_oy__B12_31)
           replace HG:=grown_newR (grown_trans HG g151) g152 lo_B12_31
           replace HB12_31:=h152
           refine tl_nil ?_
           refine k147 _ _ ?_
           refine wp_seq_k fun K153 k153=>?_
           refine wp_region_lit ?_
           refine sx_hv sv151 1 [(103,sdval ad (.slice ao29 ds.length cap29) 1 (.slice wo j wc) (.slice ao143 ((cry (encV x) ck)).length cap143) ((tgK ck ad (cry (encV x) ck))))]
             ⟨yl r6 (tySd _ _ (tgK_dg _ _ _) (.slice ao29 ds.length cap29) (.slice wo j wc) (.slice ao143 ((cry (encV x) ck)).length cap143) rfl rfl rfl) HB12_31,trivial⟩ fun a154 w154 g154 sv154=>?_
           refine tl_sw sv154 r7 (tySd _ _ (tgK_dg _ _ _) (.slice ao29 ds.length cap29) (.slice wo j wc) (.slice ao143 ((cry (encV x) ck)).length cap143) rfl rfl rfl) (rw_kn g154 HB10_4) (sd_size zero32_dg (tgK_dg _ _ _)) fun w155 g155 h155=>?_
           replace HB5_2:=rw_s2 g154 g155 HB5_2 (Ne.symm ne_B10_4_B5_2)
           replace HB9_3:=rw_s2 g154 g155 HB9_3 (Ne.symm ne_B10_4_B9_3)
           replace HB11_5:=rw_s2 g154 g155 HB11_5 ne_B11_5_B10_4
           replace HB12_31:=rw_s2 g154 g155 HB12_31 ne_B12_31_B10_4
           replace HB19_97:=rw_s2 g154 g155 HB19_97 ne_B19_97_B10_4
           replace hr:=(hr.kn g154).offR g155 (no_b ap_hr_B10_4)
           replace ho:=(ho.kn g154).offR g155 (no_b ap_ho_B10_4)
           replace oc:=(oc.kn g154).offR g155 (no_b ap_oc_B10_4)
           replace op:=(op.kn g154).offR g155 (no_b ap_op_B10_4)
           replace okk:=(okk.kn g154).offR g155 (no_b ap_okk_B10_4)
           replace ow:=(ow.kn g154).offR g155 (no_b ap_ow_B10_4)
           replace oy_:=(oy_.kn g154).offR g155 (no_b ap_oy__B10_4)
           replace HG:=grown_newR (grown_trans HG g154) g155 lo_B10_4
           replace HB10_4:=h155
           refine tl_sw sv154 r7 (tyE 0) HB11_5 rfl fun w156 g156 h156=>?_
           replace HB5_2:=rw_st g156 HB5_2 (Ne.symm ne_B11_5_B5_2)
           replace HB9_3:=rw_st g156 HB9_3 (Ne.symm ne_B11_5_B9_3)
           replace HB10_4:=rw_st g156 HB10_4 (Ne.symm ne_B11_5_B10_4)
           replace HB12_31:=rw_st g156 HB12_31 ne_B12_31_B11_5
           replace HB19_97:=rw_st g156 HB19_97 ne_B19_97_B11_5
           replace hr:=hr.offR g156 (no_b ap_hr_B11_5)
           replace ho:=ho.offR g156 (no_b ap_ho_B11_5)
           replace oc:=oc.offR g156 (no_b ap_oc_B11_5)
           replace op:=op.offR g156 (no_b ap_op_B11_5)
           replace okk:=okk.offR g156 (no_b ap_okk_B11_5)
           replace ow:=ow.offR g156 (no_b ap_ow_B11_5)
           replace oy_:=oy_.offR g156 (no_b ap_oy__B11_5)
           replace HG:=grown_newR HG g156 lo_B11_5
           replace HB11_5:=h156
           refine tl_nil ?_
           refine k153 _ _ ?_
           refine wp_ret ?_
           repeat refine then_ret ?_
           refine cx_retD (fn:=Tryz.f20) sv154 (res_cell2 (p:=10) (q:=11) Tryz.results20 sv154 rfl rfl rfl rfl (tySd _ _ (tgK_dg _ _ _) (.slice ao29 ds.length cap29) (.slice wo j wc) (.slice ao143 ((cry (encV x) ck)).length cap143) rfl rfl rfl) (tyE 0) HB10_4 HB11_5) (inv_of Tryz.func49 (by kernel_rfl) rfl _ _) (recSeal_walk _ _ _) ?_
           exact SRes.mk (own:=ds) (wr:=(wrL ck hck kl j)) (sealO_ok hh hv hne hK2 hkm hcke) rfl (wrL_len (by omega)) rfl hown (hwr.trans (map_map_x kl ck)) oc ow oy_ lo_oc lo_ow lo_oy_ ap_oc_ow (tgK_dg _ _ _) (cry_by _ (encV_by x)) HG rfl
end Go.Proofs.YtbfjfnbcmojpiaaGreat
