import Derived.Test.YtbfjfnbcmojpiaaGreatYE
namespace Go.Proofs.YtbfjfnbcmojpiaaGreat
open Go.RowKit Go.Shelf
set_option linter.unusedSimpArgs false
set_option linter.unusedVariables false
theorem decO_enc (x:V):decO (encV x)=(x.clean,0):=by
 have h:=(cd_V x).rt []
 rw [List.append_nil] at h
 exact decO_ok h
theorem encV_64 (x:V):(encV x).length≤64:=Nat.le_trans (encV_len x) (by decide)
theorem cry_back (b c:List Nat):cry (cry b c) c=b:=by
 unfold cry
 rw [xorL_len (by rw [sq_len];exact Nat.le_refl _)]
 exact xorL_back (by rw [sq_len];exact Nat.le_refl _)
theorem open_clear {P P':List VP} {joint a:Int} {x:V} (h:hd [] joint a=true) (hv:vldV P=true) (hv':vldV P'=true):openO P' (sealO P [] joint a x).1=(x.clean,0):=by
 rw [sealO_nil h hv]
 rw [openO_clear (by unfold vldS;simp [h,encV_64]) hv' rfl,if_pos rfl,decO_enc]
theorem open_any {P:List VP} {own:List (List Nat)} {a:Int} {x:V} (h:hd own 0 a=true) (hv:vldV P=true) (hne:own≠[]) (hk:(keysO P a own).2=0):openO P (sealO P own 0 a x).1=(x.clean,0):=by
 rw [sealO_ok h hv hne hk rfl rfl]
 have hr:recO P ⟨a,own,0,if (0:Int)=1 then (keysO P a own).1.map (wrp (cky (decide ((0:Int)=1)) (keysO P a own).1)) else [],cry (encV x) (cky (decide ((0:Int)=1)) (keysO P a own).1),tgK (cky (decide ((0:Int)=1)) (keysO P a own).1) a (cry (encV x) (cky (decide ((0:Int)=1)) (keysO P a own).1))⟩=some (cky (decide ((0:Int)=1)) (keysO P a own).1):=by
   unfold recO
   rw [if_neg (show ¬ (0:Int)=1 by decide),if_pos hk]
 rw [openO_key (by unfold vldS;simp [h,cry_len,encV_64]) hv hne hr,if_pos rfl,cry_back,decO_enc]
theorem cellsV:Tryz.prog.cellsOf 25=3:=by kernel_rfl
theorem cellsS:Tryz.prog.cellsOf 9=1:=by kernel_rfl
theorem lits_iC (d:Nat) (x:Int) (h:-9223372036854775808≤x∧x≤9223372036854775807):Tryz.prog.keyLits (d+1) 3 [.int .i64 x]=some [.int .i64 x]:=by
 unfold Program.keyLits
 rw [Tryz.underlying3]
 simp [Lit.wf,IntKind.min,IntKind.max,IntKind.signed,IntKind.bits]
 omega
theorem lits_i6C (d:Nat) (x:Int) (h:-9223372036854775808≤x∧x≤9223372036854775807):Tryz.prog.keyLits (d+1) 2 [.int .i64 x]=some [.int .i64 x]:=by
 unfold Program.keyLits
 rw [Tryz.underlying2]
 simp [Lit.wf,IntKind.min,IntKind.max,IntKind.signed,IntKind.bits]
 omega
theorem lits_s (d:Nat) (s:ByteArray) (h:s.size≤1000000):Tryz.prog.keyLits (d+1) 9 [.string s]=some [.string s.data.toList]:=by
 unfold Program.keyLits
 rw [Tryz.underlying9]
 simp only
 rw [if_pos (Nat.le_trans h (by decide))]
theorem lits_v (d:Nat) (x:V) (hk:In64 x.kind) (hi:In64 x.int) (ht:x.text.size≤1000000):Tryz.prog.keyLits (d+2) 25 (vc x)=some [.int .i64 x.kind,.int .i64 x.int,.string x.text.data.toList]:=by
 unfold Program.keyLits
 rw [Tryz.underlying25]
 simp only
 rw [if_pos ⟨by rw [cellsV];rfl,by kernel_rfl⟩]
 have e0:((vc x).drop 0).take 1=[.int .i64 x.kind]:=rfl
 have e1:((vc x).drop 1).take 1=[.int .i64 x.int]:=rfl
 have e2:((vc x).drop 2).take 1=[.string x.text]:=rfl
 simp only [List.mapM_cons,List.mapM_nil,cellsI,cellsI6,cellsS,e0,e1,e2,lits_iC d x.kind ⟨by have:=hk.1;omega,by have:=hk.2;omega⟩,lits_i6C d x.int ⟨by have:=hi.1;omega,by have:=hi.2;omega⟩,lits_s d x.text ht]
 simp
theorem val_eql {x:V} (h:x.ok) {px py:Operand} {w:World}:(do eqGuard .eql 25 px py (xval x) (xval x);binOp .eql 25 (xval x) (xval x):Sem Value).run Tryz.prog w=.ok (.bool true) w:=
 (deepEq 25 6 (by decide) (by kernel_rfl) (by kernel_rfl) (xs:=vc x) (ys:=vc x) (by simp [Value.formed,Tryz.underlying25,cellsV,vc]) (by simp [Value.formed,Tryz.underlying25,cellsV,vc]) (lits_v 0 x (V.ok_kind h).1 (V.ok_kind h).2 (Nat.le_trans (V.ok_text h) (by decide))) (lits_v 0 x (V.ok_kind h).1 (V.ok_kind h).2 (Nat.le_trans (V.ok_text h) (by decide))) (r:=true) (by simp) px py w).1
theorem rn_eqlS {P:Program} {t:TypeId} {x y:Operand} {w:World} {a b:ByteArray} {r:Bool} (h:(a.toList == b.toList)=r):(do eqGuard .eql t x y (.string a) (.string b);binOp .eql t (.string a) (.string b):Sem Value).run P w=.ok (.bool r) w:=by
 subst h
 simp [eqGuard,binOp_string_eql]
theorem b22:((bs [2,2]).toList == (⟨#[2,2]⟩:ByteArray).toList)=true:=by
 rw [show (⟨#[2,2]⟩:ByteArray)=bs [2,2] from rfl]
 simp
theorem ox_convS {P:Program} {ops:Array Oper} {L:Nat→Sp} {n:Nat} {w0:World} {o:Oper} {x:Operand} {src dst e d:Nat} {v:Value} {l:List Nat} (hs:P.underlying src=some (.slice e)) (he:P.underlying e=some (.int .u8)) (hd:P.underlying dst=some .string) (ho:o.op=.convert src dst x) (hd':o.dst=some d) (hg:GX ops L n o.guard) (hx:OpX L n x v) (hr:∀ w,w0.grownBy w none→Sl w 1 v l.length (bv l)) (h:∀ w,(L d).on w (.string (bs l))):OX P ops L n w0 o:=
 ox_run hg fun a w hw hl hsz=>⟨.string (bs l),by
   have e1:=hx.eval (o:=o) (a:=a) (w:=w) (by simp [ho,Op.operands]) hl
   simp only [execOp,ho,e1,Sem.run_bind,Sem.run_pure,Result.andThen_ok,run_conv src dst e hs he hd (hr w hw)],dst_on hd' (h w)⟩
theorem seal_n {w0:World} {ks:List VK} {vo:Option Addr} {vc_:Nat} {sa po:List Nat} {P:List VP} {joint ad:Int} {x:V} {r:Sd×Int} (hsa:Dg sa) (hpo:Dg po) (hr:RdK w0 (.slice vo ks.length vc_) ks) (hP:ks.map VK.p=P) (hres:sealO P [] joint ad x=r) :
   ∀ W,w0.grownBy W none→Calls Tryz.prog 20 #[vval sa po (.slice vo ks.length vc_),.slice none 0 0,.int .i64 joint,.int .i64 ad,xval x] W fun e w'=>∃ v,e=.returned v∧W.grownBy w' none∧(Sp.sr w0.heap.size r).on w' v:=fun W g =>
 seal_y hsa hpo (hr.kn g) hP (ds:=[]) (RdD.nil W) (by decide) g.size hres
theorem lit_y {W:World} {B:Nat} {d:List Nat} {v:Value} (hd:Dg d) (h:(Sp.lit1 B 23 (bv d)).on W v):RdD W v [⟨d,hd⟩]:=by
 obtain ⟨A,rfl,h1,h2⟩:=h
 refine ⟨?_,fun k hk=>?_⟩
 · have:=sl_oneD h2 hd
   simpa [dcs] using this
 · obtain rfl:=Option.some.inj hk
   exact (Array.getElem?_eq_some_iff.1 h2).1
section
variable {W:World} {ks:List VK} {vo:Option Addr} {vc_:Nat} {sa po:List Nat} {P:List VP} {s:Sd} {own wr:List DD} {ao wo bo:Option Addr} {ac wc bc:Nat} {q:V×Int}
theorem open_y (hsa:Dg sa) (hpo:Dg po) (hr:RdK W (.slice vo ks.length vc_) ks) (hP:ks.map VK.p=P) (h:SdF W s own wr ao wo bo ac wc bc) (hq:openO P s=q) :
   Calls Tryz.prog 22 #[vval sa po (.slice vo ks.length vc_),sdval s.addr (.slice ao (List.length own) ac) s.joint (.slice wo (List.length wr) wc) (.slice bo s.body.length bc) s.tag] W fun e w'=>e=.returned (.tuple #[xval q.1,.int .i64 q.2])∧W.grownBy w' none:=
 open_c hsa hpo h.tg h.by hr h.ro h.rw h.rb (by rw [hP,h.sd];exact hq)
end
theorem leafN {k:List Nat} {l:List Nd} {a:Int} (hk:Dg k) (hl:tree k []=l) (ha:isAddr a=true):∃ K,Dg K∧leafOf l a=(K,0):=by
 refine ⟨(desc a 34 (root k)).k,desc_dg _ _ _ hk,?_⟩
 rw [← hl,leaf_tree k [] a (tree_new_vld k) ha,if_neg (by simp)]
def dgb (k:Nat):List Nat:=k :: zs 31
theorem dgb_dg {k:Nat} (h:k < 256):Dg (dgb k):=⟨rfl,fun x hx=>by simp [dgb,zs] at hx;omega⟩
theorem bDg1 (k:Nat) (w:World):(Instr.build 23 #[(0,.int .u8 (k:Int))]).run Tryz.prog w=.ok (dval (dgb k)) w:=by kernel_rfl
theorem vint_ok (n:Int):(vint n).ok:=V.clean_ok _
theorem vint_clean (n:Int):(vint n).clean=vint n:=V.clean_of (vint_ok n)
set_option maxRecDepth 100000 in
set_option maxHeartbeats 4000000 in
theorem awake_walk  (w:World) :
   Calls Tryz.prog 13 #[] w fun e w'=>e=.returned (.bool true)∧w.grownBy w' none:=by
 obtain ⟨T,hT⟩:∃ T,tree (kd 275 (kd 274 (dgb 7))) []=T:=⟨_,rfl⟩
 have hTv:vld T=true:=hT▸tree_new_vld _
 obtain ⟨P,hP⟩:∃ P,insV [] (dgb 1) T=P:=⟨_,rfl⟩
 have hv:vldV P=true:=hP▸insV_vld rfl rfl (by decide) hTv
 have hm:(dgb 1,T) ∈ P:=by rw [← hP];exact mem_ins.2 (.inl rfl)
 obtain ⟨K,hKd,hK⟩:=leafN (kd_dg 275 (kd 274 (dgb 7))) hT (a:=5) rfl
 have hk:=keyO_tr (a:=5) rfl hv (tr_uniq (Srt.of hv) hm) hK
 obtain ⟨r1,hr1⟩:∃ r,sealO P [] 0 0 (vint 1)=r:=⟨_,rfl⟩
 have hn:=sealO_nil (P:=P) (joint:=0) (a:=0) (x:=vint 1) rfl hv
 have hz1:r1.2=0:=by rw [← hr1,hn]
 have hb1:r1.1.body=[2,2]:=by rw [← hr1,hn];decide +kernel
 have hk5:(keysO P 5 [dgb 1]).2=0:=by unfold keysO;rw [hk,if_pos rfl];rfl
 obtain ⟨r2,hr2⟩:∃ r,sealO P [dgb 1] 0 5 (vint 9)=r:=⟨_,rfl⟩
 have hz2:r2.2=0:=by rw [← hr2,sealO_ok (K:=_) rfl hv (by simp) hk5 rfl rfl]
 have hq:openO P r2.1=(vint 9,0):=by rw [← hr2,open_any rfl hv (by simp) hk5,vint_clean]
 refine cx_enter Tryz.func13 rfl Tryz.ntmps13 rfl fun a0 sv0=>?_
 have HG:=World.grownBy.refl w none
 replace sv0:Sv 61 [] [] a0:=sv0
 refine wp_seq_k fun K1 k1=>?_
 refine wp_region_lit ?_
 refine tl_as (v:=.bool false) sv0 r6 fun a2 sv2=>?_
 refine tl_nil ?_
 refine k1 _ _ ?_
 refine wp_seq_k fun K3 k3=>?_
 refine wp_region_lit ?_
 refine sx_head (sv2.st w) 7 [(10,Sp.is (dval ((dgb 7)))),(11,Sp.is (vval ((kd 273 (dgb 7))) ((kd 274 (dgb 7))) (.slice none 0 0))),(12,Sp.is (dval ((dgb 1)))),(13,Sp.vt ((P,(kd 273 (dgb 7)),(kd 276 (kd 274 (dgb 7)))),(0:Int)) ((fun _=>False))),(9,Sp.vt ((P,(kd 273 (dgb 7)),(kd 276 (kd 274 (dgb 7)))),(0:Int)) ((fun _=>False))),(14,Sp.vv (P,(kd 273 (dgb 7)),(kd 276 (kd 274 (dgb 7)))) ((fun _=>False))),(15,Sp.is (.int .i64 0))] rfl (by kernel_rfl) (by kernel_rfl) (by kernel_rfl)
   ⟨ox_build (vs:=[.int .u8 7]) rfl rfl trivial ⟨rfl,trivial⟩ (fun _=>bDg1 7 _) (fun _=>rfl),ox_call (Sp.is (vval ((kd 273 (dgb 7))) ((kd 274 (dgb 7))) (.slice none 0 0))) [dval ((dgb 7))] rfl rfl trivial ⟨(oy rfl rfl),trivial⟩ (is_on fun W g=>newv_walk (dgb 7) (dgb_dg (by decide)) W) (fun _ _ h=>h) (enter_of Tryz.func24 (by kernel_rfl) rfl),ox_build (vs:=[.int .u8 1]) rfl rfl trivial ⟨rfl,trivial⟩ (fun _=>bDg1 1 _) (fun _=>rfl),ox_call (Sp.vt ((P,(kd 273 (dgb 7)),(kd 276 (kd 274 (dgb 7)))),(0:Int)) ((fun _=>False))) [vval ((kd 273 (dgb 7))) ((kd 274 (dgb 7))) (.slice none 0 0),dval ((dgb 1))] rfl rfl trivial ⟨(oy rfl rfl),(oy rfl rfl),trivial⟩ (ens_on (ks:=[]) (kd_dg _ _) (kd_dg _ _) (dgb_dg (by decide)) (RdK.nil _) rfl hT ((ensO_new rfl rfl (by decide)).trans (by rw [← hP];rfl))) (fun _ _ h=>h) (enter_of Tryz.func36 (by kernel_rfl) rfl),ym r5,ox_extract rfl rfl rfl trivial (fun w u h=>vt_vault w u h),ox_extract rfl rfl rfl trivial (fun w u h=>vt_err w u h),trivial⟩ fun a4 w4 g4 st4=>?_
 obtain ⟨hn4,hd4,e4_10,e4_11,e4_12,e4_13,e4_9,e4_14,e4_15,e4_0,-⟩:=st4
 obtain ⟨ao5,cap5,ks5,e4_14q,hp5,hk5,hf5⟩:=e4_14
 replace HG:=grown_trans HG g4
 have sv4:Sv 61 [] [(0,_),(14,_),(15,_)] a4:=⟨hn4,hd4,e4_0,e4_14q,e4_15,trivial⟩
 refine tl_alloc (T:=36) (Z:=([bv zero32,bv zero32,[.slice none 0 0]].flatten)) sv4 rfl rfl rfl (fun a w=>by kernel_rfl) fun a6 w6 B1_6 eq_B1_6 g6 z6 HB1_6 sv6=>?_
 have lo_B1_6:=nb_lo HG eq_B1_6
 have ap_hk5_B1_6:=nb_ap (hk5.lt) eq_B1_6
 replace hk5:=hk5.kn g6
 replace HG:=grown_trans HG g6
 refine tl_sw sv6 r7 (tyVa (kd_dg _ _) (kd_dg _ _) (.slice ao5 ks5.length cap5) rfl) HB1_6 (by first | rfl | simp [kcells,bv_length,zero32_len,(kd_dg _ _).1,(kd_dg _ _).1]) fun w7 g7 h7=>?_
 replace hk5:=hk5.offR g7 (no_b ap_hk5_B1_6)
 replace HG:=grown_newR HG g7 lo_B1_6
 replace HB1_6:=h7
 refine tl_as (v:=.int .i64 0) sv6 r6 fun a8 sv8=>?_
 refine tl_nil ?_
 refine k3 _ _ ?_
 refine wp_seq_k fun K9 k9=>?_
 refine rx_tail (sv8.st w7) (by kernel_rfl) 7 [(17,Sp.is (vval ((kd 273 (dgb 7))) ((kd 276 (kd 274 (dgb 7)))) (.slice ao5 ks5.length cap5))),(18,Sp.is (xval ((vint 1)))),(19,Sp.sr w7.heap.size r1),(16,Sp.sr w7.heap.size r1),(20,Sp.sl w7.heap.size r1.1),(21,Sp.is (.int .i64 r1.2)),(3,Sp.new w7.heap.size (([[.int .i64 0],[.slice none 0 0],[.int .i64 0],[.slice none 0 0],[.slice none 0 0],bv zero32].flatten)) 31)] rfl (by kernel_rfl) (by kernel_rfl) (by kernel_rfl) [5] (by kernel_rfl)
   ⟨yl r6 (tyVa (kd_dg _ _) (kd_dg _ _) (.slice ao5 ks5.length cap5) rfl) HB1_6,ox_call (Sp.is (xval ((vint 1)))) [.int .i64 1] rfl rfl trivial ⟨rfl,trivial⟩ (is_on fun W g=>rInt_walk 1 W) (fun _ _ h=>h) (enter_of Tryz.func37 (by kernel_rfl) rfl),ox_call (Sp.sr w7.heap.size r1) [vval ((kd 273 (dgb 7))) ((kd 276 (kd 274 (dgb 7)))) (.slice ao5 ks5.length cap5),.slice none 0 0,.int .i64 0,.int .i64 0,xval ((vint 1))] rfl rfl trivial ⟨(oy rfl rfl),rfl,rfl,rfl,(oy rfl rfl),trivial⟩ (seal_n (kd_dg _ _) (kd_dg _ _) hk5 hp5 hr1) (fun _ _ h=>h) (enter_of Tryz.func20 (by kernel_rfl) rfl),ym r5,ox_extract rfl rfl rfl trivial (fun w u h=>sr_sl w u h),ox_extract rfl rfl rfl trivial (fun w u h=>sr_err w u h),ox_alloc rfl trivial (Nat.le_refl _) (fun a w=>by kernel_rfl) (fun _ _ h=>h),trivial⟩ ⟨fun o ho=>by obtain rfl:=Option.some.inj ho;exact px_extract rfl rfl rfl trivial (fun w u h=>sr_err w u h),trivial⟩
   [3] (by kernel_rfl) ⟨Sp.new_lt,trivial⟩ ⟨.inl rfl,.inl rfl,.inl rfl,.inl rfl,.inl rfl,.inl rfl,.inr ⟨rfl,(([[.int .i64 0],[.slice none 0 0],[.int .i64 0],[.slice none 0 0],[.slice none 0 0],bv zero32].flatten)).toArray,31,fun a w=>by kernel_rfl⟩,trivial⟩ (by kernel_rfl) fun a10 w10 g10 st10 nd10=>?_
 obtain ⟨hn10,hd10,e10_17,e10_18,e10_19,e10_16,e10_20,e10_21,e10_3,e10_2,e10_1,e10_0,e10_14,e10_15,-⟩:=st10
 obtain ⟨own11,wr11,ao11,wo11,bo11,ac11,wc11,bc11,e10_20q,hF1,fr11⟩:=e10_20
 obtain ⟨B3_10,e10_3q,ge_B3_10,HB3_10⟩:=e10_3
 have ne_B3_10_B1_6:=nh_ne HB1_6 ge_B3_10
 have lo_B3_10:=nh_lo HG ge_B3_10
 have ap_hk5_B3_10:=nh_ap (hk5.lt) ge_B3_10
 have ap_hF1_B1_6:=fr_ap fr11 HB1_6
 have lo_hF1:∀ k,fpSd (.slice ao11 (List.length own11) ac11) (.slice wo11 (List.length wr11) wc11) (.slice bo11 r1.1.body.length bc11) k→w.heap.size≤k:=fun k hk=>Nat.le_trans HG.size (fr11 k hk)
 replace HB1_6:=rw_kn g10 HB1_6
 replace hk5:=hk5.kn g10
 replace HG:=grown_trans HG g10
 have ap_hF1_B3_10:=SdF.ap hF1 HB3_10 (by decide)
 have sv10:Sv 61 [] [(2,_),(1,_),(0,_),(14,_),(15,_),(20,_),(21,_),(3,_)] a10:=⟨hn10,hd10,e10_2,e10_1,e10_0,e10_14,e10_15,e10_20q,e10_21,e10_3q,trivial⟩
 refine tl_sw sv10 r7 (tySd _ _ hF1.tg (.slice ao11 (List.length own11) ac11) (.slice wo11 (List.length wr11) wc11) (.slice bo11 r1.1.body.length bc11) rfl rfl rfl) HB3_10 (sd_size zero32_dg hF1.tg) fun w12 g12 h12=>?_
 replace HB1_6:=rw_st g12 HB1_6 (Ne.symm ne_B3_10_B1_6)
 replace hk5:=hk5.offR g12 (no_b ap_hk5_B3_10)
 replace hF1:=hF1.offR g12 (no_b ap_hF1_B3_10)
 replace HG:=grown_newR HG g12 lo_B3_10
 replace HB3_10:=h12
 refine tl_as (v:=.int .i64 r1.2) sv10 r6 fun a13 sv13=>?_
 refine tl_nil ?_
 refine k9 _ _ ?_
 refine wp_seq_k fun K14 k14=>?_
 refine rx_tail (sv13.st w12) (by kernel_rfl) 9 [(23,Sp.is (vval ((kd 273 (dgb 7))) ((kd 276 (kd 274 (dgb 7)))) (.slice ao5 ks5.length cap5))),(24,Sp.is (dval ((dgb 1)))),(25,Sp.lit1 w12.heap.size 23 (bv (dgb 1))),(26,Sp.is (xval ((vint 9)))),(27,Sp.sr w12.heap.size r2),(22,Sp.sr w12.heap.size r2),(28,Sp.sl w12.heap.size r2.1),(29,Sp.is (.int .i64 r2.2)),(5,Sp.new w12.heap.size (([[.int .i64 0],[.slice none 0 0],[.int .i64 0],[.slice none 0 0],[.slice none 0 0],bv zero32].flatten)) 31)] rfl (by kernel_rfl) (by kernel_rfl) (by kernel_rfl) [7] (by kernel_rfl)
   ⟨yl r6 (tyVa (kd_dg _ _) (kd_dg _ _) (.slice ao5 ks5.length cap5) rfl) HB1_6,ox_build (vs:=[.int .u8 1]) rfl rfl trivial ⟨rfl,trivial⟩ (fun _=>bDg1 1 _) (fun _=>rfl),ox_lit1 rfl rfl trivial (Nat.le_refl _) rfl (fun W hw v h=>match v,h with | _,⟨rfl,_⟩=>⟨bv (dgb 1),bS1D (dgb_dg (by decide)) W,fun w' _ hh=>⟨_,rfl,hw.size,hh⟩⟩),ox_call (Sp.is (xval ((vint 9)))) [.int .i64 9] rfl rfl trivial ⟨rfl,trivial⟩ (is_on fun W g=>rInt_walk 9 W) (fun _ _ h=>h) (enter_of Tryz.func37 (by kernel_rfl) rfl),ox_callY (Sp.sr w12.heap.size r2) rfl rfl trivial rfl (fun W g av h=>match av,h with | [_,_,_,_,_],⟨rfl,hv,rfl,rfl,rfl,_⟩=>seal_y (kd_dg _ _) (kd_dg _ _) (hk5.kn g) hp5 (lit_y (dgb_dg (by decide)) hv) (by decide) g.size hr2) (fun _ _ h=>h) (enter_of Tryz.func20 (by kernel_rfl) rfl),ym r5,ox_extract rfl rfl rfl trivial (fun w u h=>sr_sl w u h),ox_extract rfl rfl rfl trivial (fun w u h=>sr_err w u h),ox_alloc rfl trivial (Nat.le_refl _) (fun a w=>by kernel_rfl) (fun _ _ h=>h),trivial⟩ ⟨fun o ho=>by obtain rfl:=Option.some.inj ho;exact px_extract rfl rfl rfl trivial (fun w u h=>sr_err w u h),trivial⟩
   [5] (by kernel_rfl) ⟨Sp.new_lt,trivial⟩ ⟨.inl rfl,.inl rfl,.inl rfl,.inl rfl,.inl rfl,.inl rfl,.inl rfl,.inl rfl,.inr ⟨rfl,(([[.int .i64 0],[.slice none 0 0],[.int .i64 0],[.slice none 0 0],[.slice none 0 0],bv zero32].flatten)).toArray,31,fun a w=>by kernel_rfl⟩,trivial⟩ (by kernel_rfl) fun a15 w15 g15 st15 nd15=>?_
 obtain ⟨hn15,hd15,e15_23,e15_24,e15_25,e15_26,e15_27,e15_22,e15_28,e15_29,e15_5,e15_4,e15_2,e15_1,e15_0,e15_14,e15_15,e15_20,e15_21,e15_3,-⟩:=st15
 obtain ⟨own16,wr16,ao16,wo16,bo16,ac16,wc16,bc16,e15_28q,hF2,fr16⟩:=e15_28
 obtain ⟨B5_15,e15_5q,ge_B5_15,HB5_15⟩:=e15_5
 have ne_B5_15_B1_6:=nh_ne HB1_6 ge_B5_15
 have ne_B5_15_B3_10:=nh_ne HB3_10 ge_B5_15
 have lo_B5_15:=nh_lo HG ge_B5_15
 have ap_hk5_B5_15:=nh_ap (hk5.lt) ge_B5_15
 have ap_hF1_B5_15:=nh_ap (hF1.lt) ge_B5_15
 have ap_hF2_B1_6:=fr_ap fr16 HB1_6
 have ap_hF2_B3_10:=fr_ap fr16 HB3_10
 have lo_hF2:∀ k,fpSd (.slice ao16 (List.length own16) ac16) (.slice wo16 (List.length wr16) wc16) (.slice bo16 r2.1.body.length bc16) k→w.heap.size≤k:=fun k hk=>Nat.le_trans HG.size (fr16 k hk)
 replace HB1_6:=rw_kn g15 HB1_6
 replace HB3_10:=rw_kn g15 HB3_10
 replace hk5:=hk5.kn g15
 replace hF1:=hF1.kn g15
 replace HG:=grown_trans HG g15
 have ap_hF2_B5_15:=SdF.ap hF2 HB5_15 (by decide)
 have sv15:Sv 61 [] [(4,_),(2,_),(1,_),(0,_),(14,_),(15,_),(20,_),(21,_),(3,_),(28,_),(29,_),(5,_)] a15:=⟨hn15,hd15,e15_4,e15_2,e15_1,e15_0,e15_14,e15_15,e15_20,e15_21,e15_3,e15_28q,e15_29,e15_5q,trivial⟩
 refine tl_sw sv15 r7 (tySd _ _ hF2.tg (.slice ao16 (List.length own16) ac16) (.slice wo16 (List.length wr16) wc16) (.slice bo16 r2.1.body.length bc16) rfl rfl rfl) HB5_15 (sd_size zero32_dg hF2.tg) fun w17 g17 h17=>?_
 replace HB1_6:=rw_st g17 HB1_6 (Ne.symm ne_B5_15_B1_6)
 replace HB3_10:=rw_st g17 HB3_10 (Ne.symm ne_B5_15_B3_10)
 replace hk5:=hk5.offR g17 (no_b ap_hk5_B5_15)
 replace hF1:=hF1.offR g17 (no_b ap_hF1_B5_15)
 replace hF2:=hF2.offR g17 (no_b ap_hF2_B5_15)
 replace HG:=grown_newR HG g17 lo_B5_15
 replace HB5_15:=h17
 refine tl_as (v:=.int .i64 r2.2) sv15 r6 fun a18 sv18=>?_
 refine tl_nil ?_
 refine k14 _ _ ?_
 refine wp_seq_k fun K19 k19=>?_
 refine wp_region_lit ?_
 refine sx_hv sv18 6 [(31,vval ((kd 273 (dgb 7))) ((kd 276 (kd 274 (dgb 7)))) (.slice ao5 ks5.length cap5)),(32,sdval r2.1.addr (.slice ao16 (List.length own16) ac16) r2.1.joint (.slice wo16 (List.length wr16) wc16) (.slice bo16 r2.1.body.length bc16) r2.1.tag),(33,.tuple #[xval ((vint 9)),.int .i64 0]),(30,.tuple #[xval ((vint 9)),.int .i64 0]),(34,xval ((vint 9))),(35,.int .i64 0)]
   ⟨yl r6 (tyVa (kd_dg _ _) (kd_dg _ _) (.slice ao5 ks5.length cap5) rfl) HB1_6,yl r6 (tySd _ _ hF2.tg (.slice ao16 (List.length own16) ac16) (.slice wo16 (List.length wr16) wc16) (.slice bo16 r2.1.body.length bc16) rfl rfl rfl) HB5_15,ox_call (Sp.is (.tuple #[xval ((vint 9)),.int .i64 0])) [vval ((kd 273 (dgb 7))) ((kd 276 (kd 274 (dgb 7)))) (.slice ao5 ks5.length cap5),sdval r2.1.addr (.slice ao16 (List.length own16) ac16) r2.1.joint (.slice wo16 (List.length wr16) wc16) (.slice bo16 r2.1.body.length bc16) r2.1.tag] rfl rfl trivial ⟨(oy rfl rfl),(oy rfl rfl),trivial⟩ (is_on fun W g=>open_y (q:=(vint 9,0)) (kd_dg _ _) (kd_dg _ _) (hk5.kn g) hp5 (hF2.kn g) hq) (fun _ _ h=>h) (enter_of Tryz.func22 (by kernel_rfl) rfl),ym r5,ox_extract rfl rfl rfl trivial (fun _ _ h=>⟨_,_,h,rfl,rfl⟩),ox_extract rfl rfl rfl trivial (fun _ _ h=>⟨_,_,h,rfl,rfl⟩),trivial⟩ fun a20 w20 g20 sv20=>?_
 replace HB1_6:=rw_kn g20 HB1_6
 replace HB3_10:=rw_kn g20 HB3_10
 replace HB5_15:=rw_kn g20 HB5_15
 replace hk5:=hk5.kn g20
 replace hF1:=hF1.kn g20
 replace hF2:=hF2.kn g20
 replace HG:=grown_trans HG g20
 refine tl_alloc (T:=25) (Z:=[.int .i64 0,.int .i64 0,.string ⟨#[]⟩]) sv20 rfl rfl rfl (fun a w=>by kernel_rfl) fun a21 w21 B7_21 eq_B7_21 g21 z21 HB7_21 sv21=>?_
 have ne_B7_21_B1_6:=nb_ne HB1_6 eq_B7_21
 have ne_B7_21_B3_10:=nb_ne HB3_10 eq_B7_21
 have ne_B7_21_B5_15:=nb_ne HB5_15 eq_B7_21
 have lo_B7_21:=nb_lo HG eq_B7_21
 have ap_hk5_B7_21:=nb_ap (hk5.lt) eq_B7_21
 have ap_hF1_B7_21:=nb_ap (hF1.lt) eq_B7_21
 have ap_hF2_B7_21:=nb_ap (hF2.lt) eq_B7_21
 replace HB1_6:=rw_kn g21 HB1_6
 replace HB3_10:=rw_kn g21 HB3_10
 replace HB5_15:=rw_kn g21 HB5_15
 replace hk5:=hk5.kn g21
 replace hF1:=hF1.kn g21
 replace hF2:=hF2.kn g21
 replace HG:=grown_trans HG g21
 refine tl_sw sv21 r7 (tyV2 ((vint 9))) HB7_21 rfl fun w22 g22 h22=>?_
 replace HB1_6:=rw_st g22 HB1_6 (Ne.symm ne_B7_21_B1_6)
 replace HB3_10:=rw_st g22 HB3_10 (Ne.symm ne_B7_21_B3_10)
 replace HB5_15:=rw_st g22 HB5_15 (Ne.symm ne_B7_21_B5_15)
 replace hk5:=hk5.offR g22 (no_b ap_hk5_B7_21)
 replace hF1:=hF1.offR g22 (no_b ap_hF1_B7_21)
 replace hF2:=hF2.offR g22 (no_b ap_hF2_B7_21)
 replace HG:=grown_newR HG g22 lo_B7_21
 replace HB7_21:=h22
 refine tl_as (v:=.int .i64 0) sv21 r6 fun a23 sv23=>?_
 have sv24:Sv 61 [] [(8,_),(7,_),(6,_),(4,_),(2,_),(1,_),(0,_),(14,_),(15,_),(20,_),(21,_),(3,_),(28,_),(29,_),(5,_)] a23:=sv23.dl [31,32,33,30,34,35]
 refine tl_nil ?_
 refine k19 _ _ ?_
 refine wp_seq_k fun K25 k25=>?_
 refine rx_av (sv24.dl [0]) [(36,.int .i64 0),(37,.bool true),(38,.bool true),(39,.int .i64 r1.2),(40,.bool true),(41,.bool true),(42,.bool true),(43,pk B3_10 4),(44,.slice bo11 r1.1.body.length bc11),(45,.string (bs r1.1.body)),(46,.bool true),(47,.bool true),(48,.bool true),(49,.int .i64 r2.2),(50,.bool true),(51,.bool true),(52,.bool true),(53,.int .i64 0),(54,.bool true),(55,.bool true),(56,.bool true),(57,xval ((vint 9))),(58,xval ((vint 9))),(59,.bool true),(60,.bool true),(0,.bool true)]
   ⟨ym r5,ybc r6 (fun _=>rn_eql rfl),ym r5,ox_move 4 39 (.inl rfl) rfl rfl (gy rfl rfl rfl) (fun _ _ h=>h),ox_bin rfl rfl (gy rfl rfl rfl) (oy rfl rfl) rfl (fun _=>rn_eql (by rw [hz1];rfl)) (fun _=>rfl),ox_pick rfl rfl trivial (oy rfl rfl) (oy rfl rfl) (fun _=>rfl),ym r5,ox_field rfl rfl (gy rfl rfl rfl) (oy rfl rfl) (fun _=>by kernel_rfl) (fun _=>rfl),ox_load rfl rfl (gy rfl rfl rfl) (oy rfl rfl) (fun _ g=>loadsAt (tyBys (.slice bo11 r1.1.body.length bc11) rfl) (range_part (L:=[[.int .i64 r1.1.addr],[.slice ao11 (List.length own11) ac11],[.int .i64 r1.1.joint],[.slice wo11 (List.length wr11) wc11],[.slice bo11 r1.1.body.length bc11],bv r1.1.tag]) (i:=4) (row_of g HB3_10 (by simp)) rfl rfl)) (fun _=>rfl),ox_convS (l:=r1.1.body) Tryz.underlying29 Tryz.underlying5 Tryz.underlying9 rfl rfl (gy rfl rfl rfl) (oy rfl rfl) (fun W g=>(hF1.kn g).rb.1) (fun _=>rfl),ox_bin rfl rfl (gy rfl rfl rfl) (oy rfl rfl) rfl (fun _=>rn_eqlS (by rw [hb1];exact b22)) (fun _=>rfl),ox_pick rfl rfl trivial (oy rfl rfl) (oy rfl rfl) (fun _=>rfl),ym r5,ox_move 6 49 (.inl rfl) rfl rfl (gy rfl rfl rfl) (fun _ _ h=>h),ox_bin rfl rfl (gy rfl rfl rfl) (oy rfl rfl) rfl (fun _=>rn_eql (by rw [hz2];rfl)) (fun _=>rfl),ox_pick rfl rfl trivial (oy rfl rfl) (oy rfl rfl) (fun _=>rfl),ym r5,ox_move 8 53 (.inl rfl) rfl rfl (gy rfl rfl rfl) (fun _ _ h=>h),ox_bin rfl rfl (gy rfl rfl rfl) (oy rfl rfl) rfl (fun _=>rn_eql rfl) (fun _=>rfl),ox_pick rfl rfl trivial (oy rfl rfl) (oy rfl rfl) (fun _=>rfl),ym r5,ox_load rfl rfl (gy rfl rfl rfl) (oy rfl rfl) (fun _ g=>loadsAt (tyV2 ((vint 9))) (rangeAt_row (row_of g HB7_21 (by simp)))) (fun _=>rfl),ox_call (Sp.is (xval ((vint 9)))) [.int .i64 9] rfl rfl (gy rfl rfl rfl) ⟨rfl,trivial⟩ (is_on fun W g=>rInt_walk 9 W) (fun _ _ h=>h) (enter_of Tryz.func37 (by kernel_rfl) rfl),ox_bin rfl rfl (gy rfl rfl rfl) (oy rfl rfl) (oy rfl rfl) (fun _=>val_eql (vint_ok 9)) (fun _=>rfl),ox_pick rfl rfl trivial (oy rfl rfl) (oy rfl rfl) (fun _=>rfl),ox_move 60 0 (.inr rfl) rfl rfl trivial (fun _ _ h=>h),trivial⟩ fun a26 w26 g26 sv26=>?_
 refine k25 _ _ ?_
 replace HB1_6:=rw_kn g26 HB1_6
 replace HB3_10:=rw_kn g26 HB3_10
 replace HB5_15:=rw_kn g26 HB5_15
 replace HB7_21:=rw_kn g26 HB7_21
 replace hk5:=hk5.kn g26
 replace hF1:=hF1.kn g26
 replace hF2:=hF2.kn g26
 replace HG:=grown_trans HG g26
 refine wp_ret ?_
 repeat refine then_ret ?_
 refine cx_ret (fn:=Tryz.f13) sv26 (res_tmp (p:=0) Tryz.results13 sv26 rfl rfl) ?_
 exact ⟨rfl,HG⟩
end Go.Proofs.YtbfjfnbcmojpiaaGreat

namespace Go.Proofs.YtbfjfnbcmojpiaaGreat
open Go.RowKit Go.Shelf
set_option linter.unusedSimpArgs false
set_option linter.unusedVariables false
theorem setD_zero:∀ i,setD 0 i=[]
 | 0=>rfl
 | i+1=>by
   have h:¬ sbit 0 i=1:=by unfold sbit;rw [Int.zero_ediv];decide +kernel
   rw [show setD 0 (i+1)=setD 0 i from if_neg h,setD_zero i]
theorem jt_hd (b:Bool) (a:Int):hd [] (jt b) (adrC a)=true:=by
 unfold hd
 rw [adrC_isAddr]
 cases b <;> rfl
theorem V6_vld (seed:List Nat):vldV (V6 seed).1=true:=(vltP_inv seed 6 (by decide)).1
theorem V6_dg (seed:List Nat):Dg (V6 seed).2.1∧Dg (V6 seed).2.2:=⟨kd_dg _ _,pjC_dg _ _⟩
theorem vault_on {w0:World} {seed:List Nat} (hse:Dg seed):∀ W,w0.grownBy W none→Calls Tryz.prog 14 #[dval seed] W fun e w'=>∃ v,e=.returned v∧W.grownBy w' none∧(Sp.vv (V6 seed) (fun _=>False)).on w' v:=fun W _=>vault_walk seed hse W
theorem cseal_y {W:World} {B:Nat} {VX:VV} (hV:Dg VX.2.1∧Dg VX.2.2) {fp:Nat→Prop} {v:Value} {x:V} {n:Int} {b:Bool} {a:Int} {r:Sd×Int} (h:(Sp.vv VX fp).on W v) (hB:B≤W.heap.size) (hres:cellO VX.1 x n b a=r) :
   Calls Tryz.prog 15 #[cellv x n b a,v] W fun e w'=>∃ v,e=.returned v∧W.grownBy w' none∧(Sp.sr B r).on w' v:=by
 obtain ⟨ao,cap,ks,rfl,hm,hr,_⟩:=h
 refine (cseal_walk ks ao cap VX.2.1 VX.2.2 hV.1 hV.2 VX.1 hm x n b a r hres W hr).mono ?_
 rintro e w' ⟨v,h1,h2,own,wr,ao,wo,bo,ac,wc,bc,h3,h4,h5⟩
 exact ⟨v,h1,h2,own,wr,ao,wo,bo,ac,wc,bc,h3,h4,fun k hk=>Nat.le_trans hB (h5 k hk)⟩
theorem small_c (x:V) (w:World):Calls Tryz.prog 12 #[xval x] w fun e w'=>e=.returned (.bool (decide (x.text.size≤100)))∧w.grownBy w' none:=small_walk x _ rfl w
set_option maxRecDepth 100000 in
set_option maxHeartbeats 4000000 in
theorem clear_law (seed:List Nat) (hse:Dg seed) (oth:List Nat) (hot:Dg oth) (x:V) (n:Int) (b:Bool) (a:Int) (w:World) :
   Calls Tryz.prog 5 #[dval seed,dval oth,cellv x n b a] w fun e w'=>e=.returned (.bool true)∧w.grownBy w' none:=by
 obtain ⟨vx,hvx⟩:∃ v,V6 seed=v:=⟨_,rfl⟩
 have hvd:Dg vx.2.1∧Dg vx.2.2:=hvx▸V6_dg seed
 have hvv:vldV vx.1=true:=hvx▸V6_vld seed
 obtain ⟨r,hres⟩:∃ r,cellO vx.1 x 0 b a=r:=⟨_,rfl⟩
 have hres2:sealO vx.1 [] (jt b) (adrC a) x=r:=by rw [← hres];unfold cellO;rw [setD_zero];rfl
 have hn:=sealO_nil (x:=x) (jt_hd b a) hvv
 have hz:r.2=0:=by rw [← hres2,hn]
 have ho0:r.1.own=[]:=by rw [← hres2,hn]
 have hq:openO [] r.1=(x.clean,0):=by rw [← hres2];exact open_clear (jt_hd b a) hvv rfl
 refine cx_enter Tryz.func5 rfl Tryz.ntmps5 rfl fun a0 sv0=>?_
 have HG:=World.grownBy.refl w none
 replace sv0:Sv 53 [] [(0,dval seed),(1,dval oth),(2,cellv x n b a)] a0:=sv0
 refine wp_seq_k fun K1 k1=>?_
 refine wp_region_lit ?_
 refine tl_box sv0 rfl rfl rfl rfl rfl rfl (tyD seed hse.1) fun a2 w2 B3_2 eq_B3_2 g2 z2 HB3_2 sv2=>?_
 have lo_B3_2:=nb_lo HG eq_B3_2
 replace HG:=grown_trans HG g2
 refine tl_box sv2 rfl rfl rfl rfl rfl rfl (tyD oth hot.1) fun a3 w3 B4_3 eq_B4_3 g3 z3 HB4_3 sv3=>?_
 have ne_B4_3_B3_2:=nb_ne HB3_2 eq_B4_3
 have lo_B4_3:=nb_lo HG eq_B4_3
 replace HB3_2:=rw_kn g3 HB3_2
 replace HG:=grown_trans HG g3
 refine tl_box sv3 rfl rfl rfl rfl rfl rfl (tyCe x n b a) fun a4 w4 B5_4 eq_B5_4 g4 z4 HB5_4 sv4=>?_
 have ne_B5_4_B3_2:=nb_ne HB3_2 eq_B5_4
 have ne_B5_4_B4_3:=nb_ne HB4_3 eq_B5_4
 have lo_B5_4:=nb_lo HG eq_B5_4
 replace HB3_2:=rw_kn g4 HB3_2
 replace HB4_3:=rw_kn g4 HB4_3
 replace HG:=grown_trans HG g4
 refine tl_as (v:=.bool false) sv4 r6 fun a5 sv5=>?_
 refine tl_nil ?_
 refine k1 _ _ ?_
 refine wp_seq_k fun K6 k6=>?_
 refine wp_seq_k fun K7 k7=>?_
 by_cases hsm:x.text.size≤100
 · refine wp_region_lit ?_
   refine sx_hv sv5 4 [(11,pt B5_4),(12,xval x),(13,.bool true),(14,.bool false)]
     ⟨yf r6 (fun _=>by kernel_rfl),yp (i:=0) r6 (tyV2 x) HB5_4 rfl rfl,ox_call (Sp.is (.bool true)) [xval x] rfl rfl trivial ⟨(oy rfl rfl),trivial⟩ (is_on fun W g=>(small_c x W).mono fun e w' ⟨h1,h2⟩=>⟨by rw [h1,decide_eq_true hsm],h2⟩) (fun _ _ h=>h) (enter_of Tryz.func12 (by kernel_rfl) rfl),ox_un rfl rfl trivial (oy rfl rfl) (fun _=>rn_not) (fun _=>rfl),trivial⟩ fun a8 w8 g8 sv8=>?_
   refine tl_nil ?_
   refine k7 _ _ ?_
   refine cx_ifF sv8 rfl rfl ?_
   refine wp_skip ?_
   refine k6 _ _ ?_
   refine wp_seq_k fun K9 k9=>?_
   refine wp_region_lit ?_
   refine sx_hv sv8 1 [(16,pk B5_4 3)]
     ⟨yf r6 (fun _=>by kernel_rfl),trivial⟩ fun a10 w10 g10 sv10=>?_
   have gc10:=grown_trans g8 g10
   refine tl_sp (L:=[vc x,[.int .i64 n],[.bool b],[.int .i64 a]]) (i:=1) sv10 r7 (tyInt' 0) (rw_kn gc10 HB5_4) rfl rfl rfl fun w11 g11 h11=>?_
   replace HB3_2:=rw_s2 gc10 g11 HB3_2 (Ne.symm ne_B5_4_B3_2)
   replace HB4_3:=rw_s2 gc10 g11 HB4_3 (Ne.symm ne_B5_4_B4_3)
   replace HG:=grown_newR (grown_trans HG gc10) g11 lo_B5_4
   replace HB5_4:=h11
   refine tl_nil ?_
   refine k9 _ _ ?_
   refine wp_seq_k fun K12 k12=>?_
   refine rx_tail (sv10.st w11) (by kernel_rfl) 8 [(18,Sp.is (cellv x 0 b a)),(19,Sp.is (dval seed)),(20,Sp.vv vx (fun _=>False)),(21,Sp.sr w11.heap.size r),(17,Sp.sr w11.heap.size r),(22,Sp.sl w11.heap.size r.1),(23,Sp.is (.int .i64 r.2)),(7,Sp.new w11.heap.size (([[.int .i64 0],[.slice none 0 0],[.int .i64 0],[.slice none 0 0],[.slice none 0 0],bv zero32].flatten)) 31)] rfl (by kernel_rfl) (by kernel_rfl) (by kernel_rfl) [6] (by kernel_rfl)
     ⟨yl r6 (tyCe x 0 b a) HB5_4,yl r6 (tyD seed hse.1) HB3_2,ox_call (Sp.vv vx (fun _=>False)) [dval seed] rfl rfl trivial ⟨(oy rfl rfl),trivial⟩ (hvx▸vault_on hse) (fun _ _ h=>h) (enter_of Tryz.func14 (by kernel_rfl) rfl),ox_callY (Sp.sr w11.heap.size r) rfl rfl trivial rfl (fun W g av h=>match av,h with | [_,_],⟨rfl,hv,_⟩=>cseal_y (VX:=vx) (fp:=fun _=>False) (x:=x) (n:=0) (b:=b) (a:=a) (r:=r) hvd hv g.size hres) (fun _ _ h=>h) (enter_of Tryz.func15 (by kernel_rfl) rfl),ym r5,ox_extract rfl rfl rfl trivial (fun w u h=>sr_sl w u h),ox_extract rfl rfl rfl trivial (fun w u h=>sr_err w u h),ox_alloc rfl trivial (Nat.le_refl _) (fun a w=>by kernel_rfl) (fun _ _ h=>h),trivial⟩ ⟨fun o ho=>by obtain rfl:=Option.some.inj ho;exact px_extract rfl rfl rfl trivial (fun w u h=>sr_err w u h),trivial⟩
     [7] (by kernel_rfl) ⟨Sp.new_lt,trivial⟩ ⟨.inl rfl,.inl rfl,.inl rfl,.inl rfl,.inl rfl,.inl rfl,.inl rfl,.inr ⟨rfl,(([[.int .i64 0],[.slice none 0 0],[.int .i64 0],[.slice none 0 0],[.slice none 0 0],bv zero32].flatten)).toArray,31,fun a w=>by kernel_rfl⟩,trivial⟩ (by kernel_rfl) fun a13 w13 g13 st13 nd13=>?_
   obtain ⟨hn13,hd13,e13_18,e13_19,e13_20,e13_21,e13_17,e13_22,e13_23,e13_7,e13_16,e13_11,e13_12,e13_13,e13_14,e13_6,e13_5,e13_4,e13_3,e13_0,e13_1,e13_2,-⟩:=st13
   obtain ⟨own14,wr14,ao14,wo14,bo14,ac14,wc14,bc14,e13_22q,hF,fr14⟩:=e13_22
   obtain ⟨B7_13,e13_7q,ge_B7_13,HB7_13⟩:=e13_7
   have ne_B7_13_B3_2:=nh_ne HB3_2 ge_B7_13
   have ne_B7_13_B4_3:=nh_ne HB4_3 ge_B7_13
   have ne_B7_13_B5_4:=nh_ne HB5_4 ge_B7_13
   have lo_B7_13:=nh_lo HG ge_B7_13
   have ap_hF_B3_2:=fr_ap fr14 HB3_2
   have ap_hF_B4_3:=fr_ap fr14 HB4_3
   have ap_hF_B5_4:=fr_ap fr14 HB5_4
   have lo_hF:∀ k,fpSd (.slice ao14 (List.length own14) ac14) (.slice wo14 (List.length wr14) wc14) (.slice bo14 r.1.body.length bc14) k→w.heap.size≤k:=fun k hk=>Nat.le_trans HG.size (fr14 k hk)
   replace HB3_2:=rw_kn g13 HB3_2
   replace HB4_3:=rw_kn g13 HB4_3
   replace HB5_4:=rw_kn g13 HB5_4
   replace HG:=grown_trans HG g13
   have ap_hF_B7_13:=SdF.ap hF HB7_13 (by decide)
   have sv13:Sv 53 [] [(16,_),(11,_),(12,_),(13,_),(14,_),(6,_),(5,_),(4,_),(3,_),(0,_),(1,_),(2,_),(22,_),(23,_),(7,_)] a13:=⟨hn13,hd13,e13_16,e13_11,e13_12,e13_13,e13_14,e13_6,e13_5,e13_4,e13_3,e13_0,e13_1,e13_2,e13_22q,e13_23,e13_7q,trivial⟩
   refine tl_sw sv13 r7 (tySd _ _ hF.tg (.slice ao14 (List.length own14) ac14) (.slice wo14 (List.length wr14) wc14) (.slice bo14 r.1.body.length bc14) rfl rfl rfl) HB7_13 (sd_size zero32_dg hF.tg) fun w15 g15 h15=>?_
   replace HB3_2:=rw_st g15 HB3_2 (Ne.symm ne_B7_13_B3_2)
   replace HB4_3:=rw_st g15 HB4_3 (Ne.symm ne_B7_13_B4_3)
   replace HB5_4:=rw_st g15 HB5_4 (Ne.symm ne_B7_13_B5_4)
   replace hF:=hF.offR g15 (no_b ap_hF_B7_13)
   replace HG:=grown_newR HG g15 lo_B7_13
   replace HB7_13:=h15
   refine tl_as (v:=.int .i64 r.2) sv13 r6 fun a16 sv16=>?_
   refine tl_nil ?_
   refine k12 _ _ ?_
   refine wp_seq_k fun K17 k17=>?_
   refine rx_tail (sv16.st w15) (by kernel_rfl) 8 [(25,Sp.is (dval oth)),(26,Sp.is (vval ((kd 273 oth)) ((kd 274 oth)) (.slice none 0 0))),(27,Sp.is (sdval r.1.addr (.slice ao14 (List.length own14) ac14) r.1.joint (.slice wo14 (List.length wr14) wc14) (.slice bo14 r.1.body.length bc14) r.1.tag)),(28,Sp.is (.tuple #[xval x.clean,.int .i64 0])),(24,Sp.is (.tuple #[xval x.clean,.int .i64 0])),(29,Sp.is (xval x.clean)),(30,Sp.is (.int .i64 0)),(9,Sp.new w15.heap.size ([.int .i64 0,.int .i64 0,.string ⟨#[]⟩]) 25)] rfl (by kernel_rfl) (by kernel_rfl) (by kernel_rfl) [6] (by kernel_rfl)
     ⟨yl r6 (tyD oth hot.1) HB4_3,ox_call (Sp.is (vval ((kd 273 oth)) ((kd 274 oth)) (.slice none 0 0))) [dval oth] rfl rfl trivial ⟨(oy rfl rfl),trivial⟩ (is_on fun W g=>newv_walk oth hot W) (fun _ _ h=>h) (enter_of Tryz.func24 (by kernel_rfl) rfl),yl r6 (tySd _ _ hF.tg (.slice ao14 (List.length own14) ac14) (.slice wo14 (List.length wr14) wc14) (.slice bo14 r.1.body.length bc14) rfl rfl rfl) HB7_13,ox_call (Sp.is (.tuple #[xval x.clean,.int .i64 0])) [vval ((kd 273 oth)) ((kd 274 oth)) (.slice none 0 0),sdval r.1.addr (.slice ao14 (List.length own14) ac14) r.1.joint (.slice wo14 (List.length wr14) wc14) (.slice bo14 r.1.body.length bc14) r.1.tag] rfl rfl trivial ⟨(oy rfl rfl),(oy rfl rfl),trivial⟩ (is_on fun W g=>open_y (q:=(x.clean,0)) (ks:=[]) (kd_dg _ _) (kd_dg _ _) (RdK.nil _) rfl (hF.kn g) hq) (fun _ _ h=>h) (enter_of Tryz.func22 (by kernel_rfl) rfl),ym r5,ox_extract rfl rfl rfl trivial (fun _ _ h=>⟨_,_,h,rfl,rfl⟩),ox_extract rfl rfl rfl trivial (fun _ _ h=>⟨_,_,h,rfl,rfl⟩),ox_alloc rfl trivial (Nat.le_refl _) (fun a w=>by kernel_rfl) (fun _ _ h=>h),trivial⟩ ⟨fun o ho=>by obtain rfl:=Option.some.inj ho;exact px_extract rfl rfl rfl trivial (fun _ _ h=>⟨_,_,h,rfl,rfl⟩),trivial⟩
     [9] (by kernel_rfl) ⟨Sp.new_lt,trivial⟩ ⟨.inl rfl,.inl rfl,.inl rfl,.inl rfl,.inl rfl,.inl rfl,.inl rfl,.inr ⟨rfl,([.int .i64 0,.int .i64 0,.string ⟨#[]⟩]).toArray,25,fun a w=>by kernel_rfl⟩,trivial⟩ (by kernel_rfl) fun a18 w18 g18 st18 nd18=>?_
   obtain ⟨hn18,hd18,e18_25,e18_26,e18_27,e18_28,e18_24,e18_29,e18_30,e18_9,e18_8,e18_16,e18_11,e18_12,e18_13,e18_14,e18_6,e18_5,e18_4,e18_3,e18_0,e18_1,e18_2,e18_22,e18_23,e18_7,-⟩:=st18
   obtain ⟨B9_18,e18_9q,ge_B9_18,HB9_18⟩:=e18_9
   have ne_B9_18_B3_2:=nh_ne HB3_2 ge_B9_18
   have ne_B9_18_B4_3:=nh_ne HB4_3 ge_B9_18
   have ne_B9_18_B5_4:=nh_ne HB5_4 ge_B9_18
   have ne_B9_18_B7_13:=nh_ne HB7_13 ge_B9_18
   have lo_B9_18:=nh_lo HG ge_B9_18
   have ap_hF_B9_18:=nh_ap (hF.lt) ge_B9_18
   replace HB3_2:=rw_kn g18 HB3_2
   replace HB4_3:=rw_kn g18 HB4_3
   replace HB5_4:=rw_kn g18 HB5_4
   replace HB7_13:=rw_kn g18 HB7_13
   replace hF:=hF.kn g18
   replace HG:=grown_trans HG g18
   have sv18:Sv 53 [] [(8,_),(16,_),(11,_),(12,_),(13,_),(14,_),(6,_),(5,_),(4,_),(3,_),(0,_),(1,_),(2,_),(22,_),(23,_),(7,_),(29,_),(30,_),(9,_)] a18:=⟨hn18,hd18,e18_8,e18_16,e18_11,e18_12,e18_13,e18_14,e18_6,e18_5,e18_4,e18_3,e18_0,e18_1,e18_2,e18_22,e18_23,e18_7,e18_29,e18_30,e18_9q,trivial⟩
   refine tl_sw sv18 r7 (tyV2 x.clean) HB9_18 rfl fun w19 g19 h19=>?_
   replace HB3_2:=rw_st g19 HB3_2 (Ne.symm ne_B9_18_B3_2)
   replace HB4_3:=rw_st g19 HB4_3 (Ne.symm ne_B9_18_B4_3)
   replace HB5_4:=rw_st g19 HB5_4 (Ne.symm ne_B9_18_B5_4)
   replace HB7_13:=rw_st g19 HB7_13 (Ne.symm ne_B9_18_B7_13)
   replace hF:=hF.offR g19 (no_b ap_hF_B9_18)
   replace HG:=grown_newR HG g19 lo_B9_18
   replace HB9_18:=h19
   refine tl_as (v:=.int .i64 0) sv18 r6 fun a20 sv20=>?_
   refine tl_nil ?_
   refine k17 _ _ ?_
   refine wp_seq_k fun K21 k21=>?_
   refine rx_av (sv20.dl [6]) [(31,.int .i64 r.2),(32,.bool true),(33,.bool true),(34,.int .i64 0),(35,.bool true),(36,.bool true),(37,.bool true),(38,xval x.clean),(39,pt B5_4),(40,xval x),(41,xval x.clean),(42,.bool true),(43,.bool true),(44,.bool true),(45,pk B7_13 1),(46,.slice ao14 (List.length own14) ac14),(47,.int .i64 (((List.length own14):Nat))),(48,.bool true),(49,.bool true),(50,.bool true),(51,.bool true),(52,.bool true),(6,.bool true)]
     ⟨ym r5,ybc r6 (fun _=>rn_eql (by rw [hz];rfl)),ym r5,ox_move 10 34 (.inl rfl) rfl rfl (gy rfl rfl rfl) (fun _ _ h=>h),ox_bin rfl rfl (gy rfl rfl rfl) (oy rfl rfl) rfl (fun _=>rn_eql rfl) (fun _=>rfl),ox_pick rfl rfl trivial (oy rfl rfl) (oy rfl rfl) (fun _=>rfl),ym r5,ox_load rfl rfl (gy rfl rfl rfl) (oy rfl rfl) (fun _ g=>loadsAt (tyV2 x.clean) (rangeAt_row (row_of g HB9_18 (by simp)))) (fun _=>rfl),ox_field rfl rfl (gy rfl rfl rfl) (oy rfl rfl) (fun _=>by kernel_rfl) (fun _=>rfl),ox_load rfl rfl (gy rfl rfl rfl) (oy rfl rfl) (fun _ g=>loadsAt (tyV2 x) (range_part (L:=[vc x,[.int .i64 0],[.bool b],[.int .i64 a]]) (i:=0) (row_of g HB5_4 (by simp)) rfl rfl)) (fun _=>rfl),ox_call (Sp.is (xval x.clean)) [xval x] rfl rfl (gy rfl rfl rfl) ⟨(oy rfl rfl),trivial⟩ (is_on fun W g=>rclean_walk x W) (fun _ _ h=>h) (enter_of Tryz.func25 (by kernel_rfl) rfl),ox_bin rfl rfl (gy rfl rfl rfl) (oy rfl rfl) (oy rfl rfl) (fun _=>val_eql (V.clean_ok x)) (fun _=>rfl),ox_pick rfl rfl trivial (oy rfl rfl) (oy rfl rfl) (fun _=>rfl),ym r5,ox_field rfl rfl (gy rfl rfl rfl) (oy rfl rfl) (fun _=>by kernel_rfl) (fun _=>rfl),ox_load rfl rfl (gy rfl rfl rfl) (oy rfl rfl) (fun _ g=>loadsAt (tyDs (.slice ao14 (List.length own14) ac14) rfl) (range_part (L:=[[.int .i64 r.1.addr],[.slice ao14 (List.length own14) ac14],[.int .i64 r.1.joint],[.slice wo14 (List.length wr14) wc14],[.slice bo14 r.1.body.length bc14],bv r.1.tag]) (i:=1) (row_of g HB7_13 (by simp)) rfl rfl)) (fun _=>rfl),ox_len (Tryz.underlying28) rfl rfl (gy rfl rfl rfl) (oy rfl rfl) (fun _=>rfl),ox_bin rfl rfl (gy rfl rfl rfl) (oy rfl rfl) rfl (fun _=>rn_eql (beqT (by have:=congrArg List.length (hF.1.trans ho0);simp at this;simp [this]))) (fun _=>rfl),ox_pick rfl rfl trivial (oy rfl rfl) (oy rfl rfl) (fun _=>rfl),ym r5,ox_call (Sp.is (.bool true)) [] rfl rfl (gy rfl rfl rfl) trivial (is_on fun W g=>awake_walk W) (fun _ _ h=>h) (enter_of Tryz.func13 (by kernel_rfl) rfl),ox_pick rfl rfl trivial (oy rfl rfl) (oy rfl rfl) (fun _=>rfl),ox_move 52 6 (.inr rfl) rfl rfl trivial (fun _ _ h=>h),trivial⟩ fun a22 w22 g22 sv22=>?_
   refine k21 _ _ ?_
   replace HB3_2:=rw_kn g22 HB3_2
   replace HB4_3:=rw_kn g22 HB4_3
   replace HB5_4:=rw_kn g22 HB5_4
   replace HB7_13:=rw_kn g22 HB7_13
   replace HB9_18:=rw_kn g22 HB9_18
   replace hF:=hF.kn g22
   replace HG:=grown_trans HG g22
   refine wp_ret ?_
   repeat refine then_ret ?_
   refine cx_ret (fn:=Tryz.f5) sv22 (res_tmp (p:=6) Tryz.results5 sv22 rfl rfl) ?_
   exact ⟨rfl,HG⟩
 · refine wp_region_lit ?_
   refine sx_hv sv5 4 [(11,pt B5_4),(12,xval x),(13,.bool false),(14,.bool true)]
     ⟨yf r6 (fun _=>by kernel_rfl),yp (i:=0) r6 (tyV2 x) HB5_4 rfl rfl,ox_call (Sp.is (.bool false)) [xval x] rfl rfl trivial ⟨(oy rfl rfl),trivial⟩ (is_on fun W g=>(small_c x W).mono fun e w' ⟨h1,h2⟩=>⟨by rw [h1,decide_eq_false hsm],h2⟩) (fun _ _ h=>h) (enter_of Tryz.func12 (by kernel_rfl) rfl),ox_un rfl rfl trivial (oy rfl rfl) (fun _=>rn_not) (fun _=>rfl),trivial⟩ fun a23 w23 g23 sv23=>?_
   refine tl_nil ?_
   refine k7 _ _ ?_
   refine cx_ifT sv23 rfl rfl ?_
   refine wp_seq_k fun K24 k24=>?_
   refine wp_region_lit ?_
   replace HB3_2:=rw_kn g23 HB3_2
   replace HB4_3:=rw_kn g23 HB4_3
   replace HB5_4:=rw_kn g23 HB5_4
   replace HG:=grown_trans HG g23
   refine sx_hv sv23 1 [(15,.bool true)]
     ⟨ox_call (Sp.is (.bool true)) [] rfl rfl trivial trivial (is_on fun W g=>awake_walk W) (fun _ _ h=>h) (enter_of Tryz.func13 (by kernel_rfl) rfl),trivial⟩ fun a25 w25 g25 sv25=>?_
   refine tl_as (v:=.bool true) sv25 r6 fun a26 sv26=>?_
   refine tl_nil ?_
   refine k24 _ _ ?_
   replace HB3_2:=rw_kn g25 HB3_2
   replace HB4_3:=rw_kn g25 HB4_3
   replace HB5_4:=rw_kn g25 HB5_4
   replace HG:=grown_trans HG g25
   refine wp_ret ?_
   repeat refine then_ret ?_
   refine cx_ret (fn:=Tryz.f5) sv26 (res_tmp (p:=6) Tryz.results5 sv26 rfl rfl) ?_
   exact ⟨rfl,HG⟩
end Go.Proofs.YtbfjfnbcmojpiaaGreat
