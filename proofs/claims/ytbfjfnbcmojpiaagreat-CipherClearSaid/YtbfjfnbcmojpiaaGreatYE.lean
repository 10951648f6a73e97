import Derived.Test.YtbfjfnbcmojpiaaGreatFC
namespace Go.Proofs.YtbfjfnbcmojpiaaGreat
open Go.RowKit Go.Shelf
set_option linter.unusedSimpArgs false
set_option linter.unusedVariables false
theorem tagv_ne {w:World} {k b:Nat} {c:Array Value} {T:TypeId} {fr:Nat×Nat} (h:TagV w k) (hb:w.heap[b]?=some (.cells c T fr)) (hT:T≠132∧T≠58):k≠b:=by
 rcases h with h | ⟨c',fr',h1⟩
 · exact tag_ne h hb hT.1
 · rintro rfl
   rw [hb] at h1
   simp only [Option.some.injEq,Obj.cells.injEq] at h1
   exact hT.2 h1.2.1
theorem vt_ap1 {w:World} {p q:Nat→Prop} {b:Nat} {c:Array Value} {T:TypeId} {fr:Nat×Nat} (hf:∀ k,p k→q k∨TagV w k) (ha:∀ k,q k→k≠b) (hb:w.heap[b]?=some (.cells c T fr)) (hT:T≠132∧T≠58):∀ k,p k→k≠b:=fun k hk=>(hf k hk).elim (ha k) fun t=>tagv_ne t hb hT
def Sp.vv (V:VV) (fp:Nat→Prop):Sp:=⟨fun w v=>∃ ao cap ks,v=vval V.2.1 V.2.2 (.slice ao (List.length ks) cap)∧ks.map VK.p=V.1∧RdK w (.slice ao (List.length ks) cap) ks∧∀ k,fpK (.slice ao (List.length ks) cap) ks k→fp k∨TagV w k,fun _ _ _ hg ⟨ao,cap,ks,h1,h2,h3,h4⟩=>⟨ao,cap,ks,h1,h2,h3.kn hg,tagsmono hg h4⟩⟩
theorem vt_vault {r:VV×Int} {fp:Nat→Prop} (w:World) (u:Value) (h:(Sp.vt r fp).on w u):∃ vs v,u=.tuple vs∧vs[0]?=some v∧(Sp.vv r.1 fp).on w v:=by
 obtain ⟨ao,cap,ks,h1,h2⟩:=h
 exact ⟨_,_,h1,rfl,ao,cap,ks,rfl,h2⟩
theorem vt_err {r:VV×Int} {fp:Nat→Prop} (w:World) (u:Value) (h:(Sp.vt r fp).on w u):∃ vs v,u=.tuple vs∧vs[1]?=some v∧(Sp.is (.int .i64 r.2)).on w v:=by
 obtain ⟨ao,cap,ks,h1,h2⟩:=h
 exact ⟨_,_,h1,rfl,rfl⟩
def TgF (w:World) (p q:Nat→Prop):Prop:=∀ k,p k→q k∨TagV w k
theorem TgF.kn {w w':World} {p q:Nat→Prop} (h:TgF w p q) (g:w.grownBy w' none):TgF w' p q:=tagsmono g h
theorem TgF.offR {w w':World} {p q:Nat→Prop} (h:TgF w p q) {row:Option Nat} (g:w.grownBy w' row) (hb:∀ k,p k→row≠some k):TgF w' p q:=fun k hk=>(h k hk).imp id (·.keep g (hb k hk))
theorem TgF.join {w:World} {p q r:Nat→Prop} (h:TgF w p q) (h2:TgF w q r):TgF w p r:=fun k hk=>(h k hk).elim (h2 k) .inr
theorem TgF.none (w:World):TgF w (fpK (.slice none 0 0) []) (fun _=>False):=fun k hk=>(fpK_nil k hk).elim
theorem ownD_ne {i j:Nat} (hi:i < 6) (hj:j < 6) (h:ownD i=ownD j):i=j:=by
 have:=(List.cons.inj h).1
 omega
def pjC (seed:List Nat):Nat→List Nat
 | 0=>kd 274 seed
 | j+1=>kd 276 (pjC seed j)
theorem pjC_dg (seed:List Nat):∀ j,Dg (pjC seed j)
 | 0=>kd_dg _ _
 | _+1=>kd_dg _ _
def Tsd (seed:List Nat) (j:Nat):List Nd:=tree (kd 275 (pjC seed j)) []
def vltP (seed:List Nat):Nat→List VP
 | 0=>[]
 | i+1=>insV (vltP seed i) (ownD i) (Tsd seed i)
def OV (T:Nat→List Nd) (P:List VP) (i:Nat):Prop:=vldV P=true∧P.length=i∧∀ x,x ∈ P↔∃ j,j < i∧x=(ownD j,T j)
theorem OV.not {T:Nat→List Nd} {P:List VP} {i:Nat} (h:OV T P i) (hi:i < 6):fnd P (ownD i)=false:=fnd_not (Srt.of h.1) fun hm=>by
 obtain ⟨x,hx,e⟩:=List.mem_map.1 hm
 obtain ⟨j,hj,rfl⟩:=(h.2.2 x).1 hx
 have:=ownD_ne (by omega) hi e
 omega
theorem OV.succ {T:Nat→List Nd} {P:List VP} {i:Nat} (h:OV T P i) (hi:i < 6) (hT:∀ j,vld (T j)=true):OV T (insV P (ownD i) (T i)) (i+1):=by
 refine ⟨insV_vld h.1 (h.not hi) (by rw [h.2.1];omega) (hT i),by rw [ins_len,h.2.1],fun x=>?_⟩
 rw [mem_ins,h.2.2 x]
 constructor
 · rintro (rfl | ⟨j,hj,rfl⟩)
   · exact ⟨i,by omega,rfl⟩
   · exact ⟨j,by omega,rfl⟩
 · rintro ⟨j,hj,rfl⟩
   by_cases e:j=i
   · subst e;exact .inl rfl
   · exact .inr ⟨j,by omega,rfl⟩
theorem Tsd_vld (seed:List Nat) (j:Nat):vld (Tsd seed j)=true:=tree_new_vld _
theorem vltP_inv (seed:List Nat):∀ i,i≤6→OV (Tsd seed) (vltP seed i) i
 | 0,_=>⟨rfl,rfl,by simp [vltP]⟩
 | i+1,h=>(vltP_inv seed i (by omega)).succ (by omega) (Tsd_vld seed)
def V6 (seed:List Nat):VV:=(vltP seed 6,kd 273 seed,pjC seed 6)
theorem ensO_V {seed:List Nat} {i:Nat} {P:List VP} (hP:P=vltP seed i) (hi:i < 6):ensO (P,kd 273 seed,pjC seed i) (ownD i) (Tsd seed i) (kd 276 (pjC seed i))=((vltP seed (i+1),kd 273 seed,pjC seed (i+1)),0):=by
 subst hP
 have h:=vltP_inv seed i (by omega)
 exact ensO_new h.1 (h.not hi) (by rw [h.2.1];omega)
def fpSd (a b c:Value) (k:Nat):Prop:=fpS a k∨fpS b k∨fpS c k
def SdF (w:World) (s:Sd) (own wr:List DD) (ao wo bo:Option Addr) (ac wc bc:Nat):Prop:=own.map DD.x=s.own∧wr.map DD.x=s.wr ∧
 Own w 23 32 (.slice ao own.length ac) own.length (own.flatMap dcs)∧Own w 23 32 (.slice wo wr.length wc) wr.length (wr.flatMap dcs)∧Own w 5 1 (.slice bo s.body.length bc) s.body.length (bv s.body) ∧
 (∀ k,fpS (.slice ao own.length ac) k→¬ fpS (.slice wo wr.length wc) k)∧Dg s.tag∧By s.body
section
variable {w w':World} {s:Sd} {own wr:List DD} {ao wo bo:Option Addr} {ac wc bc:Nat}
theorem SdF.kn (h:SdF w s own wr ao wo bo ac wc bc) (g:w.grownBy w' none):SdF w' s own wr ao wo bo ac wc bc:=by
 obtain ⟨h1,h2,h3,h4,h5,h6⟩:=h
 exact ⟨h1,h2,h3.kn g,h4.kn g,h5.kn g,h6⟩
theorem SdF.offR (h:SdF w s own wr ao wo bo ac wc bc) {row:Option Nat} (g:w.grownBy w' row) (hb:∀ k,fpSd (.slice ao own.length ac) (.slice wo wr.length wc) (.slice bo s.body.length bc) k→row≠some k):SdF w' s own wr ao wo bo ac wc bc:=by
 obtain ⟨h1,h2,h3,h4,h5,h6⟩:=h
 exact ⟨h1,h2,h3.offR g fun k hk=>hb k (.inl hk),h4.offR g fun k hk=>hb k (.inr (.inl hk)),h5.offR g fun k hk=>hb k (.inr (.inr hk)),h6⟩
theorem SdF.lt (h:SdF w s own wr ao wo bo ac wc bc):∀ k,fpSd (.slice ao own.length ac) (.slice wo wr.length wc) (.slice bo s.body.length bc) k→k < w.heap.size:=by
 obtain ⟨h1,h2,h3,h4,h5,h6⟩:=h
 rintro k (hk | hk | hk)
 · exact Own.ltS h3 k hk
 · exact Own.ltS h4 k hk
 · exact Own.ltS h5 k hk
theorem SdF.ap (h:SdF w s own wr ao wo bo ac wc bc) {b:Nat} {c:Array Value} {T:TypeId} {fr:Nat×Nat} (hb:w.heap[b]?=some (.cells c T fr)) (hT:T≠23∧T≠5):∀ k,fpSd (.slice ao own.length ac) (.slice wo wr.length wc) (.slice bo s.body.length bc) k→k≠b:=by
 obtain ⟨h1,h2,h3,h4,h5,h6⟩:=h
 rintro k (hk | hk | hk) rfl
 · exact Own.ne h3 hb (Ne.symm hT.1) hk
 · exact Own.ne h4 hb (Ne.symm hT.1) hk
 · exact Own.ne h5 hb (Ne.symm hT.2) hk
theorem SdF.ro (h:SdF w s own wr ao wo bo ac wc bc):RdD w (.slice ao own.length ac) own:=Own.sb h.2.2.1
theorem SdF.rw (h:SdF w s own wr ao wo bo ac wc bc):RdD w (.slice wo wr.length wc) wr:=Own.sb h.2.2.2.1
theorem SdF.rb (h:SdF w s own wr ao wo bo ac wc bc):SlB w 1 (.slice bo s.body.length bc) s.body.length (bv s.body):=Own.sb h.2.2.2.2.1
theorem SdF.tg (h:SdF w s own wr ao wo bo ac wc bc):Dg s.tag:=h.2.2.2.2.2.2.1
theorem SdF.by (h:SdF w s own wr ao wo bo ac wc bc):By s.body:=h.2.2.2.2.2.2.2
theorem SdF.sd (h:SdF w s own wr ao wo bo ac wc bc):(⟨s.addr,own.map DD.x,s.joint,wr.map DD.x,s.body,s.tag⟩:Sd)=s:=by rw [h.1,h.2.1]
end
def Sp.sr (B:Nat) (r:Sd×Int):Sp:=⟨fun w v=>∃ own wr ao wo bo ac wc bc,v=.tuple #[sdval r.1.addr (.slice ao (List.length own) ac) r.1.joint (.slice wo (List.length wr) wc) (.slice bo r.1.body.length bc) r.1.tag,.int .i64 r.2]∧SdF w r.1 own wr ao wo bo ac wc bc∧∀ k,fpSd (.slice ao (List.length own) ac) (.slice wo (List.length wr) wc) (.slice bo r.1.body.length bc) k→B≤k,
 fun _ _ _ hg ⟨own,wr,ao,wo,bo,ac,wc,bc,h1,h2,h3⟩=>⟨own,wr,ao,wo,bo,ac,wc,bc,h1,h2.kn hg,h3⟩⟩
def Sp.sl (B:Nat) (s:Sd):Sp:=⟨fun w v=>∃ own wr ao wo bo ac wc bc,v=sdval s.addr (.slice ao (List.length own) ac) s.joint (.slice wo (List.length wr) wc) (.slice bo s.body.length bc) s.tag∧SdF w s own wr ao wo bo ac wc bc∧∀ k,fpSd (.slice ao (List.length own) ac) (.slice wo (List.length wr) wc) (.slice bo s.body.length bc) k→B≤k,
 fun _ _ _ hg ⟨own,wr,ao,wo,bo,ac,wc,bc,h1,h2,h3⟩=>⟨own,wr,ao,wo,bo,ac,wc,bc,h1,h2.kn hg,h3⟩⟩
theorem sr_sl {B:Nat} {r:Sd×Int} (w:World) (u:Value) (h:(Sp.sr B r).on w u):∃ vs v,u=.tuple vs∧vs[0]?=some v∧(Sp.sl B r.1).on w v:=by
 obtain ⟨own,wr,ao,wo,bo,ac,wc,bc,h1,h2⟩:=h
 exact ⟨_,_,h1,rfl,own,wr,ao,wo,bo,ac,wc,bc,rfl,h2⟩
theorem sr_err {B:Nat} {r:Sd×Int} (w:World) (u:Value) (h:(Sp.sr B r).on w u):∃ vs v,u=.tuple vs∧vs[1]?=some v∧(Sp.is (.int .i64 r.2)).on w v:=by
 obtain ⟨own,wr,ao,wo,bo,ac,wc,bc,h1,h2⟩:=h
 exact ⟨_,_,h1,rfl,rfl⟩
theorem SRes.sr {w w':World} {B:Nat} {r:Sd×Int} {e:Ending} (h:SRes w w' r e) (hB:B≤w.heap.size):∃ v,e=.returned v∧w.grownBy w' none∧(Sp.sr B r).on w' v:=by
 obtain ⟨own,wr,ao,wo,bo,ac,wc,bc,h1,h2,h3,h4,h5,h6,f1,f2,f3,f4,h7,h8,h9⟩:=h
 refine ⟨_,h1,h9,own,wr,ao,wo,bo,ac,wc,bc,rfl,⟨h2,h3,h4,h5,h6,f4,h7,h8⟩,?_⟩
 rintro k (hk | hk | hk)
 · exact Nat.le_trans hB (f1 k hk)
 · exact Nat.le_trans hB (f2 k hk)
 · exact Nat.le_trans hB (f3 k hk)
theorem seal_y {W:World} {B:Nat} {ks:List VK} {vo:Option Addr} {vc_:Nat} {sa po:List Nat} (hsa:Dg sa) (hpo:Dg po) {P:List VP} {ds:List DD} {v:Value} {joint ad:Int} {x:V} {r:Sd×Int} (hr:RdK W (.slice vo ks.length vc_) ks) (hP:ks.map VK.p=P) (ho:RdD W v ds) (hdl:ds.length≤1000) (hB:B≤W.heap.size) (hres:sealO P (ds.map DD.x) joint ad x=r) :
   Calls Tryz.prog 20 #[vval sa po (.slice vo ks.length vc_),v,.int .i64 joint,.int .i64 ad,xval x] W fun e w'=>∃ v,e=.returned v∧W.grownBy w' none∧(Sp.sr B r).on w' v:=by
 obtain ⟨ao,cap,rfl⟩:=ho.shape
 subst hP hres
 exact (seal_walk ks vo vc_ sa po hsa hpo ds ao cap joint ad x W hr ho hdl).mono fun e w' h=>h.sr hB
def cellO (P:List VP) (x:V) (n:Int) (b:Bool) (a:Int):Sd×Int:=sealO P ((setD n 6).map DD.x) (jt b) (adrC a) x
theorem set_on (n:Int) {w0 W:World} (g:w0.grownBy W none):Calls Tryz.prog 17 #[.int .i64 n] W fun e w'=>∃ v,e=.returned v∧W.grownBy w' none∧(Sp.row w0.heap.size 23 32 (setD n 6).length ((setD n 6).flatMap dcs)).on w' v:=
 (set_walk n W).mono fun e w' ⟨v,h1,h2,ao,cap,h3,h4,h5⟩=>⟨v,h1,h2,ao,cap,h3,h4,fun k hk=>Nat.le_trans g.size (h5 k hk)⟩
theorem row_y {W:World} {B:Nat} {ds:List DD} {v:Value} (h:(Sp.row B 23 32 ds.length (ds.flatMap dcs)).on W v):RdD W v ds:=by
 obtain ⟨ao,cap,rfl,h2,_⟩:=h
 exact Own.sb h2
set_option maxRecDepth 100000 in
set_option maxHeartbeats 4000000 in
theorem vault_walk (seed:List Nat) (hse:Dg seed) (w:World) :
   Calls Tryz.prog 14 #[dval seed] w fun e w'=>∃ v,e=.returned v∧w.grownBy w' none∧(Sp.vv (V6 seed) (fun _=>False)).on w' v:=by
 refine cx_enter Tryz.func14 rfl Tryz.ntmps14 rfl fun a0 sv0=>?_
 have HG:=World.grownBy.refl w none
 replace sv0:Sv 19 [] [(0,dval seed)] a0:=sv0
 refine wp_seq_k fun K1 k1=>?_
 refine wp_region_lit ?_
 refine tl_box sv0 rfl rfl rfl rfl rfl rfl (tyD seed hse.1) fun a2 w2 B1_2 eq_B1_2 g2 z2 HB1_2 sv2=>?_
 have lo_B1_2:=nb_lo HG eq_B1_2
 replace HG:=grown_trans HG g2
 refine tl_alloc (T:=36) (Z:=([bv zero32,bv zero32,[.slice none 0 0]].flatten)) sv2 rfl rfl rfl (fun a w=>by kernel_rfl) fun a3 w3 B2_3 eq_B2_3 g3 z3 HB2_3 sv3=>?_
 have ne_B2_3_B1_2:=nb_ne HB1_2 eq_B2_3
 have lo_B2_3:=nb_lo HG eq_B2_3
 replace HB1_2:=rw_kn g3 HB1_2
 replace HG:=grown_trans HG g3
 refine tl_nil ?_
 refine k1 _ _ ?_
 refine wp_seq_k fun K4 k4=>?_
 refine wp_region_lit ?_
 refine sx_hv sv3 2 [(5,dval seed),(6,vval ((kd 273 seed)) ((pjC seed 0)) (.slice none 0 0))]
   ⟨yl r6 (tyD seed hse.1) HB1_2,ox_call (Sp.is (vval ((kd 273 seed)) ((pjC seed 0)) (.slice none 0 0))) [dval seed] rfl rfl trivial ⟨(oy rfl rfl),trivial⟩ (is_on fun W g=>rnewv_walk seed hse W) (fun _ _ h=>h) (enter_of Tryz.func38 (by kernel_rfl) rfl),trivial⟩ fun a5 w5 g5 sv5=>?_
 replace HB1_2:=rw_kn g5 HB1_2
 replace HB2_3:=rw_kn g5 HB2_3
 replace HG:=grown_trans HG g5
 refine tl_alloc (T:=36) (Z:=([bv zero32,bv zero32,[.slice none 0 0]].flatten)) sv5 rfl rfl rfl (fun a w=>by kernel_rfl) fun a6 w6 B3_6 eq_B3_6 g6 z6 HB3_6 sv6=>?_
 have ne_B3_6_B1_2:=nb_ne HB1_2 eq_B3_6
 have ne_B3_6_B2_3:=nb_ne HB2_3 eq_B3_6
 have lo_B3_6:=nb_lo HG eq_B3_6
 replace HB1_2:=rw_kn g6 HB1_2
 replace HB2_3:=rw_kn g6 HB2_3
 replace HG:=grown_trans HG g6
 refine tl_sw sv6 r7 (tyVa (kd_dg _ _) (pjC_dg seed 0) (.slice none 0 0) rfl) HB3_6 (by first | rfl | simp [kcells,bv_length,zero32_len,(kd_dg _ _).1,(pjC_dg seed 0).1]) fun w7 g7 h7=>?_
 replace HB1_2:=rw_st g7 HB1_2 (Ne.symm ne_B3_6_B1_2)
 replace HB2_3:=rw_st g7 HB2_3 (Ne.symm ne_B3_6_B2_3)
 replace HG:=grown_newR HG g7 lo_B3_6
 replace HB3_6:=h7
 refine tl_nil ?_
 refine k4 _ _ ?_
 refine wp_seq_k fun K8 k8=>?_
 refine wp_seq_k fun K9 k9=>?_
 refine wp_region_lit ?_
 refine tl_as (v:=.int .i64 0) sv6 r6 fun a10 sv10=>?_
 refine tl_nil ?_
 refine k9 _ _ ?_
 refine cx_block fun Q11 x11 y11 rt11 o11=>?_
 have hr:=RdK.nil w7
 have ap_hr_B1_2:∀ k,fpK (.slice none 0 0) [] k→k≠B1_2:=fun k hk=>(fpK_nil k hk).elim
 have ap_hr_B2_3:∀ k,fpK (.slice none 0 0) [] k→k≠B2_3:=fun k hk=>(fpK_nil k hk).elim
 have ap_hr_B3_6:∀ k,fpK (.slice none 0 0) [] k→k≠B3_6:=fun k hk=>(fpK_nil k hk).elim
 have ht:=TgF.none w7
 refine wp_loop (fun a w'=>∃ (i:Nat) (ks:List VK) (ao:Option Addr) (cap:Nat),(i≤6)∧(ks.map VK.p=vltP seed i)∧Sv 19 [] [(4,.int .i64 ((i:Int))),(3,pt B3_6),(5,dval seed),(6,vval ((kd 273 seed)) ((pjC seed 0)) (.slice none 0 0)),(2,pt B2_3),(1,pt B1_2),(0,dval seed)] a∧w.grownBy w' none∧w'.heap[B1_2]?=some (.cells (bv seed).toArray 23 (0,0))∧w'.heap[B2_3]?=some (.cells (([bv zero32,bv zero32,[.slice none 0 0]].flatten)).toArray 36 (0,0))∧w'.heap[B3_6]?=some (.cells ([bv ((kd 273 seed)),bv ((pjC seed i)),[.slice ao ks.length cap]].flatten).toArray 36 (0,0))∧RdK w' (.slice ao ks.length cap) ks∧TgF w' (fpK (.slice ao ks.length cap) ks) (fun _=>False)∧(∀ k,fpK (.slice ao ks.length cap) ks k→k≠B1_2)∧(∀ k,fpK (.slice ao ks.length cap) ks k→k≠B2_3)∧(∀ k,fpK (.slice ao ks.length cap) ks k→k≠B3_6)) (fun a _=>(6 - intOf (a.tmps.getD 4 undef)).toNat) ⟨0,[],none,0,by omega,rfl,⟨sv10.1,sv10.2.1,sv10.2.2.1,sv10.2.2.2.1,sv10.2.2.2.2.1,sv10.2.2.2.2.2.1,sv10.2.2.2.2.2.2.1,sv10.2.2.2.2.2.2.2.1,sv10.2.2.2.2.2.2.2.2.1,trivial⟩,HG,HB1_2,HB2_3,HB3_6,hr,ht,ap_hr_B1_2,ap_hr_B2_3,ap_hr_B3_6⟩ fun a12 w12 hI12=>?_
 clear HB1_2
 clear HB2_3
 clear HB3_6
 clear hr
 clear ht
 clear HG
 obtain ⟨i,ks,ao,cap,hi6,hP,sv12,HG,HB1_2,HB2_3,HB3_6,hr,ht,ap_hr_B1_2,ap_hr_B2_3,ap_hr_B3_6⟩:=hI12
 refine wp_seq_k fun K13 k13=>?_
 refine wp_seq_k fun K14 k14=>?_
 by_cases hi:i < 6
 · refine wp_region_lit ?_
   refine sx_hv sv12 2 [(7,.int .i64 ((i:Int))),(8,.bool true)]
     ⟨ym r5,ybc r6 (fun _=>rn_lss (decide_eq_true (by omega))),trivial⟩ fun a15 w15 g15 sv15=>?_
   refine tl_nil ?_
   refine k14 _ _ ?_
   refine cx_ifT sv15 rfl rfl ?_
   refine wp_skip ?_
   refine k13 _ _ ?_
   refine wp_seq_k fun K16 k16=>?_
   refine cx_block fun Q17 x17 y17 rt17 o17=>?_
   replace HB1_2:=rw_kn g15 HB1_2
   replace HB2_3:=rw_kn g15 HB2_3
   replace HB3_6:=rw_kn g15 HB3_6
   replace hr:=hr.kn g15
   replace ht:=TgF.kn ht g15
   replace HG:=grown_trans HG g15
   refine rx_tail (sv15.st w15) (by kernel_rfl) 7 [(12,Sp.is (vval ((kd 273 seed)) ((pjC seed i)) (.slice ao ks.length cap))),(13,Sp.is (.int .i64 ((i:Int)))),(14,Sp.is (dval ((ownD i)))),(15,Sp.vt ((vltP seed (i+1),(kd 273 seed),(pjC seed (i+1))),(0:Int)) (fpK (.slice ao ks.length cap) ks)),(11,Sp.vt ((vltP seed (i+1),(kd 273 seed),(pjC seed (i+1))),(0:Int)) (fpK (.slice ao ks.length cap) ks)),(16,Sp.vv (vltP seed (i+1),(kd 273 seed),(pjC seed (i+1))) (fpK (.slice ao ks.length cap) ks)),(17,Sp.is (.int .i64 0))] rfl (by kernel_rfl) (by kernel_rfl) (by kernel_rfl) [6] (by kernel_rfl)
     ⟨yl r6 (tyVa (kd_dg _ _) (pjC_dg seed i) (.slice ao ks.length cap) rfl) HB3_6,ym r5,ox_call (Sp.is (dval ((ownD i)))) [.int .i64 ((i:Int))] rfl rfl trivial ⟨(oy rfl rfl),trivial⟩ (is_on fun W g=>owner_walk i hi W) (fun _ _ h=>h) (enter_of Tryz.func30 (by kernel_rfl) rfl),ox_call (Sp.vt ((vltP seed (i+1),(kd 273 seed),(pjC seed (i+1))),(0:Int)) (fpK (.slice ao ks.length cap) ks)) [vval ((kd 273 seed)) ((pjC seed i)) (.slice ao ks.length cap),dval ((ownD i))] rfl rfl trivial ⟨(oy rfl rfl),(oy rfl rfl),trivial⟩ (rens_on (kd_dg _ _) (pjC_dg seed i) (ownD_dg i) hr rfl (T:=Tsd seed i) rfl (ensO_V hP hi)) (fun _ _ h=>h) (enter_of Tryz.func39 (by kernel_rfl) rfl),ym r5,ox_extract rfl rfl rfl trivial (fun w u h=>vt_vault w u h),ox_extract rfl rfl rfl trivial (fun w u h=>vt_err w u h),trivial⟩ ⟨fun o ho=>by obtain rfl:=Option.some.inj ho;exact px_extract rfl rfl rfl trivial (fun w u h=>vt_err w u h),trivial⟩
     [] (by kernel_rfl) trivial ⟨.inl rfl,.inl rfl,.inl rfl,.inl rfl,.inl rfl,.inl rfl,.inl rfl,trivial⟩ (by kernel_rfl) fun a18 w18 g18 st18 nd18=>?_
   obtain ⟨hn18,hd18,e18_12,e18_13,e18_14,e18_15,e18_11,e18_16,e18_17,e18_7,e18_8,e18_4,e18_3,e18_5,e18_6,e18_2,e18_1,e18_0,-⟩:=st18
   obtain ⟨ao19,cap19,ks19,e18_16q,hp19,hk19,hf19⟩:=e18_16
   replace HB1_2:=rw_kn g18 HB1_2
   replace HB2_3:=rw_kn g18 HB2_3
   replace HB3_6:=rw_kn g18 HB3_6
   replace hr:=hr.kn g18
   replace ht:=TgF.kn ht g18
   replace HG:=grown_trans HG g18
   have ap_hk19_B1_2:=vt_ap1 hf19 ap_hr_B1_2 HB1_2 (by decide)
   have ap_hk19_B2_3:=vt_ap1 hf19 ap_hr_B2_3 HB2_3 (by decide)
   have ap_hk19_B3_6:=vt_ap1 hf19 ap_hr_B3_6 HB3_6 (by decide)
   have sv18:Sv 19 [] [(7,_),(8,_),(4,_),(3,_),(5,_),(6,_),(2,_),(1,_),(0,_),(16,_)] a18:=⟨hn18,hd18,e18_7,e18_8,e18_4,e18_3,e18_5,e18_6,e18_2,e18_1,e18_0,e18_16q,trivial⟩
   refine tl_sw sv18 r7 (tyVa (kd_dg _ _) (pjC_dg seed (i+1)) (.slice ao19 ks19.length cap19) rfl) HB3_6 (by first | rfl | simp [kcells,bv_length,zero32_len,(kd_dg _ _).1,(pjC_dg seed (i+1)).1,(kd_dg _ _).1,(pjC_dg seed i).1]) fun w20 g20 h20=>?_
   replace HB1_2:=rw_st g20 HB1_2 (Ne.symm ne_B3_6_B1_2)
   replace HB2_3:=rw_st g20 HB2_3 (Ne.symm ne_B3_6_B2_3)
   replace hr:=hr.offR g20 (no_b ap_hr_B3_6)
   replace ht:=TgF.offR ht g20 (no_b ap_hr_B3_6)
   replace hk19:=hk19.offR g20 (no_b ap_hk19_B3_6)
   replace hf19:=TgF.offR hf19 g20 (no_b ap_hk19_B3_6)
   replace HG:=grown_newR HG g20 lo_B3_6
   replace HB3_6:=h20
   refine tl_nil ?_
   refine y17 _ _ ?_
   refine k16 _ _ ?_
   refine wp_region_lit ?_
   refine sx_hv sv18 2 [(9,.int .i64 ((i:Int))),(10,.int .i64 (((i+1:Nat):Int)))]
     ⟨ym r5,ybc r6 (fun _=>rn_add (by rw [wrap_i64 (by omega) (by omega)];omega)),trivial⟩ fun a21 w21 g21 sv21=>?_
   refine tl_as (v:=.int .i64 (((i+1:Nat):Int))) sv21 r6 fun a22 sv22=>?_
   refine tl_nil ?_
   replace HB1_2:=rw_kn g21 HB1_2
   replace HB2_3:=rw_kn g21 HB2_3
   replace HB3_6:=rw_kn g21 HB3_6
   replace hr:=hr.kn g21
   replace ht:=TgF.kn ht g21
   replace hk19:=hk19.kn g21
   replace hf19:=TgF.kn hf19 g21
   replace HG:=grown_trans HG g21
   have htn:=hf19.join ht
   exact ⟨⟨i+1,ks19,ao19,cap19,by omega,hp19,⟨sv22.1,sv22.2.1,sv22.2.2.1,sv22.2.2.2.2.2.2.2.1,sv22.2.2.2.2.2.2.2.2.1,sv22.2.2.2.2.2.2.2.2.2.1,sv22.2.2.2.2.2.2.2.2.2.2.1,sv22.2.2.2.2.2.2.2.2.2.2.2.1,sv22.2.2.2.2.2.2.2.2.2.2.2.2.1,trivial⟩,HG,HB1_2,HB2_3,HB3_6,hk19,htn,ap_hk19_B1_2,ap_hk19_B2_3,ap_hk19_B3_6⟩,by rw [show _=_ from sv22.2.2.1,show _=_ from sv12.2.2.1];simp [intOf];omega⟩
 · obtain rfl:i=6:=by omega
   refine wp_region_lit ?_
   refine sx_hv sv12 2 [(7,.int .i64 (((6:Nat):Int))),(8,.bool false)]
     ⟨ym r5,ybc r6 (fun _=>rn_lss (by simp)),trivial⟩ fun a23 w23 g23 sv23=>?_
   refine tl_nil ?_
   refine k14 _ _ ?_
   refine cx_ifF sv23 rfl rfl ?_
   refine wp_exit ?_
   repeat refine then_exit ?_
   refine x11 _ _ ?_
   refine k8 _ _ ?_
   refine wp_seq_k fun K24 k24=>?_
   refine wp_region_lit ?_
   refine sx_hv sv23 1 [(18,vval ((kd 273 seed)) ((pjC seed 6)) (.slice ao ks.length cap))]
     ⟨yl r6 (tyVa (kd_dg _ _) (pjC_dg seed 6) (.slice ao ks.length cap) rfl) (rw_kn g23 HB3_6),trivial⟩ fun a25 w25 g25 sv25=>?_
   have gc25:=grown_trans g23 g25
   refine tl_sw sv25 r7 (tyVa (kd_dg _ _) (pjC_dg seed 6) (.slice ao ks.length cap) rfl) (rw_kn gc25 HB2_3) (by first | rfl | simp [kcells,bv_length,zero32_len,(kd_dg _ _).1,(pjC_dg seed 6).1]) fun w26 g26 h26=>?_
   replace HB1_2:=rw_s2 gc25 g26 HB1_2 (Ne.symm ne_B2_3_B1_2)
   replace HB3_6:=rw_s2 gc25 g26 HB3_6 ne_B3_6_B2_3
   replace hr:=(hr.kn gc25).offR g26 (no_b ap_hr_B2_3)
   replace ht:=TgF.offR (TgF.kn ht gc25) g26 (no_b ap_hr_B2_3)
   replace HG:=grown_newR (grown_trans HG gc25) g26 lo_B2_3
   replace HB2_3:=h26
   refine tl_nil ?_
   refine k24 _ _ ?_
   refine wp_ret ?_
   repeat refine then_ret ?_
   refine cx_ret (fn:=Tryz.f14) sv25 (res_cell (p:=2) Tryz.results14 sv25 rfl rfl (tyVa (kd_dg _ _) (pjC_dg seed 6) (.slice ao ks.length cap) rfl) HB2_3) ?_
   exact ⟨_,rfl,HG,ao,cap,ks,rfl,hP,hr,ht⟩
set_option maxRecDepth 100000 in
set_option maxHeartbeats 4000000 in
theorem cseal_walk (ks:List VK) (vo:Option Addr) (vc_:Nat) (sa po:List Nat) (hsa:Dg sa) (hpo:Dg po) (P:List VP) (hP:ks.map VK.p=P) (x:V) (n:Int) (b:Bool) (a:Int) (r:Sd×Int) (hres:cellO P x n b a=r) (w:World) (hr:RdK w (.slice vo ks.length vc_) ks) :
   Calls Tryz.prog 15 #[cellv x n b a,vval sa po (.slice vo ks.length vc_)] w fun e w'=>∃ v,e=.returned v∧w.grownBy w' none∧(Sp.sr w.heap.size r).on w' v:=by
 refine cx_enter Tryz.func15 rfl Tryz.ntmps15 rfl fun a0 sv0=>?_
 have HG:=World.grownBy.refl w none
 replace sv0:Sv 19 [] [(0,cellv x n b a),(1,vval sa po (.slice vo ks.length vc_))] a0:=sv0
 refine wp_seq_k fun K1 k1=>?_
 refine wp_region_lit ?_
 refine tl_box sv0 rfl rfl rfl rfl rfl rfl (tyCe x n b a) fun a2 w2 B2_2 eq_B2_2 g2 z2 HB2_2 sv2=>?_
 have lo_B2_2:=nb_lo HG eq_B2_2
 have ap_hr_B2_2:=nb_ap (hr.lt) eq_B2_2
 replace hr:=hr.kn g2
 replace HG:=grown_trans HG g2
 refine tl_box sv2 rfl rfl rfl rfl rfl rfl (tyVa hsa hpo (.slice vo ks.length vc_) rfl) fun a3 w3 B3_3 eq_B3_3 g3 z3 HB3_3 sv3=>?_
 have ne_B3_3_B2_2:=nb_ne HB2_2 eq_B3_3
 have lo_B3_3:=nb_lo HG eq_B3_3
 have ap_hr_B3_3:=nb_ap (hr.lt) eq_B3_3
 replace HB2_2:=rw_kn g3 HB2_2
 replace hr:=hr.kn g3
 replace HG:=grown_trans HG g3
 refine tl_alloc (T:=31) (Z:=([[.int .i64 0],[.slice none 0 0],[.int .i64 0],[.slice none 0 0],[.slice none 0 0],bv zero32].flatten)) sv3 rfl rfl rfl (fun a w=>by kernel_rfl) fun a4 w4 B4_4 eq_B4_4 g4 z4 HB4_4 sv4=>?_
 have ne_B4_4_B2_2:=nb_ne HB2_2 eq_B4_4
 have ne_B4_4_B3_3:=nb_ne HB3_3 eq_B4_4
 have lo_B4_4:=nb_lo HG eq_B4_4
 have ap_hr_B4_4:=nb_ap (hr.lt) eq_B4_4
 replace HB2_2:=rw_kn g4 HB2_2
 replace HB3_3:=rw_kn g4 HB3_3
 replace hr:=hr.kn g4
 replace HG:=grown_trans HG g4
 refine tl_as (v:=.int .i64 0) sv4 r6 fun a5 sv5=>?_
 refine tl_nil ?_
 refine k1 _ _ ?_
 refine wp_seq_k fun K6 k6=>?_
 refine rx_tail (sv5.st w4) (by kernel_rfl) 13 [(6,Sp.is (vval sa po (.slice vo ks.length vc_))),(7,Sp.is (pk B2_2 3)),(8,Sp.is (.int .i64 n)),(9,Sp.row w4.heap.size 23 32 (setD n 6).length ((setD n 6).flatMap dcs)),(10,Sp.is (cellv x n b a)),(11,Sp.is (.int .i64 ((jt b)))),(12,Sp.is (cellv x n b a)),(13,Sp.is (.int .i64 ((adrC a)))),(14,Sp.is (pt B2_2)),(15,Sp.is (xval x)),(16,Sp.sr w4.heap.size r),(17,Sp.sl w4.heap.size r.1),(18,Sp.is (.int .i64 r.2))] rfl (by kernel_rfl) (by kernel_rfl) (by kernel_rfl) [] (by kernel_rfl)
   ⟨yl r6 (tyVa hsa hpo (.slice vo ks.length vc_) rfl) HB3_3,yf r6 (fun _=>by kernel_rfl),yp (i:=1) r6 (tyInt' n) HB2_2 rfl rfl,ox_call (Sp.row w4.heap.size 23 32 (setD n 6).length ((setD n 6).flatMap dcs)) [.int .i64 n] rfl rfl trivial ⟨(oy rfl rfl),trivial⟩ (fun W g=>set_on n g) (fun _ _ h=>h) (enter_of Tryz.func17 (by kernel_rfl) rfl),yl r6 (tyCe x n b a) HB2_2,ox_call (Sp.is (.int .i64 ((jt b)))) [cellv x n b a] rfl rfl trivial ⟨(oy rfl rfl),trivial⟩ (is_on fun W g=>joint_walk x n b a W) (fun _ _ h=>h) (enter_of Tryz.func18 (by kernel_rfl) rfl),yl r6 (tyCe x n b a) HB2_2,ox_call (Sp.is (.int .i64 ((adrC a)))) [cellv x n b a] rfl rfl trivial ⟨(oy rfl rfl),trivial⟩ (is_on fun W g=>addr_walk x n b a W) (fun _ _ h=>h) (enter_of Tryz.func19 (by kernel_rfl) rfl),yf r6 (fun _=>by kernel_rfl),yp (i:=0) r6 (tyV2 x) HB2_2 rfl rfl,ox_callY (Sp.sr w4.heap.size r) rfl rfl trivial rfl (fun W g av h=>match av,h with | [_,_,_,_,_],⟨rfl,hv,rfl,rfl,rfl,_⟩=>seal_y hsa hpo (hr.kn g) hP (row_y hv) (Nat.le_trans (setD_le n 6) (by decide)) g.size hres) (fun _ _ h=>h) (enter_of Tryz.func20 (by kernel_rfl) rfl),ox_extract rfl rfl rfl trivial (fun w u h=>sr_sl w u h),ox_extract rfl rfl rfl trivial (fun w u h=>sr_err w u h),trivial⟩ trivial
   [] (by kernel_rfl) trivial ⟨.inl rfl,.inl rfl,.inl rfl,.inl rfl,.inl rfl,.inl rfl,.inl rfl,.inl rfl,.inl rfl,.inl rfl,.inl rfl,.inl rfl,.inl rfl,trivial⟩ (by kernel_rfl) fun a7 w7 g7 st7 nd7=>?_
 obtain ⟨hn7,hd7,e7_6,e7_7,e7_8,e7_9,e7_10,e7_11,e7_12,e7_13,e7_14,e7_15,e7_16,e7_17,e7_18,e7_5,e7_4,e7_3,e7_2,e7_0,e7_1,-⟩:=st7
 obtain ⟨own8,wr8,ao8,wo8,bo8,ac8,wc8,bc8,e7_17q,hF,fr8⟩:=e7_17
 have ap_hF_B2_2:=fr_ap fr8 HB2_2
 have ap_hF_B3_3:=fr_ap fr8 HB3_3
 have ap_hF_B4_4:=fr_ap fr8 HB4_4
 have lo_hF:∀ k,fpSd (.slice ao8 (List.length own8) ac8) (.slice wo8 (List.length wr8) wc8) (.slice bo8 r.1.body.length bc8) k→w.heap.size≤k:=fun k hk=>Nat.le_trans HG.size (fr8 k hk)
 replace HB2_2:=rw_kn g7 HB2_2
 replace HB3_3:=rw_kn g7 HB3_3
 replace HB4_4:=rw_kn g7 HB4_4
 replace hr:=hr.kn g7
 replace HG:=grown_trans HG g7
 have sv7:Sv 19 [] [(5,_),(4,_),(3,_),(2,_),(0,_),(1,_),(17,_),(18,_)] a7:=⟨hn7,hd7,e7_5,e7_4,e7_3,e7_2,e7_0,e7_1,e7_17q,e7_18,trivial⟩
 refine tl_sw sv7 r7 (tySd _ _ hF.tg (.slice ao8 (List.length own8) ac8) (.slice wo8 (List.length wr8) wc8) (.slice bo8 r.1.body.length bc8) rfl rfl rfl) HB4_4 (sd_size zero32_dg hF.tg) fun w9 g9 h9=>?_
 replace HB2_2:=rw_st g9 HB2_2 (Ne.symm ne_B4_4_B2_2)
 replace HB3_3:=rw_st g9 HB3_3 (Ne.symm ne_B4_4_B3_3)
 replace hr:=hr.offR g9 (no_b ap_hr_B4_4)
 replace hF:=hF.offR g9 (no_b ap_hF_B4_4)
 replace HG:=grown_newR HG g9 lo_B4_4
 replace HB4_4:=h9
 refine tl_as (v:=.int .i64 r.2) sv7 r6 fun a10 sv10=>?_
 have sv11:Sv 19 [] [(5,_),(4,_),(0,_),(1,_)] a10:=sv10.dl [3,2,17,18]
 refine tl_nil ?_
 refine k6 _ _ ?_
 refine wp_ret ?_
 repeat refine then_ret ?_
 refine cx_ret (fn:=Tryz.f15) sv11 (res_ct (p:=4) (q:=5) Tryz.results15 sv11 rfl rfl rfl rfl (tySd _ _ hF.tg (.slice ao8 (List.length own8) ac8) (.slice wo8 (List.length wr8) wc8) (.slice bo8 r.1.body.length bc8) rfl rfl rfl) HB4_4) ?_
 exact ⟨_,rfl,HG,own8,wr8,ao8,wo8,bo8,ac8,wc8,bc8,rfl,hF,lo_hF⟩
end Go.Proofs.YtbfjfnbcmojpiaaGreat
