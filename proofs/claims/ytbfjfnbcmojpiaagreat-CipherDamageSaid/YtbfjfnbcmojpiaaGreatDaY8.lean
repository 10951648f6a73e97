import Derived.Test.YtbfjfnbcmojpiaaGreatDaY7
set_option linter.unusedSimpArgs false
set_option linter.unusedVariables false
set_option maxRecDepth 100000
set_option maxHeartbeats 4000000
namespace Go.Proofs.YtbfjfnbcmojpiaaGreat
open Go.RowKit Go.Shelf
theorem E9 (p q:Value) (w:World):CallsD Tryz.prog 49 #[p,q] .returning w fun e u' w'=>e=.returned (.tuple #[])∧u'=.returning∧w'=w:=by
 refine callsD_of_wpS Tryz.func49 rfl fun c₀ cs hu=>?_
 apply wpS_seq
 apply wpS_region
 simp[wpOpsS,go_sem,recoverD,hu,Tryz.ntmps49,Exit.thenS]
 refine wpS_cond (t:=false) (by simp[Act.eval,Array.replicate]) ?_
 simp only[Bool.false_eq_true,if_false]
 refine wpS_of_wp (AOU ?_)
 cases c₀
 simp_all [bodyPostS,results,Tryz.results49]
theorem EW (p q:Value) (w:World):CallsD Tryz.prog 60 #[p,q] .returning w fun e u' w'=>e=.returned (.tuple #[])∧u'=.returning∧w'=w:=by
 refine callsD_of_wpS Tryz.func60 rfl fun c₀ cs hu=>?_
 apply wpS_seq
 apply wpS_region
 simp[wpOpsS,go_sem,recoverD,hu,Tryz.ntmps60,Exit.thenS]
 refine wpS_cond (t:=false) (by simp[Act.eval,Array.replicate]) ?_
 simp only[Bool.false_eq_true,if_false]
 refine wpS_of_wp (AOU ?_)
 cases c₀
 simp_all [bodyPostS,results,Tryz.results60]
def SRes (w w':World) (r:Sd×Int) (e:Ending):Prop:=
 ∃(own wr:List DD) (ao wo bo:Option Addr) (ac wc bc:Nat),e=.returned (.tuple #[Bv r.1.addr (.slice ao own.length ac) r.1.joint (.slice wo wr.length wc) (.slice bo r.1.body.length bc) r.1.tag,.int .i64 r.2])∧own.map DD.x=r.1.own∧wr.map DD.x=r.1.wr ∧
  Own w' 23 32 (.slice ao own.length ac) own.length (own.flatMap Ja)∧Own w' 23 32 (.slice wo wr.length wc) wr.length (wr.flatMap Ja)∧Own w' 5 1 (.slice bo r.1.body.length bc) r.1.body.length (bv r.1.body) ∧
  (∀k,BC (.slice ao own.length ac) k→w.heap.size≤k)∧(∀k,BC (.slice wo wr.length wc) k→w.heap.size≤k)∧(∀k,BC (.slice bo r.1.body.length bc) k→w.heap.size≤k)∧(∀k,BC (.slice ao own.length ac) k→¬BC (.slice wo wr.length wc) k)∧Dg r.1.tag∧By r.1.body∧w.grownBy w' none
theorem SRes.mk {w w':World} {r:Sd×Int} {s:Sd} {er:Int} {own wr:List DD} {ao wo bo:Option Addr} {ac wc bc n m l:Nat} (hr:r=(s,er)) (hn:own.length=n) (hm:wr.length=m) (hl:s.body.length=l) (h1:own.map DD.x=s.own) (h2:wr.map DD.x=s.wr)
  (h3:Own w' 23 32 (.slice ao n ac) n (own.flatMap Ja)) (h4:Own w' 23 32 (.slice wo m wc) m (wr.flatMap Ja)) (h5:Own w' 5 1 (.slice bo l bc) l (bv s.body)) (f1:∀k,BC (.slice ao n ac) k→w.heap.size≤k) (f2:∀k,BC (.slice wo m wc) k→w.heap.size≤k) (f3:∀k,BC (.slice bo l bc) k→w.heap.size≤k) (f4:∀k,BC (.slice ao n ac) k→¬BC (.slice wo m wc) k)
  (ht:Dg s.tag) (hb:By s.body) (g:w.grownBy w' none) {v:Value} (hv:v=Bv s.addr (.slice ao n ac) s.joint (.slice wo m wc) (.slice bo l bc) s.tag):SRes w w' r (.returned (.tuple #[v,.int .i64 er])):=by
 subst hr hn hm hl hv
 exact⟨own,wr,ao,wo,bo,ac,wc,bc,rfl,h1,h2,h3,h4,h5,f1,f2,f3,f4,ht,hb,g⟩
theorem SRes.zero {w w':World} {r:Sd×Int} {er:Int} (hr:r=(Sd.zero,er)) (g:w.grownBy w' none):SRes w w' r (.returned (.tuple #[Bv 0 (.slice none 0 0) 0 (.slice none 0 0) (.slice none 0 0) AR,.int .i64 er])):=
 SRes.mk (own:=[]) (wr:=[]) (ao:=none) (wo:=none) (bo:=none) (ac:=0) (wc:=0) (bc:=0) hr rfl rfl rfl rfl rfl (Own.nil _ _ _) (Own.nil _ _ _) (Own.nil _ _ _) (fun k hk=>by simp[BC,Value.ownBlock] at hk) (fun k hk=>by simp[BC,Value.ownBlock] at hk) (fun k hk=>by simp[BC,Value.ownBlock] at hk) (fun k hk=>by simp[BC,Value.ownBlock] at hk) AU (fun b hb=>by simp[Sd.zero] at hb) g rfl
theorem Jh {P:List VP} {own:List (List Nat)} {joint a:Int} {x:V} (h:hd own joint a=false∨Co P=false):Gk P own joint a x=(Sd.zero,1):=by
 unfold Gk
 rcases h with h|h<;>simp[h]
theorem Ie {P:List VP} {joint a:Int} {x:V} (h1:hd [] joint a=true) (h2:Co P=true):Gk P [] joint a x=(⟨a,[],joint,[],BQ x,Nt a (BQ x)⟩,0):=by
 unfold Gk
 simp[h1,h2]
theorem Wb {P:List VP} {own:List (List Nat)} {joint a:Int} {x:V} {e:Int} (h1:hd own joint a=true) (h2:Co P=true) (h3:own≠[]) (h4:(Df P a own).2=e) (h5:e≠0):Gk P own joint a x=(Sd.zero,e):=by
 unfold Gk
 simp[h1,h2,h3,h4,h5]
theorem Gm {P:List VP} {own:List (List Nat)} {joint a:Int} {x:V} {K:List (List Nat)} {c:List Nat} (h1:hd own joint a=true) (h2:Co P=true) (h3:own≠[]) (h4:(Df P a own).2=0) (h5:K=(Df P a own).1) (h6:Qx (decide (joint=1)) K=c) :
  Gk P own joint a x=(⟨a,own,joint,if joint=1 then K.map (Mg c) else [],Fj (BQ x) c,MI c a (Fj (BQ x) c)⟩,0):=by
 subst h5
 subst h6
 unfold Gk
 simp[h1,h2,h3,h4]
theorem J8 {P:List VP} {a:Int}:∀{own:List (List Nat)},(∀j,j<own.length→(DI P (Lf own j) a).2=0)→(Df P a own).1=own.map (fun z=>(DI P z a).1)∧(Df P a own).2=0
 | [],_=>⟨rfl,rfl⟩
 | o::l,h=>by
  have h0:(DI P o a).2=0:=h 0 (by simp)
  obtain⟨h1,h2⟩:=J8 (own:=l) fun j hj=>h (j+1) (by simpa using hj)
  unfold Df
  rw[if_pos h0]
  exact⟨by rw[h1];rfl,h2⟩
theorem Lg {P:List VP} {a:Int}:∀{own:List (List Nat)} {i:Nat},i<own.length→(∀j,j<i→(DI P (Lf own j) a).2=0)→(DI P (Lf own i) a).2≠0→(Df P a own).2=(DI P (Lf own i) a).2
 | [],i,hi,_,_=>by simp at hi
 | o::l,0,_,_,h=>by
  have h0:(DI P o a).2≠0:=h
  unfold Df
  rw[if_neg h0]
  rfl
 | o::l,i+1,hi,hj,h=>by
  have h0:(DI P o a).2=0:=hj 0 (by omega)
  have:=Lg (own:=l) (i:=i) (by simpa using hi) (fun j hjj=>hj (j+1) (by omega)) h
  unfold Df
  rw[if_pos h0]
  exact this
theorem NY {P:List VP} {a:Int} {own:List (List Nat)} {i:Nat} {kl:List DD} {y:List Nat} {kx:List Nat×Int} (h:kl.map DD.x=(own.take i).map fun z=>(DI P z a).1) (hi:i<own.length) (hla:Lf own i=y) (hkx:DI P y a=kx) {hkd:Dg kx.1}:(kl++[(⟨kx.1,hkd⟩:DD)]).map DD.x=(own.take (i+1)).map fun z=>(DI P z a).1:=by
 rw[List.take_add_one,List.getElem?_eq_getElem hi,List.map_append,List.map_append,h]
 rw[ADI hi] at hla
 simp[hla,hkx]
theorem OP (kl:List DD) (d:DD):kl.flatMap Ja++bv d.x=(kl++[d]).flatMap Ja:=by rw[List.flatMap_append];simp[Ja]
theorem Iv {w:World} {B:Nat} {d:List Nat} {t:TypeId} {fr:Nat×Nat} (h:w.heap[B]?=some (.cells (bv d).toArray t fr)) (hd:Dg d):Sl w 32 (.slice (some ⟨B,0,none⟩) 1 1) 1 (bv d):=by
 refine⟨by rw[AO,hd.1],_,_,rfl,Nat.le_refl _,by decide,fun h=>(by cases h),fun ad had=>?_⟩
 obtain rfl:=Option.some.inj had
 refine⟨fun _=>rfl,fun j u hu=>?_⟩
 have:=Av h j u hu
 simpa using this
theorem Up {d:List Nat} (hd:Dg d) (W:World):(Instr.buildSlice 28 1 #[(0,AQ d)]).run Tryz.prog W=.ok (.slice (some ⟨W.heap.size,0,none⟩) 1 1) (W.alloc (.cells (bv d).toArray 23)):=by
 obtain⟨x0,x1,x2,x3,x4,x5,x6,x7,x8,x9,x10,x11,x12,x13,x14,x15,x16,x17,x18,x19,x20,x21,x22,x23,x24,x25,x26,x27,x28,x29,x30,x31,rfl⟩:=Jq _ hd.1
 kernel_rfl
theorem Ig {c y:List Nat} (hc:Dg c) (hy:Dg y):Dg (Mg c y):=AFs hc (Bp 283 y)
def wrL (c:List Nat) (hc:Dg c) (kl:List DD) (j:Nat):List DD:=(kl.take j).map fun z=>⟨Mg c z.x,Ig hc z.h⟩
theorem AAz {c:List Nat} (hc:Dg c) {kl:List DD} {j:Nat} {z:DD} (hj:j<kl.length) (hz:kl[j]=z):(wrL c hc kl j).flatMap Ja++bv (Mg c z.x)=(wrL c hc kl (j+1)).flatMap Ja:=by
 unfold wrL
 rw[List.take_add_one,List.getElem?_eq_getElem hj,hz,List.map_append,List.flatMap_append]
 simp[Ja]
theorem AEg {c:List Nat} {hc:Dg c} {kl:List DD} {j:Nat} (hj:kl.length≤j):(wrL c hc kl j).map DD.x=kl.map fun z=>Mg c z.x:=by
 unfold wrL
 rw[List.take_of_length_le hj,List.map_map]
 rfl
theorem AEh {c:List Nat} {hc:Dg c} {kl:List DD} {j:Nat} (hj:j≤kl.length):(wrL c hc kl j).length=j:=by
 unfold wrL
 rw[List.length_map,List.length_take]
 omega
theorem AH7 {w:World} {kl:List DD} {n:Nat} {ko:Option Addr} {kc:Nat} {joint:Int} {c:List Nat} (hn:kl.length=n) (hr:SlB w 32 (.slice ko n kc) n (kl.flatMap Ja)) (hl:n≤1000) (hc:Qx (decide (joint=1)) (kl.map DD.x)=c):Calls Tryz.prog 55 #[.int .i64 joint,.slice ko n kc] w fun e w'=>e=.returned (AQ c)∧w.grownBy w' none:=by
 subst hn hc
 exact AFz joint kl ko kc w hr hl
theorem Py {w:World} {kl:List DD} {n:Nat} {ko:Option Addr} {kc:Nat} {joint:Int} {c:List Nat} (hn:kl.length=n) (hr:SlB w 32 (.slice ko n kc) n (kl.flatMap Ja)) (hl:n≤1000) (hj:joint=0∨joint=1) (hc:Qx (decide (joint=1)) (kl.map DD.x)=c):Calls Tryz.prog 45 #[.int .i64 joint,.slice ko n kc] w fun e w'=>e=.returned (AQ c)∧w.grownBy w' none:=by
 subst hn hc
 exact Xn joint kl ko kc w hr hl hj
theorem RdK.noks2 {w:World} {v:Value} {ks:List VK} (h:RdK w v ks):∀i,i<(ks.map VK.p).length→∀n∈tr (ks.map VK.p) i,Nok n:=fun i hi n hn=>by
 have hi':i<ks.length:=by simpa using hi
 rw[XQ hi'] at hn
 exact(h.2 _ (List.getElem_mem hi')).2.1 n hn
theorem Lh {P:List VP} {o:List Nat} {a:Int} (h:∀i,i<P.length→∀n∈tr P i,Nok n):Dg (DI P o a).1:=by
 unfold DI
 split
 · split
   · rename_i hf
     exact IV (h _ (XF hf).1) a
   · exact AU
 · exact AU
theorem AH8 {w:World} {ks:List VK} {vo:Option Addr} {vc:Nat} {sa po o:List Nat} {P:List VP} {a:Int} {q:List Nat×Int} (hsa:Dg sa) (hpo:Dg po) (ho:Dg o) (hk:RdK w (.slice vo ks.length vc) ks) (hm:ks.map VK.p=P) (hres:DI P o a=q) :
 Calls Tryz.prog 32 #[Ay sa po (.slice vo ks.length vc),AQ o,.int .i64 a] w fun e w'=>e=.returned (.tuple #[AQ q.1,.int .i64 q.2])∧w.grownBy w' none:=AMb hsa hpo ho hk hm hres
theorem Re {w:World} {ds:List DD} {own:List (List Nat)} {ao:Option Addr} {cap:Nat} {joint addr:Int} {b:Bool} (hr:RdD w (.slice ao ds.length cap) ds) (hown:ds.map DD.x=own) (hb:hd own joint addr=b):Calls Tryz.prog 50 #[.slice ao ds.length cap,.int .i64 joint,.int .i64 addr] w fun e w'=>e=.returned (.bool b)∧w.grownBy w' none:=Rd hr (hown▸hb)
theorem AEi {w:World} {ds:List DD} {own:List (List Nat)} {ao:Option Addr} {cap:Nat} {joint addr:Int} {b:Bool} (hr:RdD w (.slice ao ds.length cap) ds) (hown:ds.map DD.x=own) (hb:hd own joint addr=b):Calls Tryz.prog 41 #[.slice ao ds.length cap,.int .i64 joint,.int .i64 addr] w fun e w'=>e=.returned (.bool b)∧w.grownBy w' none:=PE hr (hown▸hb)
theorem Ef (x:V):By (BQ x):=fun b hb=>AI2 _ b hb
theorem Wc (kl:List DD) (c:List Nat):(kl.map fun z=>Mg c z.x)=(kl.map DD.x).map (Mg c):=by rw[List.map_map];rfl
theorem AF3 (ks:List VK) (vo:Option Addr) (vc_:Nat) (sa po:List Nat) (hsa:Dg sa) (hpo:Dg po) (ds:List DD) (ao:Option Addr) (ac:Nat) (joint ad:Int) (x:V) (w:World) (hr:RdK w (.slice vo ks.length vc_) ks) (ho:RdD w (.slice ao ds.length ac) ds) (hdl:ds.length≤1000) :
   Calls Tryz.prog 20 #[Ay sa po (.slice vo ks.length vc_),.slice ao ds.length ac,.int .i64 joint,.int .i64 ad,Br x] w fun e w'=>SRes w w' (Gk (ks.map VK.p) (ds.map DD.x) joint ad x) e:=by
 obtain⟨P,hP⟩:∃P,ks.map VK.p=P:=⟨_,rfl⟩
 obtain⟨own,hown⟩:∃own,ds.map DD.x=own:=⟨_,rfl⟩
 have hownl:own.length=ds.length:=by rw[←hown,List.length_map]
 have hnok:=hr.noks2
 rw[hP] at hnok
 rw[hP,hown]
 refine FY Tryz.func20 rfl Tryz.ntmps20 rfl fun a0 sv0=>?_
 have HG:=World.grownBy.refl w none
 replace sv0:Sv 104 [] [(0,Ay sa po (.slice vo ks.length vc_)),(1,.slice ao ds.length ac),(2,.int .i64 joint),(3,.int .i64 ad),(4,Br x)] a0:=sv0
 refine AOQ fun K1 k1=>?_
 refine AOP ?_
 refine Bi sv0 r6 (B6 hsa hpo (.slice vo ks.length vc_) rfl) fun a2 w2 KT AJ5 g2 z2 Aj sv2=>?_
 refine Bi sv2 r6 (C6 x) fun a3 w3 KU AJ6 g3 z3 As sv3=>?_
 replace Aj:=AC g3 Aj
 replace hr:=(hr.kn g2).kn g3
 replace ho:=(ho.kn g2).kn g3
 replace HG:=AA (AA HG g2) g3
 refine A9 (T:=31) (Z:=([[.int .i64 0],[.slice none 0 0],[.int .i64 0],[.slice none 0 0],[.slice none 0 0],bv AR].flatten)) sv3 rfl rfl rfl (fun a w=>by kernel_rfl) fun a4 w4 Ee Fz g4 z4 AV sv4=>?_
 have Cq:=Ao Aj Fz
 have Cr:=Ao As Fz
 have EO:=Bq HG Fz
 have DX:=Aw (hr.lt) Fz
 have DY:=Aw (ho.lt) Fz
 replace Aj:=AC g4 Aj
 replace As:=AC g4 As
 replace hr:=hr.kn g4
 replace ho:=ho.kn g4
 replace HG:=AA HG g4
 refine A9 (T:=38) (Z:=[.int .i64 0]) sv4 rfl rfl rfl (fun a w=>by kernel_rfl) fun a5 w5 J9 Li g5 z5 Az sv5=>?_
 have FZ:=Ao Aj Li
 have Fa:=Ao As Li
 have CK:=Ao AV Li
 have KD:=Bq HG Li
 have Hg:=Aw (hr.lt) Li
 have Hh:=Aw (ho.lt) Li
 replace Aj:=AC g5 Aj
 replace As:=AC g5 As
 replace AV:=AC g5 AV
 replace hr:=hr.kn g5
 replace ho:=ho.kn g5
 replace HG:=AA HG g5
 refine AD ?_
 refine k1 _ _ ?_
 refine AOQ fun K6 k6=>?_
 refine AOP ?_
 refine I5 sv5 rfl rfl rfl rfl rfl rfl fun a7 sv7=>?_
 refine Gh sv7 rfl (dd:={ target:=.fn (.func 49) #[pt Ee,pt J9],args:=#[] }) rfl (by have e1:=sv7.ev (x:=.tmp 22) rfl rfl;simp[execOp,resolve,Deferred.ofValue,e1];try rfl) fun a8 sv8=>?_
 refine AD ?_
 refine k6 _ _ ?_
 refine AOQ fun K9 k9=>?_
 refine AOQ fun K10 k10=>?_
 rcases(show(hd own joint ad=false∧Co P=false)∨(hd own joint ad=false∧Co P=true)∨(hd own joint ad=true∧Co P=false)∨(hd own joint ad=true∧Co P=true) by cases hd own joint ad<;>cases Co P<;>simp) with ⟨hh,hv⟩|⟨hh,hv⟩|⟨hh,hv⟩|⟨hh,hv⟩
 · refine AOP ?_
   refine AH sv8 10 [(23,.slice ao ds.length ac),(24,.int .i64 joint),(25,.int .i64 ad),(26,.bool false),(27,.bool true),(28,.bool true),(29,undef),(30,undef),(31,undef),(32,.bool true)]
     ⟨ym r5,ym r5,ym r5,Ag [.slice ao ds.length ac,.int .i64 joint,.int .i64 ad] Tryz.func50 (by kernel_rfl) rq4 ⟨(oy rfl rfl),(oy rfl rfl),(oy rfl rfl),AOW⟩ (A1 fun W g=>Re (ho.kn g) hown hh),C7 r6 (fun _=>Bf),ym r5,AN r6,AN r6,AN r6,BF r7,AOW⟩ fun a11 w11 g11 CQ=>?_
   refine AD ?_
   refine k10 _ _ ?_
   refine Am CQ rfl rfl ?_
   refine AOQ fun K12 k12=>?_
   refine AOP ?_
   replace AV:=AC g11 AV
   refine AH CQ 1 [(33,Bv 0 (.slice none 0 0) 0 (.slice none 0 0) (.slice none 0 0) AR)]
     ⟨BG (vs:=[]) rfl rfl trivial trivial (fun _=>AAu _) (fun _=>rfl),AOW⟩ fun a13 w13 g13 Cx=>?_
   refine Aq Cx r7 (Dh _ _ AU (.slice none 0 0) (.slice none 0 0) (.slice none 0 0) rfl rfl rfl) (AC g13 AV) (EG AU AU) fun w14 g14 h14=>?_
   replace Az:=Ab g13 g14 (AC g11 Az) CK
   refine Aq Cx r7 (Gc 1) Az rfl fun w15 g15 h15=>?_
   replace Aj:=Aa g15 (Ab g13 g14 (AC g11 Aj) (Ne.symm Cq)) (Ne.symm FZ)
   replace As:=Aa g15 (Ab g13 g14 (AC g11 As) (Ne.symm Cr)) (Ne.symm Fa)
   replace AV:=Aa g15 h14 (Ne.symm CK)
   replace hr:=(((hr.kn g11).kn g13).offR g14 (AP DX)).offR g15 (AP Hg)
   replace ho:=(((ho.kn g11).kn g13).offR g14 (AP DY)).offR g15 (AP Hh)
   replace HG:=AE (AE (AA (AA HG g11) g13) g14 EO) g15 KD
   replace Az:=h15
   refine AD ?_
   refine k12 _ _ ?_
   refine AOT ?_
   repeat refine AM ?_
   refine Bz (fn:=Tryz.f20) Cx (CR (p:=10) (q:=11) Tryz.results20 Cx rfl rfl rfl rfl (Dh _ _ AU (.slice none 0 0) (.slice none 0 0) (.slice none 0 0) rfl rfl rfl) (Gc 1) AV Az) (Ch Tryz.func49 (by kernel_rfl) rfl _ _) (E9 _ _ _) ?_
   exact SRes.zero (Jh (.inl hh)) HG
 · refine AOP ?_
   refine AH sv8 10 [(23,.slice ao ds.length ac),(24,.int .i64 joint),(25,.int .i64 ad),(26,.bool false),(27,.bool true),(28,.bool true),(29,undef),(30,undef),(31,undef),(32,.bool true)]
     ⟨ym r5,ym r5,ym r5,Ag [.slice ao ds.length ac,.int .i64 joint,.int .i64 ad] Tryz.func50 (by kernel_rfl) rq4 ⟨(oy rfl rfl),(oy rfl rfl),(oy rfl rfl),AOW⟩ (A1 fun W g=>Re (ho.kn g) hown hh),C7 r6 (fun _=>Bf),ym r5,AN r6,AN r6,AN r6,BF r7,AOW⟩ fun a16 w16 g16 DG=>?_
   refine AD ?_
   refine k10 _ _ ?_
   refine Am DG rfl rfl ?_
   refine AOQ fun K17 k17=>?_
   refine AOP ?_
   replace AV:=AC g16 AV
   refine AH DG 1 [(33,Bv 0 (.slice none 0 0) 0 (.slice none 0 0) (.slice none 0 0) AR)]
     ⟨BG (vs:=[]) rfl rfl trivial trivial (fun _=>AAu _) (fun _=>rfl),AOW⟩ fun a18 w18 g18 CY=>?_
   refine Aq CY r7 (Dh _ _ AU (.slice none 0 0) (.slice none 0 0) (.slice none 0 0) rfl rfl rfl) (AC g18 AV) (EG AU AU) fun w19 g19 h19=>?_
   replace Az:=Ab g18 g19 (AC g16 Az) CK
   refine Aq CY r7 (Gc 1) Az rfl fun w20 g20 h20=>?_
   replace Aj:=Aa g20 (Ab g18 g19 (AC g16 Aj) (Ne.symm Cq)) (Ne.symm FZ)
   replace As:=Aa g20 (Ab g18 g19 (AC g16 As) (Ne.symm Cr)) (Ne.symm Fa)
   replace AV:=Aa g20 h19 (Ne.symm CK)
   replace hr:=(((hr.kn g16).kn g18).offR g19 (AP DX)).offR g20 (AP Hg)
   replace ho:=(((ho.kn g16).kn g18).offR g19 (AP DY)).offR g20 (AP Hh)
   replace HG:=AE (AE (AA (AA HG g16) g18) g19 EO) g20 KD
   replace Az:=h20
   refine AD ?_
   refine k17 _ _ ?_
   refine AOT ?_
   repeat refine AM ?_
   refine Bz (fn:=Tryz.f20) CY (CR (p:=10) (q:=11) Tryz.results20 CY rfl rfl rfl rfl (Dh _ _ AU (.slice none 0 0) (.slice none 0 0) (.slice none 0 0) rfl rfl rfl) (Gc 1) AV Az) (Ch Tryz.func49 (by kernel_rfl) rfl _ _) (E9 _ _ _) ?_
   exact SRes.zero (Jh (.inl hh)) HG
 · refine AOP ?_
   refine AH sv8 10 [(23,.slice ao ds.length ac),(24,.int .i64 joint),(25,.int .i64 ad),(26,.bool true),(27,.bool false),(28,.bool false),(29,Ay sa po (.slice vo ks.length vc_)),(30,.bool false),(31,.bool true),(32,.bool true)]
     ⟨ym r5,ym r5,ym r5,Ag [.slice ao ds.length ac,.int .i64 joint,.int .i64 ad] Tryz.func50 (by kernel_rfl) rq4 ⟨(oy rfl rfl),(oy rfl rfl),(oy rfl rfl),AOW⟩ (A1 fun W g=>Re (ho.kn g) hown hh),C7 r6 (fun _=>Bf),ym r5,A8 rq9 (fun _ g=>Ad (B6 hsa hpo (.slice vo ks.length vc_) rfl) (Av (AF g Aj (by simp)))),CG [Ay sa po (.slice vo ks.length vc_)] Tryz.func51 (by kernel_rfl) r7 ⟨(oy rfl rfl),AOW⟩ (A1 fun W g=>O6 hsa hpo (hr.kn g) hP hv),I3 rfl rfl (gy rfl rfl rfl) (oy rfl rfl) (fun _=>Bf) (fun _=>rfl),Ah rq9,AOW⟩ fun a21 w21 g21 Dl=>?_
   refine AD ?_
   refine k10 _ _ ?_
   refine Am Dl rfl rfl ?_
   refine AOQ fun K22 k22=>?_
   refine AOP ?_
   replace AV:=AC g21 AV
   refine AH Dl 1 [(33,Bv 0 (.slice none 0 0) 0 (.slice none 0 0) (.slice none 0 0) AR)]
     ⟨BG (vs:=[]) rfl rfl trivial trivial (fun _=>AAu _) (fun _=>rfl),AOW⟩ fun a23 w23 g23 Cc=>?_
   refine Aq Cc r7 (Dh _ _ AU (.slice none 0 0) (.slice none 0 0) (.slice none 0 0) rfl rfl rfl) (AC g23 AV) (EG AU AU) fun w24 g24 h24=>?_
   replace Az:=Ab g23 g24 (AC g21 Az) CK
   refine Aq Cc r7 (Gc 1) Az rfl fun w25 g25 h25=>?_
   replace Aj:=Aa g25 (Ab g23 g24 (AC g21 Aj) (Ne.symm Cq)) (Ne.symm FZ)
   replace As:=Aa g25 (Ab g23 g24 (AC g21 As) (Ne.symm Cr)) (Ne.symm Fa)
   replace AV:=Aa g25 h24 (Ne.symm CK)
   replace hr:=(((hr.kn g21).kn g23).offR g24 (AP DX)).offR g25 (AP Hg)
   replace ho:=(((ho.kn g21).kn g23).offR g24 (AP DY)).offR g25 (AP Hh)
   replace HG:=AE (AE (AA (AA HG g21) g23) g24 EO) g25 KD
   replace Az:=h25
   refine AD ?_
   refine k22 _ _ ?_
   refine AOT ?_
   repeat refine AM ?_
   refine Bz (fn:=Tryz.f20) Cc (CR (p:=10) (q:=11) Tryz.results20 Cc rfl rfl rfl rfl (Dh _ _ AU (.slice none 0 0) (.slice none 0 0) (.slice none 0 0) rfl rfl rfl) (Gc 1) AV Az) (Ch Tryz.func49 (by kernel_rfl) rfl _ _) (E9 _ _ _) ?_
   exact SRes.zero (Jh (.inr hv)) HG
 · obtain⟨haa,hjj,hol,hasc⟩:=Sz hh
   have hia:N6 ad:=⟨by omega,by omega⟩
   refine AOP ?_
   refine AH sv8 10 [(23,.slice ao ds.length ac),(24,.int .i64 joint),(25,.int .i64 ad),(26,.bool true),(27,.bool false),(28,.bool false),(29,Ay sa po (.slice vo ks.length vc_)),(30,.bool true),(31,.bool false),(32,.bool false)]
     ⟨ym r5,ym r5,ym r5,Ag [.slice ao ds.length ac,.int .i64 joint,.int .i64 ad] Tryz.func50 (by kernel_rfl) rq4 ⟨(oy rfl rfl),(oy rfl rfl),(oy rfl rfl),AOW⟩ (A1 fun W g=>Re (ho.kn g) hown hh),C7 r6 (fun _=>Bf),ym r5,A8 rq9 (fun _ g=>Ad (B6 hsa hpo (.slice vo ks.length vc_) rfl) (Av (AF g Aj (by simp)))),CG [Ay sa po (.slice vo ks.length vc_)] Tryz.func51 (by kernel_rfl) r7 ⟨(oy rfl rfl),AOW⟩ (A1 fun W g=>O6 hsa hpo (hr.kn g) hP hv),I3 rfl rfl (gy rfl rfl rfl) (oy rfl rfl) (fun _=>Bf) (fun _=>rfl),Ah rq9,AOW⟩ fun a26 w26 g26 DH=>?_
   refine AD ?_
   refine k10 _ _ ?_
   refine Au DH rfl rfl ?_
   refine AOU ?_
   refine k9 _ _ ?_
   refine AOQ fun K27 k27=>?_
   refine AOP ?_
   refine AH DH 2 [(34,.int .i64 ad),(35,.slice ao ds.length ac)]
     ⟨ym r5,ym r5,AOW⟩ fun a28 w28 g28 Dm=>?_
   have FR:=AA g26 g28
   replace AV:=AC FR AV
   replace Az:=AC FR Az
   replace ho:=ho.kn FR
   replace HG:=AA HG FR
   refine BA Dm Tryz.func52 (by kernel_rfl) r6 (ALq (by omega) ho) fun a29 v29 w29 hR29 Ck=>?_
   obtain⟨ao29,cap29,rfl,g29,oc,fr29⟩:=hR29
   have Kl:=Cj fr29 AV
   have Km:=Cj fr29 Az
   have lo_oc:=IM HG fr29
   refine AH Ck 2 [(37,.int .i64 joint),(38,Bv ad (.slice ao29 ds.length cap29) joint (.slice none 0 0) (.slice none 0 0) AR)]
     ⟨ym r5,BG (vs:=[.int .i64 ad,.slice ao29 ds.length cap29,.int .i64 joint]) rfl rfl trivial ⟨(oy rfl rfl),(oy rfl rfl),(oy rfl rfl),AOW⟩ (fun _=>AMm _ _ _ _ _ _) (fun _=>rfl),AOW⟩ fun a30 w30 g30 EF=>?_
   replace Aj:=AC g30 (AC g29 (AC FR Aj))
   replace As:=AC g30 (AC g29 (AC FR As))
   replace AV:=AC g30 (AC g29 AV)
   replace Az:=AC g30 (AC g29 Az)
   replace hr:=((hr.kn FR).kn g29).kn g30
   replace ho:=(ho.kn g29).kn g30
   replace oc:=oc.kn g30
   replace HG:=AA (AA HG g29) g30
   refine A9 (T:=31) (Z:=([[.int .i64 0],[.slice none 0 0],[.int .i64 0],[.slice none 0 0],[.slice none 0 0],bv AR].flatten)) EF rfl rfl rfl (fun a w=>by kernel_rfl) fun a31 w31 FA Hi g31 z31 Al IJ=>?_
   have Ej:=Ao Aj Hi
   have Ek:=Ao As Hi
   have Cl:=Ao AV Hi
   have Cm:=Ao Az Hi
   have Hj:=Bq HG Hi
   have GH:=Aw (hr.lt) Hi
   have GI:=Aw (ho.lt) Hi
   have EX:=Aw (Own.ltS oc) Hi
   refine Aq IJ r7 (Dh _ _ AU (.slice ao29 ds.length cap29) (.slice none 0 0) (.slice none 0 0) rfl rfl rfl) Al (EG AU AU) fun w32 g32 h32=>?_
   replace As:=Aa g32 (AC g31 As) (Ne.symm Ek)
   have FS:Sv _ _ [_,_,_,_,_,_,_,_,_,_,_,_,_,_,_,_,_,_,_,_,_] _:=IJ.dl [37,38,36,34,35]
   refine AD ?_
   refine k27 _ _ ?_
   refine AOQ fun K34 k34=>?_
   refine AOP ?_
   refine AH FS 1 [(39,Br x)]
     ⟨yl r6 (C6 x) As,AOW⟩ fun a35 w35 g35 Kw=>?_
   replace AV:=AC g35 (Aa g32 (AC g31 AV) (Ne.symm Cl))
   replace Az:=AC g35 (Aa g32 (AC g31 Az) (Ne.symm Cm))
   replace Al:=AC g35 h32
   replace HG:=AA (AE (AA HG g31) g32 Hj) g35
   refine BA Kw Tryz.func53 (by kernel_rfl) r6 (Nu (ADP x _)) fun a36 v36 w36 hR36 GC=>?_
   obtain⟨ao36,cap36,rfl,_⟩:=(Sl.of_own hR36.1).shape
   obtain⟨ow36,fr36⟩:=hR36
   replace fr36:=DT fr36
   have op:=ow36
   clear ow36
   have g36:=fr36.1
   replace fr36:=fr36.2
   have E0:=Cj fr36 AV
   have Kn:=Cj fr36 Az
   have FB:=Cj fr36 Al
   have lo_op:=IM HG fr36
   replace Aj:=AC g36 (AC g35 (Aa g32 (AC g31 Aj) (Ne.symm Ej)))
   replace As:=AC g36 (AC g35 As)
   replace AV:=AC g36 AV
   replace Az:=AC g36 Az
   replace Al:=AC g36 Al
   replace hr:=(((hr.kn g31).offR g32 (AP GH)).kn g35).kn g36
   replace ho:=(((ho.kn g31).offR g32 (AP GI)).kn g35).kn g36
   replace oc:=(((oc.kn g31).offR g32 (AP EX)).kn g35).kn g36
   replace HG:=AA HG g36
   refine AS (v:=.slice ao36 ((BQ x)).length cap36) GC r6 fun a37 Gi=>?_
   refine AD ?_
   refine k34 _ _ ?_
   refine AOQ fun K38 k38=>?_
   refine AOQ fun K39 k39=>?_
   rcases Nat.eq_zero_or_pos ds.length with hz|hz
   · obtain rfl:own=[]:=List.eq_nil_of_length_eq_zero (by omega)
     refine AOP ?_
     refine AH Gi 3 [(41,.slice ao ds.length ac),(42,.int .i64 ((ds.length:Nat))),(43,.bool true)]
       ⟨ym r5,BJ (Tryz.underlying28) rfl rfl trivial (oy rfl rfl) (fun _=>rfl),Ce r6 (fun _=>BM (Ks (by omega))),AOW⟩ fun a40 w40 g40 I7=>?_
     refine AD ?_
     refine k39 _ _ ?_
     refine Am I7 rfl rfl ?_
     refine AOQ fun K41 k41=>?_
     refine AOP ?_
     refine AH I7 2 [(44,.slice ao36 ((BQ x)).length cap36),(45,pk FA 4)]
       ⟨ym r5,yf r6 (fun _=>by kernel_rfl),AOW⟩ fun a42 w42 g42 Gj=>?_
     have Qz:=AA g40 g42
     refine IL (L:=[[.int .i64 ad],[.slice ao29 ds.length cap29],[.int .i64 joint],[.slice none 0 0],[.slice none 0 0],bv AR]) (i:=4) Gj r7 (D5 (.slice ao36 ((BQ x)).length cap36) rfl) (AC Qz Al) rfl rfl rfl fun w43 g43 h43=>?_
     refine AD ?_
     refine k41 _ _ ?_
     refine AOQ fun K44 k44=>?_
     refine AOP ?_
     refine AH Gj 2 [(46,.int .i64 ad),(47,.slice ao36 ((BQ x)).length cap36)]
       ⟨ym r5,ym r5,AOW⟩ fun a45 w45 g45 FT=>?_
     replace op:=((op.kn Qz).offR g43 (AP FB)).kn g45
     refine BA FT Tryz.func54 (by kernel_rfl) r6 (Jb (LB ad hia (BQ x) (Ef x) (by have:=FN x;omega) _ _ _ (Own.sb op))) fun a46 v46 w46 hR46 JK=>?_
     obtain⟨rfl,g46⟩:=hR46
     replace Al:=AC g46 (AC g45 h43)
     refine AH JK 1 [(49,pk FA 5)]
       ⟨yf r6 (fun _=>by kernel_rfl),AOW⟩ fun a47 w47 g47 Kx=>?_
     refine IL (L:=[[.int .i64 ad],[.slice ao29 ds.length cap29],[.int .i64 joint],[.slice none 0 0],[.slice ao36 ((BQ x)).length cap36],bv AR]) (i:=5) Kx r7 (Bb ((Nt ad (BQ x))) (DJ ad (BQ x)).1) (AC g47 Al) rfl rfl (QS AU (DJ ad (BQ x))) fun w48 g48 h48=>?_
     replace AV:=Ab g47 g48 (AC g46 (AC g45 (Ab Qz g43 AV (Ne.symm Cl)))) (Ne.symm Cl)
     replace Al:=h48
     have ER:Sv _ _ [_,_,_,_,_,_,_,_,_,_,_,_,_,_,_,_,_,_,_,_,_,_,_,_,_,_,_,_,_] _:=Kx.dl [49,48,46,47]
     refine AD ?_
     refine k44 _ _ ?_
     refine AOQ fun K50 k50=>?_
     refine AOP ?_
     refine AH ER 1 [(50,Bv ad (.slice ao29 ds.length cap29) joint (.slice none 0 0) (.slice ao36 ((BQ x)).length cap36) ((Nt ad (BQ x))))]
       ⟨yl r6 (Dh _ _ (DJ ad (BQ x)) (.slice ao29 ds.length cap29) (.slice none 0 0) (.slice ao36 ((BQ x)).length cap36) rfl rfl rfl) Al,AOW⟩ fun a51 w51 g51 FV=>?_
     refine Aq FV r7 (Dh _ _ (DJ ad (BQ x)) (.slice ao29 ds.length cap29) (.slice none 0 0) (.slice ao36 ((BQ x)).length cap36) rfl rfl rfl) (AC g51 AV) (EG AU (DJ ad (BQ x))) fun w52 g52 h52=>?_
     replace Az:=Ab g51 g52 (Ab g47 g48 (AC g46 (AC g45 (Ab Qz g43 Az (Ne.symm Cm)))) (Ne.symm Cm)) CK
     refine Aq FV r7 (Gc 0) Az rfl fun w53 g53 h53=>?_
     replace Aj:=Aa g53 (Ab g51 g52 (Ab g47 g48 (AC g46 (AC g45 (Ab Qz g43 Aj (Ne.symm Ej)))) (Ne.symm Ej)) (Ne.symm Cq)) (Ne.symm FZ)
     replace As:=Aa g53 (Ab g51 g52 (Ab g47 g48 (AC g46 (AC g45 (Ab Qz g43 As (Ne.symm Ek)))) (Ne.symm Ek)) (Ne.symm Cr)) (Ne.symm Fa)
     replace AV:=Aa g53 h52 (Ne.symm CK)
     replace Al:=Aa g53 (Ab g51 g52 Al Cl) Cm
     replace hr:=((((((((hr.kn Qz).offR g43 (AP GH)).kn g45).kn g46).kn g47).offR g48 (AP GH)).kn g51).offR g52 (AP DX)).offR g53 (AP Hg)
     replace ho:=((((((((ho.kn Qz).offR g43 (AP GI)).kn g45).kn g46).kn g47).offR g48 (AP GI)).kn g51).offR g52 (AP DY)).offR g53 (AP Hh)
     replace oc:=((((((((oc.kn Qz).offR g43 (AP EX)).kn g45).kn g46).kn g47).offR g48 (AP EX)).kn g51).offR g52 (AP Kl)).offR g53 (AP Km)
     replace op:=(((((op.kn g46).kn g47).offR g48 (AP FB)).kn g51).offR g52 (AP E0)).offR g53 (AP Kn)
     replace HG:=AE (AE (AA (AE (AA (AA (AA (AE (AA HG Qz) g43 Hj) g45) g46) g47) g48 Hj) g51) g52 EO) g53 KD
     replace Az:=h53
     refine AD ?_
     refine k50 _ _ ?_
     refine AOT ?_
     repeat refine AM ?_
     refine Bz (fn:=Tryz.f20) FV (CR (p:=10) (q:=11) Tryz.results20 FV rfl rfl rfl rfl (Dh _ _ (DJ ad (BQ x)) (.slice ao29 ds.length cap29) (.slice none 0 0) (.slice ao36 ((BQ x)).length cap36) rfl rfl rfl) (Gc 0) AV Az) (Ch Tryz.func49 (by kernel_rfl) rfl _ _) (E9 _ _ _) ?_
     exact SRes.mk (own:=ds) (wr:=[]) (Ie hh hv) rfl rfl rfl hown rfl oc (Own.nil _ _ _) op lo_oc (fun k hk=>by simp[BC,Value.ownBlock] at hk) lo_op (fun k _ hk=>by simp[BC,Value.ownBlock] at hk) (DJ _ _) (Ef x) HG rfl
   · have hne:own≠[]:=fun h=>by rw[h] at hownl;simp at hownl;omega
     refine AOP ?_
     refine AH Gi 3 [(41,.slice ao ds.length ac),(42,.int .i64 ((ds.length:Nat))),(43,.bool false)]
       ⟨ym r5,BJ (Tryz.underlying28) rfl rfl trivial (oy rfl rfl) (fun _=>rfl),Ce r6 (fun _=>BM (I2 (by omega))),AOW⟩ fun a54 w54 g54 JL=>?_
     refine AD ?_
     refine k39 _ _ ?_
     refine Au JL rfl rfl ?_
     refine AOU ?_
     refine k38 _ _ ?_
     refine AOQ fun K55 k55=>?_
     refine AOP ?_
     refine AS (v:=.slice none 0 0) JL r6 fun a56 Oz=>?_
     refine AD ?_
     refine k55 _ _ ?_
     refine AOQ fun K57 k57=>?_
     refine AOQ fun K58 k58=>?_
     refine AOP ?_
     refine AH Oz 3 [(51,.slice ao ds.length ac),(52,.int .i64 ((ds.length:Nat))),(53,.int .i64 0)]
       ⟨ym r5,BJ (Tryz.underlying28) rfl rfl trivial (oy rfl rfl) (fun _=>rfl),Fw (.inl rfl) rfl trivial (fun _=>rfl),AOW⟩ fun a59 w59 g59 Eh=>?_
     have O0:=AA g54 g59
     refine AD ?_
     refine k58 _ _ ?_
     refine BH fun Q60 x60 y60 rt60 o60=>?_
     replace Aj:=AC O0 Aj
     replace As:=AC O0 As
     replace AV:=AC O0 AV
     replace Az:=AC O0 Az
     replace Al:=AC O0 Al
     replace hr:=hr.kn O0
     replace ho:=ho.kn O0
     replace oc:=oc.kn O0
     replace op:=op.kn O0
     replace HG:=AA HG O0
     have okk:=Own.nil w59 23 32
     have EY:=Gg KT
     have EZ:=Gg KU
     have CT:=Gg Ee
     have FG:=Gg J9
     have Dv:=Gg FA
     have ap_hr_okk:=GV (KO (.slice vo ks.length vc_) ks)
     have ap_ho_okk:=GV (BC (.slice ao ds.length ac))
     have ap_oc_okk:=GV (BC (.slice ao29 ds.length cap29))
     have ap_okk_oc:=AAG (BC (.slice ao29 ds.length cap29))
     have ap_op_okk:=GV (BC (.slice ao36 ((BQ x)).length cap36))
     have ap_okk_op:=AAG (BC (.slice ao36 ((BQ x)).length cap36))
     have lo_okk:=UZ w
     refine wp_loop (fun a w'=>∃(i:Nat) (ko:Option Addr) (kc:Nat) (kl:List DD),(i≤ds.length)∧(kl.map DD.x=(own.take i).map fun z=>(DI P z ad).1)∧(∀j,j<i→(DI P (Lf own j) ad).2=0)∧Sv 104 [{ target:=.fn (.func 49) #[pt Ee,pt J9],args:=#[] }] [(53,.int .i64 ((i:Int))),(14,.slice ko i kc),(51,.slice ao ds.length ac),(52,.int .i64 ((ds.length:Nat))),(41,.slice ao ds.length ac),(42,.int .i64 ((ds.length:Nat))),(43,.bool false),(13,.slice ao36 ((BQ x)).length cap36),(40,.slice ao36 ((BQ x)).length cap36),(39,Br x),(12,pt FA),(23,.slice ao ds.length ac),(24,.int .i64 joint),(25,.int .i64 ad),(26,.bool true),(27,.bool false),(28,.bool false),(29,Ay sa po (.slice vo ks.length vc_)),(30,.bool true),(31,.bool false),(32,.bool false),(22,.func (.func 49) #[] #[pt Ee,pt J9]),(11,pt J9),(10,pt Ee),(9,pt KU),(5,pt KT),(0,Ay sa po (.slice vo ks.length vc_)),(1,.slice ao ds.length ac),(2,.int .i64 joint),(3,.int .i64 ad),(4,Br x)] a∧w.grownBy w' none∧w'.heap[KT]?=some (.cells ([bv sa,bv po,[.slice vo ks.length vc_]].flatten).toArray 36 (0,0))∧w'.heap[KU]?=some (.cells (vc x).toArray 25 (0,0))∧w'.heap[Ee]?=some (.cells (([[.int .i64 0],[.slice none 0 0],[.int .i64 0],[.slice none 0 0],[.slice none 0 0],bv AR].flatten)).toArray 31 (0,0))∧w'.heap[J9]?=some (.cells ([.int .i64 0]).toArray 38 (0,0))∧w'.heap[FA]?=some (.cells ([[.int .i64 ad],[.slice ao29 ds.length cap29],[.int .i64 joint],[.slice none 0 0],[.slice none 0 0],bv AR].flatten).toArray 31 (0,0))∧RdK w' (.slice vo ks.length vc_) ks∧RdD w' (.slice ao ds.length ac) ds∧Own w' 23 32 (.slice ao29 ds.length cap29) ds.length (ds.flatMap Ja)∧Own w' 5 1 (.slice ao36 ((BQ x)).length cap36) (((BQ x)).length) (bv ((BQ x)))∧Own w' 23 32 (.slice ko i kc) i (kl.flatMap Ja)∧(∀k,BC (.slice ko i kc) k→k≠KT)∧(∀k,BC (.slice ko i kc) k→k≠KU)∧(∀k,BC (.slice ko i kc) k→k≠Ee)∧(∀k,BC (.slice ko i kc) k→k≠J9)∧(∀k,BC (.slice ko i kc) k→k≠FA)∧(∀k,KO (.slice vo ks.length vc_) ks k→¬BC (.slice ko i kc) k)∧(∀k,BC (.slice ao ds.length ac) k→¬BC (.slice ko i kc) k)∧(∀k,BC (.slice ao29 ds.length cap29) k→¬BC (.slice ko i kc) k)∧(∀k,BC (.slice ko i kc) k→¬BC (.slice ao29 ds.length cap29) k)∧(∀k,BC (.slice ao36 ((BQ x)).length cap36) k→¬BC (.slice ko i kc) k)∧(∀k,BC (.slice ko i kc) k→¬BC (.slice ao36 ((BQ x)).length cap36) k)∧(∀k,BC (.slice ko i kc) k→w.heap.size≤k)) (fun a _=>(ds.length-intOf (a.tmps.getD 53 undef)).toNat) ⟨0,none,0,[],Nat.zero_le _,rfl,fun j hj=>by omega,⟨Eh.1,Eh.2.1,Eh.2.2.2.2.1,Eh.2.2.2.2.2.1,Eh.2.2.1,Eh.2.2.2.1,Eh.2.2.2.2.2.2.1,Eh.2.2.2.2.2.2.2.1,(AG Eh).1,(AG Eh).2.1,(AG Eh).2.2.1,(AG Eh).2.2.2.1,(AG Eh).2.2.2.2.1,(AG Eh).2.2.2.2.2.1,(AG Eh).2.2.2.2.2.2.1,(AG Eh).2.2.2.2.2.2.2.1,(AG (AG Eh)).1,(AG (AG Eh)).2.1,(AG (AG Eh)).2.2.1,(AG (AG Eh)).2.2.2.1,(AG (AG Eh)).2.2.2.2.1,(AG (AG Eh)).2.2.2.2.2.1,(AG (AG Eh)).2.2.2.2.2.2.1,(AG (AG Eh)).2.2.2.2.2.2.2.1,(AG (AG (AG Eh))).1,(AG (AG (AG Eh))).2.1,(AG (AG (AG Eh))).2.2.1,(AG (AG (AG Eh))).2.2.2.1,(AG (AG (AG Eh))).2.2.2.2.1,(AG (AG (AG Eh))).2.2.2.2.2.1,(AG (AG (AG Eh))).2.2.2.2.2.2.1,(AG (AG (AG Eh))).2.2.2.2.2.2.2.1,(AG (AG (AG (AG Eh)))).1,AOW⟩,HG,Aj,As,AV,Az,Al,hr,ho,oc,op,okk,EY,EZ,CT,FG,Dv,ap_hr_okk,ap_ho_okk,ap_oc_okk,ap_okk_oc,ap_op_okk,ap_okk_op,lo_okk⟩ fun a61 w61 hI61=>?_
     clear Aj
     clear As
     clear AV
     clear Az
     clear Al
     clear hr
     clear ho
     clear oc
     clear op
     clear okk
     clear HG
     obtain⟨i,ko,kc,kl,hin,hkl,hok,Nm,HG,Aj,As,AV,Az,Al,hr,ho,oc,op,okk,EY,EZ,CT,FG,Dv,ap_hr_okk,ap_ho_okk,ap_oc_okk,ap_okk_oc,ap_op_okk,ap_okk_op,lo_okk⟩:=hI61
     refine AOQ fun K62 k62=>?_
     by_cases hi:i<ds.length
     · obtain⟨y,hx_y⟩:∃zx,ds[i]'hi=zx:=⟨_,rfl⟩
       have hla:Lf own i=y.x:=by rw[←hown,Is hi,hx_y]
       obtain⟨kx,hkx⟩:∃q,DI P y.x ad=q:=⟨_,rfl⟩
       have hkd:Dg kx.1:=hkx▸Lh hnok
       refine AOP ?_
       refine AH Nm 1 [(54,.bool true)]
         ⟨Fg r7 (fun _=>BR (by simp;omega)),AOW⟩ fun a63 w63 g63 PF=>?_
       refine AD ?_
       refine k62 _ _ ?_
       refine AOQ fun K64 k64=>?_
       refine Am PF rfl rfl ?_
       refine AOU ?_
       refine k64 _ _ ?_
       refine AOQ fun K65 k65=>?_
       refine BH fun Q66 x66 y66 rt66 o66=>?_
       refine AOQ fun K67 k67=>?_
       refine AOP ?_
       replace ho:=ho.kn g63
       refine AH PF 2 [(55,pk ((bO ao)) (oO ao+i*32)),(56,AQ y.x)]
         ⟨BD rq8 (fun w=>CF Tryz.underlying28 (by kernel_rfl) (ho.1) (by omega) (rfl) w),Bj r6 (fun _ g=>Ad (Bb y.x y.h.1) (by have:=CW (ho.kn g).1 Dj hi (by decide);rw[hx_y] at this;exact this)),AOW⟩ fun a68 w68 g68 Ih=>?_
       replace Aj:=AC g68 (AC g63 Aj)
       replace As:=AC g68 (AC g63 As)
       replace AV:=AC g68 (AC g63 AV)
       replace Az:=AC g68 (AC g63 Az)
       replace Al:=AC g68 (AC g63 Al)
       replace hr:=(hr.kn g63).kn g68
       replace ho:=ho.kn g68
       replace oc:=(oc.kn g63).kn g68
       replace op:=(op.kn g63).kn g68
       replace okk:=(okk.kn g63).kn g68
       replace HG:=AA (AA HG g63) g68
       refine A9 (T:=23) (Z:=(bv AR)) Ih rfl rfl rfl (fun a w=>by kernel_rfl) fun a69 w69 ANY El g69 z69 Xp AMn=>?_
       have S4:=Ao Aj El
       have S5:=Ao As El
       have Q2:=Ao AV El
       have Q3:=Ao Az El
       have Pz:=Ao Al El
       have AF4:=Bq HG El
       have Xq:=Aw (hr.lt) El
       have Xr:=Aw (ho.lt) El
       have Xs:=Aw (Own.ltS oc) El
       have Xt:=Aw (Own.ltS op) El
       have Uq:=Aw (Own.ltS okk) El
       refine Aq AMn r7 (Bb y.x y.h.1) Xp (EM y.h) fun w70 g70 h70=>?_
       replace Aj:=Aa g70 (AC g69 Aj) (Ne.symm S4)
       replace hr:=(hr.kn g69).offR g70 (AP Xq)
       replace Xp:=h70
       refine AD ?_
       refine k67 _ _ ?_
       refine AOQ fun K71 k71=>?_
       refine AOP ?_
       refine AH AMn 7 [(58,Ay sa po (.slice vo ks.length vc_)),(59,AQ y.x),(60,.int .i64 ad),(61,.tuple #[AQ kx.1,.int .i64 kx.2]),(57,.tuple #[AQ kx.1,.int .i64 kx.2]),(62,AQ kx.1),(63,.int .i64 kx.2)]
         ⟨yl r6 (B6 hsa hpo (.slice vo ks.length vc_) rfl) Aj,yl r6 (Bb y.x y.h.1) Xp,ym r5,Ag [Ay sa po (.slice vo ks.length vc_),AQ y.x,.int .i64 ad] Tryz.func32 (by kernel_rfl) rq4 ⟨(oy rfl rfl),(oy rfl rfl),(oy rfl rfl),AOW⟩ (A1 fun W g=>AH8 hsa hpo y.h (hr.kn g) hP hkx),ym r5,Bh rq4 (fun _ _ h=>⟨_,_,h,rfl,rfl⟩),Bh rq4 (fun _ _ h=>⟨_,_,h,rfl,rfl⟩),AOW⟩ fun a72 w72 g72 Xu=>?_
       replace Aj:=AC g72 Aj
       replace As:=AC g72 (Aa g70 (AC g69 As) (Ne.symm S5))
       replace AV:=AC g72 (Aa g70 (AC g69 AV) (Ne.symm Q2))
       replace Az:=AC g72 (Aa g70 (AC g69 Az) (Ne.symm Q3))
       replace Al:=AC g72 (Aa g70 (AC g69 Al) (Ne.symm Pz))
       replace hr:=hr.kn g72
       replace ho:=((ho.kn g69).offR g70 (AP Xr)).kn g72
       replace oc:=((oc.kn g69).offR g70 (AP Xs)).kn g72
       replace op:=((op.kn g69).offR g70 (AP Xt)).kn g72
       replace okk:=((okk.kn g69).offR g70 (AP Uq)).kn g72
       replace HG:=AA (AE (AA HG g69) g70 AF4) g72
       refine A9 (T:=23) (Z:=(bv AR)) Xu rfl rfl rfl (fun a w=>by kernel_rfl) fun a73 w73 ANZ Em g73 z73 Xv Nn=>?_
       have S6:=Ao Aj Em
       have S7:=Ao As Em
       have Q4:=Ao AV Em
       have Q7:=Ao Az Em
       have P0:=Ao Al Em
       have AF5:=Bq HG Em
       have Xw:=Aw (hr.lt) Em
       have Xx:=Aw (ho.lt) Em
       have Xy:=Aw (Own.ltS oc) Em
       have Xz:=Aw (Own.ltS op) Em
       have Ur:=Aw (Own.ltS okk) Em
       refine Aq Nn r7 (Bb kx.1 hkd.1) Xv (EM hkd) fun w74 g74 h74=>?_
       replace Aj:=Aa g74 (AC g73 Aj) (Ne.symm S6)
       replace As:=Aa g74 (AC g73 As) (Ne.symm S7)
       replace AV:=Aa g74 (AC g73 AV) (Ne.symm Q4)
       replace Az:=Aa g74 (AC g73 Az) (Ne.symm Q7)
       replace Al:=Aa g74 (AC g73 Al) (Ne.symm P0)
       replace hr:=(hr.kn g73).offR g74 (AP Xw)
       replace ho:=(ho.kn g73).offR g74 (AP Xx)
       replace oc:=(oc.kn g73).offR g74 (AP Xy)
       replace op:=(op.kn g73).offR g74 (AP Xz)
       replace okk:=(okk.kn g73).offR g74 (AP Ur)
       replace HG:=AE (AA HG g73) g74 AF5
       replace Xv:=h74
       refine AS (v:=.int .i64 kx.2) Nn r6 fun a75 AH9=>?_
       have P1:Sv _ _ [_,_,_,_,_,_,_,_,_,_,_,_,_,_,_,_,_,_,_,_,_,_,_,_,_,_,_,_,_,_,_,_,_,_,_,_,_] _:=AH9.dl [58,59,60,61,57,62,63]
       refine AD ?_
       refine k71 _ _ ?_
       refine AOQ fun K77 k77=>?_
       refine AOQ fun K78 k78=>?_
       by_cases he:kx.2=0
       · have hkl1:=NY hkl (by omega) hla hkx (hkd:=hkd)
         have hok1:∀j,j<i+1→(DI P (Lf own j) ad).2=0:=fun j hj=>if e:j=i then (by rw[e,hla,hkx];exact he) else hok j (by omega)
         refine AOP ?_
         refine AH P1 2 [(64,.int .i64 kx.2),(65,.bool false)]
           ⟨ym r5,Ce r6 (fun _=>Dy (by simpa using he)),AOW⟩ fun a79 w79 g79 Md=>?_
         refine AD ?_
         refine k78 _ _ ?_
         refine Au Md rfl rfl ?_
         refine AOU ?_
         refine k77 _ _ ?_
         refine AOP ?_
         refine AH Md 2 [(68,.slice ko i kc),(69,AQ kx.1)]
           ⟨ym r5,yl r6 (Bb kx.1 hkd.1) (AC g79 Xv),AOW⟩ fun a80 w80 g80 Gn=>?_
         have TA:=AA g79 g80
         refine Jc (cs:=bv kx.1) (e:=23) Gn rfl rfl rfl rfl rfl rfl (Up hkd) fun a81 w81 ANa AL7 g81 z81 AJ7 AF6=>?_
         replace Aj:=AC g81 (AC TA Aj)
         replace As:=AC g81 (AC TA As)
         replace AV:=AC g81 (AC TA AV)
         replace Az:=AC g81 (AC TA Az)
         replace Al:=AC g81 (AC TA Al)
         replace hr:=(hr.kn TA).kn g81
         replace ho:=(ho.kn TA).kn g81
         replace oc:=(oc.kn TA).kn g81
         replace op:=(op.kn TA).kn g81
         replace okk:=(okk.kn TA).kn g81
         replace HG:=AA (AA HG TA) g81
         refine GZ dsT AF6 rfl rfl rfl rfl rfl rfl rfl rfl okk (Iv AJ7 hkd) (Dk _) (by omega) fun a82 ao82 cap82 w82 owx82 Bk TB=>?_
         have Us:=Fo Bk.2 EY Aj
         have Ut:=Fo Bk.2 EZ As
         have TC:=Fo Bk.2 CT AV
         have TE:=Fo Bk.2 FG Az
         have RA:=Fo Bk.2 Dv Al
         have AA0:=E4 Bk.2 ap_hr_okk (hr.lt)
         have AA1:=E4 Bk.2 ap_ho_okk (ho.lt)
         have QW:=E4 Bk.2 ap_oc_okk (Own.ltS oc)
         have QX:=E4 Bk.2 ap_op_okk (Own.ltS op)
         have ap_owx82_oc:=XJ QW
         have ap_owx82_op:=XJ QX
         have AIA:=Oq Bk.2 lo_okk HG
         replace Aj:=AF Bk.1 Aj (fun e=>EY _ e.symm rfl)
         replace As:=AF Bk.1 As (fun e=>EZ _ e.symm rfl)
         replace AV:=AF Bk.1 AV (fun e=>CT _ e.symm rfl)
         replace Az:=AF Bk.1 Az (fun e=>FG _ e.symm rfl)
         replace Al:=AF Bk.1 Al (fun e=>Dv _ e.symm rfl)
         replace hr:=hr.offR Bk.1 (fun k hk e=>ap_hr_okk k hk (e))
         replace ho:=ho.offR Bk.1 (fun k hk e=>ap_ho_okk k hk (e))
         replace oc:=oc.offR Bk.1 (fun k hk e=>ap_oc_okk k hk (e))
         replace op:=op.offR Bk.1 (fun k hk e=>ap_op_okk k hk (e))
         replace HG:=Bu HG Bk.1 fun k e=>lo_okk k (e)
         rw[OP kl ⟨kx.1,hkd⟩] at owx82
         refine AS (v:=.slice ao82 (i+1) cap82) TB r6 fun a83 Lj=>?_
         have M6:Sv _ _ [_,_,_,_,_,_,_,_,_,_,_,_,_,_,_,_,_,_,_,_,_,_,_,_,_,_,_,_,_,_,_,_,_,_,_,_,_,_,_] _:=Lj.dl [71,70,68,69]
         refine AD ?_
         refine y66 _ _ ?_
         refine k65 _ _ ?_
         refine AOP ?_
         refine AH M6 1 [(72,.int .i64 (((i+1:Nat):Int)))]
           ⟨Ce r6 (fun _=>Dd (by rw[BT (by omega) (by omega)];omega)),AOW⟩ fun a85 w85 g85 AA2=>?_
         refine AH (AA2.dl [53]) 1 [(53,.int .i64 (((i+1:Nat):Int)))]
           ⟨ym r5,AOW⟩ fun a86 w86 g86 En=>?_
         have TF:=AA g85 g86
         refine AD ?_
         replace Aj:=AC TF Aj
         replace As:=AC TF As
         replace AV:=AC TF AV
         replace Az:=AC TF Az
         replace Al:=AC TF Al
         replace hr:=hr.kn TF
         replace ho:=ho.kn TF
         replace oc:=oc.kn TF
         replace op:=op.kn TF
         replace owx82:=owx82.kn TF
         replace HG:=AA HG TF
         exact⟨⟨i+1,ao82,cap82,(kl++[⟨kx.1,hkd⟩]),by omega,hkl1,hok1,⟨En.1,En.2.1,En.2.2.1,En.2.2.2.2.1,(AG En).2.2.2.2.2.1,(AG En).2.2.2.2.2.2.1,(AG En).2.2.2.2.2.2.2.1,(AG (AG En)).1,(AG (AG En)).2.1,(AG (AG En)).2.2.1,(AG (AG En)).2.2.2.1,(AG (AG En)).2.2.2.2.1,(AG (AG En)).2.2.2.2.2.1,(AG (AG En)).2.2.2.2.2.2.1,(AG (AG En)).2.2.2.2.2.2.2.1,(AG (AG (AG En))).1,(AG (AG (AG En))).2.1,(AG (AG (AG En))).2.2.1,(AG (AG (AG En))).2.2.2.1,(AG (AG (AG En))).2.2.2.2.1,(AG (AG (AG En))).2.2.2.2.2.1,(AG (AG (AG En))).2.2.2.2.2.2.1,(AG (AG (AG En))).2.2.2.2.2.2.2.1,(AG (AG (AG (AG En)))).1,(AG (AG (AG (AG En)))).2.1,(AG (AG (AG (AG En)))).2.2.1,(AG (AG (AG (AG En)))).2.2.2.1,(AG (AG (AG (AG En)))).2.2.2.2.1,(AG (AG (AG (AG En)))).2.2.2.2.2.1,(AG (AG (AG (AG En)))).2.2.2.2.2.2.1,(AG (AG (AG (AG En)))).2.2.2.2.2.2.2.1,(AG (AG (AG (AG (AG En))))).1,(AG (AG (AG (AG (AG En))))).2.1,AOW⟩,HG,Aj,As,AV,Az,Al,hr,ho,oc,op,owx82,Us,Ut,TC,TE,RA,AA0,AA1,QW,ap_owx82_oc,QX,ap_owx82_op,AIA⟩,by rw[show _=_ from En.2.2.1,show _=_ from Nm.2.2.1];simp[intOf];omega⟩
       · have hke:=Lg (P:=P) (a:=ad) (own:=own) (i:=i) (by omega) hok (by rw[hla,hkx];exact he)
         rw[hla,hkx] at hke
         refine AOP ?_
         refine AH P1 2 [(64,.int .i64 kx.2),(65,.bool true)]
           ⟨ym r5,Ce r6 (fun _=>Dy (by simpa using he)),AOW⟩ fun a87 w87 g87 TG=>?_
         refine AD ?_
         refine k78 _ _ ?_
         refine Am TG rfl rfl ?_
         refine AOQ fun K88 k88=>?_
         refine AOP ?_
         replace AV:=AC g87 AV
         refine AH TG 2 [(66,Bv 0 (.slice none 0 0) 0 (.slice none 0 0) (.slice none 0 0) AR),(67,.int .i64 kx.2)]
           ⟨BG (vs:=[]) rfl rfl trivial trivial (fun _=>AAu _) (fun _=>rfl),ym r5,AOW⟩ fun a89 w89 g89 PG=>?_
         refine Aq PG r7 (Dh _ _ AU (.slice none 0 0) (.slice none 0 0) (.slice none 0 0) rfl rfl rfl) (AC g89 AV) (EG AU AU) fun w90 g90 h90=>?_
         replace Az:=Ab g89 g90 (AC g87 Az) CK
         refine Aq PG r7 (Gc kx.2) Az rfl fun w91 g91 h91=>?_
         replace Aj:=Aa g91 (Ab g89 g90 (AC g87 Aj) (Ne.symm Cq)) (Ne.symm FZ)
         replace As:=Aa g91 (Ab g89 g90 (AC g87 As) (Ne.symm Cr)) (Ne.symm Fa)
         replace AV:=Aa g91 h90 (Ne.symm CK)
         replace Al:=Aa g91 (Ab g89 g90 (AC g87 Al) Cl) Cm
         replace hr:=(((hr.kn g87).kn g89).offR g90 (AP DX)).offR g91 (AP Hg)
         replace ho:=(((ho.kn g87).kn g89).offR g90 (AP DY)).offR g91 (AP Hh)
         replace oc:=(((oc.kn g87).kn g89).offR g90 (AP Kl)).offR g91 (AP Km)
         replace op:=(((op.kn g87).kn g89).offR g90 (AP E0)).offR g91 (AP Kn)
         replace okk:=(((okk.kn g87).kn g89).offR g90 (AP CT)).offR g91 (AP FG)
         replace HG:=AE (AE (AA (AA HG g87) g89) g90 EO) g91 KD
         replace Az:=h91
         refine AD ?_
         refine k88 _ _ ?_
         refine AOT ?_
         repeat refine AM ?_
         refine rt66 _ _ ?_
         repeat refine AM ?_
         refine rt60 _ _ ?_
         repeat refine AM ?_
         refine Bz (fn:=Tryz.f20) PG (CR (p:=10) (q:=11) Tryz.results20 PG rfl rfl rfl rfl (Dh _ _ AU (.slice none 0 0) (.slice none 0 0) (.slice none 0 0) rfl rfl rfl) (Gc kx.2) AV Az) (Ch Tryz.func49 (by kernel_rfl) rfl _ _) (E9 _ _ _) ?_
         exact SRes.zero (Wb hh hv hne hke he) HG
     · obtain⟨hK1,hK2⟩:=J8 (P:=P) (a:=ad) (own:=own) fun j hj=>hok j (by omega)
       have hkm:kl.map DD.x=(Df P ad own).1:=by rw[hK1,hkl,List.take_of_length_le (by omega)]
       refine AOP ?_
       refine AH Nm 1 [(54,.bool false)]
         ⟨Fg r7 (fun _=>BR (by simp;omega)),AOW⟩ fun a92 w92 g92 ADV=>?_
       refine AD ?_
       refine k62 _ _ ?_
       refine AOQ fun K93 k93=>?_
       refine Au ADV rfl rfl ?_
       refine wp_exit ?_
       repeat refine CA ?_
       refine x60 _ _ ?_
       refine k57 _ _ ?_
       refine AOQ fun K94 k94=>?_
       have hkll:kl.length=i:=by have:=congrArg List.length hkl;simpa using this.trans (by rw[List.length_map,List.length_take];omega)
       obtain⟨ck,hcke⟩:∃c,Qx (decide (joint=1)) (kl.map DD.x)=c:=⟨_,rfl⟩
       have hck:Dg ck:=hcke▸Hc _ _
       refine AOP ?_
       refine AH ADV 2 [(73,.int .i64 joint),(74,.slice ko i kc)]
         ⟨ym r5,ym r5,AOW⟩ fun a95 w95 g95 ADW=>?_
       replace okk:=(okk.kn g92).kn g95
       refine BA ADW Tryz.func55 (by kernel_rfl) r6 (Jb (AH7 hkll (Own.sb okk) (by omega) hcke)) fun a96 v96 w96 hR96 AA3=>?_
       obtain⟨rfl,g96⟩:=hR96
       replace Aj:=AC g96 (AC g95 (AC g92 Aj))
       replace As:=AC g96 (AC g95 (AC g92 As))
       replace AV:=AC g96 (AC g95 (AC g92 AV))
       replace Az:=AC g96 (AC g95 (AC g92 Az))
       replace Al:=AC g96 (AC g95 (AC g92 Al))
       replace hr:=((hr.kn g92).kn g95).kn g96
       replace ho:=((ho.kn g92).kn g95).kn g96
       replace oc:=((oc.kn g92).kn g95).kn g96
       replace op:=((op.kn g92).kn g95).kn g96
       replace okk:=okk.kn g96
       replace HG:=AA (AA (AA HG g92) g95) g96
       refine A9 (T:=23) (Z:=(bv AR)) AA3 rfl rfl rfl (fun a w=>by kernel_rfl) fun a97 w97 TH Eo g97 z97 CZ Uu=>?_
       have TI:=Ao Aj Eo
       have TJ:=Ao As Eo
       have MW:=Ao AV Eo
       have MX:=Ao Az Eo
       have Ep:=Ao Al Eo
       have AF7:=Bq HG Eo
       have X5:=Aw (hr.lt) Eo
       have X7:=Aw (ho.lt) Eo
       have X9:=Aw (Own.ltS oc) Eo
       have YJ:=Aw (Own.ltS op) Eo
       have Uv:=Aw (Own.ltS okk) Eo
       refine Aq Uu r7 (Bb ck hck.1) CZ (EM hck) fun w98 g98 h98=>?_
       replace Aj:=Aa g98 (AC g97 Aj) (Ne.symm TI)
       replace As:=Aa g98 (AC g97 As) (Ne.symm TJ)
       replace AV:=Aa g98 (AC g97 AV) (Ne.symm MW)
       replace Az:=Aa g98 (AC g97 Az) (Ne.symm MX)
       replace Al:=Aa g98 (AC g97 Al) (Ne.symm Ep)
       replace hr:=(hr.kn g97).offR g98 (AP X5)
       replace ho:=(ho.kn g97).offR g98 (AP X7)
       replace oc:=(oc.kn g97).offR g98 (AP X9)
       replace op:=(op.kn g97).offR g98 (AP YJ)
       replace okk:=(okk.kn g97).offR g98 (AP Uv)
       replace HG:=AE (AA HG g97) g98 AF7
       replace CZ:=h98
       refine AD ?_
       refine k94 _ _ ?_
       refine AOQ fun K99 k99=>?_
       refine AOQ fun K100 k100=>?_
       rcases hjj with rfl|rfl
       · refine AOP ?_
         refine AH Uu 2 [(76,.int .i64 0),(77,.bool false)]
           ⟨ym r5,Ce r6 (fun _=>BM rfl),AOW⟩ fun a101 w101 g101 PH=>?_
         refine AD ?_
         refine k100 _ _ ?_
         refine Au PH rfl rfl ?_
         refine AOU ?_
         refine k99 _ _ ?_
         refine AOQ fun K102 k102=>?_
         refine AOP ?_
         refine AH PH 2 [(93,.slice ao36 ((BQ x)).length cap36),(94,AQ ck)]
           ⟨ym r5,yl r6 (Bb ck hck.1) (AC g101 CZ),AOW⟩ fun a103 w103 g103 AEj=>?_
         have MY:=AA g101 g103
         replace AV:=AC MY AV
         replace Az:=AC MY Az
         replace Al:=AC MY Al
         replace op:=op.kn MY
         replace HG:=AA HG MY
         refine BA AEj Tryz.func57 (by kernel_rfl) r6 (Nu (MM (BQ x) (Ef x) (by have:=FN x;omega) _ _ ck hck _ (Own.sb op))) fun a104 v104 w104 hR104 TK=>?_
         obtain⟨ao104,cap104,rfl,_⟩:=(Sl.of_own hR104.1).shape
         obtain⟨ow104,fr104⟩:=hR104
         replace fr104:=DT fr104
         have oy_:=ow104
         clear ow104
         have g104:=fr104.1
         replace fr104:=fr104.2
         have FH:=Cj fr104 AV
         have MP:=Cj fr104 Az
         have Gp:=Cj fr104 Al
         have lo_oy_:=IM HG fr104
         replace Al:=AC g104 Al
         refine AH TK 1 [(96,pk FA 4)]
           ⟨yf r6 (fun _=>by kernel_rfl),AOW⟩ fun a105 w105 g105 We=>?_
         refine IL (L:=[[.int .i64 ad],[.slice ao29 ds.length cap29],[.int .i64 0],[.slice none 0 0],[.slice none 0 0],bv AR]) (i:=4) We r7 (D5 (.slice ao104 ((Fj (BQ x) ck)).length cap104) rfl) (AC g105 Al) rfl rfl rfl fun w106 g106 h106=>?_
         replace CZ:=Ab g105 g106 (AC g104 (AC MY CZ)) Ep
         replace Al:=h106
         have TL:Sv _ _ [_,_,_,_,_,_,_,_,_,_,_,_,_,_,_,_,_,_,_,_,_,_,_,_,_,_,_,_,_,_,_,_,_,_,_,_,_,_] _:=We.dl [96,95,93,94]
         refine AD ?_
         refine k102 _ _ ?_
         refine AOQ fun K108 k108=>?_
         refine AOP ?_
         refine AH TL 4 [(97,AQ ck),(98,.int .i64 ad),(99,pk FA 4),(100,.slice ao104 ((Fj (BQ x) ck)).length cap104)]
           ⟨yl r6 (Bb ck hck.1) CZ,ym r5,yf r6 (fun _=>by kernel_rfl),yp (i:=4) r6 (D5 (.slice ao104 ((Fj (BQ x) ck)).length cap104) rfl) Al rfl rfl,AOW⟩ fun a109 w109 g109 QY=>?_
         replace oy_:=((oy_.kn g105).offR g106 (AP Gp)).kn g109
         refine BA QY Tryz.func58 (by kernel_rfl) r6 (Jb (Iu ck hck ad hia (Fj (BQ x) ck) (Kz _ (Ef x)) (by have:=FN x;rw[Hy];omega) _ _ _ (Own.sb oy_))) fun a110 v110 w110 hR110 JB=>?_
         obtain⟨rfl,g110⟩:=hR110
         replace Al:=AC g110 (AC g109 Al)
         have Nv:Sv _ _ [_,_,_,_,_,_,_,_,_,_,_,_,_,_,_,_,_,_,_,_,_,_,_,_,_,_,_,_,_,_,_,_,_,_,_,_,_,_,_] _:=JB.dl [97,98,99,100]
         refine AH Nv 1 [(102,pk FA 5)]
           ⟨yf r6 (fun _=>by kernel_rfl),AOW⟩ fun a112 w112 g112 AA4=>?_
         refine IL (L:=[[.int .i64 ad],[.slice ao29 ds.length cap29],[.int .i64 0],[.slice none 0 0],[.slice ao104 ((Fj (BQ x) ck)).length cap104],bv AR]) (i:=5) AA4 r7 (Bb ((MI ck ad (Fj (BQ x) ck))) (CE _ _ _).1) (AC g112 Al) rfl rfl (QS AU (CE _ _ _)) fun w113 g113 h113=>?_
         replace AV:=Ab g112 g113 (AC g110 (AC g109 (Ab g105 g106 (AC g104 AV) (Ne.symm Cl)))) (Ne.symm Cl)
         replace Al:=h113
         refine AD ?_
         refine k108 _ _ ?_
         refine AOQ fun K114 k114=>?_
         refine AOP ?_
         refine AH AA4 1 [(103,Bv ad (.slice ao29 ds.length cap29) 0 (.slice none 0 0) (.slice ao104 ((Fj (BQ x) ck)).length cap104) ((MI ck ad (Fj (BQ x) ck))))]
           ⟨yl r6 (Dh _ _ (CE _ _ _) (.slice ao29 ds.length cap29) (.slice none 0 0) (.slice ao104 ((Fj (BQ x) ck)).length cap104) rfl rfl rfl) Al,AOW⟩ fun a115 w115 g115 Cv=>?_
         refine Aq Cv r7 (Dh _ _ (CE _ _ _) (.slice ao29 ds.length cap29) (.slice none 0 0) (.slice ao104 ((Fj (BQ x) ck)).length cap104) rfl rfl rfl) (AC g115 AV) (EG AU (CE _ _ _)) fun w116 g116 h116=>?_
         replace Az:=Ab g115 g116 (Ab g112 g113 (AC g110 (AC g109 (Ab g105 g106 (AC g104 Az) (Ne.symm Cm)))) (Ne.symm Cm)) CK
         refine Aq Cv r7 (Gc 0) Az rfl fun w117 g117 h117=>?_
         replace Aj:=Aa g117 (Ab g115 g116 (Ab g112 g113 (AC g110 (AC g109 (Ab g105 g106 (AC g104 (AC MY Aj)) (Ne.symm Ej)))) (Ne.symm Ej)) (Ne.symm Cq)) (Ne.symm FZ)
         replace As:=Aa g117 (Ab g115 g116 (Ab g112 g113 (AC g110 (AC g109 (Ab g105 g106 (AC g104 (AC MY As)) (Ne.symm Ek)))) (Ne.symm Ek)) (Ne.symm Cr)) (Ne.symm Fa)
         replace AV:=Aa g117 h116 (Ne.symm CK)
         replace Al:=Aa g117 (Ab g115 g116 Al Cl) Cm
         replace CZ:=Aa g117 (Ab g115 g116 (Ab g112 g113 (AC g110 (AC g109 CZ)) Ep) MW) MX
         replace hr:=((((((((((hr.kn MY).kn g104).kn g105).offR g106 (AP GH)).kn g109).kn g110).kn g112).offR g113 (AP GH)).kn g115).offR g116 (AP DX)).offR g117 (AP Hg)
         replace ho:=((((((((((ho.kn MY).kn g104).kn g105).offR g106 (AP GI)).kn g109).kn g110).kn g112).offR g113 (AP GI)).kn g115).offR g116 (AP DY)).offR g117 (AP Hh)
         replace oc:=((((((((((oc.kn MY).kn g104).kn g105).offR g106 (AP EX)).kn g109).kn g110).kn g112).offR g113 (AP EX)).kn g115).offR g116 (AP Kl)).offR g117 (AP Km)
         replace op:=(((((((((op.kn g104).kn g105).offR g106 (AP FB)).kn g109).kn g110).kn g112).offR g113 (AP FB)).kn g115).offR g116 (AP E0)).offR g117 (AP Kn)
         replace okk:=((((((((((okk.kn MY).kn g104).kn g105).offR g106 (AP Dv)).kn g109).kn g110).kn g112).offR g113 (AP Dv)).kn g115).offR g116 (AP CT)).offR g117 (AP FG)
         replace oy_:=(((((oy_.kn g110).kn g112).offR g113 (AP Gp)).kn g115).offR g116 (AP FH)).offR g117 (AP MP)
         replace HG:=AE (AE (AA (AE (AA (AA (AA (AE (AA (AA HG g104) g105) g106 Hj) g109) g110) g112) g113 Hj) g115) g116 EO) g117 KD
         replace Az:=h117
         refine AD ?_
         refine k114 _ _ ?_
         refine AOT ?_
         repeat refine AM ?_
         refine Bz (fn:=Tryz.f20) Cv (CR (p:=10) (q:=11) Tryz.results20 Cv rfl rfl rfl rfl (Dh _ _ (CE _ _ _) (.slice ao29 ds.length cap29) (.slice none 0 0) (.slice ao104 ((Fj (BQ x) ck)).length cap104) rfl rfl rfl) (Gc 0) AV Az) (Ch Tryz.func49 (by kernel_rfl) rfl _ _) (E9 _ _ _) ?_
         exact SRes.mk (own:=ds) (wr:=[]) (Gm hh hv hne hK2 hkm hcke) rfl rfl rfl hown rfl oc (Own.nil _ _ _) oy_ lo_oc (fun k hk=>by simp[BC,Value.ownBlock] at hk) lo_oy_ (fun k _ hk=>by simp[BC,Value.ownBlock] at hk) (CE _ _ _) (Kz _ (Ef x)) HG rfl
       · refine AOP ?_
         refine AH Uu 2 [(76,.int .i64 1),(77,.bool true)]
           ⟨ym r5,Ce r6 (fun _=>BM rfl),AOW⟩ fun a118 w118 g118 AKp=>?_
         refine AD ?_
         refine k100 _ _ ?_
         refine Am AKp rfl rfl ?_
         refine AOQ fun K119 k119=>?_
         refine AOP ?_
         refine AH AKp 3 [(78,.slice ko i kc),(79,.int .i64 ((i:Nat))),(80,.int .i64 0)]
           ⟨ym r5,BJ (Tryz.underlying28) rfl rfl trivial (oy rfl rfl) (fun _=>rfl),Fw (.inl rfl) rfl trivial (fun _=>rfl),AOW⟩ fun a120 w120 g120 Cw=>?_
         have MZ:=AA g118 g120
         refine AD ?_
         refine k119 _ _ ?_
         refine BH fun Q121 x121 y121 rt121 o121=>?_
         replace Aj:=AC MZ Aj
         replace As:=AC MZ As
         replace AV:=AC MZ AV
         replace Az:=AC MZ Az
         replace Al:=AC MZ Al
         replace CZ:=AC MZ CZ
         replace hr:=hr.kn MZ
         replace ho:=ho.kn MZ
         replace oc:=oc.kn MZ
         replace op:=op.kn MZ
         replace okk:=okk.kn MZ
         replace HG:=AA HG MZ
         have ow:=Own.nil w120 23 32
         have FI:=Gg KT
         have FJ:=Gg KU
         have Dz:=Gg Ee
         have JC:=Gg J9
         have GJ:=Gg FA
         have Jd:=Gg TH
         have ap_hr_ow:=GV (KO (.slice vo ks.length vc_) ks)
         have ap_ho_ow:=GV (BC (.slice ao ds.length ac))
         have ap_oc_ow:=GV (BC (.slice ao29 ds.length cap29))
         have ap_ow_oc:=AAG (BC (.slice ao29 ds.length cap29))
         have ap_op_ow:=GV (BC (.slice ao36 ((BQ x)).length cap36))
         have ap_ow_op:=AAG (BC (.slice ao36 ((BQ x)).length cap36))
         have ap_okk_ow:=GV (BC (.slice ko i kc))
         have ap_ow_okk:=AAG (BC (.slice ko i kc))
         have lo_ow:=UZ w
         refine wp_loop (fun a w'=>∃(j:Nat) (wo:Option Addr) (wc:Nat),(j≤i)∧Sv 104 [{ target:=.fn (.func 49) #[pt Ee,pt J9],args:=#[] }] [(80,.int .i64 ((j:Int))),(78,.slice ko i kc),(79,.int .i64 ((i:Nat))),(76,.int .i64 1),(77,.bool true),(19,pt TH),(75,AQ ck),(73,.int .i64 1),(74,.slice ko i kc),(54,.bool false),(53,.int .i64 ((i:Int))),(14,.slice ko i kc),(51,.slice ao ds.length ac),(52,.int .i64 ((ds.length:Nat))),(41,.slice ao ds.length ac),(42,.int .i64 ((ds.length:Nat))),(43,.bool false),(13,.slice ao36 ((BQ x)).length cap36),(40,.slice ao36 ((BQ x)).length cap36),(39,Br x),(12,pt FA),(23,.slice ao ds.length ac),(24,.int .i64 1),(25,.int .i64 ad),(26,.bool true),(27,.bool false),(28,.bool false),(29,Ay sa po (.slice vo ks.length vc_)),(30,.bool true),(31,.bool false),(32,.bool false),(22,.func (.func 49) #[] #[pt Ee,pt J9]),(11,pt J9),(10,pt Ee),(9,pt KU),(5,pt KT),(0,Ay sa po (.slice vo ks.length vc_)),(1,.slice ao ds.length ac),(2,.int .i64 1),(3,.int .i64 ad),(4,Br x)] a∧w.grownBy w' none∧w'.heap[KT]?=some (.cells ([bv sa,bv po,[.slice vo ks.length vc_]].flatten).toArray 36 (0,0))∧w'.heap[KU]?=some (.cells (vc x).toArray 25 (0,0))∧w'.heap[Ee]?=some (.cells (([[.int .i64 0],[.slice none 0 0],[.int .i64 0],[.slice none 0 0],[.slice none 0 0],bv AR].flatten)).toArray 31 (0,0))∧w'.heap[J9]?=some (.cells ([.int .i64 0]).toArray 38 (0,0))∧w'.heap[FA]?=some (.cells ([[.int .i64 ad],[.slice ao29 ds.length cap29],[.int .i64 1],[.slice wo j wc],[.slice none 0 0],bv AR].flatten).toArray 31 (0,0))∧w'.heap[TH]?=some (.cells (bv ck).toArray 23 (0,0))∧RdK w' (.slice vo ks.length vc_) ks∧RdD w' (.slice ao ds.length ac) ds∧Own w' 23 32 (.slice ao29 ds.length cap29) ds.length (ds.flatMap Ja)∧Own w' 5 1 (.slice ao36 ((BQ x)).length cap36) (((BQ x)).length) (bv ((BQ x)))∧Own w' 23 32 (.slice ko i kc) i (kl.flatMap Ja)∧Own w' 23 32 (.slice wo j wc) j (((wrL ck hck kl j)).flatMap Ja)∧(∀k,BC (.slice wo j wc) k→k≠KT)∧(∀k,BC (.slice wo j wc) k→k≠KU)∧(∀k,BC (.slice wo j wc) k→k≠Ee)∧(∀k,BC (.slice wo j wc) k→k≠J9)∧(∀k,BC (.slice wo j wc) k→k≠FA)∧(∀k,BC (.slice wo j wc) k→k≠TH)∧(∀k,KO (.slice vo ks.length vc_) ks k→¬BC (.slice wo j wc) k)∧(∀k,BC (.slice ao ds.length ac) k→¬BC (.slice wo j wc) k)∧(∀k,BC (.slice ao29 ds.length cap29) k→¬BC (.slice wo j wc) k)∧(∀k,BC (.slice wo j wc) k→¬BC (.slice ao29 ds.length cap29) k)∧(∀k,BC (.slice ao36 ((BQ x)).length cap36) k→¬BC (.slice wo j wc) k)∧(∀k,BC (.slice wo j wc) k→¬BC (.slice ao36 ((BQ x)).length cap36) k)∧(∀k,BC (.slice ko i kc) k→¬BC (.slice wo j wc) k)∧(∀k,BC (.slice wo j wc) k→¬BC (.slice ko i kc) k)∧(∀k,BC (.slice wo j wc) k→w.heap.size≤k)) (fun a _=>(i-intOf (a.tmps.getD 80 undef)).toNat) ⟨0,none,0,Nat.zero_le _,⟨Cw.1,Cw.2.1,Cw.2.2.2.2.1,Cw.2.2.1,Cw.2.2.2.1,Cw.2.2.2.2.2.1,Cw.2.2.2.2.2.2.1,Cw.2.2.2.2.2.2.2.1,(AG Cw).1,(AG Cw).2.1,(AG Cw).2.2.1,(AG Cw).2.2.2.1,(AG Cw).2.2.2.2.1,(AG Cw).2.2.2.2.2.1,(AG Cw).2.2.2.2.2.2.1,(AG Cw).2.2.2.2.2.2.2.1,(AG (AG Cw)).1,(AG (AG Cw)).2.1,(AG (AG Cw)).2.2.1,(AG (AG Cw)).2.2.2.1,(AG (AG Cw)).2.2.2.2.1,(AG (AG Cw)).2.2.2.2.2.1,(AG (AG Cw)).2.2.2.2.2.2.1,(AG (AG Cw)).2.2.2.2.2.2.2.1,(AG (AG (AG Cw))).1,(AG (AG (AG Cw))).2.1,(AG (AG (AG Cw))).2.2.1,(AG (AG (AG Cw))).2.2.2.1,(AG (AG (AG Cw))).2.2.2.2.1,(AG (AG (AG Cw))).2.2.2.2.2.1,(AG (AG (AG Cw))).2.2.2.2.2.2.1,(AG (AG (AG Cw))).2.2.2.2.2.2.2.1,(AG (AG (AG (AG Cw)))).1,(AG (AG (AG (AG Cw)))).2.1,(AG (AG (AG (AG Cw)))).2.2.1,(AG (AG (AG (AG Cw)))).2.2.2.1,(AG (AG (AG (AG Cw)))).2.2.2.2.1,(AG (AG (AG (AG Cw)))).2.2.2.2.2.1,(AG (AG (AG (AG Cw)))).2.2.2.2.2.2.1,(AG (AG (AG (AG Cw)))).2.2.2.2.2.2.2.1,(AG (AG (AG (AG (AG Cw))))).1,(AG (AG (AG (AG (AG Cw))))).2.1,(AG (AG (AG (AG (AG Cw))))).2.2.1,AOW⟩,HG,Aj,As,AV,Az,Al,CZ,hr,ho,oc,op,okk,ow,FI,FJ,Dz,JC,GJ,Jd,ap_hr_ow,ap_ho_ow,ap_oc_ow,ap_ow_oc,ap_op_ow,ap_ow_op,ap_okk_ow,ap_ow_okk,lo_ow⟩ fun a122 w122 hI122=>?_
         clear Aj
         clear As
         clear AV
         clear Az
         clear Al
         clear CZ
         clear hr
         clear ho
         clear oc
         clear op
         clear okk
         clear ow
         clear HG
         obtain⟨j,wo,wc,hjn,Wf,HG,Aj,As,AV,Az,Al,CZ,hr,ho,oc,op,okk,ow,FI,FJ,Dz,JC,GJ,Jd,ap_hr_ow,ap_ho_ow,ap_oc_ow,ap_ow_oc,ap_op_ow,ap_ow_op,ap_okk_ow,ap_ow_okk,lo_ow⟩:=hI122
         refine AOQ fun K123 k123=>?_
         by_cases hjl:j<i
         · have hjk:j<kl.length:=by omega
           obtain⟨ky,hx_ky⟩:∃zx,kl[j]'hjk=zx:=⟨_,rfl⟩
           refine AOP ?_
           refine AH Wf 1 [(81,.bool true)]
            ⟨Fg r7 (fun _=>BR (by simp;omega)),AOW⟩ fun a124 w124 g124 TM=>?_
           refine AD ?_
           refine k123 _ _ ?_
           refine AOQ fun K125 k125=>?_
           refine Am TM rfl rfl ?_
           refine AOU ?_
           refine k125 _ _ ?_
           refine AOQ fun K126 k126=>?_
           refine BH fun Q127 x127 y127 rt127 o127=>?_
           refine AOQ fun K128 k128=>?_
           refine AOP ?_
           replace okk:=okk.kn g124
           refine AH TM 2 [(82,pk ((bO ko)) (oO ko+j*32)),(83,AQ ky.x)]
            ⟨BD rq8 (fun w=>CF Tryz.underlying28 (by kernel_rfl) ((Sl.of_own okk)) (by omega) (rfl) w),Bj r6 (fun _ g=>Ad (Bb ky.x ky.h.1) (by have:=CW (Sl.of_own (okk.kn g)) Dj hjk (by decide);rw[hx_ky] at this;exact this)),AOW⟩ fun a129 w129 g129 DQ=>?_
           replace Aj:=AC g129 (AC g124 Aj)
           replace As:=AC g129 (AC g124 As)
           replace AV:=AC g129 (AC g124 AV)
           replace Az:=AC g129 (AC g124 Az)
           replace Al:=AC g129 (AC g124 Al)
           replace CZ:=AC g129 (AC g124 CZ)
           replace hr:=(hr.kn g124).kn g129
           replace ho:=(ho.kn g124).kn g129
           replace oc:=(oc.kn g124).kn g129
           replace op:=(op.kn g124).kn g129
           replace okk:=okk.kn g129
           replace ow:=(ow.kn g124).kn g129
           replace HG:=AA (AA HG g124) g129
           refine A9 (T:=23) (Z:=(bv AR)) DQ rfl rfl rfl (fun a w=>by kernel_rfl) fun a130 w130 AJ8 Ds g130 z130 PI QZ=>?_
           have RB:=Ao Aj Ds
           have RC:=Ao As Ds
           have P3:=Ao AV Ds
           have P4:=Ao Az Ds
           have PJ:=Ao Al Ds
           have PK:=Ao CZ Ds
           have ADX:=Bq HG Ds
           have Uw:=Aw (hr.lt) Ds
           have Ux:=Aw (ho.lt) Ds
           have Uy:=Aw (Own.ltS oc) Ds
           have Uz:=Aw (Own.ltS op) Ds
           have TO:=Aw (Own.ltS okk) Ds
           have U0:=Aw (Own.ltS ow) Ds
           refine Aq QZ r7 (Bb ky.x ky.h.1) PI (EM ky.h) fun w131 g131 h131=>?_
           replace Aj:=Aa g131 (AC g130 Aj) (Ne.symm RB)
           replace As:=Aa g131 (AC g130 As) (Ne.symm RC)
           replace AV:=Aa g131 (AC g130 AV) (Ne.symm P3)
           replace Az:=Aa g131 (AC g130 Az) (Ne.symm P4)
           replace Al:=Aa g131 (AC g130 Al) (Ne.symm PJ)
           replace CZ:=Aa g131 (AC g130 CZ) (Ne.symm PK)
           replace ow:=(ow.kn g130).offR g131 (AP U0)
           replace HG:=AE (AA HG g130) g131 ADX
           replace PI:=h131
           refine AD ?_
           refine k128 _ _ ?_
           refine DP (QZ.st w131) (by kernel_rfl) 6 [(84,Sp.is (pk FA 3)),(85,Sp.is (.slice wo j wc)),(86,Sp.is (AQ ck)),(87,Sp.is (AQ ky.x)),(88,Sp.is (AQ ((Mg ck ky.x)))),(89,Sp.lit1 w131.heap.size 23 (bv (Mg ck ky.x)))] rfl (by kernel_rfl) (by kernel_rfl) (by kernel_rfl) [] (by kernel_rfl)
            ⟨yf r6 (fun _=>by kernel_rfl),yp (i:=3) r6 (Fe (.slice wo j wc) rfl) Al rfl rfl,yl r6 (Bb ck hck.1) CZ,yl r6 (Bb ky.x ky.h.1) PI,Ag [AQ ck,AQ ky.x] Tryz.func56 (by kernel_rfl) rq4 ⟨(oy rfl rfl),(oy rfl rfl),AOW⟩ (A1 fun W g=>O8 ck ky.x hck ky.h W),Ot rfl rfl trivial (Nat.le_refl _) rfl (fun W hw v h=>match v,h with|_,⟨rfl,_⟩=>⟨bv (Mg ck ky.x),Up (Ig hck ky.h) W,fun w' _ hh=>⟨_,rfl,hw.size,hh⟩⟩),AOW⟩ trivial
            [] (by kernel_rfl) trivial ⟨.inl rfl,.inl rfl,.inl rfl,.inl rfl,.inl rfl,.inl rfl,AOW⟩ (by kernel_rfl) fun a132 w132 g132 st132 nd132=>?_
           obtain⟨hn132,hd132,e132_84,e132_85,e132_86,e132_87,e132_88,e132_89,e132_21,e132_82,e132_83,e132_81,e132_80,e132_78,e132_79,e132_76,e132_77,e132_19,e132_75,e132_73,e132_74,e132_54,e132_53,e132_14,e132_51,e132_52,e132_41,e132_42,e132_43,e132_13,e132_40,e132_39,e132_12,e132_23,e132_24,e132_25,e132_26,e132_27,e132_28,e132_29,e132_30,e132_31,e132_32,e132_22,e132_11,e132_10,e132_9,e132_5,e132_0,e132_1,e132_2,e132_3,e132_4,-⟩:=st132
           obtain⟨V,e132_89q,geV,HV⟩:=e132_89
           have AF8:V≠KT:=Nat.ne_of_gt (Nat.lt_of_lt_of_le (Array.getElem?_eq_some_iff.1 Aj).1 geV)
           have AF9:V≠KU:=Nat.ne_of_gt (Nat.lt_of_lt_of_le (Array.getElem?_eq_some_iff.1 As).1 geV)
           have ADY:V≠Ee:=Nat.ne_of_gt (Nat.lt_of_lt_of_le (Array.getElem?_eq_some_iff.1 AV).1 geV)
           have ALr:V≠J9:=Nat.ne_of_gt (Nat.lt_of_lt_of_le (Array.getElem?_eq_some_iff.1 Az).1 geV)
           have AA5:V≠FA:=Nat.ne_of_gt (Nat.lt_of_lt_of_le (Array.getElem?_eq_some_iff.1 Al).1 geV)
           have AKq:V≠TH:=Nat.ne_of_gt (Nat.lt_of_lt_of_le (Array.getElem?_eq_some_iff.1 CZ).1 geV)
           have AJ9:V≠AJ8:=Nat.ne_of_gt (Nat.lt_of_lt_of_le (Array.getElem?_eq_some_iff.1 PI).1 geV)
           have lo_V:w.heap.size≤V:=Nat.le_trans HG.size geV
           have ap_ow_V:=GO (Own.ltS ow) geV
           replace Aj:=AC g132 Aj
           replace As:=AC g132 As
           replace AV:=AC g132 AV
           replace Az:=AC g132 Az
           replace Al:=AC g132 Al
           replace CZ:=AC g132 CZ
           replace hr:=((hr.kn g130).offR g131 (AP Uw)).kn g132
           replace ho:=((ho.kn g130).offR g131 (AP Ux)).kn g132
           replace oc:=((oc.kn g130).offR g131 (AP Uy)).kn g132
           replace op:=((op.kn g130).offR g131 (AP Uz)).kn g132
           replace okk:=((okk.kn g130).offR g131 (AP TO)).kn g132
           replace ow:=ow.kn g132
           replace HG:=AA HG g132
           have Wg:Sv 104 [{ target:=.fn (.func 49) #[pt Ee,pt J9],args:=#[] }] [(21,_),(82,_),(83,_),(81,_),(80,_),(78,_),(79,_),(76,_),(77,_),(19,_),(75,_),(73,_),(74,_),(54,_),(53,_),(14,_),(51,_),(52,_),(41,_),(42,_),(43,_),(13,_),(40,_),(39,_),(12,_),(23,_),(24,_),(25,_),(26,_),(27,_),(28,_),(29,_),(30,_),(31,_),(32,_),(22,_),(11,_),(10,_),(9,_),(5,_),(0,_),(1,_),(2,_),(3,_),(4,_),(85,_),(89,_)] a132:=⟨hn132,hd132,e132_21,e132_82,e132_83,e132_81,e132_80,e132_78,e132_79,e132_76,e132_77,e132_19,e132_75,e132_73,e132_74,e132_54,e132_53,e132_14,e132_51,e132_52,e132_41,e132_42,e132_43,e132_13,e132_40,e132_39,e132_12,e132_23,e132_24,e132_25,e132_26,e132_27,e132_28,e132_29,e132_30,e132_31,e132_32,e132_22,e132_11,e132_10,e132_9,e132_5,e132_0,e132_1,e132_2,e132_3,e132_4,e132_85,e132_89q,AOW⟩
           refine GZ dsT Wg rfl rfl rfl rfl rfl rfl rfl rfl ow (Iv HV (Ig hck ky.h)) (Dk _) (by omega) fun a133 ao133 cap133 w133 owx133 Bk AIB=>?_
           have TP:=Fo Bk.2 FI Aj
           have TQ:=Fo Bk.2 FJ As
           have RD:=Fo Bk.2 Dz AV
           have RE:=Fo Bk.2 JC Az
           have Lk:=Fo Bk.2 GJ Al
           have P7:=Fo Bk.2 Jd CZ
           have YK:=E4 Bk.2 ap_hr_ow (hr.lt)
           have YL:=E4 Bk.2 ap_ho_ow (ho.lt)
           have PL:=E4 Bk.2 ap_oc_ow (Own.ltS oc)
           have PM:=E4 Bk.2 ap_op_ow (Own.ltS op)
           have Nw:=E4 Bk.2 ap_okk_ow (Own.ltS okk)
           have ap_owx133_oc:=XJ PL
           have ap_owx133_op:=XJ PM
           have ap_owx133_okk:=XJ Nw
           have AGA:=Oq Bk.2 lo_ow HG
           replace Al:=AF Bk.1 Al (fun e=>GJ _ e.symm rfl)
           rw[AAz hck hjk hx_ky] at owx133
           refine AH AIB 1 [(91,pk FA 3)]
            ⟨yf r6 (fun _=>by kernel_rfl),AOW⟩ fun a134 w134 g134 Qa=>?_
           refine IL (L:=[[.int .i64 ad],[.slice ao29 ds.length cap29],[.int .i64 1],[.slice wo j wc],[.slice none 0 0],bv AR]) (i:=3) Qa r7 (Fe (.slice ao133 (j+1) cap133) rfl) (AC g134 Al) rfl rfl rfl fun w135 g135 h135=>?_
           replace Aj:=Ab g134 g135 (AF Bk.1 Aj (fun e=>FI _ e.symm rfl)) (Ne.symm Ej)
           replace As:=Ab g134 g135 (AF Bk.1 As (fun e=>FJ _ e.symm rfl)) (Ne.symm Ek)
           replace AV:=Ab g134 g135 (AF Bk.1 AV (fun e=>Dz _ e.symm rfl)) (Ne.symm Cl)
           replace Az:=Ab g134 g135 (AF Bk.1 Az (fun e=>JC _ e.symm rfl)) (Ne.symm Cm)
           replace CZ:=Ab g134 g135 (AF Bk.1 CZ (fun e=>Jd _ e.symm rfl)) Ep
           replace HV:=Ab g134 g135 (AF Bk.1 HV (fun e=>ap_ow_V _ e.symm rfl)) AA5
           replace hr:=((hr.offR Bk.1 (fun k hk e=>ap_hr_ow k hk (e))).kn g134).offR g135 (AP GH)
           replace ho:=((ho.offR Bk.1 (fun k hk e=>ap_ho_ow k hk (e))).kn g134).offR g135 (AP GI)
           replace oc:=((oc.offR Bk.1 (fun k hk e=>ap_oc_ow k hk (e))).kn g134).offR g135 (AP EX)
           replace op:=((op.offR Bk.1 (fun k hk e=>ap_op_ow k hk (e))).kn g134).offR g135 (AP FB)
           replace okk:=((okk.offR Bk.1 (fun k hk e=>ap_okk_ow k hk (e))).kn g134).offR g135 (AP Dv)
           replace HG:=AE (AA (Bu HG Bk.1 fun k e=>lo_ow k (e)) g134) g135 Hj
           have AIC:Sv _ _ [_,_,_,_,_,_,_,_,_,_,_,_,_,_,_,_,_,_,_,_,_,_,_,_,_,_,_,_,_,_,_,_,_,_,_,_,_,_,_,_,_,_,_,_,_] _:=Qa.dl [91,90,85,89]
           refine AD ?_
           refine y127 _ _ ?_
           refine k126 _ _ ?_
           refine AOP ?_
           refine AH AIC 1 [(92,.int .i64 (((j+1:Nat):Int)))]
            ⟨Ce r6 (fun _=>Dd (by rw[BT (by omega) (by omega)];omega)),AOW⟩ fun a137 w137 g137 AMo=>?_
           refine AH (AMo.dl [80]) 1 [(80,.int .i64 (((j+1:Nat):Int)))]
            ⟨ym r5,AOW⟩ fun a138 w138 g138 C9=>?_
           have Ko:=AA g137 g138
           refine AD ?_
           replace Aj:=AC Ko Aj
           replace As:=AC Ko As
           replace AV:=AC Ko AV
           replace Az:=AC Ko Az
           replace Al:=AC Ko h135
           replace CZ:=AC Ko CZ
           replace HV:=AC Ko HV
           replace hr:=hr.kn Ko
           replace ho:=ho.kn Ko
           replace oc:=oc.kn Ko
           replace op:=op.kn Ko
           replace okk:=okk.kn Ko
           replace owx133:=((owx133.kn g134).offR g135 (AP Lk)).kn Ko
           replace HG:=AA HG Ko
           exact⟨⟨j+1,ao133,cap133,by omega,⟨C9.1,C9.2.1,C9.2.2.1,(AG C9).1,(AG C9).2.1,(AG C9).2.2.1,(AG C9).2.2.2.1,(AG C9).2.2.2.2.1,(AG C9).2.2.2.2.2.1,(AG C9).2.2.2.2.2.2.1,(AG C9).2.2.2.2.2.2.2.1,(AG (AG C9)).1,(AG (AG C9)).2.1,(AG (AG C9)).2.2.1,(AG (AG C9)).2.2.2.1,(AG (AG C9)).2.2.2.2.1,(AG (AG C9)).2.2.2.2.2.1,(AG (AG C9)).2.2.2.2.2.2.1,(AG (AG C9)).2.2.2.2.2.2.2.1,(AG (AG (AG C9))).1,(AG (AG (AG C9))).2.1,(AG (AG (AG C9))).2.2.1,(AG (AG (AG C9))).2.2.2.1,(AG (AG (AG C9))).2.2.2.2.1,(AG (AG (AG C9))).2.2.2.2.2.1,(AG (AG (AG C9))).2.2.2.2.2.2.1,(AG (AG (AG C9))).2.2.2.2.2.2.2.1,(AG (AG (AG (AG C9)))).1,(AG (AG (AG (AG C9)))).2.1,(AG (AG (AG (AG C9)))).2.2.1,(AG (AG (AG (AG C9)))).2.2.2.1,(AG (AG (AG (AG C9)))).2.2.2.2.1,(AG (AG (AG (AG C9)))).2.2.2.2.2.1,(AG (AG (AG (AG C9)))).2.2.2.2.2.2.1,(AG (AG (AG (AG C9)))).2.2.2.2.2.2.2.1,(AG (AG (AG (AG (AG C9))))).1,(AG (AG (AG (AG (AG C9))))).2.1,(AG (AG (AG (AG (AG C9))))).2.2.1,(AG (AG (AG (AG (AG C9))))).2.2.2.1,(AG (AG (AG (AG (AG C9))))).2.2.2.2.1,(AG (AG (AG (AG (AG C9))))).2.2.2.2.2.1,(AG (AG (AG (AG (AG C9))))).2.2.2.2.2.2.1,(AG (AG (AG (AG (AG C9))))).2.2.2.2.2.2.2.1,AOW⟩,HG,Aj,As,AV,Az,Al,CZ,hr,ho,oc,op,okk,owx133,TP,TQ,RD,RE,Lk,P7,YK,YL,PL,ap_owx133_oc,PM,ap_owx133_op,Nw,ap_owx133_okk,AGA⟩,by rw[show _=_ from C9.2.2.1,show _=_ from Wf.2.2.1];simp[intOf];omega⟩
         · have hwr:(wrL ck hck kl j).map DD.x=kl.map fun z=>Mg ck z.x:=AEg (by omega)
           refine AOP ?_
           refine AH Wf 1 [(81,.bool false)]
            ⟨Fg r7 (fun _=>BR (by simp;omega)),AOW⟩ fun a139 w139 g139 AEk=>?_
           refine AD ?_
           refine k123 _ _ ?_
           refine AOQ fun K140 k140=>?_
           refine Au AEk rfl rfl ?_
           refine wp_exit ?_
           repeat refine CA ?_
           refine x121 _ _ ?_
           refine k99 _ _ ?_
           refine AOQ fun K141 k141=>?_
           refine AOP ?_
           refine AH AEk 2 [(93,.slice ao36 ((BQ x)).length cap36),(94,AQ ck)]
            ⟨ym r5,yl r6 (Bb ck hck.1) (AC g139 CZ),AOW⟩ fun a142 w142 g142 AMp=>?_
           have PN:=AA g139 g142
           replace AV:=AC PN AV
           replace Az:=AC PN Az
           replace Al:=AC PN Al
           replace op:=op.kn PN
           replace HG:=AA HG PN
           refine BA AMp Tryz.func57 (by kernel_rfl) r6 (Nu (MM (BQ x) (Ef x) (by have:=FN x;omega) _ _ ck hck _ (Own.sb op))) fun a143 v143 w143 hR143 AMq=>?_
           obtain⟨ao143,cap143,rfl,_⟩:=(Sl.of_own hR143.1).shape
           obtain⟨ow143,fr143⟩:=hR143
           replace fr143:=DT fr143
           have oy_:=ow143
           clear ow143
           have g143:=fr143.1
           replace fr143:=fr143.2
           have FH:=Cj fr143 AV
           have MP:=Cj fr143 Az
           have Gp:=Cj fr143 Al
           have lo_oy_:=IM HG fr143
           replace Al:=AC g143 Al
           refine AH AMq 1 [(96,pk FA 4)]
            ⟨yf r6 (fun _=>by kernel_rfl),AOW⟩ fun a144 w144 g144 AA6=>?_
           refine IL (L:=[[.int .i64 ad],[.slice ao29 ds.length cap29],[.int .i64 1],[.slice wo j wc],[.slice none 0 0],bv AR]) (i:=4) AA6 r7 (D5 (.slice ao143 ((Fj (BQ x) ck)).length cap143) rfl) (AC g144 Al) rfl rfl rfl fun w145 g145 h145=>?_
           replace CZ:=Ab g144 g145 (AC g143 (AC PN CZ)) Ep
           replace Al:=h145
           have AEl:Sv _ _ [_,_,_,_,_,_,_,_,_,_,_,_,_,_,_,_,_,_,_,_,_,_,_,_,_,_,_,_,_,_,_,_,_,_,_,_,_,_,_,_,_,_] _:=AA6.dl [96,95,93,94]
           refine AD ?_
           refine k141 _ _ ?_
           refine AOQ fun K147 k147=>?_
           refine AOP ?_
           refine AH AEl 4 [(97,AQ ck),(98,.int .i64 ad),(99,pk FA 4),(100,.slice ao143 ((Fj (BQ x) ck)).length cap143)]
            ⟨yl r6 (Bb ck hck.1) CZ,ym r5,yf r6 (fun _=>by kernel_rfl),yp (i:=4) r6 (D5 (.slice ao143 ((Fj (BQ x) ck)).length cap143) rfl) Al rfl rfl,AOW⟩ fun a148 w148 g148 AMr=>?_
           replace oy_:=((oy_.kn g144).offR g145 (AP Gp)).kn g148
           refine BA AMr Tryz.func58 (by kernel_rfl) r6 (Jb (Iu ck hck ad hia (Fj (BQ x) ck) (Kz _ (Ef x)) (by have:=FN x;rw[Hy];omega) _ _ _ (Own.sb oy_))) fun a149 v149 w149 hR149 AMs=>?_
           obtain⟨rfl,g149⟩:=hR149
           replace Al:=AC g149 (AC g148 Al)
           have AMt:Sv _ _ [_,_,_,_,_,_,_,_,_,_,_,_,_,_,_,_,_,_,_,_,_,_,_,_,_,_,_,_,_,_,_,_,_,_,_,_,_,_,_,_,_,_,_] _:=AMs.dl [97,98,99,100]
           refine AH AMt 1 [(102,pk FA 5)]
            ⟨yf r6 (fun _=>by kernel_rfl),AOW⟩ fun a151 w151 g151 AKr=>?_
           refine IL (L:=[[.int .i64 ad],[.slice ao29 ds.length cap29],[.int .i64 1],[.slice wo j wc],[.slice ao143 ((Fj (BQ x) ck)).length cap143],bv AR]) (i:=5) AKr r7 (Bb ((MI ck ad (Fj (BQ x) ck))) (CE _ _ _).1) (AC g151 Al) rfl rfl (QS AU (CE _ _ _)) fun w152 g152 h152=>?_
           replace AV:=Ab g151 g152 (AC g149 (AC g148 (Ab g144 g145 (AC g143 AV) (Ne.symm Cl)))) (Ne.symm Cl)
           replace Al:=h152
           refine AD ?_
           refine k147 _ _ ?_
           refine AOQ fun K153 k153=>?_
           refine AOP ?_
           refine AH AKr 1 [(103,Bv ad (.slice ao29 ds.length cap29) 1 (.slice wo j wc) (.slice ao143 ((Fj (BQ x) ck)).length cap143) ((MI ck ad (Fj (BQ x) ck))))]
            ⟨yl r6 (Dh _ _ (CE _ _ _) (.slice ao29 ds.length cap29) (.slice wo j wc) (.slice ao143 ((Fj (BQ x) ck)).length cap143) rfl rfl rfl) Al,AOW⟩ fun a154 w154 g154 AEm=>?_
           refine Aq AEm r7 (Dh _ _ (CE _ _ _) (.slice ao29 ds.length cap29) (.slice wo j wc) (.slice ao143 ((Fj (BQ x) ck)).length cap143) rfl rfl rfl) (AC g154 AV) (EG AU (CE _ _ _)) fun w155 g155 h155=>?_
           replace Az:=Ab g154 g155 (Ab g151 g152 (AC g149 (AC g148 (Ab g144 g145 (AC g143 Az) (Ne.symm Cm)))) (Ne.symm Cm)) CK
           refine Aq AEm r7 (Gc 0) Az rfl fun w156 g156 h156=>?_
           replace AV:=Aa g156 h155 (Ne.symm CK)
           replace oc:=((((((((((oc.kn PN).kn g143).kn g144).offR g145 (AP EX)).kn g148).kn g149).kn g151).offR g152 (AP EX)).kn g154).offR g155 (AP Kl)).offR g156 (AP Km)
           replace op:=(((((((((op.kn g143).kn g144).offR g145 (AP FB)).kn g148).kn g149).kn g151).offR g152 (AP FB)).kn g154).offR g155 (AP E0)).offR g156 (AP Kn)
           replace okk:=((((((((((okk.kn PN).kn g143).kn g144).offR g145 (AP Dv)).kn g148).kn g149).kn g151).offR g152 (AP Dv)).kn g154).offR g155 (AP CT)).offR g156 (AP FG)
           replace ow:=((((((((((ow.kn PN).kn g143).kn g144).offR g145 (AP GJ)).kn g148).kn g149).kn g151).offR g152 (AP GJ)).kn g154).offR g155 (AP Dz)).offR g156 (AP JC)
           replace oy_:=(((((oy_.kn g149).kn g151).offR g152 (AP Gp)).kn g154).offR g155 (AP FH)).offR g156 (AP MP)
           replace HG:=AE (AE (AA (AE (AA (AA (AA (AE (AA (AA HG g143) g144) g145 Hj) g148) g149) g151) g152 Hj) g154) g155 EO) g156 KD
           replace Az:=h156
           refine AD ?_
           refine k153 _ _ ?_
           refine AOT ?_
           repeat refine AM ?_
           refine Bz (fn:=Tryz.f20) AEm (CR (p:=10) (q:=11) Tryz.results20 AEm rfl rfl rfl rfl (Dh _ _ (CE _ _ _) (.slice ao29 ds.length cap29) (.slice wo j wc) (.slice ao143 ((Fj (BQ x) ck)).length cap143) rfl rfl rfl) (Gc 0) AV Az) (Ch Tryz.func49 (by kernel_rfl) rfl _ _) (E9 _ _ _) ?_
           exact SRes.mk (own:=ds) (wr:=(wrL ck hck kl j)) (Gm hh hv hne hK2 hkm hcke) rfl (AEh (by omega)) rfl hown (hwr.trans (Wc kl ck)) oc ow oy_ lo_oc lo_ow lo_oy_ ap_oc_ow (CE _ _ _) (Kz _ (Ef x)) HG rfl
end Go.Proofs.YtbfjfnbcmojpiaaGreat
