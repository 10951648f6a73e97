import Derived.Test.YtbfjfnbcmojpiaaGreatBkY7
set_option linter.unusedSimpArgs false
set_option linter.unusedVariables false
set_option maxRecDepth 100000
set_option maxHeartbeats 4000000
namespace Go.Proofs.YtbfjfnbcmojpiaaGreat
open Go.RowKit Go.Shelf
theorem Dc (p q:Value) (w:World):CallsD Tryz.prog 49 #[p,q] .returning w fun e u' w'=>e=.returned (.tuple #[])∧u'=.returning∧w'=w:=by
 refine callsD_of_wpS Tryz.func49 rfl fun c₀ cs hu=>?_
 apply wpS_seq
 apply wpS_region
 simp[wpOpsS,go_sem,recoverD,hu,Tryz.ntmps49,Exit.thenS]
 refine wpS_cond (t:=false) (by simp[Act.eval,Array.replicate]) ?_
 simp only[Bool.false_eq_true,if_false]
 refine wpS_of_wp (AH8 ?_)
 cases c₀
 simp_all [bodyPostS,results,Tryz.results49]
theorem C9 (p q:Value) (w:World):CallsD Tryz.prog 60 #[p,q] .returning w fun e u' w'=>e=.returned (.tuple #[])∧u'=.returning∧w'=w:=by
 refine callsD_of_wpS Tryz.func60 rfl fun c₀ cs hu=>?_
 apply wpS_seq
 apply wpS_region
 simp[wpOpsS,go_sem,recoverD,hu,Tryz.ntmps60,Exit.thenS]
 refine wpS_cond (t:=false) (by simp[Act.eval,Array.replicate]) ?_
 simp only[Bool.false_eq_true,if_false]
 refine wpS_of_wp (AH8 ?_)
 cases c₀
 simp_all [bodyPostS,results,Tryz.results60]
def SRes (w w':World) (r:Sd×Int) (e:Ending):Prop:=
 ∃(own wr:List DD) (ao wo bo:Option Addr) (ac wc bc:Nat),e=.returned (.tuple #[Br r.1.addr (.slice ao own.length ac) r.1.joint (.slice wo wr.length wc) (.slice bo r.1.body.length bc) r.1.tag,.int .i64 r.2])∧own.map DD.x=r.1.own∧wr.map DD.x=r.1.wr ∧
  Own w' 23 32 (.slice ao own.length ac) own.length (own.flatMap JW)∧Own w' 23 32 (.slice wo wr.length wc) wr.length (wr.flatMap JW)∧Own w' 5 1 (.slice bo r.1.body.length bc) r.1.body.length (bv r.1.body) ∧
  (∀k,BO (.slice ao own.length ac) k→w.heap.size≤k)∧(∀k,BO (.slice wo wr.length wc) k→w.heap.size≤k)∧(∀k,BO (.slice bo r.1.body.length bc) k→w.heap.size≤k)∧(∀k,BO (.slice ao own.length ac) k→¬BO (.slice wo wr.length wc) k)∧Dg r.1.tag∧By r.1.body∧w.grownBy w' none
theorem SRes.mk {w w':World} {r:Sd×Int} {s:Sd} {er:Int} {own wr:List DD} {ao wo bo:Option Addr} {ac wc bc n m l:Nat} (hr:r=(s,er)) (hn:own.length=n) (hm:wr.length=m) (hl:s.body.length=l) (h1:own.map DD.x=s.own) (h2:wr.map DD.x=s.wr)
  (h3:Own w' 23 32 (.slice ao n ac) n (own.flatMap JW)) (h4:Own w' 23 32 (.slice wo m wc) m (wr.flatMap JW)) (h5:Own w' 5 1 (.slice bo l bc) l (bv s.body)) (f1:∀k,BO (.slice ao n ac) k→w.heap.size≤k) (f2:∀k,BO (.slice wo m wc) k→w.heap.size≤k) (f3:∀k,BO (.slice bo l bc) k→w.heap.size≤k) (f4:∀k,BO (.slice ao n ac) k→¬BO (.slice wo m wc) k)
  (ht:Dg s.tag) (hb:By s.body) (g:w.grownBy w' none) {v:Value} (hv:v=Br s.addr (.slice ao n ac) s.joint (.slice wo m wc) (.slice bo l bc) s.tag):SRes w w' r (.returned (.tuple #[v,.int .i64 er])):=by
 subst hr hn hm hl hv
 exact⟨own,wr,ao,wo,bo,ac,wc,bc,rfl,h1,h2,h3,h4,h5,f1,f2,f3,f4,ht,hb,g⟩
theorem SRes.zero {w w':World} {r:Sd×Int} {er:Int} (hr:r=(Sd.zero,er)) (g:w.grownBy w' none):SRes w w' r (.returned (.tuple #[Br 0 (.slice none 0 0) 0 (.slice none 0 0) (.slice none 0 0) AS,.int .i64 er])):=
 SRes.mk (own:=[]) (wr:=[]) (ao:=none) (wo:=none) (bo:=none) (ac:=0) (wc:=0) (bc:=0) hr rfl rfl rfl rfl rfl (Own.nil _ _ _) (Own.nil _ _ _) (Own.nil _ _ _) (fun k hk=>by simp[BO,Value.ownBlock] at hk) (fun k hk=>by simp[BO,Value.ownBlock] at hk) (fun k hk=>by simp[BO,Value.ownBlock] at hk) (fun k hk=>by simp[BO,Value.ownBlock] at hk) AV (fun b hb=>by simp[Sd.zero] at hb) g rfl
theorem Mb {P:List VP} {own:List (List Nat)} {joint a:Int} {x:V} (h:hd own joint a=false∨CR P=false):E6 P own joint a x=(Sd.zero,1):=by
 unfold E6
 rcases h with h|h<;>simp[h]
theorem IC {P:List VP} {joint a:Int} {x:V} (h1:hd [] joint a=true) (h2:CR P=true):E6 P [] joint a x=(⟨a,[],joint,[],BV x,Yw a (BV x)⟩,0):=by
 unfold E6
 simp[h1,h2]
theorem ZE {P:List VP} {own:List (List Nat)} {joint a:Int} {x:V} {e:Int} (h1:hd own joint a=true) (h2:CR P=true) (h3:own≠[]) (h4:(Ca P a own).2=e) (h5:e≠0):E6 P own joint a x=(Sd.zero,e):=by
 unfold E6
 simp[h1,h2,h3,h4,h5]
theorem Gd {P:List VP} {own:List (List Nat)} {joint a:Int} {x:V} {K:List (List Nat)} {c:List Nat} (h1:hd own joint a=true) (h2:CR P=true) (h3:own≠[]) (h4:(Ca P a own).2=0) (h5:K=(Ca P a own).1) (h6:Sn (decide (joint=1)) K=c) :
  E6 P own joint a x=(⟨a,own,joint,if joint=1 then K.map (L8 c) else [],IB (BV x) c,So c a (IB (BV x) c)⟩,0):=by
 subst h5
 subst h6
 unfold E6
 simp[h1,h2,h3,h4]
theorem Lg {P:List VP} {a:Int}:∀{own:List (List Nat)},(∀j,j<own.length→(Cl P (KH own j) a).2=0)→(Ca P a own).1=own.map (fun z=>(Cl P z a).1)∧(Ca P a own).2=0
 | [],_=>⟨rfl,rfl⟩
 | o::l,h=>by
  have h0:(Cl P o a).2=0:=h 0 (by simp)
  obtain⟨h1,h2⟩:=Lg (own:=l) fun j hj=>h (j+1) (by simpa using hj)
  unfold Ca
  rw[if_pos h0]
  exact⟨by rw[h1];rfl,h2⟩
theorem Mc {P:List VP} {a:Int}:∀{own:List (List Nat)} {i:Nat},i<own.length→(∀j,j<i→(Cl P (KH own j) a).2=0)→(Cl P (KH own i) a).2≠0→(Ca P a own).2=(Cl P (KH own i) a).2
 | [],i,hi,_,_=>by simp at hi
 | o::l,0,_,_,h=>by
  have h0:(Cl P o a).2≠0:=h
  unfold Ca
  rw[if_neg h0]
  rfl
 | o::l,i+1,hi,hj,h=>by
  have h0:(Cl P o a).2=0:=hj 0 (by omega)
  have:=Mc (own:=l) (i:=i) (by simpa using hi) (fun j hjj=>hj (j+1) (by omega)) h
  unfold Ca
  rw[if_pos h0]
  exact this
theorem Qq {P:List VP} {a:Int} {own:List (List Nat)} {i:Nat} {kl:List DD} {y:List Nat} {kx:List Nat×Int} (h:kl.map DD.x=(own.take i).map fun z=>(Cl P z a).1) (hi:i<own.length) (hla:KH own i=y) (hkx:Cl P y a=kx) {hkd:Dg kx.1}:(kl++[(⟨kx.1,hkd⟩:DD)]).map DD.x=(own.take (i+1)).map fun z=>(Cl P z a).1:=by
 rw[List.take_add_one,List.getElem?_eq_getElem hi,List.map_append,List.map_append,h]
 rw[WG hi] at hla
 simp[hla,hkx]
theorem Ro (kl:List DD) (d:DD):kl.flatMap JW++bv d.x=(kl++[d]).flatMap JW:=by rw[List.flatMap_append];simp[JW]
theorem J0 {w:World} {B:Nat} {d:List Nat} {t:TypeId} {fr:Nat×Nat} (h:w.heap[B]?=some (.cells (bv d).toArray t fr)) (hd:Dg d):Sl w 32 (.slice (some ⟨B,0,none⟩) 1 1) 1 (bv d):=by
 refine⟨by rw[AI,hd.1],_,_,rfl,Nat.le_refl _,by decide,fun h=>(by cases h),fun ad had=>?_⟩
 obtain rfl:=Option.some.inj had
 refine⟨fun _=>rfl,fun j u hu=>?_⟩
 have:=Aj h j u hu
 simpa using this
theorem ZF {d:List Nat} (hd:Dg d) (W:World):(Instr.buildSlice 28 1 #[(0,AP d)]).run Tryz.prog W=.ok (.slice (some ⟨W.heap.size,0,none⟩) 1 1) (W.alloc (.cells (bv d).toArray 23)):=by
 obtain⟨x0,x1,x2,x3,x4,x5,x6,x7,x8,x9,x10,x11,x12,x13,x14,x15,x16,x17,x18,x19,x20,x21,x22,x23,x24,x25,x26,x27,x28,x29,x30,x31,rfl⟩:=GK _ hd.1
 kernel_rfl
theorem Kp {c y:List Nat} (hc:Dg c) (hy:Dg y):Dg (L8 c y):=AAy hc (BE 283 y)
def wrL (c:List Nat) (hc:Dg c) (kl:List DD) (j:Nat):List DD:=(kl.take j).map fun z=>⟨L8 c z.x,Kp hc z.h⟩
theorem AA9 {c:List Nat} (hc:Dg c) {kl:List DD} {j:Nat} {z:DD} (hj:j<kl.length) (hz:kl[j]=z):(wrL c hc kl j).flatMap JW++bv (L8 c z.x)=(wrL c hc kl (j+1)).flatMap JW:=by
 unfold wrL
 rw[List.take_add_one,List.getElem?_eq_getElem hj,hz,List.map_append,List.flatMap_append]
 simp[JW]
theorem ADK {c:List Nat} {hc:Dg c} {kl:List DD} {j:Nat} (hj:kl.length≤j):(wrL c hc kl j).map DD.x=kl.map fun z=>L8 c z.x:=by
 unfold wrL
 rw[List.take_of_length_le hj,List.map_map]
 rfl
theorem ADL {c:List Nat} {hc:Dg c} {kl:List DD} {j:Nat} (hj:j≤kl.length):(wrL c hc kl j).length=j:=by
 unfold wrL
 rw[List.length_map,List.length_take]
 omega
theorem ABA {w:World} {kl:List DD} {n:Nat} {ko:Option Addr} {kc:Nat} {joint:Int} {c:List Nat} (hn:kl.length=n) (hr:SlB w 32 (.slice ko n kc) n (kl.flatMap JW)) (hl:n≤1000) (hc:Sn (decide (joint=1)) (kl.map DD.x)=c):Calls Tryz.prog 55 #[.int .i64 joint,.slice ko n kc] w fun e w'=>e=.returned (AP c)∧w.grownBy w' none:=by
 subst hn hc
 exact ZA joint kl ko kc w hr hl
theorem RdK.noks2 {w:World} {v:Value} {ks:List VK} (h:RdK w v ks):∀i,i<(ks.map VK.p).length→∀n∈tr (ks.map VK.p) i,Zs n:=fun i hi n hn=>by
 have hi':i<ks.length:=by simpa using hi
 rw[Vj hi'] at hn
 exact(h.2 _ (List.getElem_mem hi')).2.1 n hn
theorem Od {P:List VP} {o:List Nat} {a:Int} (h:∀i,i<P.length→∀n∈tr P i,Zs n):Dg (Cl P o a).1:=by
 unfold Cl
 split
 · split
   · rename_i hf
     exact Jn (h _ (VZ hf).1) a
   · exact AV
 · exact AV
theorem ABB {w:World} {ks:List VK} {vo:Option Addr} {vc:Nat} {sa po o:List Nat} {P:List VP} {a:Int} {q:List Nat×Int} (hsa:Dg sa) (hpo:Dg po) (ho:Dg o) (hk:RdK w (.slice vo ks.length vc) ks) (hm:ks.map VK.p=P) (hres:Cl P o a=q) :
 Calls Tryz.prog 32 #[An sa po (.slice vo ks.length vc),AP o,.int .i64 a] w fun e w'=>e=.returned (.tuple #[AP q.1,.int .i64 q.2])∧w.grownBy w' none:=AF6 hsa hpo ho hk hm hres
theorem Nj {w:World} {ds:List DD} {own:List (List Nat)} {ao:Option Addr} {cap:Nat} {joint addr:Int} {b:Bool} (hr:RdD w (.slice ao ds.length cap) ds) (hown:ds.map DD.x=own) (hb:hd own joint addr=b):Calls Tryz.prog 50 #[.slice ao ds.length cap,.int .i64 joint,.int .i64 addr] w fun e w'=>e=.returned (.bool b)∧w.grownBy w' none:=Nh hr (hown▸hb)
theorem G0 (x:V):By (BV x):=fun b hb=>AB3 _ b hb
theorem ZG (kl:List DD) (c:List Nat):(kl.map fun z=>L8 c z.x)=(kl.map DD.x).map (L8 c):=by rw[List.map_map];rfl
theorem ZH (ks:List VK) (vo:Option Addr) (vc_:Nat) (sa po:List Nat) (hsa:Dg sa) (hpo:Dg po) (ds:List DD) (ao:Option Addr) (ac:Nat) (joint ad:Int) (x:V) (w:World) (hr:RdK w (.slice vo ks.length vc_) ks) (ho:RdD w (.slice ao ds.length ac) ds) (hdl:ds.length≤1000) :
   Calls Tryz.prog 20 #[An sa po (.slice vo ks.length vc_),.slice ao ds.length ac,.int .i64 joint,.int .i64 ad,Bi x] w fun e w'=>SRes w w' (E6 (ks.map VK.p) (ds.map DD.x) joint ad x) e:=by
 obtain⟨P,hP⟩:∃P,ks.map VK.p=P:=⟨_,rfl⟩
 obtain⟨own,hown⟩:∃own,ds.map DD.x=own:=⟨_,rfl⟩
 have hownl:own.length=ds.length:=by rw[←hown,List.length_map]
 have hnok:=hr.noks2
 rw[hP] at hnok
 rw[hP,hown]
 refine DP Tryz.func20 rfl Tryz.ntmps20 rfl fun a0 sv0=>?_
 have HG:=World.grownBy.refl w none
 replace sv0:Sv 104 [] [(0,An sa po (.slice vo ks.length vc_)),(1,.slice ao ds.length ac),(2,.int .i64 joint),(3,.int .i64 ad),(4,Bi x)] a0:=sv0
 refine AH4 fun K1 k1=>?_
 refine AH3 ?_
 refine BQ sv0 r6 (Bm hsa hpo (.slice vo ks.length vc_) rfl) fun a2 w2 Rp AGw g2 z2 A9 sv2=>?_
 refine BQ sv2 r6 (DY x) fun a3 w3 Rq AGx g3 z3 BG sv3=>?_
 replace A9:=AC g3 A9
 replace hr:=(hr.kn g2).kn g3
 replace ho:=(ho.kn g2).kn g3
 replace HG:=AA (AA HG g2) g3
 refine Ap (T:=31) (Z:=([[.int .i64 0],[.slice none 0 0],[.int .i64 0],[.slice none 0 0],[.slice none 0 0],bv AS].flatten)) sv3 rfl rfl rfl (fun a w=>by kernel_rfl) fun a4 w4 Gf Jb g4 z4 Ae sv4=>?_
 have Dq:=As A9 Jb
 have Dr:=As BG Jb
 have Gg:=Bp HG Jb
 have Ei:=Av (hr.lt) Jb
 have Ej:=Av (ho.lt) Jb
 replace A9:=AC g4 A9
 replace BG:=AC g4 BG
 replace hr:=hr.kn g4
 replace ho:=ho.kn g4
 replace HG:=AA HG g4
 refine Ap (T:=38) (Z:=[.int .i64 0]) sv4 rfl rfl rfl (fun a w=>by kernel_rfl) fun a5 w5 Gh IE g5 z5 Ai sv5=>?_
 have Ds:=As A9 IE
 have Dt:=As BG IE
 have BX:=As Ae IE
 have Gi:=Bp HG IE
 have Ek:=Av (hr.lt) IE
 have El:=Av (ho.lt) IE
 replace A9:=AC g5 A9
 replace BG:=AC g5 BG
 replace Ae:=AC g5 Ae
 replace hr:=hr.kn g5
 replace ho:=ho.kn g5
 replace HG:=AA HG g5
 refine AE ?_
 refine k1 _ _ ?_
 refine AH4 fun K6 k6=>?_
 refine AH3 ?_
 refine Fg sv5 rfl rfl rfl rfl rfl rfl fun a7 sv7=>?_
 refine D9 sv7 rfl (dd:={ target:=.fn (.func 49) #[pt Gf,pt Gh],args:=#[] }) rfl (by have e1:=sv7.ev (x:=.tmp 22) rfl rfl;simp[execOp,resolve,Deferred.ofValue,e1];try rfl) fun a8 sv8=>?_
 refine AE ?_
 refine k6 _ _ ?_
 refine AH4 fun K9 k9=>?_
 refine AH4 fun K10 k10=>?_
 rcases(show(hd own joint ad=false∧CR P=false)∨(hd own joint ad=false∧CR P=true)∨(hd own joint ad=true∧CR P=false)∨(hd own joint ad=true∧CR P=true) by cases hd own joint ad<;>cases CR P<;>simp) with ⟨hh,hv⟩|⟨hh,hv⟩|⟨hh,hv⟩|⟨hh,hv⟩
 · refine AH3 ?_
   refine AK sv8 10 [(23,.slice ao ds.length ac),(24,.int .i64 joint),(25,.int .i64 ad),(26,.bool false),(27,.bool true),(28,.bool true),(29,undef),(30,undef),(31,undef),(32,.bool true)]
     ⟨ym r5,ym r5,ym r5,Ah [.slice ao ds.length ac,.int .i64 joint,.int .i64 ad] Tryz.func50 (by kernel_rfl) rq4 ⟨(oy rfl rfl),(oy rfl rfl),(oy rfl rfl),AIA⟩ (Ao fun W g=>Nj (ho.kn g) hown hh),C3 r6 (fun _=>Bf),ym r5,AY r6,AY r6,AY r6,CA r7,AIA⟩ fun a11 w11 g11 CC=>?_
   refine AE ?_
   refine k10 _ _ ?_
   refine Aq CC rfl rfl ?_
   refine AH4 fun K12 k12=>?_
   refine AH3 ?_
   replace Ae:=AC g11 Ae
   refine AK CC 1 [(33,Br 0 (.slice none 0 0) 0 (.slice none 0 0) (.slice none 0 0) AS)]
     ⟨BM (vs:=[]) rfl rfl trivial trivial (fun _=>ADF _) (fun _=>rfl),AIA⟩ fun a13 w13 g13 Dx=>?_
   refine Am Dx r7 (Dn _ _ AV (.slice none 0 0) (.slice none 0 0) (.slice none 0 0) rfl rfl rfl) (AC g13 Ae) (EZ AV AV) fun w14 g14 h14=>?_
   replace Ai:=Ak g13 g14 (AC g11 Ai) BX
   refine Am Dx r7 (Ep 1) Ai rfl fun w15 g15 h15=>?_
   replace A9:=Aa g15 (Ak g13 g14 (AC g11 A9) (Ne.symm Dq)) (Ne.symm Ds)
   replace BG:=Aa g15 (Ak g13 g14 (AC g11 BG) (Ne.symm Dr)) (Ne.symm Dt)
   replace Ae:=Aa g15 h14 (Ne.symm BX)
   replace hr:=(((hr.kn g11).kn g13).offR g14 (AQ Ei)).offR g15 (AQ Ek)
   replace ho:=(((ho.kn g11).kn g13).offR g14 (AQ Ej)).offR g15 (AQ El)
   replace HG:=AD (AD (AA (AA HG g11) g13) g14 Gg) g15 Gi
   replace Ai:=h15
   refine AE ?_
   refine k12 _ _ ?_
   refine AH7 ?_
   repeat refine AM ?_
   refine BI (fn:=Tryz.f20) Dx (Bc (p:=10) (q:=11) Tryz.results20 Dx rfl rfl rfl rfl (Dn _ _ AV (.slice none 0 0) (.slice none 0 0) (.slice none 0 0) rfl rfl rfl) (Ep 1) Ae Ai) (Bh Tryz.func49 (by kernel_rfl) rfl _ _) (Dc _ _ _) ?_
   exact SRes.zero (Mb (.inl hh)) HG
 · refine AH3 ?_
   refine AK sv8 10 [(23,.slice ao ds.length ac),(24,.int .i64 joint),(25,.int .i64 ad),(26,.bool false),(27,.bool true),(28,.bool true),(29,undef),(30,undef),(31,undef),(32,.bool true)]
     ⟨ym r5,ym r5,ym r5,Ah [.slice ao ds.length ac,.int .i64 joint,.int .i64 ad] Tryz.func50 (by kernel_rfl) rq4 ⟨(oy rfl rfl),(oy rfl rfl),(oy rfl rfl),AIA⟩ (Ao fun W g=>Nj (ho.kn g) hown hh),C3 r6 (fun _=>Bf),ym r5,AY r6,AY r6,AY r6,CA r7,AIA⟩ fun a16 w16 g16 Ck=>?_
   refine AE ?_
   refine k10 _ _ ?_
   refine Aq Ck rfl rfl ?_
   refine AH4 fun K17 k17=>?_
   refine AH3 ?_
   replace Ae:=AC g16 Ae
   refine AK Ck 1 [(33,Br 0 (.slice none 0 0) 0 (.slice none 0 0) (.slice none 0 0) AS)]
     ⟨BM (vs:=[]) rfl rfl trivial trivial (fun _=>ADF _) (fun _=>rfl),AIA⟩ fun a18 w18 g18 CF=>?_
   refine Am CF r7 (Dn _ _ AV (.slice none 0 0) (.slice none 0 0) (.slice none 0 0) rfl rfl rfl) (AC g18 Ae) (EZ AV AV) fun w19 g19 h19=>?_
   replace Ai:=Ak g18 g19 (AC g16 Ai) BX
   refine Am CF r7 (Ep 1) Ai rfl fun w20 g20 h20=>?_
   replace A9:=Aa g20 (Ak g18 g19 (AC g16 A9) (Ne.symm Dq)) (Ne.symm Ds)
   replace BG:=Aa g20 (Ak g18 g19 (AC g16 BG) (Ne.symm Dr)) (Ne.symm Dt)
   replace Ae:=Aa g20 h19 (Ne.symm BX)
   replace hr:=(((hr.kn g16).kn g18).offR g19 (AQ Ei)).offR g20 (AQ Ek)
   replace ho:=(((ho.kn g16).kn g18).offR g19 (AQ Ej)).offR g20 (AQ El)
   replace HG:=AD (AD (AA (AA HG g16) g18) g19 Gg) g20 Gi
   replace Ai:=h20
   refine AE ?_
   refine k17 _ _ ?_
   refine AH7 ?_
   repeat refine AM ?_
   refine BI (fn:=Tryz.f20) CF (Bc (p:=10) (q:=11) Tryz.results20 CF rfl rfl rfl rfl (Dn _ _ AV (.slice none 0 0) (.slice none 0 0) (.slice none 0 0) rfl rfl rfl) (Ep 1) Ae Ai) (Bh Tryz.func49 (by kernel_rfl) rfl _ _) (Dc _ _ _) ?_
   exact SRes.zero (Mb (.inl hh)) HG
 · refine AH3 ?_
   refine AK sv8 10 [(23,.slice ao ds.length ac),(24,.int .i64 joint),(25,.int .i64 ad),(26,.bool true),(27,.bool false),(28,.bool false),(29,An sa po (.slice vo ks.length vc_)),(30,.bool false),(31,.bool true),(32,.bool true)]
     ⟨ym r5,ym r5,ym r5,Ah [.slice ao ds.length ac,.int .i64 joint,.int .i64 ad] Tryz.func50 (by kernel_rfl) rq4 ⟨(oy rfl rfl),(oy rfl rfl),(oy rfl rfl),AIA⟩ (Ao fun W g=>Nj (ho.kn g) hown hh),C3 r6 (fun _=>Bf),ym r5,Au rq9 (fun _ g=>Ad (Bm hsa hpo (.slice vo ks.length vc_) rfl) (Aj (AF g A9 (by simp)))),Bq [An sa po (.slice vo ks.length vc_)] Tryz.func51 (by kernel_rfl) r7 ⟨(oy rfl rfl),AIA⟩ (Ao fun W g=>LV hsa hpo (hr.kn g) hP hv),Hx rfl rfl (gy rfl rfl rfl) (oy rfl rfl) (fun _=>Bf) (fun _=>rfl),A1 rq9,AIA⟩ fun a21 w21 g21 DL=>?_
   refine AE ?_
   refine k10 _ _ ?_
   refine Aq DL rfl rfl ?_
   refine AH4 fun K22 k22=>?_
   refine AH3 ?_
   replace Ae:=AC g21 Ae
   refine AK DL 1 [(33,Br 0 (.slice none 0 0) 0 (.slice none 0 0) (.slice none 0 0) AS)]
     ⟨BM (vs:=[]) rfl rfl trivial trivial (fun _=>ADF _) (fun _=>rfl),AIA⟩ fun a23 w23 g23 CX=>?_
   refine Am CX r7 (Dn _ _ AV (.slice none 0 0) (.slice none 0 0) (.slice none 0 0) rfl rfl rfl) (AC g23 Ae) (EZ AV AV) fun w24 g24 h24=>?_
   replace Ai:=Ak g23 g24 (AC g21 Ai) BX
   refine Am CX r7 (Ep 1) Ai rfl fun w25 g25 h25=>?_
   replace A9:=Aa g25 (Ak g23 g24 (AC g21 A9) (Ne.symm Dq)) (Ne.symm Ds)
   replace BG:=Aa g25 (Ak g23 g24 (AC g21 BG) (Ne.symm Dr)) (Ne.symm Dt)
   replace Ae:=Aa g25 h24 (Ne.symm BX)
   replace hr:=(((hr.kn g21).kn g23).offR g24 (AQ Ei)).offR g25 (AQ Ek)
   replace ho:=(((ho.kn g21).kn g23).offR g24 (AQ Ej)).offR g25 (AQ El)
   replace HG:=AD (AD (AA (AA HG g21) g23) g24 Gg) g25 Gi
   replace Ai:=h25
   refine AE ?_
   refine k22 _ _ ?_
   refine AH7 ?_
   repeat refine AM ?_
   refine BI (fn:=Tryz.f20) CX (Bc (p:=10) (q:=11) Tryz.results20 CX rfl rfl rfl rfl (Dn _ _ AV (.slice none 0 0) (.slice none 0 0) (.slice none 0 0) rfl rfl rfl) (Ep 1) Ae Ai) (Bh Tryz.func49 (by kernel_rfl) rfl _ _) (Dc _ _ _) ?_
   exact SRes.zero (Mb (.inr hv)) HG
 · obtain⟨haa,hjj,hol,hasc⟩:=XY hh
   have hia:No ad:=⟨by omega,by omega⟩
   refine AH3 ?_
   refine AK sv8 10 [(23,.slice ao ds.length ac),(24,.int .i64 joint),(25,.int .i64 ad),(26,.bool true),(27,.bool false),(28,.bool false),(29,An sa po (.slice vo ks.length vc_)),(30,.bool true),(31,.bool false),(32,.bool false)]
     ⟨ym r5,ym r5,ym r5,Ah [.slice ao ds.length ac,.int .i64 joint,.int .i64 ad] Tryz.func50 (by kernel_rfl) rq4 ⟨(oy rfl rfl),(oy rfl rfl),(oy rfl rfl),AIA⟩ (Ao fun W g=>Nj (ho.kn g) hown hh),C3 r6 (fun _=>Bf),ym r5,Au rq9 (fun _ g=>Ad (Bm hsa hpo (.slice vo ks.length vc_) rfl) (Aj (AF g A9 (by simp)))),Bq [An sa po (.slice vo ks.length vc_)] Tryz.func51 (by kernel_rfl) r7 ⟨(oy rfl rfl),AIA⟩ (Ao fun W g=>LV hsa hpo (hr.kn g) hP hv),Hx rfl rfl (gy rfl rfl rfl) (oy rfl rfl) (fun _=>Bf) (fun _=>rfl),A1 rq9,AIA⟩ fun a26 w26 g26 CW=>?_
   refine AE ?_
   refine k10 _ _ ?_
   refine Ax CW rfl rfl ?_
   refine AH8 ?_
   refine k9 _ _ ?_
   refine AH4 fun K27 k27=>?_
   refine AH3 ?_
   refine AK CW 2 [(34,.int .i64 ad),(35,.slice ao ds.length ac)]
     ⟨ym r5,ym r5,AIA⟩ fun a28 w28 g28 JO=>?_
   have Ki:=AA g26 g28
   replace Ae:=AC Ki Ae
   replace Ai:=AC Ki Ai
   replace ho:=ho.kn Ki
   replace HG:=AA HG Ki
   refine BR JO Tryz.func52 (by kernel_rfl) r6 (AFF (by omega) ho) fun a29 v29 w29 hR29 CK=>?_
   obtain⟨ao29,cap29,rfl,g29,oc,fr29⟩:=hR29
   have HH:=CY fr29 Ae
   have HU:=CY fr29 Ai
   have lo_oc:=JL HG fr29
   refine AK CK 2 [(37,.int .i64 joint),(38,Br ad (.slice ao29 ds.length cap29) joint (.slice none 0 0) (.slice none 0 0) AS)]
     ⟨ym r5,BM (vs:=[.int .i64 ad,.slice ao29 ds.length cap29,.int .i64 joint]) rfl rfl trivial ⟨(oy rfl rfl),(oy rfl rfl),(oy rfl rfl),AIA⟩ (fun _=>AHE _ _ _ _ _ _) (fun _=>rfl),AIA⟩ fun a30 w30 g30 EB=>?_
   replace A9:=AC g30 (AC g29 (AC Ki A9))
   replace BG:=AC g30 (AC g29 (AC Ki BG))
   replace Ae:=AC g30 (AC g29 Ae)
   replace Ai:=AC g30 (AC g29 Ai)
   replace hr:=((hr.kn Ki).kn g29).kn g30
   replace ho:=(ho.kn g29).kn g30
   replace oc:=oc.kn g30
   replace HG:=AA (AA HG g29) g30
   refine Ap (T:=31) (Z:=([[.int .i64 0],[.slice none 0 0],[.int .i64 0],[.slice none 0 0],[.slice none 0 0],bv AS].flatten)) EB rfl rfl rfl (fun a w=>by kernel_rfl) fun a31 w31 Dd Em g31 z31 Ab Hj=>?_
   have DS:=As A9 Em
   have DT:=As BG Em
   have Bt:=As Ae Em
   have Bu:=As Ai Em
   have En:=Bp HG Em
   have EK:=Av (hr.lt) Em
   have EL:=Av (ho.lt) Em
   have DA:=Av (Own.ltS oc) Em
   refine Am Hj r7 (Dn _ _ AV (.slice ao29 ds.length cap29) (.slice none 0 0) (.slice none 0 0) rfl rfl rfl) Ab (EZ AV AV) fun w32 g32 h32=>?_
   replace BG:=Aa g32 (AC g31 BG) (Ne.symm DT)
   have I9:Sv _ _ [_,_,_,_,_,_,_,_,_,_,_,_,_,_,_,_,_,_,_,_,_] _:=Hj.dl [37,38,36,34,35]
   refine AE ?_
   refine k27 _ _ ?_
   refine AH4 fun K34 k34=>?_
   refine AH3 ?_
   refine AK I9 1 [(39,Bi x)]
     ⟨yl r6 (DY x) BG,AIA⟩ fun a35 w35 g35 MR=>?_
   replace Ae:=AC g35 (Aa g32 (AC g31 Ae) (Ne.symm Bt))
   replace Ai:=AC g35 (Aa g32 (AC g31 Ai) (Ne.symm Bu))
   replace Ab:=AC g35 h32
   replace HG:=AA (AD (AA HG g31) g32 En) g35
   refine BR MR Tryz.func53 (by kernel_rfl) r6 (Qo (WL x _)) fun a36 v36 w36 hR36 FE=>?_
   obtain⟨ao36,cap36,rfl,_⟩:=(Sl.of_own hR36.1).shape
   obtain⟨ow36,fr36⟩:=hR36
   replace fr36:=Dj fr36
   have op:=ow36
   clear ow36
   have g36:=fr36.1
   replace fr36:=fr36.2
   have Ha:=CY fr36 Ae
   have Hb:=CY fr36 Ai
   have De:=CY fr36 Ab
   have lo_op:=JL HG fr36
   replace A9:=AC g36 (AC g35 (Aa g32 (AC g31 A9) (Ne.symm DS)))
   replace BG:=AC g36 (AC g35 BG)
   replace Ae:=AC g36 Ae
   replace Ai:=AC g36 Ai
   replace Ab:=AC g36 Ab
   replace hr:=(((hr.kn g31).offR g32 (AQ EK)).kn g35).kn g36
   replace ho:=(((ho.kn g31).offR g32 (AQ EL)).kn g35).kn g36
   replace oc:=(((oc.kn g31).offR g32 (AQ DA)).kn g35).kn g36
   replace HG:=AA HG g36
   refine AZ (v:=.slice ao36 ((BV x)).length cap36) FE r6 fun a37 IW=>?_
   refine AE ?_
   refine k34 _ _ ?_
   refine AH4 fun K38 k38=>?_
   refine AH4 fun K39 k39=>?_
   rcases Nat.eq_zero_or_pos ds.length with hz|hz
   · obtain rfl:own=[]:=List.eq_nil_of_length_eq_zero (by omega)
     refine AH3 ?_
     refine AK IW 3 [(41,.slice ao ds.length ac),(42,.int .i64 ((ds.length:Nat))),(43,.bool true)]
       ⟨ym r5,Be (Tryz.underlying28) rfl rfl trivial (oy rfl rfl) (fun _=>rfl),Cm r6 (fun _=>B3 (NC (by omega))),AIA⟩ fun a40 w40 g40 Kk=>?_
     refine AE ?_
     refine k39 _ _ ?_
     refine Aq Kk rfl rfl ?_
     refine AH4 fun K41 k41=>?_
     refine AH3 ?_
     refine AK Kk 2 [(44,.slice ao36 ((BV x)).length cap36),(45,pk Dd 4)]
       ⟨ym r5,yf r6 (fun _=>by kernel_rfl),AIA⟩ fun a42 w42 g42 Hk=>?_
     have NG:=AA g40 g42
     refine KG (L:=[[.int .i64 ad],[.slice ao29 ds.length cap29],[.int .i64 joint],[.slice none 0 0],[.slice none 0 0],bv AS]) (i:=4) Hk r7 (Fx (.slice ao36 ((BV x)).length cap36) rfl) (AC NG Ab) rfl rfl rfl fun w43 g43 h43=>?_
     refine AE ?_
     refine k41 _ _ ?_
     refine AH4 fun K44 k44=>?_
     refine AH3 ?_
     refine AK Hk 2 [(46,.int .i64 ad),(47,.slice ao36 ((BV x)).length cap36)]
       ⟨ym r5,ym r5,AIA⟩ fun a45 w45 g45 EQ=>?_
     replace op:=((op.kn NG).offR g43 (AQ De)).kn g45
     refine BR EQ Tryz.func54 (by kernel_rfl) r6 (NH (Hl ad hia (BV x) (G0 x) (by have:=GI x;omega) _ _ _ (Own.sb op))) fun a46 v46 w46 hR46 IY=>?_
     obtain⟨rfl,g46⟩:=hR46
     replace Ab:=AC g46 (AC g45 h43)
     refine AK IY 1 [(49,pk Dd 5)]
       ⟨yf r6 (fun _=>by kernel_rfl),AIA⟩ fun a47 w47 g47 LS=>?_
     refine KG (L:=[[.int .i64 ad],[.slice ao29 ds.length cap29],[.int .i64 joint],[.slice none 0 0],[.slice ao36 ((BV x)).length cap36],bv AS]) (i:=5) LS r7 (Bj ((Yw ad (BV x))) (Fv ad (BV x)).1) (AC g47 Ab) rfl rfl (XH AV (Fv ad (BV x))) fun w48 g48 h48=>?_
     replace Ae:=Ak g47 g48 (AC g46 (AC g45 (Ak NG g43 Ae (Ne.symm Bt)))) (Ne.symm Bt)
     replace Ab:=h48
     have J8:Sv _ _ [_,_,_,_,_,_,_,_,_,_,_,_,_,_,_,_,_,_,_,_,_,_,_,_,_,_,_,_,_] _:=LS.dl [49,48,46,47]
     refine AE ?_
     refine k44 _ _ ?_
     refine AH4 fun K50 k50=>?_
     refine AH3 ?_
     refine AK J8 1 [(50,Br ad (.slice ao29 ds.length cap29) joint (.slice none 0 0) (.slice ao36 ((BV x)).length cap36) ((Yw ad (BV x))))]
       ⟨yl r6 (Dn _ _ (Fv ad (BV x)) (.slice ao29 ds.length cap29) (.slice none 0 0) (.slice ao36 ((BV x)).length cap36) rfl rfl rfl) Ab,AIA⟩ fun a51 w51 g51 ED=>?_
     refine Am ED r7 (Dn _ _ (Fv ad (BV x)) (.slice ao29 ds.length cap29) (.slice none 0 0) (.slice ao36 ((BV x)).length cap36) rfl rfl rfl) (AC g51 Ae) (EZ AV (Fv ad (BV x))) fun w52 g52 h52=>?_
     replace Ai:=Ak g51 g52 (Ak g47 g48 (AC g46 (AC g45 (Ak NG g43 Ai (Ne.symm Bu)))) (Ne.symm Bu)) BX
     refine Am ED r7 (Ep 0) Ai rfl fun w53 g53 h53=>?_
     replace A9:=Aa g53 (Ak g51 g52 (Ak g47 g48 (AC g46 (AC g45 (Ak NG g43 A9 (Ne.symm DS)))) (Ne.symm DS)) (Ne.symm Dq)) (Ne.symm Ds)
     replace BG:=Aa g53 (Ak g51 g52 (Ak g47 g48 (AC g46 (AC g45 (Ak NG g43 BG (Ne.symm DT)))) (Ne.symm DT)) (Ne.symm Dr)) (Ne.symm Dt)
     replace Ae:=Aa g53 h52 (Ne.symm BX)
     replace Ab:=Aa g53 (Ak g51 g52 Ab Bt) Bu
     replace hr:=((((((((hr.kn NG).offR g43 (AQ EK)).kn g45).kn g46).kn g47).offR g48 (AQ EK)).kn g51).offR g52 (AQ Ei)).offR g53 (AQ Ek)
     replace ho:=((((((((ho.kn NG).offR g43 (AQ EL)).kn g45).kn g46).kn g47).offR g48 (AQ EL)).kn g51).offR g52 (AQ Ej)).offR g53 (AQ El)
     replace oc:=((((((((oc.kn NG).offR g43 (AQ DA)).kn g45).kn g46).kn g47).offR g48 (AQ DA)).kn g51).offR g52 (AQ HH)).offR g53 (AQ HU)
     replace op:=(((((op.kn g46).kn g47).offR g48 (AQ De)).kn g51).offR g52 (AQ Ha)).offR g53 (AQ Hb)
     replace HG:=AD (AD (AA (AD (AA (AA (AA (AD (AA HG NG) g43 En) g45) g46) g47) g48 En) g51) g52 Gg) g53 Gi
     replace Ai:=h53
     refine AE ?_
     refine k50 _ _ ?_
     refine AH7 ?_
     repeat refine AM ?_
     refine BI (fn:=Tryz.f20) ED (Bc (p:=10) (q:=11) Tryz.results20 ED rfl rfl rfl rfl (Dn _ _ (Fv ad (BV x)) (.slice ao29 ds.length cap29) (.slice none 0 0) (.slice ao36 ((BV x)).length cap36) rfl rfl rfl) (Ep 0) Ae Ai) (Bh Tryz.func49 (by kernel_rfl) rfl _ _) (Dc _ _ _) ?_
     exact SRes.mk (own:=ds) (wr:=[]) (IC hh hv) rfl rfl rfl hown rfl oc (Own.nil _ _ _) op lo_oc (fun k hk=>by simp[BO,Value.ownBlock] at hk) lo_op (fun k _ hk=>by simp[BO,Value.ownBlock] at hk) (Fv _ _) (G0 x) HG rfl
   · have hne:own≠[]:=fun h=>by rw[h] at hownl;simp at hownl;omega
     refine AH3 ?_
     refine AK IW 3 [(41,.slice ao ds.length ac),(42,.int .i64 ((ds.length:Nat))),(43,.bool false)]
       ⟨ym r5,Be (Tryz.underlying28) rfl rfl trivial (oy rfl rfl) (fun _=>rfl),Cm r6 (fun _=>B3 (KV (by omega))),AIA⟩ fun a54 w54 g54 Pk=>?_
     refine AE ?_
     refine k39 _ _ ?_
     refine Ax Pk rfl rfl ?_
     refine AH8 ?_
     refine k38 _ _ ?_
     refine AH4 fun K55 k55=>?_
     refine AH3 ?_
     refine AZ (v:=.slice none 0 0) Pk r6 fun a56 Pl=>?_
     refine AE ?_
     refine k55 _ _ ?_
     refine AH4 fun K57 k57=>?_
     refine AH4 fun K58 k58=>?_
     refine AH3 ?_
     refine AK Pl 3 [(51,.slice ao ds.length ac),(52,.int .i64 ((ds.length:Nat))),(53,.int .i64 0)]
       ⟨ym r5,Be (Tryz.underlying28) rfl rfl trivial (oy rfl rfl) (fun _=>rfl),D8 (.inl rfl) rfl trivial (fun _=>rfl),AIA⟩ fun a59 w59 g59 D0=>?_
     have LU:=AA g54 g59
     refine AE ?_
     refine k58 _ _ ?_
     refine BB fun Q60 x60 y60 rt60 o60=>?_
     replace A9:=AC LU A9
     replace BG:=AC LU BG
     replace Ae:=AC LU Ae
     replace Ai:=AC LU Ai
     replace Ab:=AC LU Ab
     replace hr:=hr.kn LU
     replace ho:=ho.kn LU
     replace oc:=oc.kn LU
     replace op:=op.kn LU
     replace HG:=AA HG LU
     have okk:=Own.nil w59 23 32
     have Hc:=I6 Rp
     have Hd:=I6 Rq
     have Df:=I6 Gf
     have Dh:=I6 Gh
     have Cg:=I6 Dd
     have ap_hr_okk:=I7 (Kh (.slice vo ks.length vc_) ks)
     have ap_ho_okk:=I7 (BO (.slice ao ds.length ac))
     have ap_oc_okk:=I7 (BO (.slice ao29 ds.length cap29))
     have ap_okk_oc:=AAP (BO (.slice ao29 ds.length cap29))
     have ap_op_okk:=I7 (BO (.slice ao36 ((BV x)).length cap36))
     have ap_okk_op:=AAP (BO (.slice ao36 ((BV x)).length cap36))
     have lo_okk:=Yf w
     refine wp_loop (fun a w'=>∃(i:Nat) (ko:Option Addr) (kc:Nat) (kl:List DD),(i≤ds.length)∧(kl.map DD.x=(own.take i).map fun z=>(Cl P z ad).1)∧(∀j,j<i→(Cl P (KH own j) ad).2=0)∧Sv 104 [{ target:=.fn (.func 49) #[pt Gf,pt Gh],args:=#[] }] [(53,.int .i64 ((i:Int))),(14,.slice ko i kc),(51,.slice ao ds.length ac),(52,.int .i64 ((ds.length:Nat))),(41,.slice ao ds.length ac),(42,.int .i64 ((ds.length:Nat))),(43,.bool false),(13,.slice ao36 ((BV x)).length cap36),(40,.slice ao36 ((BV x)).length cap36),(39,Bi x),(12,pt Dd),(23,.slice ao ds.length ac),(24,.int .i64 joint),(25,.int .i64 ad),(26,.bool true),(27,.bool false),(28,.bool false),(29,An sa po (.slice vo ks.length vc_)),(30,.bool true),(31,.bool false),(32,.bool false),(22,.func (.func 49) #[] #[pt Gf,pt Gh]),(11,pt Gh),(10,pt Gf),(9,pt Rq),(5,pt Rp),(0,An sa po (.slice vo ks.length vc_)),(1,.slice ao ds.length ac),(2,.int .i64 joint),(3,.int .i64 ad),(4,Bi x)] a∧w.grownBy w' none∧w'.heap[Rp]?=some (.cells ([bv sa,bv po,[.slice vo ks.length vc_]].flatten).toArray 36 (0,0))∧w'.heap[Rq]?=some (.cells (vc x).toArray 25 (0,0))∧w'.heap[Gf]?=some (.cells (([[.int .i64 0],[.slice none 0 0],[.int .i64 0],[.slice none 0 0],[.slice none 0 0],bv AS].flatten)).toArray 31 (0,0))∧w'.heap[Gh]?=some (.cells ([.int .i64 0]).toArray 38 (0,0))∧w'.heap[Dd]?=some (.cells ([[.int .i64 ad],[.slice ao29 ds.length cap29],[.int .i64 joint],[.slice none 0 0],[.slice none 0 0],bv AS].flatten).toArray 31 (0,0))∧RdK w' (.slice vo ks.length vc_) ks∧RdD w' (.slice ao ds.length ac) ds∧Own w' 23 32 (.slice ao29 ds.length cap29) ds.length (ds.flatMap JW)∧Own w' 5 1 (.slice ao36 ((BV x)).length cap36) (((BV x)).length) (bv ((BV x)))∧Own w' 23 32 (.slice ko i kc) i (kl.flatMap JW)∧(∀k,BO (.slice ko i kc) k→k≠Rp)∧(∀k,BO (.slice ko i kc) k→k≠Rq)∧(∀k,BO (.slice ko i kc) k→k≠Gf)∧(∀k,BO (.slice ko i kc) k→k≠Gh)∧(∀k,BO (.slice ko i kc) k→k≠Dd)∧(∀k,Kh (.slice vo ks.length vc_) ks k→¬BO (.slice ko i kc) k)∧(∀k,BO (.slice ao ds.length ac) k→¬BO (.slice ko i kc) k)∧(∀k,BO (.slice ao29 ds.length cap29) k→¬BO (.slice ko i kc) k)∧(∀k,BO (.slice ko i kc) k→¬BO (.slice ao29 ds.length cap29) k)∧(∀k,BO (.slice ao36 ((BV x)).length cap36) k→¬BO (.slice ko i kc) k)∧(∀k,BO (.slice ko i kc) k→¬BO (.slice ao36 ((BV x)).length cap36) k)∧(∀k,BO (.slice ko i kc) k→w.heap.size≤k)) (fun a _=>(ds.length-intOf (a.tmps.getD 53 undef)).toNat) ⟨0,none,0,[],Nat.zero_le _,rfl,fun j hj=>by omega,⟨D0.1,D0.2.1,D0.2.2.2.2.1,D0.2.2.2.2.2.1,D0.2.2.1,D0.2.2.2.1,D0.2.2.2.2.2.2.1,D0.2.2.2.2.2.2.2.1,(AJ D0).1,(AJ D0).2.1,(AJ D0).2.2.1,(AJ D0).2.2.2.1,(AJ D0).2.2.2.2.1,(AJ D0).2.2.2.2.2.1,(AJ D0).2.2.2.2.2.2.1,(AJ D0).2.2.2.2.2.2.2.1,(AJ (AJ D0)).1,(AJ (AJ D0)).2.1,(AJ (AJ D0)).2.2.1,(AJ (AJ D0)).2.2.2.1,(AJ (AJ D0)).2.2.2.2.1,(AJ (AJ D0)).2.2.2.2.2.1,(AJ (AJ D0)).2.2.2.2.2.2.1,(AJ (AJ D0)).2.2.2.2.2.2.2.1,(AJ (AJ (AJ D0))).1,(AJ (AJ (AJ D0))).2.1,(AJ (AJ (AJ D0))).2.2.1,(AJ (AJ (AJ D0))).2.2.2.1,(AJ (AJ (AJ D0))).2.2.2.2.1,(AJ (AJ (AJ D0))).2.2.2.2.2.1,(AJ (AJ (AJ D0))).2.2.2.2.2.2.1,(AJ (AJ (AJ D0))).2.2.2.2.2.2.2.1,(AJ (AJ (AJ (AJ D0)))).1,AIA⟩,HG,A9,BG,Ae,Ai,Ab,hr,ho,oc,op,okk,Hc,Hd,Df,Dh,Cg,ap_hr_okk,ap_ho_okk,ap_oc_okk,ap_okk_oc,ap_op_okk,ap_okk_op,lo_okk⟩ fun a61 w61 hI61=>?_
     clear A9
     clear BG
     clear Ae
     clear Ai
     clear Ab
     clear hr
     clear ho
     clear oc
     clear op
     clear okk
     clear HG
     obtain⟨i,ko,kc,kl,hin,hkl,hok,OO,HG,A9,BG,Ae,Ai,Ab,hr,ho,oc,op,okk,Hc,Hd,Df,Dh,Cg,ap_hr_okk,ap_ho_okk,ap_oc_okk,ap_okk_oc,ap_op_okk,ap_okk_op,lo_okk⟩:=hI61
     refine AH4 fun K62 k62=>?_
     by_cases hi:i<ds.length
     · obtain⟨y,hx_y⟩:∃zx,ds[i]'hi=zx:=⟨_,rfl⟩
       have hla:KH own i=y.x:=by rw[←hown,Jy hi,hx_y]
       obtain⟨kx,hkx⟩:∃q,Cl P y.x ad=q:=⟨_,rfl⟩
       have hkd:Dg kx.1:=hkx▸Od hnok
       refine AH3 ?_
       refine AK OO 1 [(54,.bool true)]
         ⟨Gs r7 (fun _=>Bb (by simp;omega)),AIA⟩ fun a63 w63 g63 ZI=>?_
       refine AE ?_
       refine k62 _ _ ?_
       refine AH4 fun K64 k64=>?_
       refine Aq ZI rfl rfl ?_
       refine AH8 ?_
       refine k64 _ _ ?_
       refine AH4 fun K65 k65=>?_
       refine BB fun Q66 x66 y66 rt66 o66=>?_
       refine AH4 fun K67 k67=>?_
       refine AH3 ?_
       replace ho:=ho.kn g63
       refine AK ZI 2 [(55,pk ((bO ao)) (oO ao+i*32)),(56,AP y.x)]
         ⟨BA rq8 (fun w=>CD Tryz.underlying28 (by kernel_rfl) (ho.1) (by omega) (rfl) w),Bn r6 (fun _ g=>Ad (Bj y.x y.h.1) (by have:=Cw (ho.kn g).1 FX hi (by decide);rw[hx_y] at this;exact this)),AIA⟩ fun a68 w68 g68 Lh=>?_
       replace A9:=AC g68 (AC g63 A9)
       replace BG:=AC g68 (AC g63 BG)
       replace Ae:=AC g68 (AC g63 Ae)
       replace Ai:=AC g68 (AC g63 Ai)
       replace Ab:=AC g68 (AC g63 Ab)
       replace hr:=(hr.kn g63).kn g68
       replace ho:=ho.kn g68
       replace oc:=(oc.kn g63).kn g68
       replace op:=(op.kn g63).kn g68
       replace okk:=(okk.kn g63).kn g68
       replace HG:=AA (AA HG g63) g68
       refine Ap (T:=23) (Z:=(bv AS)) Lh rfl rfl rfl (fun a w=>by kernel_rfl) fun a69 w69 AHG DU g69 z69 Rr AGO=>?_
       have Oe:=As A9 DU
       have Of:=As BG DU
       have NI:=As Ae DU
       have NJ:=As Ai DU
       have Md:=As Ab DU
       have ZJ:=Bp HG DU
       have Rs:=Av (hr.lt) DU
       have Rt:=Av (ho.lt) DU
       have Ru:=Av (Own.ltS oc) DU
       have Rv:=Av (Own.ltS op) DU
       have Po:=Av (Own.ltS okk) DU
       refine Am AGO r7 (Bj y.x y.h.1) Rr (Fu y.h) fun w70 g70 h70=>?_
       replace A9:=Aa g70 (AC g69 A9) (Ne.symm Oe)
       replace hr:=(hr.kn g69).offR g70 (AQ Rs)
       replace Rr:=h70
       refine AE ?_
       refine k67 _ _ ?_
       refine AH4 fun K71 k71=>?_
       refine AH3 ?_
       refine AK AGO 7 [(58,An sa po (.slice vo ks.length vc_)),(59,AP y.x),(60,.int .i64 ad),(61,.tuple #[AP kx.1,.int .i64 kx.2]),(57,.tuple #[AP kx.1,.int .i64 kx.2]),(62,AP kx.1),(63,.int .i64 kx.2)]
         ⟨yl r6 (Bm hsa hpo (.slice vo ks.length vc_) rfl) A9,yl r6 (Bj y.x y.h.1) Rr,ym r5,Ah [An sa po (.slice vo ks.length vc_),AP y.x,.int .i64 ad] Tryz.func32 (by kernel_rfl) rq4 ⟨(oy rfl rfl),(oy rfl rfl),(oy rfl rfl),AIA⟩ (Ao fun W g=>ABB hsa hpo y.h (hr.kn g) hP hkx),ym r5,BL rq4 (fun _ _ h=>⟨_,_,h,rfl,rfl⟩),BL rq4 (fun _ _ h=>⟨_,_,h,rfl,rfl⟩),AIA⟩ fun a72 w72 g72 ADM=>?_
       replace A9:=AC g72 A9
       replace BG:=AC g72 (Aa g70 (AC g69 BG) (Ne.symm Of))
       replace Ae:=AC g72 (Aa g70 (AC g69 Ae) (Ne.symm NI))
       replace Ai:=AC g72 (Aa g70 (AC g69 Ai) (Ne.symm NJ))
       replace Ab:=AC g72 (Aa g70 (AC g69 Ab) (Ne.symm Md))
       replace hr:=hr.kn g72
       replace ho:=((ho.kn g69).offR g70 (AQ Rt)).kn g72
       replace oc:=((oc.kn g69).offR g70 (AQ Ru)).kn g72
       replace op:=((op.kn g69).offR g70 (AQ Rv)).kn g72
       replace okk:=((okk.kn g69).offR g70 (AQ Po)).kn g72
       replace HG:=AA (AD (AA HG g69) g70 ZJ) g72
       refine Ap (T:=23) (Z:=(bv AS)) ADM rfl rfl rfl (fun a w=>by kernel_rfl) fun a73 w73 AHH DV g73 z73 Rx ABC=>?_
       have Og:=As A9 DV
       have Oh:=As BG DV
       have NK:=As Ae DV
       have NM:=As Ai DV
       have Me:=As Ab DV
       have ZK:=Bp HG DV
       have Ry:=Av (hr.lt) DV
       have Rz:=Av (ho.lt) DV
       have R3:=Av (Own.ltS oc) DV
       have R4:=Av (Own.ltS op) DV
       have Pp:=Av (Own.ltS okk) DV
       refine Am ABC r7 (Bj kx.1 hkd.1) Rx (Fu hkd) fun w74 g74 h74=>?_
       replace A9:=Aa g74 (AC g73 A9) (Ne.symm Og)
       replace BG:=Aa g74 (AC g73 BG) (Ne.symm Oh)
       replace Ae:=Aa g74 (AC g73 Ae) (Ne.symm NK)
       replace Ai:=Aa g74 (AC g73 Ai) (Ne.symm NM)
       replace Ab:=Aa g74 (AC g73 Ab) (Ne.symm Me)
       replace hr:=(hr.kn g73).offR g74 (AQ Ry)
       replace ho:=(ho.kn g73).offR g74 (AQ Rz)
       replace oc:=(oc.kn g73).offR g74 (AQ R3)
       replace op:=(op.kn g73).offR g74 (AQ R4)
       replace okk:=(okk.kn g73).offR g74 (AQ Pp)
       replace HG:=AD (AA HG g73) g74 ZK
       replace Rx:=h74
       refine AZ (v:=.int .i64 kx.2) ABC r6 fun a75 AFG=>?_
       have ADN:Sv _ _ [_,_,_,_,_,_,_,_,_,_,_,_,_,_,_,_,_,_,_,_,_,_,_,_,_,_,_,_,_,_,_,_,_,_,_,_,_] _:=AFG.dl [58,59,60,61,57,62,63]
       refine AE ?_
       refine k71 _ _ ?_
       refine AH4 fun K77 k77=>?_
       refine AH4 fun K78 k78=>?_
       by_cases he:kx.2=0
       · have hkl1:=Qq hkl (by omega) hla hkx (hkd:=hkd)
         have hok1:∀j,j<i+1→(Cl P (KH own j) ad).2=0:=fun j hj=>if e:j=i then (by rw[e,hla,hkx];exact he) else hok j (by omega)
         refine AH3 ?_
         refine AK ADN 2 [(64,.int .i64 kx.2),(65,.bool false)]
           ⟨ym r5,Cm r6 (fun _=>Ez (by simpa using he)),AIA⟩ fun a79 w79 g79 Pq=>?_
         refine AE ?_
         refine k78 _ _ ?_
         refine Ax Pq rfl rfl ?_
         refine AH8 ?_
         refine k77 _ _ ?_
         refine AH3 ?_
         refine AK Pq 2 [(68,.slice ko i kc),(69,AP kx.1)]
           ⟨ym r5,yl r6 (Bj kx.1 hkd.1) (AC g79 Rx),AIA⟩ fun a80 w80 g80 AHI=>?_
         have Oi:=AA g79 g80
         refine Lb (cs:=bv kx.1) (e:=23) AHI rfl rfl rfl rfl rfl rfl (ZF hkd) fun a81 w81 AHJ AFc g81 z81 ADO AHK=>?_
         replace A9:=AC g81 (AC Oi A9)
         replace BG:=AC g81 (AC Oi BG)
         replace Ae:=AC g81 (AC Oi Ae)
         replace Ai:=AC g81 (AC Oi Ai)
         replace Ab:=AC g81 (AC Oi Ab)
         replace hr:=(hr.kn Oi).kn g81
         replace ho:=(ho.kn Oi).kn g81
         replace oc:=(oc.kn Oi).kn g81
         replace op:=(op.kn Oi).kn g81
         replace okk:=(okk.kn Oi).kn g81
         replace HG:=AA (AA HG Oi) g81
         refine Kg dsT AHK rfl rfl rfl rfl rfl rfl rfl rfl okk (J0 ADO hkd) (Fb _) (by omega) fun a82 ao82 cap82 w82 owx82 CM ZL=>?_
         have Pr:=I4 CM.2 Hc A9
         have Ps:=I4 CM.2 Hd BG
         have Oj:=I4 CM.2 Df Ae
         have Ok:=I4 CM.2 Dh Ai
         have NN:=I4 CM.2 Cg Ab
         have UJ:=I5 CM.2 ap_hr_okk (hr.lt)
         have UK:=I5 CM.2 ap_ho_okk (ho.lt)
         have Mz:=I5 CM.2 ap_oc_okk (Own.ltS oc)
         have M0:=I5 CM.2 ap_op_okk (Own.ltS op)
         have ap_owx82_oc:=AAO Mz
         have ap_owx82_op:=AAO M0
         have ABD:=Vh CM.2 lo_okk HG
         replace A9:=AF CM.1 A9 (fun e=>Hc _ e.symm rfl)
         replace BG:=AF CM.1 BG (fun e=>Hd _ e.symm rfl)
         replace Ae:=AF CM.1 Ae (fun e=>Df _ e.symm rfl)
         replace Ai:=AF CM.1 Ai (fun e=>Dh _ e.symm rfl)
         replace Ab:=AF CM.1 Ab (fun e=>Cg _ e.symm rfl)
         replace hr:=hr.offR CM.1 (fun k hk e=>ap_hr_okk k hk (e))
         replace ho:=ho.offR CM.1 (fun k hk e=>ap_ho_okk k hk (e))
         replace oc:=oc.offR CM.1 (fun k hk e=>ap_oc_okk k hk (e))
         replace op:=op.offR CM.1 (fun k hk e=>ap_op_okk k hk (e))
         replace HG:=CN HG CM.1 fun k e=>lo_okk k (e)
         rw[Ro kl ⟨kx.1,hkd⟩] at owx82
         refine AZ (v:=.slice ao82 (i+1) cap82) ZL r6 fun a83 ADP=>?_
         have ZM:Sv _ _ [_,_,_,_,_,_,_,_,_,_,_,_,_,_,_,_,_,_,_,_,_,_,_,_,_,_,_,_,_,_,_,_,_,_,_,_,_,_,_] _:=ADP.dl [71,70,68,69]
         refine AE ?_
         refine y66 _ _ ?_
         refine k65 _ _ ?_
         refine AH3 ?_
         refine AK ZM 1 [(72,.int .i64 (((i+1:Nat):Int)))]
           ⟨Cm r6 (fun _=>DH (by rw[A7 (by omega) (by omega)];omega)),AIA⟩ fun a85 w85 g85 AFH=>?_
         refine AK (AFH.dl [53]) 1 [(53,.int .i64 (((i+1:Nat):Int)))]
           ⟨ym r5,AIA⟩ fun a86 w86 g86 Dy=>?_
         have Ol:=AA g85 g86
         refine AE ?_
         replace A9:=AC Ol A9
         replace BG:=AC Ol BG
         replace Ae:=AC Ol Ae
         replace Ai:=AC Ol Ai
         replace Ab:=AC Ol Ab
         replace hr:=hr.kn Ol
         replace ho:=ho.kn Ol
         replace oc:=oc.kn Ol
         replace op:=op.kn Ol
         replace owx82:=owx82.kn Ol
         replace HG:=AA HG Ol
         exact⟨⟨i+1,ao82,cap82,(kl++[⟨kx.1,hkd⟩]),by omega,hkl1,hok1,⟨Dy.1,Dy.2.1,Dy.2.2.1,Dy.2.2.2.2.1,(AJ Dy).2.2.2.2.2.1,(AJ Dy).2.2.2.2.2.2.1,(AJ Dy).2.2.2.2.2.2.2.1,(AJ (AJ Dy)).1,(AJ (AJ Dy)).2.1,(AJ (AJ Dy)).2.2.1,(AJ (AJ Dy)).2.2.2.1,(AJ (AJ Dy)).2.2.2.2.1,(AJ (AJ Dy)).2.2.2.2.2.1,(AJ (AJ Dy)).2.2.2.2.2.2.1,(AJ (AJ Dy)).2.2.2.2.2.2.2.1,(AJ (AJ (AJ Dy))).1,(AJ (AJ (AJ Dy))).2.1,(AJ (AJ (AJ Dy))).2.2.1,(AJ (AJ (AJ Dy))).2.2.2.1,(AJ (AJ (AJ Dy))).2.2.2.2.1,(AJ (AJ (AJ Dy))).2.2.2.2.2.1,(AJ (AJ (AJ Dy))).2.2.2.2.2.2.1,(AJ (AJ (AJ Dy))).2.2.2.2.2.2.2.1,(AJ (AJ (AJ (AJ Dy)))).1,(AJ (AJ (AJ (AJ Dy)))).2.1,(AJ (AJ (AJ (AJ Dy)))).2.2.1,(AJ (AJ (AJ (AJ Dy)))).2.2.2.1,(AJ (AJ (AJ (AJ Dy)))).2.2.2.2.1,(AJ (AJ (AJ (AJ Dy)))).2.2.2.2.2.1,(AJ (AJ (AJ (AJ Dy)))).2.2.2.2.2.2.1,(AJ (AJ (AJ (AJ Dy)))).2.2.2.2.2.2.2.1,(AJ (AJ (AJ (AJ (AJ Dy))))).1,(AJ (AJ (AJ (AJ (AJ Dy))))).2.1,AIA⟩,HG,A9,BG,Ae,Ai,Ab,hr,ho,oc,op,owx82,Pr,Ps,Oj,Ok,NN,UJ,UK,Mz,ap_owx82_oc,M0,ap_owx82_op,ABD⟩,by rw[show _=_ from Dy.2.2.1,show _=_ from OO.2.2.1];simp[intOf];omega⟩
       · have hke:=Mc (P:=P) (a:=ad) (own:=own) (i:=i) (by omega) hok (by rw[hla,hkx];exact he)
         rw[hla,hkx] at hke
         refine AH3 ?_
         refine AK ADN 2 [(64,.int .i64 kx.2),(65,.bool true)]
           ⟨ym r5,Cm r6 (fun _=>Ez (by simpa using he)),AIA⟩ fun a87 w87 g87 AGP=>?_
         refine AE ?_
         refine k78 _ _ ?_
         refine Aq AGP rfl rfl ?_
         refine AH4 fun K88 k88=>?_
         refine AH3 ?_
         replace Ae:=AC g87 Ae
         refine AK AGP 2 [(66,Br 0 (.slice none 0 0) 0 (.slice none 0 0) (.slice none 0 0) AS),(67,.int .i64 kx.2)]
           ⟨BM (vs:=[]) rfl rfl trivial trivial (fun _=>ADF _) (fun _=>rfl),ym r5,AIA⟩ fun a89 w89 g89 ADQ=>?_
         refine Am ADQ r7 (Dn _ _ AV (.slice none 0 0) (.slice none 0 0) (.slice none 0 0) rfl rfl rfl) (AC g89 Ae) (EZ AV AV) fun w90 g90 h90=>?_
         replace Ai:=Ak g89 g90 (AC g87 Ai) BX
         refine Am ADQ r7 (Ep kx.2) Ai rfl fun w91 g91 h91=>?_
         replace A9:=Aa g91 (Ak g89 g90 (AC g87 A9) (Ne.symm Dq)) (Ne.symm Ds)
         replace BG:=Aa g91 (Ak g89 g90 (AC g87 BG) (Ne.symm Dr)) (Ne.symm Dt)
         replace Ae:=Aa g91 h90 (Ne.symm BX)
         replace Ab:=Aa g91 (Ak g89 g90 (AC g87 Ab) Bt) Bu
         replace hr:=(((hr.kn g87).kn g89).offR g90 (AQ Ei)).offR g91 (AQ Ek)
         replace ho:=(((ho.kn g87).kn g89).offR g90 (AQ Ej)).offR g91 (AQ El)
         replace oc:=(((oc.kn g87).kn g89).offR g90 (AQ HH)).offR g91 (AQ HU)
         replace op:=(((op.kn g87).kn g89).offR g90 (AQ Ha)).offR g91 (AQ Hb)
         replace okk:=(((okk.kn g87).kn g89).offR g90 (AQ Df)).offR g91 (AQ Dh)
         replace HG:=AD (AD (AA (AA HG g87) g89) g90 Gg) g91 Gi
         replace Ai:=h91
         refine AE ?_
         refine k88 _ _ ?_
         refine AH7 ?_
         repeat refine AM ?_
         refine rt66 _ _ ?_
         repeat refine AM ?_
         refine rt60 _ _ ?_
         repeat refine AM ?_
         refine BI (fn:=Tryz.f20) ADQ (Bc (p:=10) (q:=11) Tryz.results20 ADQ rfl rfl rfl rfl (Dn _ _ AV (.slice none 0 0) (.slice none 0 0) (.slice none 0 0) rfl rfl rfl) (Ep kx.2) Ae Ai) (Bh Tryz.func49 (by kernel_rfl) rfl _ _) (Dc _ _ _) ?_
         exact SRes.zero (ZE hh hv hne hke he) HG
     · obtain⟨hK1,hK2⟩:=Lg (P:=P) (a:=ad) (own:=own) fun j hj=>hok j (by omega)
       have hkm:kl.map DD.x=(Ca P ad own).1:=by rw[hK1,hkl,List.take_of_length_le (by omega)]
       refine AH3 ?_
       refine AK OO 1 [(54,.bool false)]
         ⟨Gs r7 (fun _=>Bb (by simp;omega)),AIA⟩ fun a92 w92 g92 ABE=>?_
       refine AE ?_
       refine k62 _ _ ?_
       refine AH4 fun K93 k93=>?_
       refine Ax ABE rfl rfl ?_
       refine wp_exit ?_
       repeat refine CH ?_
       refine x60 _ _ ?_
       refine k57 _ _ ?_
       refine AH4 fun K94 k94=>?_
       have hkll:kl.length=i:=by have:=congrArg List.length hkl;simpa using this.trans (by rw[List.length_map,List.length_take];omega)
       obtain⟨ck,hcke⟩:∃c,Sn (decide (joint=1)) (kl.map DD.x)=c:=⟨_,rfl⟩
       have hck:Dg ck:=hcke▸MZ _ _
       refine AH3 ?_
       refine AK ABE 2 [(73,.int .i64 joint),(74,.slice ko i kc)]
         ⟨ym r5,ym r5,AIA⟩ fun a95 w95 g95 AHL=>?_
       replace okk:=(okk.kn g92).kn g95
       refine BR AHL Tryz.func55 (by kernel_rfl) r6 (NH (ABA hkll (Own.sb okk) (by omega) hcke)) fun a96 v96 w96 hR96 ADR=>?_
       obtain⟨rfl,g96⟩:=hR96
       replace A9:=AC g96 (AC g95 (AC g92 A9))
       replace BG:=AC g96 (AC g95 (AC g92 BG))
       replace Ae:=AC g96 (AC g95 (AC g92 Ae))
       replace Ai:=AC g96 (AC g95 (AC g92 Ai))
       replace Ab:=AC g96 (AC g95 (AC g92 Ab))
       replace hr:=((hr.kn g92).kn g95).kn g96
       replace ho:=((ho.kn g92).kn g95).kn g96
       replace oc:=((oc.kn g92).kn g95).kn g96
       replace op:=((op.kn g92).kn g95).kn g96
       replace okk:=okk.kn g96
       replace HG:=AA (AA (AA HG g92) g95) g96
       refine Ap (T:=23) (Z:=(bv AS)) ADR rfl rfl rfl (fun a w=>by kernel_rfl) fun a97 w97 Om DW g97 z97 Bl ABF=>?_
       have On:=As A9 DW
       have Oo:=As BG DW
       have I0:=As Ae DW
       have I1:=As Ai DW
       have DX:=As Ab DW
       have ZN:=Bp HG DW
       have R5:=Av (hr.lt) DW
       have R7:=Av (ho.lt) DW
       have R9:=Av (Own.ltS oc) DW
       have SA:=Av (Own.ltS op) DW
       have Pt:=Av (Own.ltS okk) DW
       refine Am ABF r7 (Bj ck hck.1) Bl (Fu hck) fun w98 g98 h98=>?_
       replace A9:=Aa g98 (AC g97 A9) (Ne.symm On)
       replace BG:=Aa g98 (AC g97 BG) (Ne.symm Oo)
       replace Ae:=Aa g98 (AC g97 Ae) (Ne.symm I0)
       replace Ai:=Aa g98 (AC g97 Ai) (Ne.symm I1)
       replace Ab:=Aa g98 (AC g97 Ab) (Ne.symm DX)
       replace hr:=(hr.kn g97).offR g98 (AQ R5)
       replace ho:=(ho.kn g97).offR g98 (AQ R7)
       replace oc:=(oc.kn g97).offR g98 (AQ R9)
       replace op:=(op.kn g97).offR g98 (AQ SA)
       replace okk:=(okk.kn g97).offR g98 (AQ Pt)
       replace HG:=AD (AA HG g97) g98 ZN
       replace Bl:=h98
       refine AE ?_
       refine k94 _ _ ?_
       refine AH4 fun K99 k99=>?_
       refine AH4 fun K100 k100=>?_
       rcases hjj with rfl|rfl
       · refine AH3 ?_
         refine AK ABF 2 [(76,.int .i64 0),(77,.bool false)]
           ⟨ym r5,Cm r6 (fun _=>B3 rfl),AIA⟩ fun a101 w101 g101 XZ=>?_
         refine AE ?_
         refine k100 _ _ ?_
         refine Ax XZ rfl rfl ?_
         refine AH8 ?_
         refine k99 _ _ ?_
         refine AH4 fun K102 k102=>?_
         refine AH3 ?_
         refine AK XZ 2 [(93,.slice ao36 ((BV x)).length cap36),(94,AP ck)]
           ⟨ym r5,yl r6 (Bj ck hck.1) (AC g101 Bl),AIA⟩ fun a103 w103 g103 Xa=>?_
         have I2:=AA g101 g103
         replace Ae:=AC I2 Ae
         replace Ai:=AC I2 Ai
         replace Ab:=AC I2 Ab
         replace op:=op.kn I2
         replace HG:=AA HG I2
         refine BR Xa Tryz.func57 (by kernel_rfl) r6 (Qo (Iq (BV x) (G0 x) (by have:=GI x;omega) _ _ ck hck _ (Own.sb op))) fun a104 v104 w104 hR104 ABG=>?_
         obtain⟨ao104,cap104,rfl,_⟩:=(Sl.of_own hR104.1).shape
         obtain⟨ow104,fr104⟩:=hR104
         replace fr104:=Dj fr104
         have oy_:=ow104
         clear ow104
         have g104:=fr104.1
         replace fr104:=fr104.2
         have Ir:=CY fr104 Ae
         have Is:=CY fr104 Ai
         have EW:=CY fr104 Ab
         have lo_oy_:=JL HG fr104
         replace Ab:=AC g104 Ab
         refine AK ABG 1 [(96,pk Dd 4)]
           ⟨yf r6 (fun _=>by kernel_rfl),AIA⟩ fun a105 w105 g105 Xb=>?_
         refine KG (L:=[[.int .i64 ad],[.slice ao29 ds.length cap29],[.int .i64 0],[.slice none 0 0],[.slice none 0 0],bv AS]) (i:=4) Xb r7 (Fx (.slice ao104 ((IB (BV x) ck)).length cap104) rfl) (AC g105 Ab) rfl rfl rfl fun w106 g106 h106=>?_
         replace Bl:=Ak g105 g106 (AC g104 (AC I2 Bl)) DX
         replace Ab:=h106
         have ABH:Sv _ _ [_,_,_,_,_,_,_,_,_,_,_,_,_,_,_,_,_,_,_,_,_,_,_,_,_,_,_,_,_,_,_,_,_,_,_,_,_,_] _:=Xb.dl [96,95,93,94]
         refine AE ?_
         refine k102 _ _ ?_
         refine AH4 fun K108 k108=>?_
         refine AH3 ?_
         refine AK ABH 4 [(97,AP ck),(98,.int .i64 ad),(99,pk Dd 4),(100,.slice ao104 ((IB (BV x) ck)).length cap104)]
           ⟨yl r6 (Bj ck hck.1) Bl,ym r5,yf r6 (fun _=>by kernel_rfl),yp (i:=4) r6 (Fx (.slice ao104 ((IB (BV x) ck)).length cap104) rfl) Ab rfl rfl,AIA⟩ fun a109 w109 g109 ABI=>?_
         replace oy_:=((oy_.kn g105).offR g106 (AQ EW)).kn g109
         refine BR ABI Tryz.func58 (by kernel_rfl) r6 (NH (FZ ck hck ad hia (IB (BV x) ck) (OZ _ (G0 x)) (by have:=GI x;rw[Ip];omega) _ _ _ (Own.sb oy_))) fun a110 v110 w110 hR110 Gj=>?_
         obtain⟨rfl,g110⟩:=hR110
         replace Ab:=AC g110 (AC g109 Ab)
         have Xc:Sv _ _ [_,_,_,_,_,_,_,_,_,_,_,_,_,_,_,_,_,_,_,_,_,_,_,_,_,_,_,_,_,_,_,_,_,_,_,_,_,_,_] _:=Gj.dl [97,98,99,100]
         refine AK Xc 1 [(102,pk Dd 5)]
           ⟨yf r6 (fun _=>by kernel_rfl),AIA⟩ fun a112 w112 g112 AD8=>?_
         refine KG (L:=[[.int .i64 ad],[.slice ao29 ds.length cap29],[.int .i64 0],[.slice none 0 0],[.slice ao104 ((IB (BV x) ck)).length cap104],bv AS]) (i:=5) AD8 r7 (Bj ((So ck ad (IB (BV x) ck))) (Db _ _ _).1) (AC g112 Ab) rfl rfl (XH AV (Db _ _ _)) fun w113 g113 h113=>?_
         replace Ae:=Ak g112 g113 (AC g110 (AC g109 (Ak g105 g106 (AC g104 Ae) (Ne.symm Bt)))) (Ne.symm Bt)
         replace Ab:=h113
         refine AE ?_
         refine k108 _ _ ?_
         refine AH4 fun K114 k114=>?_
         refine AH3 ?_
         refine AK AD8 1 [(103,Br ad (.slice ao29 ds.length cap29) 0 (.slice none 0 0) (.slice ao104 ((IB (BV x) ck)).length cap104) ((So ck ad (IB (BV x) ck))))]
           ⟨yl r6 (Dn _ _ (Db _ _ _) (.slice ao29 ds.length cap29) (.slice none 0 0) (.slice ao104 ((IB (BV x) ck)).length cap104) rfl rfl rfl) Ab,AIA⟩ fun a115 w115 g115 Oq=>?_
         refine Am Oq r7 (Dn _ _ (Db _ _ _) (.slice ao29 ds.length cap29) (.slice none 0 0) (.slice ao104 ((IB (BV x) ck)).length cap104) rfl rfl rfl) (AC g115 Ae) (EZ AV (Db _ _ _)) fun w116 g116 h116=>?_
         replace Ai:=Ak g115 g116 (Ak g112 g113 (AC g110 (AC g109 (Ak g105 g106 (AC g104 Ai) (Ne.symm Bu)))) (Ne.symm Bu)) BX
         refine Am Oq r7 (Ep 0) Ai rfl fun w117 g117 h117=>?_
         replace A9:=Aa g117 (Ak g115 g116 (Ak g112 g113 (AC g110 (AC g109 (Ak g105 g106 (AC g104 (AC I2 A9)) (Ne.symm DS)))) (Ne.symm DS)) (Ne.symm Dq)) (Ne.symm Ds)
         replace BG:=Aa g117 (Ak g115 g116 (Ak g112 g113 (AC g110 (AC g109 (Ak g105 g106 (AC g104 (AC I2 BG)) (Ne.symm DT)))) (Ne.symm DT)) (Ne.symm Dr)) (Ne.symm Dt)
         replace Ae:=Aa g117 h116 (Ne.symm BX)
         replace Ab:=Aa g117 (Ak g115 g116 Ab Bt) Bu
         replace Bl:=Aa g117 (Ak g115 g116 (Ak g112 g113 (AC g110 (AC g109 Bl)) DX) I0) I1
         replace hr:=((((((((((hr.kn I2).kn g104).kn g105).offR g106 (AQ EK)).kn g109).kn g110).kn g112).offR g113 (AQ EK)).kn g115).offR g116 (AQ Ei)).offR g117 (AQ Ek)
         replace ho:=((((((((((ho.kn I2).kn g104).kn g105).offR g106 (AQ EL)).kn g109).kn g110).kn g112).offR g113 (AQ EL)).kn g115).offR g116 (AQ Ej)).offR g117 (AQ El)
         replace oc:=((((((((((oc.kn I2).kn g104).kn g105).offR g106 (AQ DA)).kn g109).kn g110).kn g112).offR g113 (AQ DA)).kn g115).offR g116 (AQ HH)).offR g117 (AQ HU)
         replace op:=(((((((((op.kn g104).kn g105).offR g106 (AQ De)).kn g109).kn g110).kn g112).offR g113 (AQ De)).kn g115).offR g116 (AQ Ha)).offR g117 (AQ Hb)
         replace okk:=((((((((((okk.kn I2).kn g104).kn g105).offR g106 (AQ Cg)).kn g109).kn g110).kn g112).offR g113 (AQ Cg)).kn g115).offR g116 (AQ Df)).offR g117 (AQ Dh)
         replace oy_:=(((((oy_.kn g110).kn g112).offR g113 (AQ EW)).kn g115).offR g116 (AQ Ir)).offR g117 (AQ Is)
         replace HG:=AD (AD (AA (AD (AA (AA (AA (AD (AA (AA HG g104) g105) g106 En) g109) g110) g112) g113 En) g115) g116 Gg) g117 Gi
         replace Ai:=h117
         refine AE ?_
         refine k114 _ _ ?_
         refine AH7 ?_
         repeat refine AM ?_
         refine BI (fn:=Tryz.f20) Oq (Bc (p:=10) (q:=11) Tryz.results20 Oq rfl rfl rfl rfl (Dn _ _ (Db _ _ _) (.slice ao29 ds.length cap29) (.slice none 0 0) (.slice ao104 ((IB (BV x) ck)).length cap104) rfl rfl rfl) (Ep 0) Ae Ai) (Bh Tryz.func49 (by kernel_rfl) rfl _ _) (Dc _ _ _) ?_
         exact SRes.mk (own:=ds) (wr:=[]) (Gd hh hv hne hK2 hkm hcke) rfl rfl rfl hown rfl oc (Own.nil _ _ _) oy_ lo_oc (fun k hk=>by simp[BO,Value.ownBlock] at hk) lo_oy_ (fun k _ hk=>by simp[BO,Value.ownBlock] at hk) (Db _ _ _) (OZ _ (G0 x)) HG rfl
       · refine AH3 ?_
         refine AK ABF 2 [(76,.int .i64 1),(77,.bool true)]
           ⟨ym r5,Cm r6 (fun _=>B3 rfl),AIA⟩ fun a118 w118 g118 AD9=>?_
         refine AE ?_
         refine k100 _ _ ?_
         refine Aq AD9 rfl rfl ?_
         refine AH4 fun K119 k119=>?_
         refine AH3 ?_
         refine AK AD9 3 [(78,.slice ko i kc),(79,.int .i64 ((i:Nat))),(80,.int .i64 0)]
           ⟨ym r5,Be (Tryz.underlying28) rfl rfl trivial (oy rfl rfl) (fun _=>rfl),D8 (.inl rfl) rfl trivial (fun _=>rfl),AIA⟩ fun a120 w120 g120 CL=>?_
         have I3:=AA g118 g120
         refine AE ?_
         refine k119 _ _ ?_
         refine BB fun Q121 x121 y121 rt121 o121=>?_
         replace A9:=AC I3 A9
         replace BG:=AC I3 BG
         replace Ae:=AC I3 Ae
         replace Ai:=AC I3 Ai
         replace Ab:=AC I3 Ab
         replace Bl:=AC I3 Bl
         replace hr:=hr.kn I3
         replace ho:=ho.kn I3
         replace oc:=oc.kn I3
         replace op:=op.kn I3
         replace okk:=okk.kn I3
         replace HG:=AA HG I3
         have ow:=Own.nil w120 23 32
         have It:=I6 Rp
         have Iu:=I6 Rq
         have Fm:=I6 Gf
         have Fo:=I6 Gh
         have EM:=I6 Dd
         have F9:=I6 Om
         have ap_hr_ow:=I7 (Kh (.slice vo ks.length vc_) ks)
         have ap_ho_ow:=I7 (BO (.slice ao ds.length ac))
         have ap_oc_ow:=I7 (BO (.slice ao29 ds.length cap29))
         have ap_ow_oc:=AAP (BO (.slice ao29 ds.length cap29))
         have ap_op_ow:=I7 (BO (.slice ao36 ((BV x)).length cap36))
         have ap_ow_op:=AAP (BO (.slice ao36 ((BV x)).length cap36))
         have ap_okk_ow:=I7 (BO (.slice ko i kc))
         have ap_ow_okk:=AAP (BO (.slice ko i kc))
         have lo_ow:=Yf w
         refine wp_loop (fun a w'=>∃(j:Nat) (wo:Option Addr) (wc:Nat),(j≤i)∧Sv 104 [{ target:=.fn (.func 49) #[pt Gf,pt Gh],args:=#[] }] [(80,.int .i64 ((j:Int))),(78,.slice ko i kc),(79,.int .i64 ((i:Nat))),(76,.int .i64 1),(77,.bool true),(19,pt Om),(75,AP ck),(73,.int .i64 1),(74,.slice ko i kc),(54,.bool false),(53,.int .i64 ((i:Int))),(14,.slice ko i kc),(51,.slice ao ds.length ac),(52,.int .i64 ((ds.length:Nat))),(41,.slice ao ds.length ac),(42,.int .i64 ((ds.length:Nat))),(43,.bool false),(13,.slice ao36 ((BV x)).length cap36),(40,.slice ao36 ((BV x)).length cap36),(39,Bi x),(12,pt Dd),(23,.slice ao ds.length ac),(24,.int .i64 1),(25,.int .i64 ad),(26,.bool true),(27,.bool false),(28,.bool false),(29,An sa po (.slice vo ks.length vc_)),(30,.bool true),(31,.bool false),(32,.bool false),(22,.func (.func 49) #[] #[pt Gf,pt Gh]),(11,pt Gh),(10,pt Gf),(9,pt Rq),(5,pt Rp),(0,An sa po (.slice vo ks.length vc_)),(1,.slice ao ds.length ac),(2,.int .i64 1),(3,.int .i64 ad),(4,Bi x)] a∧w.grownBy w' none∧w'.heap[Rp]?=some (.cells ([bv sa,bv po,[.slice vo ks.length vc_]].flatten).toArray 36 (0,0))∧w'.heap[Rq]?=some (.cells (vc x).toArray 25 (0,0))∧w'.heap[Gf]?=some (.cells (([[.int .i64 0],[.slice none 0 0],[.int .i64 0],[.slice none 0 0],[.slice none 0 0],bv AS].flatten)).toArray 31 (0,0))∧w'.heap[Gh]?=some (.cells ([.int .i64 0]).toArray 38 (0,0))∧w'.heap[Dd]?=some (.cells ([[.int .i64 ad],[.slice ao29 ds.length cap29],[.int .i64 1],[.slice wo j wc],[.slice none 0 0],bv AS].flatten).toArray 31 (0,0))∧w'.heap[Om]?=some (.cells (bv ck).toArray 23 (0,0))∧RdK w' (.slice vo ks.length vc_) ks∧RdD w' (.slice ao ds.length ac) ds∧Own w' 23 32 (.slice ao29 ds.length cap29) ds.length (ds.flatMap JW)∧Own w' 5 1 (.slice ao36 ((BV x)).length cap36) (((BV x)).length) (bv ((BV x)))∧Own w' 23 32 (.slice ko i kc) i (kl.flatMap JW)∧Own w' 23 32 (.slice wo j wc) j (((wrL ck hck kl j)).flatMap JW)∧(∀k,BO (.slice wo j wc) k→k≠Rp)∧(∀k,BO (.slice wo j wc) k→k≠Rq)∧(∀k,BO (.slice wo j wc) k→k≠Gf)∧(∀k,BO (.slice wo j wc) k→k≠Gh)∧(∀k,BO (.slice wo j wc) k→k≠Dd)∧(∀k,BO (.slice wo j wc) k→k≠Om)∧(∀k,Kh (.slice vo ks.length vc_) ks k→¬BO (.slice wo j wc) k)∧(∀k,BO (.slice ao ds.length ac) k→¬BO (.slice wo j wc) k)∧(∀k,BO (.slice ao29 ds.length cap29) k→¬BO (.slice wo j wc) k)∧(∀k,BO (.slice wo j wc) k→¬BO (.slice ao29 ds.length cap29) k)∧(∀k,BO (.slice ao36 ((BV x)).length cap36) k→¬BO (.slice wo j wc) k)∧(∀k,BO (.slice wo j wc) k→¬BO (.slice ao36 ((BV x)).length cap36) k)∧(∀k,BO (.slice ko i kc) k→¬BO (.slice wo j wc) k)∧(∀k,BO (.slice wo j wc) k→¬BO (.slice ko i kc) k)∧(∀k,BO (.slice wo j wc) k→w.heap.size≤k)) (fun a _=>(i-intOf (a.tmps.getD 80 undef)).toNat) ⟨0,none,0,Nat.zero_le _,⟨CL.1,CL.2.1,CL.2.2.2.2.1,CL.2.2.1,CL.2.2.2.1,CL.2.2.2.2.2.1,CL.2.2.2.2.2.2.1,CL.2.2.2.2.2.2.2.1,(AJ CL).1,(AJ CL).2.1,(AJ CL).2.2.1,(AJ CL).2.2.2.1,(AJ CL).2.2.2.2.1,(AJ CL).2.2.2.2.2.1,(AJ CL).2.2.2.2.2.2.1,(AJ CL).2.2.2.2.2.2.2.1,(AJ (AJ CL)).1,(AJ (AJ CL)).2.1,(AJ (AJ CL)).2.2.1,(AJ (AJ CL)).2.2.2.1,(AJ (AJ CL)).2.2.2.2.1,(AJ (AJ CL)).2.2.2.2.2.1,(AJ (AJ CL)).2.2.2.2.2.2.1,(AJ (AJ CL)).2.2.2.2.2.2.2.1,(AJ (AJ (AJ CL))).1,(AJ (AJ (AJ CL))).2.1,(AJ (AJ (AJ CL))).2.2.1,(AJ (AJ (AJ CL))).2.2.2.1,(AJ (AJ (AJ CL))).2.2.2.2.1,(AJ (AJ (AJ CL))).2.2.2.2.2.1,(AJ (AJ (AJ CL))).2.2.2.2.2.2.1,(AJ (AJ (AJ CL))).2.2.2.2.2.2.2.1,(AJ (AJ (AJ (AJ CL)))).1,(AJ (AJ (AJ (AJ CL)))).2.1,(AJ (AJ (AJ (AJ CL)))).2.2.1,(AJ (AJ (AJ (AJ CL)))).2.2.2.1,(AJ (AJ (AJ (AJ CL)))).2.2.2.2.1,(AJ (AJ (AJ (AJ CL)))).2.2.2.2.2.1,(AJ (AJ (AJ (AJ CL)))).2.2.2.2.2.2.1,(AJ (AJ (AJ (AJ CL)))).2.2.2.2.2.2.2.1,(AJ (AJ (AJ (AJ (AJ CL))))).1,(AJ (AJ (AJ (AJ (AJ CL))))).2.1,(AJ (AJ (AJ (AJ (AJ CL))))).2.2.1,AIA⟩,HG,A9,BG,Ae,Ai,Ab,Bl,hr,ho,oc,op,okk,ow,It,Iu,Fm,Fo,EM,F9,ap_hr_ow,ap_ho_ow,ap_oc_ow,ap_ow_oc,ap_op_ow,ap_ow_op,ap_okk_ow,ap_ow_okk,lo_ow⟩ fun a122 w122 hI122=>?_
         clear A9
         clear BG
         clear Ae
         clear Ai
         clear Ab
         clear Bl
         clear hr
         clear ho
         clear oc
         clear op
         clear okk
         clear ow
         clear HG
         obtain⟨j,wo,wc,hjn,ABJ,HG,A9,BG,Ae,Ai,Ab,Bl,hr,ho,oc,op,okk,ow,It,Iu,Fm,Fo,EM,F9,ap_hr_ow,ap_ho_ow,ap_oc_ow,ap_ow_oc,ap_op_ow,ap_ow_op,ap_okk_ow,ap_ow_okk,lo_ow⟩:=hI122
         refine AH4 fun K123 k123=>?_
         by_cases hjl:j<i
         · have hjk:j<kl.length:=by omega
           obtain⟨ky,hx_ky⟩:∃zx,kl[j]'hjk=zx:=⟨_,rfl⟩
           refine AH3 ?_
           refine AK ABJ 1 [(81,.bool true)]
            ⟨Gs r7 (fun _=>Bb (by simp;omega)),AIA⟩ fun a124 w124 g124 AEA=>?_
           refine AE ?_
           refine k123 _ _ ?_
           refine AH4 fun K125 k125=>?_
           refine Aq AEA rfl rfl ?_
           refine AH8 ?_
           refine k125 _ _ ?_
           refine AH4 fun K126 k126=>?_
           refine BB fun Q127 x127 y127 rt127 o127=>?_
           refine AH4 fun K128 k128=>?_
           refine AH3 ?_
           replace okk:=okk.kn g124
           refine AK AEA 2 [(82,pk ((bO ko)) (oO ko+j*32)),(83,AP ky.x)]
            ⟨BA rq8 (fun w=>CD Tryz.underlying28 (by kernel_rfl) ((Sl.of_own okk)) (by omega) (rfl) w),Bn r6 (fun _ g=>Ad (Bj ky.x ky.h.1) (by have:=Cw (Sl.of_own (okk.kn g)) FX hjk (by decide);rw[hx_ky] at this;exact this)),AIA⟩ fun a129 w129 g129 AGQ=>?_
           replace A9:=AC g129 (AC g124 A9)
           replace BG:=AC g129 (AC g124 BG)
           replace Ae:=AC g129 (AC g124 Ae)
           replace Ai:=AC g129 (AC g124 Ai)
           replace Ab:=AC g129 (AC g124 Ab)
           replace Bl:=AC g129 (AC g124 Bl)
           replace hr:=(hr.kn g124).kn g129
           replace ho:=(ho.kn g124).kn g129
           replace oc:=(oc.kn g124).kn g129
           replace op:=(op.kn g124).kn g129
           replace okk:=okk.kn g129
           replace ow:=(ow.kn g124).kn g129
           replace HG:=AA (AA HG g124) g129
           refine Ap (T:=23) (Z:=(bv AS)) AGQ rfl rfl rfl (fun a w=>by kernel_rfl) fun a130 w130 ADS Ce g130 z130 Li AEB=>?_
           have NO:=As A9 Ce
           have NP:=As BG Ce
           have Mf:=As Ae Ce
           have Mg:=As Ai Ce
           have Lj:=As Ab Ce
           have Lk:=As Bl Ce
           have WO:=Bp HG Ce
           have Pu:=Av (hr.lt) Ce
           have Pv:=Av (ho.lt) Ce
           have Pw:=Av (Own.ltS oc) Ce
           have Px:=Av (Own.ltS op) Ce
           have Ot:=Av (Own.ltS okk) Ce
           have Py:=Av (Own.ltS ow) Ce
           refine Am AEB r7 (Bj ky.x ky.h.1) Li (Fu ky.h) fun w131 g131 h131=>?_
           replace A9:=Aa g131 (AC g130 A9) (Ne.symm NO)
           replace BG:=Aa g131 (AC g130 BG) (Ne.symm NP)
           replace Ae:=Aa g131 (AC g130 Ae) (Ne.symm Mf)
           replace Ai:=Aa g131 (AC g130 Ai) (Ne.symm Mg)
           replace Ab:=Aa g131 (AC g130 Ab) (Ne.symm Lj)
           replace Bl:=Aa g131 (AC g130 Bl) (Ne.symm Lk)
           replace ow:=(ow.kn g130).offR g131 (AQ Py)
           replace HG:=AD (AA HG g130) g131 WO
           replace Li:=h131
           refine AE ?_
           refine k128 _ _ ?_
           refine C6 (AEB.st w131) (by kernel_rfl) 6 [(84,Sp.is (pk Dd 3)),(85,Sp.is (.slice wo j wc)),(86,Sp.is (AP ck)),(87,Sp.is (AP ky.x)),(88,Sp.is (AP ((L8 ck ky.x)))),(89,Sp.lit1 w131.heap.size 23 (bv (L8 ck ky.x)))] rfl (by kernel_rfl) (by kernel_rfl) (by kernel_rfl) [] (by kernel_rfl)
            ⟨yf r6 (fun _=>by kernel_rfl),yp (i:=3) r6 (J9 (.slice wo j wc) rfl) Ab rfl rfl,yl r6 (Bj ck hck.1) Bl,yl r6 (Bj ky.x ky.h.1) Li,Ah [AP ck,AP ky.x] Tryz.func56 (by kernel_rfl) rq4 ⟨(oy rfl rfl),(oy rfl rfl),AIA⟩ (Ao fun W g=>La ck ky.x hck ky.h W),NW rfl rfl trivial (Nat.le_refl _) rfl (fun W hw v h=>match v,h with|_,⟨rfl,_⟩=>⟨bv (L8 ck ky.x),ZF (Kp hck ky.h) W,fun w' _ hh=>⟨_,rfl,hw.size,hh⟩⟩),AIA⟩ trivial
            [] (by kernel_rfl) trivial ⟨.inl rfl,.inl rfl,.inl rfl,.inl rfl,.inl rfl,.inl rfl,AIA⟩ (by kernel_rfl) fun a132 w132 g132 st132 nd132=>?_
           obtain⟨hn132,hd132,e132_84,e132_85,e132_86,e132_87,e132_88,e132_89,e132_21,e132_82,e132_83,e132_81,e132_80,e132_78,e132_79,e132_76,e132_77,e132_19,e132_75,e132_73,e132_74,e132_54,e132_53,e132_14,e132_51,e132_52,e132_41,e132_42,e132_43,e132_13,e132_40,e132_39,e132_12,e132_23,e132_24,e132_25,e132_26,e132_27,e132_28,e132_29,e132_30,e132_31,e132_32,e132_22,e132_11,e132_10,e132_9,e132_5,e132_0,e132_1,e132_2,e132_3,e132_4,-⟩:=st132
           obtain⟨V,e132_89q,geV,HV⟩:=e132_89
           have AFd:V≠Rp:=Nat.ne_of_gt (Nat.lt_of_lt_of_le (Array.getElem?_eq_some_iff.1 A9).1 geV)
           have AFe:V≠Rq:=Nat.ne_of_gt (Nat.lt_of_lt_of_le (Array.getElem?_eq_some_iff.1 BG).1 geV)
           have AFI:V≠Gf:=Nat.ne_of_gt (Nat.lt_of_lt_of_le (Array.getElem?_eq_some_iff.1 Ae).1 geV)
           have AFJ:V≠Gh:=Nat.ne_of_gt (Nat.lt_of_lt_of_le (Array.getElem?_eq_some_iff.1 Ai).1 geV)
           have UL:V≠Dd:=Nat.ne_of_gt (Nat.lt_of_lt_of_le (Array.getElem?_eq_some_iff.1 Ab).1 geV)
           have AEC:V≠Om:=Nat.ne_of_gt (Nat.lt_of_lt_of_le (Array.getElem?_eq_some_iff.1 Bl).1 geV)
           have ADT:V≠ADS:=Nat.ne_of_gt (Nat.lt_of_lt_of_le (Array.getElem?_eq_some_iff.1 Li).1 geV)
           have lo_V:w.heap.size≤V:=Nat.le_trans HG.size geV
           have ap_ow_V:=N5 (Own.ltS ow) geV
           replace A9:=AC g132 A9
           replace BG:=AC g132 BG
           replace Ae:=AC g132 Ae
           replace Ai:=AC g132 Ai
           replace Ab:=AC g132 Ab
           replace Bl:=AC g132 Bl
           replace hr:=((hr.kn g130).offR g131 (AQ Pu)).kn g132
           replace ho:=((ho.kn g130).offR g131 (AQ Pv)).kn g132
           replace oc:=((oc.kn g130).offR g131 (AQ Pw)).kn g132
           replace op:=((op.kn g130).offR g131 (AQ Px)).kn g132
           replace okk:=((okk.kn g130).offR g131 (AQ Ot)).kn g132
           replace ow:=ow.kn g132
           replace HG:=AA HG g132
           have AGR:Sv 104 [{ target:=.fn (.func 49) #[pt Gf,pt Gh],args:=#[] }] [(21,_),(82,_),(83,_),(81,_),(80,_),(78,_),(79,_),(76,_),(77,_),(19,_),(75,_),(73,_),(74,_),(54,_),(53,_),(14,_),(51,_),(52,_),(41,_),(42,_),(43,_),(13,_),(40,_),(39,_),(12,_),(23,_),(24,_),(25,_),(26,_),(27,_),(28,_),(29,_),(30,_),(31,_),(32,_),(22,_),(11,_),(10,_),(9,_),(5,_),(0,_),(1,_),(2,_),(3,_),(4,_),(85,_),(89,_)] a132:=⟨hn132,hd132,e132_21,e132_82,e132_83,e132_81,e132_80,e132_78,e132_79,e132_76,e132_77,e132_19,e132_75,e132_73,e132_74,e132_54,e132_53,e132_14,e132_51,e132_52,e132_41,e132_42,e132_43,e132_13,e132_40,e132_39,e132_12,e132_23,e132_24,e132_25,e132_26,e132_27,e132_28,e132_29,e132_30,e132_31,e132_32,e132_22,e132_11,e132_10,e132_9,e132_5,e132_0,e132_1,e132_2,e132_3,e132_4,e132_85,e132_89q,AIA⟩
           refine Kg dsT AGR rfl rfl rfl rfl rfl rfl rfl rfl ow (J0 HV (Kp hck ky.h)) (Fb _) (by omega) fun a133 ao133 cap133 w133 owx133 CM AGS=>?_
           have Ou:=I4 CM.2 It A9
           have Ov:=I4 CM.2 Iu BG
           have NQ:=I4 CM.2 Fm Ae
           have NS:=I4 CM.2 Fo Ai
           have IG:=I4 CM.2 EM Ab
           have Mh:=I4 CM.2 F9 Bl
           have SB:=I5 CM.2 ap_hr_ow (hr.lt)
           have SC:=I5 CM.2 ap_ho_ow (ho.lt)
           have Ll:=I5 CM.2 ap_oc_ow (Own.ltS oc)
           have Lm:=I5 CM.2 ap_op_ow (Own.ltS op)
           have KI:=I5 CM.2 ap_okk_ow (Own.ltS okk)
           have ap_owx133_oc:=AAO Ll
           have ap_owx133_op:=AAO Lm
           have ap_owx133_okk:=AAO KI
           have ZO:=Vh CM.2 lo_ow HG
           replace Ab:=AF CM.1 Ab (fun e=>EM _ e.symm rfl)
           rw[AA9 hck hjk hx_ky] at owx133
           refine AK AGS 1 [(91,pk Dd 3)]
            ⟨yf r6 (fun _=>by kernel_rfl),AIA⟩ fun a134 w134 g134 AED=>?_
           refine KG (L:=[[.int .i64 ad],[.slice ao29 ds.length cap29],[.int .i64 1],[.slice wo j wc],[.slice none 0 0],bv AS]) (i:=3) AED r7 (J9 (.slice ao133 (j+1) cap133) rfl) (AC g134 Ab) rfl rfl rfl fun w135 g135 h135=>?_
           replace A9:=Ak g134 g135 (AF CM.1 A9 (fun e=>It _ e.symm rfl)) (Ne.symm DS)
           replace BG:=Ak g134 g135 (AF CM.1 BG (fun e=>Iu _ e.symm rfl)) (Ne.symm DT)
           replace Ae:=Ak g134 g135 (AF CM.1 Ae (fun e=>Fm _ e.symm rfl)) (Ne.symm Bt)
           replace Ai:=Ak g134 g135 (AF CM.1 Ai (fun e=>Fo _ e.symm rfl)) (Ne.symm Bu)
           replace Bl:=Ak g134 g135 (AF CM.1 Bl (fun e=>F9 _ e.symm rfl)) DX
           replace HV:=Ak g134 g135 (AF CM.1 HV (fun e=>ap_ow_V _ e.symm rfl)) UL
           replace hr:=((hr.offR CM.1 (fun k hk e=>ap_hr_ow k hk (e))).kn g134).offR g135 (AQ EK)
           replace ho:=((ho.offR CM.1 (fun k hk e=>ap_ho_ow k hk (e))).kn g134).offR g135 (AQ EL)
           replace oc:=((oc.offR CM.1 (fun k hk e=>ap_oc_ow k hk (e))).kn g134).offR g135 (AQ DA)
           replace op:=((op.offR CM.1 (fun k hk e=>ap_op_ow k hk (e))).kn g134).offR g135 (AQ De)
           replace okk:=((okk.offR CM.1 (fun k hk e=>ap_okk_ow k hk (e))).kn g134).offR g135 (AQ Cg)
           replace HG:=AD (AA (CN HG CM.1 fun k e=>lo_ow k (e)) g134) g135 En
           have AGT:Sv _ _ [_,_,_,_,_,_,_,_,_,_,_,_,_,_,_,_,_,_,_,_,_,_,_,_,_,_,_,_,_,_,_,_,_,_,_,_,_,_,_,_,_,_,_,_,_] _:=AED.dl [91,90,85,89]
           refine AE ?_
           refine y127 _ _ ?_
           refine k126 _ _ ?_
           refine AH3 ?_
           refine AK AGT 1 [(92,.int .i64 (((j+1:Nat):Int)))]
            ⟨Cm r6 (fun _=>DH (by rw[A7 (by omega) (by omega)];omega)),AIA⟩ fun a137 w137 g137 AGU=>?_
           refine AK (AGU.dl [80]) 1 [(80,.int .i64 (((j+1:Nat):Int)))]
            ⟨ym r5,AIA⟩ fun a138 w138 g138 CE=>?_
           have He:=AA g137 g138
           refine AE ?_
           replace A9:=AC He A9
           replace BG:=AC He BG
           replace Ae:=AC He Ae
           replace Ai:=AC He Ai
           replace Ab:=AC He h135
           replace Bl:=AC He Bl
           replace HV:=AC He HV
           replace hr:=hr.kn He
           replace ho:=ho.kn He
           replace oc:=oc.kn He
           replace op:=op.kn He
           replace okk:=okk.kn He
           replace owx133:=((owx133.kn g134).offR g135 (AQ IG)).kn He
           replace HG:=AA HG He
           exact⟨⟨j+1,ao133,cap133,by omega,⟨CE.1,CE.2.1,CE.2.2.1,(AJ CE).1,(AJ CE).2.1,(AJ CE).2.2.1,(AJ CE).2.2.2.1,(AJ CE).2.2.2.2.1,(AJ CE).2.2.2.2.2.1,(AJ CE).2.2.2.2.2.2.1,(AJ CE).2.2.2.2.2.2.2.1,(AJ (AJ CE)).1,(AJ (AJ CE)).2.1,(AJ (AJ CE)).2.2.1,(AJ (AJ CE)).2.2.2.1,(AJ (AJ CE)).2.2.2.2.1,(AJ (AJ CE)).2.2.2.2.2.1,(AJ (AJ CE)).2.2.2.2.2.2.1,(AJ (AJ CE)).2.2.2.2.2.2.2.1,(AJ (AJ (AJ CE))).1,(AJ (AJ (AJ CE))).2.1,(AJ (AJ (AJ CE))).2.2.1,(AJ (AJ (AJ CE))).2.2.2.1,(AJ (AJ (AJ CE))).2.2.2.2.1,(AJ (AJ (AJ CE))).2.2.2.2.2.1,(AJ (AJ (AJ CE))).2.2.2.2.2.2.1,(AJ (AJ (AJ CE))).2.2.2.2.2.2.2.1,(AJ (AJ (AJ (AJ CE)))).1,(AJ (AJ (AJ (AJ CE)))).2.1,(AJ (AJ (AJ (AJ CE)))).2.2.1,(AJ (AJ (AJ (AJ CE)))).2.2.2.1,(AJ (AJ (AJ (AJ CE)))).2.2.2.2.1,(AJ (AJ (AJ (AJ CE)))).2.2.2.2.2.1,(AJ (AJ (AJ (AJ CE)))).2.2.2.2.2.2.1,(AJ (AJ (AJ (AJ CE)))).2.2.2.2.2.2.2.1,(AJ (AJ (AJ (AJ (AJ CE))))).1,(AJ (AJ (AJ (AJ (AJ CE))))).2.1,(AJ (AJ (AJ (AJ (AJ CE))))).2.2.1,(AJ (AJ (AJ (AJ (AJ CE))))).2.2.2.1,(AJ (AJ (AJ (AJ (AJ CE))))).2.2.2.2.1,(AJ (AJ (AJ (AJ (AJ CE))))).2.2.2.2.2.1,(AJ (AJ (AJ (AJ (AJ CE))))).2.2.2.2.2.2.1,(AJ (AJ (AJ (AJ (AJ CE))))).2.2.2.2.2.2.2.1,AIA⟩,HG,A9,BG,Ae,Ai,Ab,Bl,hr,ho,oc,op,okk,owx133,Ou,Ov,NQ,NS,IG,Mh,SB,SC,Ll,ap_owx133_oc,Lm,ap_owx133_op,KI,ap_owx133_okk,ZO⟩,by rw[show _=_ from CE.2.2.1,show _=_ from ABJ.2.2.1];simp[intOf];omega⟩
         · have hwr:(wrL ck hck kl j).map DD.x=kl.map fun z=>L8 ck z.x:=ADK (by omega)
           refine AH3 ?_
           refine AK ABJ 1 [(81,.bool false)]
            ⟨Gs r7 (fun _=>Bb (by simp;omega)),AIA⟩ fun a139 w139 g139 AEE=>?_
           refine AE ?_
           refine k123 _ _ ?_
           refine AH4 fun K140 k140=>?_
           refine Ax AEE rfl rfl ?_
           refine wp_exit ?_
           repeat refine CH ?_
           refine x121 _ _ ?_
           refine k99 _ _ ?_
           refine AH4 fun K141 k141=>?_
           refine AH3 ?_
           refine AK AEE 2 [(93,.slice ao36 ((BV x)).length cap36),(94,AP ck)]
            ⟨ym r5,yl r6 (Bj ck hck.1) (AC g139 Bl),AIA⟩ fun a142 w142 g142 AGV=>?_
           have Ln:=AA g139 g142
           replace Ae:=AC Ln Ae
           replace Ai:=AC Ln Ai
           replace Ab:=AC Ln Ab
           replace op:=op.kn Ln
           replace HG:=AA HG Ln
           refine BR AGV Tryz.func57 (by kernel_rfl) r6 (Qo (Iq (BV x) (G0 x) (by have:=GI x;omega) _ _ ck hck _ (Own.sb op))) fun a143 v143 w143 hR143 AGW=>?_
           obtain⟨ao143,cap143,rfl,_⟩:=(Sl.of_own hR143.1).shape
           obtain⟨ow143,fr143⟩:=hR143
           replace fr143:=Dj fr143
           have oy_:=ow143
           clear ow143
           have g143:=fr143.1
           replace fr143:=fr143.2
           have Ir:=CY fr143 Ae
           have Is:=CY fr143 Ai
           have EW:=CY fr143 Ab
           have lo_oy_:=JL HG fr143
           replace Ab:=AC g143 Ab
           refine AK AGW 1 [(96,pk Dd 4)]
            ⟨yf r6 (fun _=>by kernel_rfl),AIA⟩ fun a144 w144 g144 AEF=>?_
           refine KG (L:=[[.int .i64 ad],[.slice ao29 ds.length cap29],[.int .i64 1],[.slice wo j wc],[.slice none 0 0],bv AS]) (i:=4) AEF r7 (Fx (.slice ao143 ((IB (BV x) ck)).length cap143) rfl) (AC g144 Ab) rfl rfl rfl fun w145 g145 h145=>?_
           replace Bl:=Ak g144 g145 (AC g143 (AC Ln Bl)) DX
           replace Ab:=h145
           have AGX:Sv _ _ [_,_,_,_,_,_,_,_,_,_,_,_,_,_,_,_,_,_,_,_,_,_,_,_,_,_,_,_,_,_,_,_,_,_,_,_,_,_,_,_,_,_] _:=AEF.dl [96,95,93,94]
           refine AE ?_
           refine k141 _ _ ?_
           refine AH4 fun K147 k147=>?_
           refine AH3 ?_
           refine AK AGX 4 [(97,AP ck),(98,.int .i64 ad),(99,pk Dd 4),(100,.slice ao143 ((IB (BV x) ck)).length cap143)]
            ⟨yl r6 (Bj ck hck.1) Bl,ym r5,yf r6 (fun _=>by kernel_rfl),yp (i:=4) r6 (Fx (.slice ao143 ((IB (BV x) ck)).length cap143) rfl) Ab rfl rfl,AIA⟩ fun a148 w148 g148 AGY=>?_
           replace oy_:=((oy_.kn g144).offR g145 (AQ EW)).kn g148
           refine BR AGY Tryz.func58 (by kernel_rfl) r6 (NH (FZ ck hck ad hia (IB (BV x) ck) (OZ _ (G0 x)) (by have:=GI x;rw[Ip];omega) _ _ _ (Own.sb oy_))) fun a149 v149 w149 hR149 AGZ=>?_
           obtain⟨rfl,g149⟩:=hR149
           replace Ab:=AC g149 (AC g148 Ab)
           have AGa:Sv _ _ [_,_,_,_,_,_,_,_,_,_,_,_,_,_,_,_,_,_,_,_,_,_,_,_,_,_,_,_,_,_,_,_,_,_,_,_,_,_,_,_,_,_,_] _:=AGZ.dl [97,98,99,100]
           refine AK AGa 1 [(102,pk Dd 5)]
            ⟨yf r6 (fun _=>by kernel_rfl),AIA⟩ fun a151 w151 g151 AEG=>?_
           refine KG (L:=[[.int .i64 ad],[.slice ao29 ds.length cap29],[.int .i64 1],[.slice wo j wc],[.slice ao143 ((IB (BV x) ck)).length cap143],bv AS]) (i:=5) AEG r7 (Bj ((So ck ad (IB (BV x) ck))) (Db _ _ _).1) (AC g151 Ab) rfl rfl (XH AV (Db _ _ _)) fun w152 g152 h152=>?_
           replace Ae:=Ak g151 g152 (AC g149 (AC g148 (Ak g144 g145 (AC g143 Ae) (Ne.symm Bt)))) (Ne.symm Bt)
           replace Ab:=h152
           refine AE ?_
           refine k147 _ _ ?_
           refine AH4 fun K153 k153=>?_
           refine AH3 ?_
           refine AK AEG 1 [(103,Br ad (.slice ao29 ds.length cap29) 1 (.slice wo j wc) (.slice ao143 ((IB (BV x) ck)).length cap143) ((So ck ad (IB (BV x) ck))))]
            ⟨yl r6 (Dn _ _ (Db _ _ _) (.slice ao29 ds.length cap29) (.slice wo j wc) (.slice ao143 ((IB (BV x) ck)).length cap143) rfl rfl rfl) Ab,AIA⟩ fun a154 w154 g154 Xd=>?_
           refine Am Xd r7 (Dn _ _ (Db _ _ _) (.slice ao29 ds.length cap29) (.slice wo j wc) (.slice ao143 ((IB (BV x) ck)).length cap143) rfl rfl rfl) (AC g154 Ae) (EZ AV (Db _ _ _)) fun w155 g155 h155=>?_
           replace Ai:=Ak g154 g155 (Ak g151 g152 (AC g149 (AC g148 (Ak g144 g145 (AC g143 Ai) (Ne.symm Bu)))) (Ne.symm Bu)) BX
           refine Am Xd r7 (Ep 0) Ai rfl fun w156 g156 h156=>?_
           replace Ae:=Aa g156 h155 (Ne.symm BX)
           replace oc:=((((((((((oc.kn Ln).kn g143).kn g144).offR g145 (AQ DA)).kn g148).kn g149).kn g151).offR g152 (AQ DA)).kn g154).offR g155 (AQ HH)).offR g156 (AQ HU)
           replace op:=(((((((((op.kn g143).kn g144).offR g145 (AQ De)).kn g148).kn g149).kn g151).offR g152 (AQ De)).kn g154).offR g155 (AQ Ha)).offR g156 (AQ Hb)
           replace okk:=((((((((((okk.kn Ln).kn g143).kn g144).offR g145 (AQ Cg)).kn g148).kn g149).kn g151).offR g152 (AQ Cg)).kn g154).offR g155 (AQ Df)).offR g156 (AQ Dh)
           replace ow:=((((((((((ow.kn Ln).kn g143).kn g144).offR g145 (AQ EM)).kn g148).kn g149).kn g151).offR g152 (AQ EM)).kn g154).offR g155 (AQ Fm)).offR g156 (AQ Fo)
           replace oy_:=(((((oy_.kn g149).kn g151).offR g152 (AQ EW)).kn g154).offR g155 (AQ Ir)).offR g156 (AQ Is)
           replace HG:=AD (AD (AA (AD (AA (AA (AA (AD (AA (AA HG g143) g144) g145 En) g148) g149) g151) g152 En) g154) g155 Gg) g156 Gi
           replace Ai:=h156
           refine AE ?_
           refine k153 _ _ ?_
           refine AH7 ?_
           repeat refine AM ?_
           refine BI (fn:=Tryz.f20) Xd (Bc (p:=10) (q:=11) Tryz.results20 Xd rfl rfl rfl rfl (Dn _ _ (Db _ _ _) (.slice ao29 ds.length cap29) (.slice wo j wc) (.slice ao143 ((IB (BV x) ck)).length cap143) rfl rfl rfl) (Ep 0) Ae Ai) (Bh Tryz.func49 (by kernel_rfl) rfl _ _) (Dc _ _ _) ?_
           exact SRes.mk (own:=ds) (wr:=(wrL ck hck kl j)) (Gd hh hv hne hK2 hkm hcke) rfl (ADL (by omega)) rfl hown (hwr.trans (ZG kl ck)) oc ow oy_ lo_oc lo_ow lo_oy_ ap_oc_ow (Db _ _ _) (OZ _ (G0 x)) HG rfl
end Go.Proofs.YtbfjfnbcmojpiaaGreat
