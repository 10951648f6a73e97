import Derived.Test.YtbfjfnbcmojpiaaGreatDrY7
set_option linter.unusedSimpArgs false
set_option linter.unusedVariables false
set_option maxRecDepth 100000
set_option maxHeartbeats 4000000
namespace Go.Proofs.YtbfjfnbcmojpiaaGreat
open Go.RowKit Go.Shelf
theorem Dr (p q:Value) (w:World):CallsD Tryz.prog 49 #[p,q] .returning w fun e u' w'=>e=.returned (.tuple #[])∧u'=.returning∧w'=w:=by
 refine callsD_of_wpS Tryz.func49 rfl fun c₀ cs hu=>?_
 apply wpS_seq
 apply wpS_region
 simp[wpOpsS,go_sem,recoverD,hu,Tryz.ntmps49,Exit.thenS]
 refine wpS_cond (t:=false) (by simp[Act.eval,Array.replicate]) ?_
 simp only[Bool.false_eq_true,if_false]
 refine wpS_of_wp (AIm ?_)
 cases c₀
 simp_all [bodyPostS,results,Tryz.results49]
theorem DK (p q:Value) (w:World):CallsD Tryz.prog 60 #[p,q] .returning w fun e u' w'=>e=.returned (.tuple #[])∧u'=.returning∧w'=w:=by
 refine callsD_of_wpS Tryz.func60 rfl fun c₀ cs hu=>?_
 apply wpS_seq
 apply wpS_region
 simp[wpOpsS,go_sem,recoverD,hu,Tryz.ntmps60,Exit.thenS]
 refine wpS_cond (t:=false) (by simp[Act.eval,Array.replicate]) ?_
 simp only[Bool.false_eq_true,if_false]
 refine wpS_of_wp (AIm ?_)
 cases c₀
 simp_all [bodyPostS,results,Tryz.results60]
def SRes (w w':World) (r:Sd×Int) (e:Ending):Prop:=
 ∃(own wr:List DD) (ao wo bo:Option Addr) (ac wc bc:Nat),e=.returned (.tuple #[CP r.1.addr (.slice ao own.length ac) r.1.joint (.slice wo wr.length wc) (.slice bo r.1.body.length bc) r.1.tag,.int .i64 r.2])∧own.map DD.x=r.1.own∧wr.map DD.x=r.1.wr ∧
  Own w' 23 32 (.slice ao own.length ac) own.length (own.flatMap Jo)∧Own w' 23 32 (.slice wo wr.length wc) wr.length (wr.flatMap Jo)∧Own w' 5 1 (.slice bo r.1.body.length bc) r.1.body.length (bv r.1.body) ∧
  (∀k,BO (.slice ao own.length ac) k→w.heap.size≤k)∧(∀k,BO (.slice wo wr.length wc) k→w.heap.size≤k)∧(∀k,BO (.slice bo r.1.body.length bc) k→w.heap.size≤k)∧(∀k,BO (.slice ao own.length ac) k→¬BO (.slice wo wr.length wc) k)∧Dg r.1.tag∧By r.1.body∧w.grownBy w' none
theorem SRes.mk {w w':World} {r:Sd×Int} {s:Sd} {er:Int} {own wr:List DD} {ao wo bo:Option Addr} {ac wc bc n m l:Nat} (hr:r=(s,er)) (hn:own.length=n) (hm:wr.length=m) (hl:s.body.length=l) (h1:own.map DD.x=s.own) (h2:wr.map DD.x=s.wr)
  (h3:Own w' 23 32 (.slice ao n ac) n (own.flatMap Jo)) (h4:Own w' 23 32 (.slice wo m wc) m (wr.flatMap Jo)) (h5:Own w' 5 1 (.slice bo l bc) l (bv s.body)) (f1:∀k,BO (.slice ao n ac) k→w.heap.size≤k) (f2:∀k,BO (.slice wo m wc) k→w.heap.size≤k) (f3:∀k,BO (.slice bo l bc) k→w.heap.size≤k) (f4:∀k,BO (.slice ao n ac) k→¬BO (.slice wo m wc) k)
  (ht:Dg s.tag) (hb:By s.body) (g:w.grownBy w' none) {v:Value} (hv:v=CP s.addr (.slice ao n ac) s.joint (.slice wo m wc) (.slice bo l bc) s.tag):SRes w w' r (.returned (.tuple #[v,.int .i64 er])):=by
 subst hr hn hm hl hv
 exact⟨own,wr,ao,wo,bo,ac,wc,bc,rfl,h1,h2,h3,h4,h5,f1,f2,f3,f4,ht,hb,g⟩
theorem SRes.zero {w w':World} {r:Sd×Int} {er:Int} (hr:r=(Sd.zero,er)) (g:w.grownBy w' none):SRes w w' r (.returned (.tuple #[CP 0 (.slice none 0 0) 0 (.slice none 0 0) (.slice none 0 0) AS,.int .i64 er])):=
 SRes.mk (own:=[]) (wr:=[]) (ao:=none) (wo:=none) (bo:=none) (ac:=0) (wc:=0) (bc:=0) hr rfl rfl rfl rfl rfl (Own.nil _ _ _) (Own.nil _ _ _) (Own.nil _ _ _) (fun k hk=>by simp[BO,Value.ownBlock] at hk) (fun k hk=>by simp[BO,Value.ownBlock] at hk) (fun k hk=>by simp[BO,Value.ownBlock] at hk) (fun k hk=>by simp[BO,Value.ownBlock] at hk) AR (fun b hb=>by simp[Sd.zero] at hb) g rfl
theorem M4 {P:List VP} {own:List (List Nat)} {joint a:Int} {x:V} (h:hd own joint a=false∨CE P=false):Et P own joint a x=(Sd.zero,1):=by
 unfold Et
 rcases h with h|h<;>simp[h]
theorem IY {P:List VP} {joint a:Int} {x:V} (h1:hd [] joint a=true) (h2:CE P=true):Et P [] joint a x=(⟨a,[],joint,[],Be x,Zn a (Be x)⟩,0):=by
 unfold Et
 simp[h1,h2]
theorem Zx {P:List VP} {own:List (List Nat)} {joint a:Int} {x:V} {e:Int} (h1:hd own joint a=true) (h2:CE P=true) (h3:own≠[]) (h4:(Cb P a own).2=e) (h5:e≠0):Et P own joint a x=(Sd.zero,e):=by
 unfold Et
 simp[h1,h2,h3,h4,h5]
theorem Fu {P:List VP} {own:List (List Nat)} {joint a:Int} {x:V} {K:List (List Nat)} {c:List Nat} (h1:hd own joint a=true) (h2:CE P=true) (h3:own≠[]) (h4:(Cb P a own).2=0) (h5:K=(Cb P a own).1) (h6:Ta (decide (joint=1)) K=c) :
  Et P own joint a x=(⟨a,own,joint,if joint=1 then K.map (Me c) else [],IX (Be x) c,Tc c a (IX (Be x) c)⟩,0):=by
 subst h5
 subst h6
 unfold Et
 simp[h1,h2,h3,h4]
theorem Jt {P:List VP} {a:Int}:∀{own:List (List Nat)},(∀j,j<own.length→(Ck P (KQ own j) a).2=0)→(Cb P a own).1=own.map (fun z=>(Ck P z a).1)∧(Cb P a own).2=0
 | [],_=>⟨rfl,rfl⟩
 | o::l,h=>by
  have h0:(Ck P o a).2=0:=h 0 (by simp)
  obtain⟨h1,h2⟩:=Jt (own:=l) fun j hj=>h (j+1) (by simpa using hj)
  unfold Cb
  rw[if_pos h0]
  exact⟨by rw[h1];rfl,h2⟩
theorem KT {P:List VP} {a:Int}:∀{own:List (List Nat)} {i:Nat},i<own.length→(∀j,j<i→(Ck P (KQ own j) a).2=0)→(Ck P (KQ own i) a).2≠0→(Cb P a own).2=(Ck P (KQ own i) a).2
 | [],i,hi,_,_=>by simp at hi
 | o::l,0,_,_,h=>by
  have h0:(Ck P o a).2≠0:=h
  unfold Cb
  rw[if_neg h0]
  rfl
 | o::l,i+1,hi,hj,h=>by
  have h0:(Ck P o a).2=0:=hj 0 (by omega)
  have:=KT (own:=l) (i:=i) (by simpa using hi) (fun j hjj=>hj (j+1) (by omega)) h
  unfold Cb
  rw[if_pos h0]
  exact this
theorem RQ {P:List VP} {a:Int} {own:List (List Nat)} {i:Nat} {kl:List DD} {y:List Nat} {kx:List Nat×Int} (h:kl.map DD.x=(own.take i).map fun z=>(Ck P z a).1) (hi:i<own.length) (hla:KQ own i=y) (hkx:Ck P y a=kx) {hkd:Dg kx.1}:(kl++[(⟨kx.1,hkd⟩:DD)]).map DD.x=(own.take (i+1)).map fun z=>(Ck P z a).1:=by
 rw[List.take_add_one,List.getElem?_eq_getElem hi,List.map_append,List.map_append,h]
 rw[Wv hi] at hla
 simp[hla,hkx]
theorem SU (kl:List DD) (d:DD):kl.flatMap Jo++bv d.x=(kl++[d]).flatMap Jo:=by rw[List.flatMap_append];simp[Jo]
theorem KU {w:World} {B:Nat} {d:List Nat} {t:TypeId} {fr:Nat×Nat} (h:w.heap[B]?=some (.cells (bv d).toArray t fr)) (hd:Dg d):Sl w 32 (.slice (some ⟨B,0,none⟩) 1 1) 1 (bv d):=by
 refine⟨by rw[AI,hd.1],_,_,rfl,Nat.le_refl _,by decide,fun h=>(by cases h),fun ad had=>?_⟩
 obtain rfl:=Option.some.inj had
 refine⟨fun _=>rfl,fun j u hu=>?_⟩
 have:=Al h j u hu
 simpa using this
theorem Zy {d:List Nat} (hd:Dg d) (W:World):(Instr.buildSlice 28 1 #[(0,AO d)]).run Tryz.prog W=.ok (.slice (some ⟨W.heap.size,0,none⟩) 1 1) (W.alloc (.cells (bv d).toArray 23)):=by
 obtain⟨x0,x1,x2,x3,x4,x5,x6,x7,x8,x9,x10,x11,x12,x13,x14,x15,x16,x17,x18,x19,x20,x21,x22,x23,x24,x25,x26,x27,x28,x29,x30,x31,rfl⟩:=Gc _ hd.1
 kernel_rfl
theorem LU {c y:List Nat} (hc:Dg c) (hy:Dg y):Dg (Me c y):=ABj hc (BF 283 y)
def wrL (c:List Nat) (hc:Dg c) (kl:List DD) (j:Nat):List DD:=(kl.take j).map fun z=>⟨Me c z.x,LU hc z.h⟩
theorem ABu {c:List Nat} (hc:Dg c) {kl:List DD} {j:Nat} {z:DD} (hj:j<kl.length) (hz:kl[j]=z):(wrL c hc kl j).flatMap Jo++bv (Me c z.x)=(wrL c hc kl (j+1)).flatMap Jo:=by
 unfold wrL
 rw[List.take_add_one,List.getElem?_eq_getElem hj,hz,List.map_append,List.flatMap_append]
 simp[Jo]
theorem AD1 {c:List Nat} {hc:Dg c} {kl:List DD} {j:Nat} (hj:kl.length≤j):(wrL c hc kl j).map DD.x=kl.map fun z=>Me c z.x:=by
 unfold wrL
 rw[List.take_of_length_le hj,List.map_map]
 rfl
theorem AD2 {c:List Nat} {hc:Dg c} {kl:List DD} {j:Nat} (hj:j≤kl.length):(wrL c hc kl j).length=j:=by
 unfold wrL
 rw[List.length_map,List.length_take]
 omega
theorem ABv {w:World} {kl:List DD} {n:Nat} {ko:Option Addr} {kc:Nat} {joint:Int} {c:List Nat} (hn:kl.length=n) (hr:SlB w 32 (.slice ko n kc) n (kl.flatMap Jo)) (hl:n≤1000) (hc:Ta (decide (joint=1)) (kl.map DD.x)=c):Calls Tryz.prog 55 #[.int .i64 joint,.slice ko n kc] w fun e w'=>e=.returned (AO c)∧w.grownBy w' none:=by
 subst hn hc
 exact Zt joint kl ko kc w hr hl
theorem RdK.noks2 {w:World} {v:Value} {ks:List VK} (h:RdK w v ks):∀i,i<(ks.map VK.p).length→∀n∈tr (ks.map VK.p) i,Nok n:=fun i hi n hn=>by
 have hi':i<ks.length:=by simpa using hi
 rw[Rz hi'] at hn
 exact(h.2 _ (List.getElem_mem hi')).2.1 n hn
theorem PB {P:List VP} {o:List Nat} {a:Int} (h:∀i,i<P.length→∀n∈tr P i,Nok n):Dg (Ck P o a).1:=by
 unfold Ck
 split
 · split
   · rename_i hf
     exact KD (h _ (Mo hf).1) a
   · exact AR
 · exact AR
theorem ABw {w:World} {ks:List VK} {vo:Option Addr} {vc:Nat} {sa po o:List Nat} {P:List VP} {a:Int} {q:List Nat×Int} (hsa:Dg sa) (hpo:Dg po) (ho:Dg o) (hk:RdK w (.slice vo ks.length vc) ks) (hm:ks.map VK.p=P) (hres:Ck P o a=q) :
 Calls Tryz.prog 32 #[Ao sa po (.slice vo ks.length vc),AO o,.int .i64 a] w fun e w'=>e=.returned (.tuple #[AO q.1,.int .i64 q.2])∧w.grownBy w' none:=AGs hsa hpo ho hk hm hres
theorem OE {w:World} {ds:List DD} {own:List (List Nat)} {ao:Option Addr} {cap:Nat} {joint addr:Int} {b:Bool} (hr:RdD w (.slice ao ds.length cap) ds) (hown:ds.map DD.x=own) (hb:hd own joint addr=b):Calls Tryz.prog 50 #[.slice ao ds.length cap,.int .i64 joint,.int .i64 addr] w fun e w'=>e=.returned (.bool b)∧w.grownBy w' none:=OA hr (hown▸hb)
theorem Hr (x:V):By (Be x):=fun b hb=>ACl _ b hb
theorem Zz (kl:List DD) (c:List Nat):(kl.map fun z=>Me c z.x)=(kl.map DD.x).map (Me c):=by rw[List.map_map];rfl
theorem Z5 (ks:List VK) (vo:Option Addr) (vc_:Nat) (sa po:List Nat) (hsa:Dg sa) (hpo:Dg po) (ds:List DD) (ao:Option Addr) (ac:Nat) (joint ad:Int) (x:V) (w:World) (hr:RdK w (.slice vo ks.length vc_) ks) (ho:RdD w (.slice ao ds.length ac) ds) (hdl:ds.length≤1000) :
   Calls Tryz.prog 20 #[Ao sa po (.slice vo ks.length vc_),.slice ao ds.length ac,.int .i64 joint,.int .i64 ad,Bu x] w fun e w'=>SRes w w' (Et (ks.map VK.p) (ds.map DD.x) joint ad x) e:=by
 obtain⟨P,hP⟩:∃P,ks.map VK.p=P:=⟨_,rfl⟩
 obtain⟨own,hown⟩:∃own,ds.map DD.x=own:=⟨_,rfl⟩
 have hownl:own.length=ds.length:=by rw[←hown,List.length_map]
 have hnok:=hr.noks2
 rw[hP] at hnok
 rw[hP,hown]
 refine DX Tryz.func20 rfl Tryz.ntmps20 rfl fun a0 sv0=>?_
 have HG:=World.grownBy.refl w none
 replace sv0:Sv 104 [] [(0,Ao sa po (.slice vo ks.length vc_)),(1,.slice ao ds.length ac),(2,.int .i64 joint),(3,.int .i64 ad),(4,Bu x)] a0:=sv0
 refine AIi fun K1 k1=>?_
 refine AIh ?_
 refine BT sv0 r6 (BX hsa hpo (.slice vo ks.length vc_) rfl) fun a2 w2 SV AHg g2 z2 BC sv2=>?_
 refine BT sv2 r6 (Dm x) fun a3 w3 SY AHh g3 z3 BJ sv3=>?_
 replace BC:=AC g3 BC
 replace hr:=(hr.kn g2).kn g3
 replace ho:=(ho.kn g2).kn g3
 replace HG:=AA (AA HG g2) g3
 refine As (T:=31) (Z:=([[.int .i64 0],[.slice none 0 0],[.int .i64 0],[.slice none 0 0],[.slice none 0 0],bv AS].flatten)) sv3 rfl rfl rfl (fun a w=>by kernel_rfl) fun a4 w4 Gx Ju g4 z4 Af sv4=>?_
 have D4:=Ar BC Ju
 have D5:=Ar BJ Ju
 have Gy:=Bq HG Ju
 have Eu:=Ax (hr.lt) Ju
 have Ev:=Ax (ho.lt) Ju
 replace BC:=AC g4 BC
 replace BJ:=AC g4 BJ
 replace hr:=hr.kn g4
 replace ho:=ho.kn g4
 replace HG:=AA HG g4
 refine As (T:=38) (Z:=[.int .i64 0]) sv4 rfl rfl rfl (fun a w=>by kernel_rfl) fun a5 w5 Gz IZ g5 z5 Aj sv5=>?_
 have D8:=Ar BC IZ
 have D9:=Ar BJ IZ
 have Bf:=Ar Af IZ
 have G0:=Bq HG IZ
 have Ew:=Ax (hr.lt) IZ
 have Ey:=Ax (ho.lt) IZ
 replace BC:=AC g5 BC
 replace BJ:=AC g5 BJ
 replace Af:=AC g5 Af
 replace hr:=hr.kn g5
 replace ho:=ho.kn g5
 replace HG:=AA HG g5
 refine AE ?_
 refine k1 _ _ ?_
 refine AIi fun K6 k6=>?_
 refine AIh ?_
 refine Es sv5 rfl rfl rfl rfl rfl rfl fun a7 sv7=>?_
 refine EJ sv7 rfl (dd:={ target:=.fn (.func 49) #[pt Gx,pt Gz],args:=#[] }) rfl (by have e1:=sv7.ev (x:=.tmp 22) rfl rfl;simp[execOp,resolve,Deferred.ofValue,e1];try rfl) fun a8 sv8=>?_
 refine AE ?_
 refine k6 _ _ ?_
 refine AIi fun K9 k9=>?_
 refine AIi fun K10 k10=>?_
 rcases(show(hd own joint ad=false∧CE P=false)∨(hd own joint ad=false∧CE P=true)∨(hd own joint ad=true∧CE P=false)∨(hd own joint ad=true∧CE P=true) by cases hd own joint ad<;>cases CE P<;>simp) with ⟨hh,hv⟩|⟨hh,hv⟩|⟨hh,hv⟩|⟨hh,hv⟩
 · refine AIh ?_
   refine AL sv8 10 [(23,.slice ao ds.length ac),(24,.int .i64 joint),(25,.int .i64 ad),(26,.bool false),(27,.bool true),(28,.bool true),(29,undef),(30,undef),(31,undef),(32,.bool true)]
     ⟨ym r5,ym r5,ym r5,Ad [.slice ao ds.length ac,.int .i64 joint,.int .i64 ad] Tryz.func50 (by kernel_rfl) rq4 ⟨(oy rfl rfl),(oy rfl rfl),(oy rfl rfl),AIo⟩ (Aq fun W g=>OE (ho.kn g) hown hh),Cn r6 (fun _=>BV),ym r5,AX r6,AX r6,AX r6,B6 r7,AIo⟩ fun a11 w11 g11 CH=>?_
   refine AE ?_
   refine k10 _ _ ?_
   refine Ap CH rfl rfl ?_
   refine AIi fun K12 k12=>?_
   refine AIh ?_
   replace Af:=AC g11 Af
   refine AL CH 1 [(33,CP 0 (.slice none 0 0) 0 (.slice none 0 0) (.slice none 0 0) AS)]
     ⟨BI (vs:=[]) rfl rfl trivial trivial (fun _=>ADw _) (fun _=>rfl),AIo⟩ fun a13 w13 g13 DI=>?_
   refine An DI r7 (EU _ _ AR (.slice none 0 0) (.slice none 0 0) (.slice none 0 0) rfl rfl rfl) (AC g13 Af) (Ek AR AR) fun w14 g14 h14=>?_
   replace Aj:=Ak g13 g14 (AC g11 Aj) Bf
   refine An DI r7 (Ed 1) Aj rfl fun w15 g15 h15=>?_
   replace BC:=Ab g15 (Ak g13 g14 (AC g11 BC) (Ne.symm D4)) (Ne.symm D8)
   replace BJ:=Ab g15 (Ak g13 g14 (AC g11 BJ) (Ne.symm D5)) (Ne.symm D9)
   replace Af:=Ab g15 h14 (Ne.symm Bf)
   replace hr:=(((hr.kn g11).kn g13).offR g14 (AU Eu)).offR g15 (AU Ew)
   replace ho:=(((ho.kn g11).kn g13).offR g14 (AU Ev)).offR g15 (AU Ey)
   replace HG:=AD (AD (AA (AA HG g11) g13) g14 Gy) g15 G0
   replace Aj:=h15
   refine AE ?_
   refine k12 _ _ ?_
   refine AIl ?_
   repeat refine AM ?_
   refine BK (fn:=Tryz.f20) DI (BQ (p:=10) (q:=11) Tryz.results20 DI rfl rfl rfl rfl (EU _ _ AR (.slice none 0 0) (.slice none 0 0) (.slice none 0 0) rfl rfl rfl) (Ed 1) Af Aj) (Bl Tryz.func49 (by kernel_rfl) rfl _ _) (Dr _ _ _) ?_
   exact SRes.zero (M4 (.inl hh)) HG
 · refine AIh ?_
   refine AL sv8 10 [(23,.slice ao ds.length ac),(24,.int .i64 joint),(25,.int .i64 ad),(26,.bool false),(27,.bool true),(28,.bool true),(29,undef),(30,undef),(31,undef),(32,.bool true)]
     ⟨ym r5,ym r5,ym r5,Ad [.slice ao ds.length ac,.int .i64 joint,.int .i64 ad] Tryz.func50 (by kernel_rfl) rq4 ⟨(oy rfl rfl),(oy rfl rfl),(oy rfl rfl),AIo⟩ (Aq fun W g=>OE (ho.kn g) hown hh),Cn r6 (fun _=>BV),ym r5,AX r6,AX r6,AX r6,B6 r7,AIo⟩ fun a16 w16 g16 Cj=>?_
   refine AE ?_
   refine k10 _ _ ?_
   refine Ap Cj rfl rfl ?_
   refine AIi fun K17 k17=>?_
   refine AIh ?_
   replace Af:=AC g16 Af
   refine AL Cj 1 [(33,CP 0 (.slice none 0 0) 0 (.slice none 0 0) (.slice none 0 0) AS)]
     ⟨BI (vs:=[]) rfl rfl trivial trivial (fun _=>ADw _) (fun _=>rfl),AIo⟩ fun a18 w18 g18 CS=>?_
   refine An CS r7 (EU _ _ AR (.slice none 0 0) (.slice none 0 0) (.slice none 0 0) rfl rfl rfl) (AC g18 Af) (Ek AR AR) fun w19 g19 h19=>?_
   replace Aj:=Ak g18 g19 (AC g16 Aj) Bf
   refine An CS r7 (Ed 1) Aj rfl fun w20 g20 h20=>?_
   replace BC:=Ab g20 (Ak g18 g19 (AC g16 BC) (Ne.symm D4)) (Ne.symm D8)
   replace BJ:=Ab g20 (Ak g18 g19 (AC g16 BJ) (Ne.symm D5)) (Ne.symm D9)
   replace Af:=Ab g20 h19 (Ne.symm Bf)
   replace hr:=(((hr.kn g16).kn g18).offR g19 (AU Eu)).offR g20 (AU Ew)
   replace ho:=(((ho.kn g16).kn g18).offR g19 (AU Ev)).offR g20 (AU Ey)
   replace HG:=AD (AD (AA (AA HG g16) g18) g19 Gy) g20 G0
   replace Aj:=h20
   refine AE ?_
   refine k17 _ _ ?_
   refine AIl ?_
   repeat refine AM ?_
   refine BK (fn:=Tryz.f20) CS (BQ (p:=10) (q:=11) Tryz.results20 CS rfl rfl rfl rfl (EU _ _ AR (.slice none 0 0) (.slice none 0 0) (.slice none 0 0) rfl rfl rfl) (Ed 1) Af Aj) (Bl Tryz.func49 (by kernel_rfl) rfl _ _) (Dr _ _ _) ?_
   exact SRes.zero (M4 (.inl hh)) HG
 · refine AIh ?_
   refine AL sv8 10 [(23,.slice ao ds.length ac),(24,.int .i64 joint),(25,.int .i64 ad),(26,.bool true),(27,.bool false),(28,.bool false),(29,Ao sa po (.slice vo ks.length vc_)),(30,.bool false),(31,.bool true),(32,.bool true)]
     ⟨ym r5,ym r5,ym r5,Ad [.slice ao ds.length ac,.int .i64 joint,.int .i64 ad] Tryz.func50 (by kernel_rfl) rq4 ⟨(oy rfl rfl),(oy rfl rfl),(oy rfl rfl),AIo⟩ (Aq fun W g=>OE (ho.kn g) hown hh),Cn r6 (fun _=>BV),ym r5,Az rq9 (fun _ g=>Ae (BX hsa hpo (.slice vo ks.length vc_) rfl) (Al (AF g BC (by simp)))),CG [Ao sa po (.slice vo ks.length vc_)] Tryz.func51 (by kernel_rfl) r7 ⟨(oy rfl rfl),AIo⟩ (Aq fun W g=>L9 hsa hpo (hr.kn g) hP hv),IT rfl rfl (gy rfl rfl rfl) (oy rfl rfl) (fun _=>BV) (fun _=>rfl),A3 rq9,AIo⟩ fun a21 w21 g21 DY=>?_
   refine AE ?_
   refine k10 _ _ ?_
   refine Ap DY rfl rfl ?_
   refine AIi fun K22 k22=>?_
   refine AIh ?_
   replace Af:=AC g21 Af
   refine AL DY 1 [(33,CP 0 (.slice none 0 0) 0 (.slice none 0 0) (.slice none 0 0) AS)]
     ⟨BI (vs:=[]) rfl rfl trivial trivial (fun _=>ADw _) (fun _=>rfl),AIo⟩ fun a23 w23 g23 Cg=>?_
   refine An Cg r7 (EU _ _ AR (.slice none 0 0) (.slice none 0 0) (.slice none 0 0) rfl rfl rfl) (AC g23 Af) (Ek AR AR) fun w24 g24 h24=>?_
   replace Aj:=Ak g23 g24 (AC g21 Aj) Bf
   refine An Cg r7 (Ed 1) Aj rfl fun w25 g25 h25=>?_
   replace BC:=Ab g25 (Ak g23 g24 (AC g21 BC) (Ne.symm D4)) (Ne.symm D8)
   replace BJ:=Ab g25 (Ak g23 g24 (AC g21 BJ) (Ne.symm D5)) (Ne.symm D9)
   replace Af:=Ab g25 h24 (Ne.symm Bf)
   replace hr:=(((hr.kn g21).kn g23).offR g24 (AU Eu)).offR g25 (AU Ew)
   replace ho:=(((ho.kn g21).kn g23).offR g24 (AU Ev)).offR g25 (AU Ey)
   replace HG:=AD (AD (AA (AA HG g21) g23) g24 Gy) g25 G0
   replace Aj:=h25
   refine AE ?_
   refine k22 _ _ ?_
   refine AIl ?_
   repeat refine AM ?_
   refine BK (fn:=Tryz.f20) Cg (BQ (p:=10) (q:=11) Tryz.results20 Cg rfl rfl rfl rfl (EU _ _ AR (.slice none 0 0) (.slice none 0 0) (.slice none 0 0) rfl rfl rfl) (Ed 1) Af Aj) (Bl Tryz.func49 (by kernel_rfl) rfl _ _) (Dr _ _ _) ?_
   exact SRes.zero (M4 (.inr hv)) HG
 · obtain⟨haa,hjj,hol,hasc⟩:=YR hh
   have hia:OL ad:=⟨by omega,by omega⟩
   refine AIh ?_
   refine AL sv8 10 [(23,.slice ao ds.length ac),(24,.int .i64 joint),(25,.int .i64 ad),(26,.bool true),(27,.bool false),(28,.bool false),(29,Ao sa po (.slice vo ks.length vc_)),(30,.bool true),(31,.bool false),(32,.bool false)]
     ⟨ym r5,ym r5,ym r5,Ad [.slice ao ds.length ac,.int .i64 joint,.int .i64 ad] Tryz.func50 (by kernel_rfl) rq4 ⟨(oy rfl rfl),(oy rfl rfl),(oy rfl rfl),AIo⟩ (Aq fun W g=>OE (ho.kn g) hown hh),Cn r6 (fun _=>BV),ym r5,Az rq9 (fun _ g=>Ae (BX hsa hpo (.slice vo ks.length vc_) rfl) (Al (AF g BC (by simp)))),CG [Ao sa po (.slice vo ks.length vc_)] Tryz.func51 (by kernel_rfl) r7 ⟨(oy rfl rfl),AIo⟩ (Aq fun W g=>L9 hsa hpo (hr.kn g) hP hv),IT rfl rfl (gy rfl rfl rfl) (oy rfl rfl) (fun _=>BV) (fun _=>rfl),A3 rq9,AIo⟩ fun a26 w26 g26 CW=>?_
   refine AE ?_
   refine k10 _ _ ?_
   refine Au CW rfl rfl ?_
   refine AIm ?_
   refine k9 _ _ ?_
   refine AIi fun K27 k27=>?_
   refine AIh ?_
   refine AL CW 2 [(34,.int .i64 ad),(35,.slice ao ds.length ac)]
     ⟨ym r5,ym r5,AIo⟩ fun a28 w28 g28 Jg=>?_
   have LO:=AA g26 g28
   replace Af:=AC LO Af
   replace Aj:=AC LO Aj
   replace ho:=ho.kn LO
   replace HG:=AA HG LO
   refine BU Jg Tryz.func52 (by kernel_rfl) r6 (AFy (by omega) ho) fun a29 v29 w29 hR29 CI=>?_
   obtain⟨ao29,cap29,rfl,g29,oc,fr29⟩:=hR29
   have Hs:=CF fr29 Af
   have Ht:=CF fr29 Aj
   have lo_oc:=JC HG fr29
   refine AL CI 2 [(37,.int .i64 joint),(38,CP ad (.slice ao29 ds.length cap29) joint (.slice none 0 0) (.slice none 0 0) AS)]
     ⟨ym r5,BI (vs:=[.int .i64 ad,.slice ao29 ds.length cap29,.int .i64 joint]) rfl rfl trivial ⟨(oy rfl rfl),(oy rfl rfl),(oy rfl rfl),AIo⟩ (fun _=>AHw _ _ _ _ _ _) (fun _=>rfl),AIo⟩ fun a30 w30 g30 EQ=>?_
   replace BC:=AC g30 (AC g29 (AC LO BC))
   replace BJ:=AC g30 (AC g29 (AC LO BJ))
   replace Af:=AC g30 (AC g29 Af)
   replace Aj:=AC g30 (AC g29 Aj)
   replace hr:=((hr.kn LO).kn g29).kn g30
   replace ho:=(ho.kn g29).kn g30
   replace oc:=oc.kn g30
   replace HG:=AA (AA HG g29) g30
   refine As (T:=31) (Z:=([[.int .i64 0],[.slice none 0 0],[.int .i64 0],[.slice none 0 0],[.slice none 0 0],bv AS].flatten)) EQ rfl rfl rfl (fun a w=>by kernel_rfl) fun a31 w31 Ds Ez g31 z31 Ac Gh=>?_
   have Dc:=Ar BC Ez
   have Dd:=Ar BJ Ez
   have Bw:=Ar Af Ez
   have Bz:=Ar Aj Ez
   have E0:=Bq HG Ez
   have EV:=Ax (hr.lt) Ez
   have EW:=Ax (ho.lt) Ez
   have DL:=Ax (Own.ltS oc) Ez
   refine An Gh r7 (EU _ _ AR (.slice ao29 ds.length cap29) (.slice none 0 0) (.slice none 0 0) rfl rfl rfl) Ac (Ek AR AR) fun w32 g32 h32=>?_
   replace BJ:=Ab g32 (AC g31 BJ) (Ne.symm Dd)
   have JN:Sv _ _ [_,_,_,_,_,_,_,_,_,_,_,_,_,_,_,_,_,_,_,_,_] _:=Gh.dl [37,38,36,34,35]
   refine AE ?_
   refine k27 _ _ ?_
   refine AIi fun K34 k34=>?_
   refine AIh ?_
   refine AL JN 1 [(39,Bu x)]
     ⟨yl r6 (Dm x) BJ,AIo⟩ fun a35 w35 g35 Kh=>?_
   replace Af:=AC g35 (Ab g32 (AC g31 Af) (Ne.symm Bw))
   replace Aj:=AC g35 (Ab g32 (AC g31 Aj) (Ne.symm Bz))
   replace Ac:=AC g35 h32
   replace HG:=AA (AD (AA HG g31) g32 E0) g35
   refine BU Kh Tryz.func53 (by kernel_rfl) r6 (RO (W0 x _)) fun a36 v36 w36 hR36 FQ=>?_
   obtain⟨ao36,cap36,rfl,_⟩:=(Sl.of_own hR36.1).shape
   obtain⟨ow36,fr36⟩:=hR36
   replace fr36:=Dx fr36
   have op:=ow36
   clear ow36
   have g36:=fr36.1
   replace fr36:=fr36.2
   have Hu:=CF fr36 Af
   have Hv:=CF fr36 Aj
   have Dt:=CF fr36 Ac
   have lo_op:=JC HG fr36
   replace BC:=AC g36 (AC g35 (Ab g32 (AC g31 BC) (Ne.symm Dc)))
   replace BJ:=AC g36 (AC g35 BJ)
   replace Af:=AC g36 Af
   replace Aj:=AC g36 Aj
   replace Ac:=AC g36 Ac
   replace hr:=(((hr.kn g31).offR g32 (AU EV)).kn g35).kn g36
   replace ho:=(((ho.kn g31).offR g32 (AU EW)).kn g35).kn g36
   replace oc:=(((oc.kn g31).offR g32 (AU DL)).kn g35).kn g36
   replace HG:=AA HG g36
   refine Aa (v:=.slice ao36 ((Be x)).length cap36) FQ r6 fun a37 F6=>?_
   refine AE ?_
   refine k34 _ _ ?_
   refine AIi fun K38 k38=>?_
   refine AIi fun K39 k39=>?_
   rcases Nat.eq_zero_or_pos ds.length with hz|hz
   · obtain rfl:own=[]:=List.eq_nil_of_length_eq_zero (by omega)
     refine AIh ?_
     refine AL F6 3 [(41,.slice ao ds.length ac),(42,.int .i64 ((ds.length:Nat))),(43,.bool true)]
       ⟨ym r5,Bk (Tryz.underlying28) rfl rfl trivial (oy rfl rfl) (fun _=>rfl),Cm r6 (fun _=>CB (Nf (by omega))),AIo⟩ fun a40 w40 g40 Ji=>?_
     refine AE ?_
     refine k39 _ _ ?_
     refine Ap Ji rfl rfl ?_
     refine AIi fun K41 k41=>?_
     refine AIh ?_
     refine AL Ji 2 [(44,.slice ao36 ((Be x)).length cap36),(45,pk Ds 4)]
       ⟨ym r5,yf r6 (fun _=>by kernel_rfl),AIo⟩ fun a42 w42 g42 Gi=>?_
     have Nm:=AA g40 g42
     refine Jc (L:=[[.int .i64 ad],[.slice ao29 ds.length cap29],[.int .i64 joint],[.slice none 0 0],[.slice none 0 0],bv AS]) (i:=4) Gi r7 (F9 (.slice ao36 ((Be x)).length cap36) rfl) (AC Nm Ac) rfl rfl rfl fun w43 g43 h43=>?_
     refine AE ?_
     refine k41 _ _ ?_
     refine AIi fun K44 k44=>?_
     refine AIh ?_
     refine AL Gi 2 [(46,.int .i64 ad),(47,.slice ao36 ((Be x)).length cap36)]
       ⟨ym r5,ym r5,AIo⟩ fun a45 w45 g45 Ec=>?_
     replace op:=((op.kn Nm).offR g43 (AU Dt)).kn g45
     refine BU Ec Tryz.func54 (by kernel_rfl) r6 (O4 (IE ad hia (Be x) (Hr x) (by have:=Ga x;omega) _ _ _ (Own.sb op))) fun a46 v46 w46 hR46 GM=>?_
     obtain⟨rfl,g46⟩:=hR46
     replace Ac:=AC g46 (AC g45 h43)
     refine AL GM 1 [(49,pk Ds 5)]
       ⟨yf r6 (fun _=>by kernel_rfl),AIo⟩ fun a47 w47 g47 Jl=>?_
     refine Jc (L:=[[.int .i64 ad],[.slice ao29 ds.length cap29],[.int .i64 joint],[.slice none 0 0],[.slice ao36 ((Be x)).length cap36],bv AS]) (i:=5) Jl r7 (Bn ((Zn ad (Be x))) (F7 ad (Be x)).1) (AC g47 Ac) rfl rfl (Xt AR (F7 ad (Be x))) fun w48 g48 h48=>?_
     replace Af:=Ak g47 g48 (AC g46 (AC g45 (Ak Nm g43 Af (Ne.symm Bw)))) (Ne.symm Bw)
     replace Ac:=h48
     have Ki:Sv _ _ [_,_,_,_,_,_,_,_,_,_,_,_,_,_,_,_,_,_,_,_,_,_,_,_,_,_,_,_,_] _:=Jl.dl [49,48,46,47]
     refine AE ?_
     refine k44 _ _ ?_
     refine AIi fun K50 k50=>?_
     refine AIh ?_
     refine AL Ki 1 [(50,CP ad (.slice ao29 ds.length cap29) joint (.slice none 0 0) (.slice ao36 ((Be x)).length cap36) ((Zn ad (Be x))))]
       ⟨yl r6 (EU _ _ (F7 ad (Be x)) (.slice ao29 ds.length cap29) (.slice none 0 0) (.slice ao36 ((Be x)).length cap36) rfl rfl rfl) Ac,AIo⟩ fun a51 w51 g51 CT=>?_
     refine An CT r7 (EU _ _ (F7 ad (Be x)) (.slice ao29 ds.length cap29) (.slice none 0 0) (.slice ao36 ((Be x)).length cap36) rfl rfl rfl) (AC g51 Af) (Ek AR (F7 ad (Be x))) fun w52 g52 h52=>?_
     replace Aj:=Ak g51 g52 (Ak g47 g48 (AC g46 (AC g45 (Ak Nm g43 Aj (Ne.symm Bz)))) (Ne.symm Bz)) Bf
     refine An CT r7 (Ed 0) Aj rfl fun w53 g53 h53=>?_
     replace BC:=Ab g53 (Ak g51 g52 (Ak g47 g48 (AC g46 (AC g45 (Ak Nm g43 BC (Ne.symm Dc)))) (Ne.symm Dc)) (Ne.symm D4)) (Ne.symm D8)
     replace BJ:=Ab g53 (Ak g51 g52 (Ak g47 g48 (AC g46 (AC g45 (Ak Nm g43 BJ (Ne.symm Dd)))) (Ne.symm Dd)) (Ne.symm D5)) (Ne.symm D9)
     replace Af:=Ab g53 h52 (Ne.symm Bf)
     replace Ac:=Ab g53 (Ak g51 g52 Ac Bw) Bz
     replace hr:=((((((((hr.kn Nm).offR g43 (AU EV)).kn g45).kn g46).kn g47).offR g48 (AU EV)).kn g51).offR g52 (AU Eu)).offR g53 (AU Ew)
     replace ho:=((((((((ho.kn Nm).offR g43 (AU EW)).kn g45).kn g46).kn g47).offR g48 (AU EW)).kn g51).offR g52 (AU Ev)).offR g53 (AU Ey)
     replace oc:=((((((((oc.kn Nm).offR g43 (AU DL)).kn g45).kn g46).kn g47).offR g48 (AU DL)).kn g51).offR g52 (AU Hs)).offR g53 (AU Ht)
     replace op:=(((((op.kn g46).kn g47).offR g48 (AU Dt)).kn g51).offR g52 (AU Hu)).offR g53 (AU Hv)
     replace HG:=AD (AD (AA (AD (AA (AA (AA (AD (AA HG Nm) g43 E0) g45) g46) g47) g48 E0) g51) g52 Gy) g53 G0
     replace Aj:=h53
     refine AE ?_
     refine k50 _ _ ?_
     refine AIl ?_
     repeat refine AM ?_
     refine BK (fn:=Tryz.f20) CT (BQ (p:=10) (q:=11) Tryz.results20 CT rfl rfl rfl rfl (EU _ _ (F7 ad (Be x)) (.slice ao29 ds.length cap29) (.slice none 0 0) (.slice ao36 ((Be x)).length cap36) rfl rfl rfl) (Ed 0) Af Aj) (Bl Tryz.func49 (by kernel_rfl) rfl _ _) (Dr _ _ _) ?_
     exact SRes.mk (own:=ds) (wr:=[]) (IY hh hv) rfl rfl rfl hown rfl oc (Own.nil _ _ _) op lo_oc (fun k hk=>by simp[BO,Value.ownBlock] at hk) lo_op (fun k _ hk=>by simp[BO,Value.ownBlock] at hk) (F7 _ _) (Hr x) HG rfl
   · have hne:own≠[]:=fun h=>by rw[h] at hownl;simp at hownl;omega
     refine AIh ?_
     refine AL F6 3 [(41,.slice ao ds.length ac),(42,.int .i64 ((ds.length:Nat))),(43,.bool false)]
       ⟨ym r5,Bk (Tryz.underlying28) rfl rfl trivial (oy rfl rfl) (fun _=>rfl),Cm r6 (fun _=>CB (LH (by omega))),AIo⟩ fun a54 w54 g54 Nl=>?_
     refine AE ?_
     refine k39 _ _ ?_
     refine Au Nl rfl rfl ?_
     refine AIm ?_
     refine k38 _ _ ?_
     refine AIi fun K55 k55=>?_
     refine AIh ?_
     refine Aa (v:=.slice none 0 0) Nl r6 fun a56 QG=>?_
     refine AE ?_
     refine k55 _ _ ?_
     refine AIi fun K57 k57=>?_
     refine AIi fun K58 k58=>?_
     refine AIh ?_
     refine AL QG 3 [(51,.slice ao ds.length ac),(52,.int .i64 ((ds.length:Nat))),(53,.int .i64 0)]
       ⟨ym r5,Bk (Tryz.underlying28) rfl rfl trivial (oy rfl rfl) (fun _=>rfl),EI (.inl rfl) rfl trivial (fun _=>rfl),AIo⟩ fun a59 w59 g59 EE=>?_
     have L8:=AA g54 g59
     refine AE ?_
     refine k58 _ _ ?_
     refine BB fun Q60 x60 y60 rt60 o60=>?_
     replace BC:=AC L8 BC
     replace BJ:=AC L8 BJ
     replace Af:=AC L8 Af
     replace Aj:=AC L8 Aj
     replace Ac:=AC L8 Ac
     replace hr:=hr.kn L8
     replace ho:=ho.kn L8
     replace oc:=oc.kn L8
     replace op:=op.kn L8
     replace HG:=AA HG L8
     have okk:=Own.nil w59 23 32
     have Hw:=JK SV
     have Hx:=JK SY
     have Du:=JK Gx
     have Dv:=JK Gz
     have Cl:=JK Ds
     have ap_hr_okk:=JL (Je (.slice vo ks.length vc_) ks)
     have ap_ho_okk:=JL (BO (.slice ao ds.length ac))
     have ap_oc_okk:=JL (BO (.slice ao29 ds.length cap29))
     have ap_okk_oc:=ABB (BO (.slice ao29 ds.length cap29))
     have ap_op_okk:=JL (BO (.slice ao36 ((Be x)).length cap36))
     have ap_okk_op:=ABB (BO (.slice ao36 ((Be x)).length cap36))
     have lo_okk:=ZU w
     refine wp_loop (fun a w'=>∃(i:Nat) (ko:Option Addr) (kc:Nat) (kl:List DD),(i≤ds.length)∧(kl.map DD.x=(own.take i).map fun z=>(Ck P z ad).1)∧(∀j,j<i→(Ck P (KQ own j) ad).2=0)∧Sv 104 [{ target:=.fn (.func 49) #[pt Gx,pt Gz],args:=#[] }] [(53,.int .i64 ((i:Int))),(14,.slice ko i kc),(51,.slice ao ds.length ac),(52,.int .i64 ((ds.length:Nat))),(41,.slice ao ds.length ac),(42,.int .i64 ((ds.length:Nat))),(43,.bool false),(13,.slice ao36 ((Be x)).length cap36),(40,.slice ao36 ((Be x)).length cap36),(39,Bu x),(12,pt Ds),(23,.slice ao ds.length ac),(24,.int .i64 joint),(25,.int .i64 ad),(26,.bool true),(27,.bool false),(28,.bool false),(29,Ao sa po (.slice vo ks.length vc_)),(30,.bool true),(31,.bool false),(32,.bool false),(22,.func (.func 49) #[] #[pt Gx,pt Gz]),(11,pt Gz),(10,pt Gx),(9,pt SY),(5,pt SV),(0,Ao sa po (.slice vo ks.length vc_)),(1,.slice ao ds.length ac),(2,.int .i64 joint),(3,.int .i64 ad),(4,Bu x)] a∧w.grownBy w' none∧w'.heap[SV]?=some (.cells ([bv sa,bv po,[.slice vo ks.length vc_]].flatten).toArray 36 (0,0))∧w'.heap[SY]?=some (.cells (vc x).toArray 25 (0,0))∧w'.heap[Gx]?=some (.cells (([[.int .i64 0],[.slice none 0 0],[.int .i64 0],[.slice none 0 0],[.slice none 0 0],bv AS].flatten)).toArray 31 (0,0))∧w'.heap[Gz]?=some (.cells ([.int .i64 0]).toArray 38 (0,0))∧w'.heap[Ds]?=some (.cells ([[.int .i64 ad],[.slice ao29 ds.length cap29],[.int .i64 joint],[.slice none 0 0],[.slice none 0 0],bv AS].flatten).toArray 31 (0,0))∧RdK w' (.slice vo ks.length vc_) ks∧RdD w' (.slice ao ds.length ac) ds∧Own w' 23 32 (.slice ao29 ds.length cap29) ds.length (ds.flatMap Jo)∧Own w' 5 1 (.slice ao36 ((Be x)).length cap36) (((Be x)).length) (bv ((Be x)))∧Own w' 23 32 (.slice ko i kc) i (kl.flatMap Jo)∧(∀k,BO (.slice ko i kc) k→k≠SV)∧(∀k,BO (.slice ko i kc) k→k≠SY)∧(∀k,BO (.slice ko i kc) k→k≠Gx)∧(∀k,BO (.slice ko i kc) k→k≠Gz)∧(∀k,BO (.slice ko i kc) k→k≠Ds)∧(∀k,Je (.slice vo ks.length vc_) ks k→¬BO (.slice ko i kc) k)∧(∀k,BO (.slice ao ds.length ac) k→¬BO (.slice ko i kc) k)∧(∀k,BO (.slice ao29 ds.length cap29) k→¬BO (.slice ko i kc) k)∧(∀k,BO (.slice ko i kc) k→¬BO (.slice ao29 ds.length cap29) k)∧(∀k,BO (.slice ao36 ((Be x)).length cap36) k→¬BO (.slice ko i kc) k)∧(∀k,BO (.slice ko i kc) k→¬BO (.slice ao36 ((Be x)).length cap36) k)∧(∀k,BO (.slice ko i kc) k→w.heap.size≤k)) (fun a _=>(ds.length-intOf (a.tmps.getD 53 undef)).toNat) ⟨0,none,0,[],Nat.zero_le _,rfl,fun j hj=>by omega,⟨EE.1,EE.2.1,EE.2.2.2.2.1,EE.2.2.2.2.2.1,EE.2.2.1,EE.2.2.2.1,EE.2.2.2.2.2.2.1,EE.2.2.2.2.2.2.2.1,(AK EE).1,(AK EE).2.1,(AK EE).2.2.1,(AK EE).2.2.2.1,(AK EE).2.2.2.2.1,(AK EE).2.2.2.2.2.1,(AK EE).2.2.2.2.2.2.1,(AK EE).2.2.2.2.2.2.2.1,(AK (AK EE)).1,(AK (AK EE)).2.1,(AK (AK EE)).2.2.1,(AK (AK EE)).2.2.2.1,(AK (AK EE)).2.2.2.2.1,(AK (AK EE)).2.2.2.2.2.1,(AK (AK EE)).2.2.2.2.2.2.1,(AK (AK EE)).2.2.2.2.2.2.2.1,(AK (AK (AK EE))).1,(AK (AK (AK EE))).2.1,(AK (AK (AK EE))).2.2.1,(AK (AK (AK EE))).2.2.2.1,(AK (AK (AK EE))).2.2.2.2.1,(AK (AK (AK EE))).2.2.2.2.2.1,(AK (AK (AK EE))).2.2.2.2.2.2.1,(AK (AK (AK EE))).2.2.2.2.2.2.2.1,(AK (AK (AK (AK EE)))).1,AIo⟩,HG,BC,BJ,Af,Aj,Ac,hr,ho,oc,op,okk,Hw,Hx,Du,Dv,Cl,ap_hr_okk,ap_ho_okk,ap_oc_okk,ap_okk_oc,ap_op_okk,ap_okk_op,lo_okk⟩ fun a61 w61 hI61=>?_
     clear BC
     clear BJ
     clear Af
     clear Aj
     clear Ac
     clear hr
     clear ho
     clear oc
     clear op
     clear okk
     clear HG
     obtain⟨i,ko,kc,kl,hin,hkl,hok,Mz,HG,BC,BJ,Af,Aj,Ac,hr,ho,oc,op,okk,Hw,Hx,Du,Dv,Cl,ap_hr_okk,ap_ho_okk,ap_oc_okk,ap_okk_oc,ap_op_okk,ap_okk_op,lo_okk⟩:=hI61
     refine AIi fun K62 k62=>?_
     by_cases hi:i<ds.length
     · obtain⟨y,hx_y⟩:∃zx,ds[i]'hi=zx:=⟨_,rfl⟩
       have hla:KQ own i=y.x:=by rw[←hown,KR hi,hx_y]
       obtain⟨kx,hkx⟩:∃q,Ck P y.x ad=q:=⟨_,rfl⟩
       have hkd:Dg kx.1:=hkx▸PB hnok
       refine AIh ?_
       refine AL Mz 1 [(54,.bool true)]
         ⟨Hl r7 (fun _=>Ba (by simp;omega)),AIo⟩ fun a63 w63 g63 Z6=>?_
       refine AE ?_
       refine k62 _ _ ?_
       refine AIi fun K64 k64=>?_
       refine Ap Z6 rfl rfl ?_
       refine AIm ?_
       refine k64 _ _ ?_
       refine AIi fun K65 k65=>?_
       refine BB fun Q66 x66 y66 rt66 o66=>?_
       refine AIi fun K67 k67=>?_
       refine AIh ?_
       replace ho:=ho.kn g63
       refine AL Z6 2 [(55,pk ((bO ao)) (oO ao+i*32)),(56,AO y.x)]
         ⟨BD rq8 (fun w=>CM Tryz.underlying28 (by kernel_rfl) (ho.1) (by omega) (rfl) w),Bv r6 (fun _ g=>Ae (Bn y.x y.h.1) (by have:=Cz (ho.kn g).1 Fe hi (by decide);rw[hx_y] at this;exact this)),AIo⟩ fun a68 w68 g68 MJ=>?_
       replace BC:=AC g68 (AC g63 BC)
       replace BJ:=AC g68 (AC g63 BJ)
       replace Af:=AC g68 (AC g63 Af)
       replace Aj:=AC g68 (AC g63 Aj)
       replace Ac:=AC g68 (AC g63 Ac)
       replace hr:=(hr.kn g63).kn g68
       replace ho:=ho.kn g68
       replace oc:=(oc.kn g63).kn g68
       replace op:=(op.kn g63).kn g68
       replace okk:=(okk.kn g63).kn g68
       replace HG:=AA (AA HG g63) g68
       refine As (T:=23) (Z:=(bv AS)) MJ rfl rfl rfl (fun a w=>by kernel_rfl) fun a69 w69 AHy De g69 z69 SZ AHA=>?_
       have PC:=Ar BC De
       have PD:=Ar BJ De
       have Nn:=Ar Af De
       have No:=Ar Aj De
       have M5:=Ar Ac De
       have Z7:=Bq HG De
       have Sa:=Ax (hr.lt) De
       have Sb:=Ax (ho.lt) De
       have Sc:=Ax (Own.ltS oc) De
       have Se:=Ax (Own.ltS op) De
       have QJ:=Ax (Own.ltS okk) De
       refine An AHA r7 (Bn y.x y.h.1) SZ (F5 y.h) fun w70 g70 h70=>?_
       replace BC:=Ab g70 (AC g69 BC) (Ne.symm PC)
       replace hr:=(hr.kn g69).offR g70 (AU Sa)
       replace SZ:=h70
       refine AE ?_
       refine k67 _ _ ?_
       refine AIi fun K71 k71=>?_
       refine AIh ?_
       refine AL AHA 7 [(58,Ao sa po (.slice vo ks.length vc_)),(59,AO y.x),(60,.int .i64 ad),(61,.tuple #[AO kx.1,.int .i64 kx.2]),(57,.tuple #[AO kx.1,.int .i64 kx.2]),(62,AO kx.1),(63,.int .i64 kx.2)]
         ⟨yl r6 (BX hsa hpo (.slice vo ks.length vc_) rfl) BC,yl r6 (Bn y.x y.h.1) SZ,ym r5,Ad [Ao sa po (.slice vo ks.length vc_),AO y.x,.int .i64 ad] Tryz.func32 (by kernel_rfl) rq4 ⟨(oy rfl rfl),(oy rfl rfl),(oy rfl rfl),AIo⟩ (Aq fun W g=>ABw hsa hpo y.h (hr.kn g) hP hkx),ym r5,BH rq4 (fun _ _ h=>⟨_,_,h,rfl,rfl⟩),BH rq4 (fun _ _ h=>⟨_,_,h,rfl,rfl⟩),AIo⟩ fun a72 w72 g72 AD3=>?_
       replace BC:=AC g72 BC
       replace BJ:=AC g72 (Ab g70 (AC g69 BJ) (Ne.symm PD))
       replace Af:=AC g72 (Ab g70 (AC g69 Af) (Ne.symm Nn))
       replace Aj:=AC g72 (Ab g70 (AC g69 Aj) (Ne.symm No))
       replace Ac:=AC g72 (Ab g70 (AC g69 Ac) (Ne.symm M5))
       replace hr:=hr.kn g72
       replace ho:=((ho.kn g69).offR g70 (AU Sb)).kn g72
       replace oc:=((oc.kn g69).offR g70 (AU Sc)).kn g72
       replace op:=((op.kn g69).offR g70 (AU Se)).kn g72
       replace okk:=((okk.kn g69).offR g70 (AU QJ)).kn g72
       replace HG:=AA (AD (AA HG g69) g70 Z7) g72
       refine As (T:=23) (Z:=(bv AS)) AD3 rfl rfl rfl (fun a w=>by kernel_rfl) fun a73 w73 AHz Df g73 z73 Sf ABx=>?_
       have PE:=Ar BC Df
       have PF:=Ar BJ Df
       have Np:=Ar Af Df
       have Nq:=Ar Aj Df
       have M6:=Ar Ac Df
       have Z8:=Bq HG Df
       have Sg:=Ax (hr.lt) Df
       have Sh:=Ax (ho.lt) Df
       have Si:=Ax (Own.ltS oc) Df
       have Sj:=Ax (Own.ltS op) Df
       have QK:=Ax (Own.ltS okk) Df
       refine An ABx r7 (Bn kx.1 hkd.1) Sf (F5 hkd) fun w74 g74 h74=>?_
       replace BC:=Ab g74 (AC g73 BC) (Ne.symm PE)
       replace BJ:=Ab g74 (AC g73 BJ) (Ne.symm PF)
       replace Af:=Ab g74 (AC g73 Af) (Ne.symm Np)
       replace Aj:=Ab g74 (AC g73 Aj) (Ne.symm Nq)
       replace Ac:=Ab g74 (AC g73 Ac) (Ne.symm M6)
       replace hr:=(hr.kn g73).offR g74 (AU Sg)
       replace ho:=(ho.kn g73).offR g74 (AU Sh)
       replace oc:=(oc.kn g73).offR g74 (AU Si)
       replace op:=(op.kn g73).offR g74 (AU Sj)
       replace okk:=(okk.kn g73).offR g74 (AU QK)
       replace HG:=AD (AA HG g73) g74 Z8
       replace Sf:=h74
       refine Aa (v:=.int .i64 kx.2) ABx r6 fun a75 AFz=>?_
       have AD4:Sv _ _ [_,_,_,_,_,_,_,_,_,_,_,_,_,_,_,_,_,_,_,_,_,_,_,_,_,_,_,_,_,_,_,_,_,_,_,_,_] _:=AFz.dl [58,59,60,61,57,62,63]
       refine AE ?_
       refine k71 _ _ ?_
       refine AIi fun K77 k77=>?_
       refine AIi fun K78 k78=>?_
       by_cases he:kx.2=0
       · have hkl1:=RQ hkl (by omega) hla hkx (hkd:=hkd)
         have hok1:∀j,j<i+1→(Ck P (KQ own j) ad).2=0:=fun j hj=>if e:j=i then (by rw[e,hla,hkx];exact he) else hok j (by omega)
         refine AIh ?_
         refine AL AD4 2 [(64,.int .i64 kx.2),(65,.bool false)]
           ⟨ym r5,Cm r6 (fun _=>Eb (by simpa using he)),AIo⟩ fun a79 w79 g79 QL=>?_
         refine AE ?_
         refine k78 _ _ ?_
         refine Au QL rfl rfl ?_
         refine AIm ?_
         refine k77 _ _ ?_
         refine AIh ?_
         refine AL QL 2 [(68,.slice ko i kc),(69,AO kx.1)]
           ⟨ym r5,yl r6 (Bn kx.1 hkd.1) (AC g79 Sf),AIo⟩ fun a80 w80 g80 AH0=>?_
         have PG:=AA g79 g80
         refine MF (cs:=bv kx.1) (e:=23) AH0 rfl rfl rfl rfl rfl rfl (Zy hkd) fun a81 w81 AH1 AGO g81 z81 AD5 AH2=>?_
         replace BC:=AC g81 (AC PG BC)
         replace BJ:=AC g81 (AC PG BJ)
         replace Af:=AC g81 (AC PG Af)
         replace Aj:=AC g81 (AC PG Aj)
         replace Ac:=AC g81 (AC PG Ac)
         replace hr:=(hr.kn PG).kn g81
         replace ho:=(ho.kn PG).kn g81
         replace oc:=(oc.kn PG).kn g81
         replace op:=(op.kn PG).kn g81
         replace okk:=(okk.kn PG).kn g81
         replace HG:=AA (AA HG PG) g81
         refine LM dsT AH2 rfl rfl rfl rfl rfl rfl rfl rfl okk (KU AD5 hkd) (Fj _) (by omega) fun a82 ao82 cap82 w82 owx82 CR Z9=>?_
         have QM:=JI CR.2 Hw BC
         have QN:=JI CR.2 Hx BJ
         have PH:=JI CR.2 Du Af
         have PI:=JI CR.2 Dv Aj
         have Nr:=JI CR.2 Cl Ac
         have Uy:=JJ CR.2 ap_hr_okk (hr.lt)
         have Uz:=JJ CR.2 ap_ho_okk (ho.lt)
         have NT:=JJ CR.2 ap_oc_okk (Own.ltS oc)
         have NU:=JJ CR.2 ap_op_okk (Own.ltS op)
         have ap_owx82_oc:=ABA NT
         have ap_owx82_op:=ABA NU
         have ABy:=WV CR.2 lo_okk HG
         replace BC:=AF CR.1 BC (fun e=>Hw _ e.symm rfl)
         replace BJ:=AF CR.1 BJ (fun e=>Hx _ e.symm rfl)
         replace Af:=AF CR.1 Af (fun e=>Du _ e.symm rfl)
         replace Aj:=AF CR.1 Aj (fun e=>Dv _ e.symm rfl)
         replace Ac:=AF CR.1 Ac (fun e=>Cl _ e.symm rfl)
         replace hr:=hr.offR CR.1 (fun k hk e=>ap_hr_okk k hk (e))
         replace ho:=ho.offR CR.1 (fun k hk e=>ap_ho_okk k hk (e))
         replace oc:=oc.offR CR.1 (fun k hk e=>ap_oc_okk k hk (e))
         replace op:=op.offR CR.1 (fun k hk e=>ap_op_okk k hk (e))
         replace HG:=CJ HG CR.1 fun k e=>lo_okk k (e)
         rw[SU kl ⟨kx.1,hkd⟩] at owx82
         refine Aa (v:=.slice ao82 (i+1) cap82) Z9 r6 fun a83 AD6=>?_
         have AAA:Sv _ _ [_,_,_,_,_,_,_,_,_,_,_,_,_,_,_,_,_,_,_,_,_,_,_,_,_,_,_,_,_,_,_,_,_,_,_,_,_,_,_] _:=AD6.dl [71,70,68,69]
         refine AE ?_
         refine y66 _ _ ?_
         refine k65 _ _ ?_
         refine AIh ?_
         refine AL AAA 1 [(72,.int .i64 (((i+1:Nat):Int)))]
           ⟨Cm r6 (fun _=>C4 (by rw[A1 (by omega) (by omega)];omega)),AIo⟩ fun a85 w85 g85 AF0=>?_
         refine AL (AF0.dl [53]) 1 [(53,.int .i64 (((i+1:Nat):Int)))]
           ⟨ym r5,AIo⟩ fun a86 w86 g86 EB=>?_
         have PJ:=AA g85 g86
         refine AE ?_
         replace BC:=AC PJ BC
         replace BJ:=AC PJ BJ
         replace Af:=AC PJ Af
         replace Aj:=AC PJ Aj
         replace Ac:=AC PJ Ac
         replace hr:=hr.kn PJ
         replace ho:=ho.kn PJ
         replace oc:=oc.kn PJ
         replace op:=op.kn PJ
         replace owx82:=owx82.kn PJ
         replace HG:=AA HG PJ
         exact⟨⟨i+1,ao82,cap82,(kl++[⟨kx.1,hkd⟩]),by omega,hkl1,hok1,⟨EB.1,EB.2.1,EB.2.2.1,EB.2.2.2.2.1,(AK EB).2.2.2.2.2.1,(AK EB).2.2.2.2.2.2.1,(AK EB).2.2.2.2.2.2.2.1,(AK (AK EB)).1,(AK (AK EB)).2.1,(AK (AK EB)).2.2.1,(AK (AK EB)).2.2.2.1,(AK (AK EB)).2.2.2.2.1,(AK (AK EB)).2.2.2.2.2.1,(AK (AK EB)).2.2.2.2.2.2.1,(AK (AK EB)).2.2.2.2.2.2.2.1,(AK (AK (AK EB))).1,(AK (AK (AK EB))).2.1,(AK (AK (AK EB))).2.2.1,(AK (AK (AK EB))).2.2.2.1,(AK (AK (AK EB))).2.2.2.2.1,(AK (AK (AK EB))).2.2.2.2.2.1,(AK (AK (AK EB))).2.2.2.2.2.2.1,(AK (AK (AK EB))).2.2.2.2.2.2.2.1,(AK (AK (AK (AK EB)))).1,(AK (AK (AK (AK EB)))).2.1,(AK (AK (AK (AK EB)))).2.2.1,(AK (AK (AK (AK EB)))).2.2.2.1,(AK (AK (AK (AK EB)))).2.2.2.2.1,(AK (AK (AK (AK EB)))).2.2.2.2.2.1,(AK (AK (AK (AK EB)))).2.2.2.2.2.2.1,(AK (AK (AK (AK EB)))).2.2.2.2.2.2.2.1,(AK (AK (AK (AK (AK EB))))).1,(AK (AK (AK (AK (AK EB))))).2.1,AIo⟩,HG,BC,BJ,Af,Aj,Ac,hr,ho,oc,op,owx82,QM,QN,PH,PI,Nr,Uy,Uz,NT,ap_owx82_oc,NU,ap_owx82_op,ABy⟩,by rw[show _=_ from EB.2.2.1,show _=_ from Mz.2.2.1];simp[intOf];omega⟩
       · have hke:=KT (P:=P) (a:=ad) (own:=own) (i:=i) (by omega) hok (by rw[hla,hkx];exact he)
         rw[hla,hkx] at hke
         refine AIh ?_
         refine AL AD4 2 [(64,.int .i64 kx.2),(65,.bool true)]
           ⟨ym r5,Cm r6 (fun _=>Eb (by simpa using he)),AIo⟩ fun a87 w87 g87 AHB=>?_
         refine AE ?_
         refine k78 _ _ ?_
         refine Ap AHB rfl rfl ?_
         refine AIi fun K88 k88=>?_
         refine AIh ?_
         replace Af:=AC g87 Af
         refine AL AHB 2 [(66,CP 0 (.slice none 0 0) 0 (.slice none 0 0) (.slice none 0 0) AS),(67,.int .i64 kx.2)]
           ⟨BI (vs:=[]) rfl rfl trivial trivial (fun _=>ADw _) (fun _=>rfl),ym r5,AIo⟩ fun a89 w89 g89 AD7=>?_
         refine An AD7 r7 (EU _ _ AR (.slice none 0 0) (.slice none 0 0) (.slice none 0 0) rfl rfl rfl) (AC g89 Af) (Ek AR AR) fun w90 g90 h90=>?_
         replace Aj:=Ak g89 g90 (AC g87 Aj) Bf
         refine An AD7 r7 (Ed kx.2) Aj rfl fun w91 g91 h91=>?_
         replace BC:=Ab g91 (Ak g89 g90 (AC g87 BC) (Ne.symm D4)) (Ne.symm D8)
         replace BJ:=Ab g91 (Ak g89 g90 (AC g87 BJ) (Ne.symm D5)) (Ne.symm D9)
         replace Af:=Ab g91 h90 (Ne.symm Bf)
         replace Ac:=Ab g91 (Ak g89 g90 (AC g87 Ac) Bw) Bz
         replace hr:=(((hr.kn g87).kn g89).offR g90 (AU Eu)).offR g91 (AU Ew)
         replace ho:=(((ho.kn g87).kn g89).offR g90 (AU Ev)).offR g91 (AU Ey)
         replace oc:=(((oc.kn g87).kn g89).offR g90 (AU Hs)).offR g91 (AU Ht)
         replace op:=(((op.kn g87).kn g89).offR g90 (AU Hu)).offR g91 (AU Hv)
         replace okk:=(((okk.kn g87).kn g89).offR g90 (AU Du)).offR g91 (AU Dv)
         replace HG:=AD (AD (AA (AA HG g87) g89) g90 Gy) g91 G0
         replace Aj:=h91
         refine AE ?_
         refine k88 _ _ ?_
         refine AIl ?_
         repeat refine AM ?_
         refine rt66 _ _ ?_
         repeat refine AM ?_
         refine rt60 _ _ ?_
         repeat refine AM ?_
         refine BK (fn:=Tryz.f20) AD7 (BQ (p:=10) (q:=11) Tryz.results20 AD7 rfl rfl rfl rfl (EU _ _ AR (.slice none 0 0) (.slice none 0 0) (.slice none 0 0) rfl rfl rfl) (Ed kx.2) Af Aj) (Bl Tryz.func49 (by kernel_rfl) rfl _ _) (Dr _ _ _) ?_
         exact SRes.zero (Zx hh hv hne hke he) HG
     · obtain⟨hK1,hK2⟩:=Jt (P:=P) (a:=ad) (own:=own) fun j hj=>hok j (by omega)
       have hkm:kl.map DD.x=(Cb P ad own).1:=by rw[hK1,hkl,List.take_of_length_le (by omega)]
       refine AIh ?_
       refine AL Mz 1 [(54,.bool false)]
         ⟨Hl r7 (fun _=>Ba (by simp;omega)),AIo⟩ fun a92 w92 g92 ABz=>?_
       refine AE ?_
       refine k62 _ _ ?_
       refine AIi fun K93 k93=>?_
       refine Au ABz rfl rfl ?_
       refine wp_exit ?_
       repeat refine CD ?_
       refine x60 _ _ ?_
       refine k57 _ _ ?_
       refine AIi fun K94 k94=>?_
       have hkll:kl.length=i:=by have:=congrArg List.length hkl;simpa using this.trans (by rw[List.length_map,List.length_take];omega)
       obtain⟨ck,hcke⟩:∃c,Ta (decide (joint=1)) (kl.map DD.x)=c:=⟨_,rfl⟩
       have hck:Dg ck:=hcke▸M2 _ _
       refine AIh ?_
       refine AL ABz 2 [(73,.int .i64 joint),(74,.slice ko i kc)]
         ⟨ym r5,ym r5,AIo⟩ fun a95 w95 g95 AH3=>?_
       replace okk:=(okk.kn g92).kn g95
       refine BU AH3 Tryz.func55 (by kernel_rfl) r6 (O4 (ABv hkll (Own.sb okk) (by omega) hcke)) fun a96 v96 w96 hR96 AD8=>?_
       obtain⟨rfl,g96⟩:=hR96
       replace BC:=AC g96 (AC g95 (AC g92 BC))
       replace BJ:=AC g96 (AC g95 (AC g92 BJ))
       replace Af:=AC g96 (AC g95 (AC g92 Af))
       replace Aj:=AC g96 (AC g95 (AC g92 Aj))
       replace Ac:=AC g96 (AC g95 (AC g92 Ac))
       replace hr:=((hr.kn g92).kn g95).kn g96
       replace ho:=((ho.kn g92).kn g95).kn g96
       replace oc:=((oc.kn g92).kn g95).kn g96
       replace op:=((op.kn g92).kn g95).kn g96
       replace okk:=okk.kn g96
       replace HG:=AA (AA (AA HG g92) g95) g96
       refine As (T:=23) (Z:=(bv AS)) AD8 rfl rfl rfl (fun a w=>by kernel_rfl) fun a97 w97 PK Dh g97 z97 Bt AB0=>?_
       have PL:=Ar BC Dh
       have PM:=Ar BJ Dh
       have JE:=Ar Af Dh
       have JF:=Ar Aj Dh
       have Di:=Ar Ac Dh
       have AAB:=Bq HG Dh
       have Sk:=Ax (hr.lt) Dh
       have Sm:=Ax (ho.lt) Dh
       have Sn:=Ax (Own.ltS oc) Dh
       have So:=Ax (Own.ltS op) Dh
       have QO:=Ax (Own.ltS okk) Dh
       refine An AB0 r7 (Bn ck hck.1) Bt (F5 hck) fun w98 g98 h98=>?_
       replace BC:=Ab g98 (AC g97 BC) (Ne.symm PL)
       replace BJ:=Ab g98 (AC g97 BJ) (Ne.symm PM)
       replace Af:=Ab g98 (AC g97 Af) (Ne.symm JE)
       replace Aj:=Ab g98 (AC g97 Aj) (Ne.symm JF)
       replace Ac:=Ab g98 (AC g97 Ac) (Ne.symm Di)
       replace hr:=(hr.kn g97).offR g98 (AU Sk)
       replace ho:=(ho.kn g97).offR g98 (AU Sm)
       replace oc:=(oc.kn g97).offR g98 (AU Sn)
       replace op:=(op.kn g97).offR g98 (AU So)
       replace okk:=(okk.kn g97).offR g98 (AU QO)
       replace HG:=AD (AA HG g97) g98 AAB
       replace Bt:=h98
       refine AE ?_
       refine k94 _ _ ?_
       refine AIi fun K99 k99=>?_
       refine AIi fun K100 k100=>?_
       rcases hjj with rfl|rfl
       · refine AIh ?_
         refine AL AB0 2 [(76,.int .i64 0),(77,.bool false)]
           ⟨ym r5,Cm r6 (fun _=>CB rfl),AIo⟩ fun a101 w101 g101 YS=>?_
         refine AE ?_
         refine k100 _ _ ?_
         refine Au YS rfl rfl ?_
         refine AIm ?_
         refine k99 _ _ ?_
         refine AIi fun K102 k102=>?_
         refine AIh ?_
         refine AL YS 2 [(93,.slice ao36 ((Be x)).length cap36),(94,AO ck)]
           ⟨ym r5,yl r6 (Bn ck hck.1) (AC g101 Bt),AIo⟩ fun a103 w103 g103 YT=>?_
         have JG:=AA g101 g103
         replace Af:=AC JG Af
         replace Aj:=AC JG Aj
         replace Ac:=AC JG Ac
         replace op:=op.kn JG
         replace HG:=AA HG JG
         refine BU YT Tryz.func57 (by kernel_rfl) r6 (RO (I4 (Be x) (Hr x) (by have:=Ga x;omega) _ _ ck hck _ (Own.sb op))) fun a104 v104 w104 hR104 AB1=>?_
         obtain⟨ao104,cap104,rfl,_⟩:=(Sl.of_own hR104.1).shape
         obtain⟨ow104,fr104⟩:=hR104
         replace fr104:=Dx fr104
         have oy_:=ow104
         clear ow104
         have g104:=fr104.1
         replace fr104:=fr104.2
         have I5:=CF fr104 Af
         have I6:=CF fr104 Aj
         have Ei:=CF fr104 Ac
         have lo_oy_:=JC HG fr104
         replace Ac:=AC g104 Ac
         refine AL AB1 1 [(96,pk Ds 4)]
           ⟨yf r6 (fun _=>by kernel_rfl),AIo⟩ fun a105 w105 g105 YU=>?_
         refine Jc (L:=[[.int .i64 ad],[.slice ao29 ds.length cap29],[.int .i64 0],[.slice none 0 0],[.slice none 0 0],bv AS]) (i:=4) YU r7 (F9 (.slice ao104 ((IX (Be x) ck)).length cap104) rfl) (AC g105 Ac) rfl rfl rfl fun w106 g106 h106=>?_
         replace Bt:=Ak g105 g106 (AC g104 (AC JG Bt)) Di
         replace Ac:=h106
         have AB2:Sv _ _ [_,_,_,_,_,_,_,_,_,_,_,_,_,_,_,_,_,_,_,_,_,_,_,_,_,_,_,_,_,_,_,_,_,_,_,_,_,_] _:=YU.dl [96,95,93,94]
         refine AE ?_
         refine k102 _ _ ?_
         refine AIi fun K108 k108=>?_
         refine AIh ?_
         refine AL AB2 4 [(97,AO ck),(98,.int .i64 ad),(99,pk Ds 4),(100,.slice ao104 ((IX (Be x) ck)).length cap104)]
           ⟨yl r6 (Bn ck hck.1) Bt,ym r5,yf r6 (fun _=>by kernel_rfl),yp (i:=4) r6 (F9 (.slice ao104 ((IX (Be x) ck)).length cap104) rfl) Ac rfl rfl,AIo⟩ fun a109 w109 g109 AB3=>?_
         replace oy_:=((oy_.kn g105).offR g106 (AU Ei)).kn g109
         refine BU AB3 Tryz.func58 (by kernel_rfl) r6 (O4 (Fg ck hck ad hia (IX (Be x) ck) (O7 _ (Hr x)) (by have:=Ga x;rw[I3];omega) _ _ _ (Own.sb oy_))) fun a110 v110 w110 hR110 HH=>?_
         obtain⟨rfl,g110⟩:=hR110
         replace Ac:=AC g110 (AC g109 Ac)
         have YV:Sv _ _ [_,_,_,_,_,_,_,_,_,_,_,_,_,_,_,_,_,_,_,_,_,_,_,_,_,_,_,_,_,_,_,_,_,_,_,_,_,_,_] _:=HH.dl [97,98,99,100]
         refine AL YV 1 [(102,pk Ds 5)]
           ⟨yf r6 (fun _=>by kernel_rfl),AIo⟩ fun a112 w112 g112 AEn=>?_
         refine Jc (L:=[[.int .i64 ad],[.slice ao29 ds.length cap29],[.int .i64 0],[.slice none 0 0],[.slice ao104 ((IX (Be x) ck)).length cap104],bv AS]) (i:=5) AEn r7 (Bn ((Tc ck ad (IX (Be x) ck))) (Dq _ _ _).1) (AC g112 Ac) rfl rfl (Xt AR (Dq _ _ _)) fun w113 g113 h113=>?_
         replace Af:=Ak g112 g113 (AC g110 (AC g109 (Ak g105 g106 (AC g104 Af) (Ne.symm Bw)))) (Ne.symm Bw)
         replace Ac:=h113
         refine AE ?_
         refine k108 _ _ ?_
         refine AIi fun K114 k114=>?_
         refine AIh ?_
         refine AL AEn 1 [(103,CP ad (.slice ao29 ds.length cap29) 0 (.slice none 0 0) (.slice ao104 ((IX (Be x) ck)).length cap104) ((Tc ck ad (IX (Be x) ck))))]
           ⟨yl r6 (EU _ _ (Dq _ _ _) (.slice ao29 ds.length cap29) (.slice none 0 0) (.slice ao104 ((IX (Be x) ck)).length cap104) rfl rfl rfl) Ac,AIo⟩ fun a115 w115 g115 PN=>?_
         refine An PN r7 (EU _ _ (Dq _ _ _) (.slice ao29 ds.length cap29) (.slice none 0 0) (.slice ao104 ((IX (Be x) ck)).length cap104) rfl rfl rfl) (AC g115 Af) (Ek AR (Dq _ _ _)) fun w116 g116 h116=>?_
         replace Aj:=Ak g115 g116 (Ak g112 g113 (AC g110 (AC g109 (Ak g105 g106 (AC g104 Aj) (Ne.symm Bz)))) (Ne.symm Bz)) Bf
         refine An PN r7 (Ed 0) Aj rfl fun w117 g117 h117=>?_
         replace BC:=Ab g117 (Ak g115 g116 (Ak g112 g113 (AC g110 (AC g109 (Ak g105 g106 (AC g104 (AC JG BC)) (Ne.symm Dc)))) (Ne.symm Dc)) (Ne.symm D4)) (Ne.symm D8)
         replace BJ:=Ab g117 (Ak g115 g116 (Ak g112 g113 (AC g110 (AC g109 (Ak g105 g106 (AC g104 (AC JG BJ)) (Ne.symm Dd)))) (Ne.symm Dd)) (Ne.symm D5)) (Ne.symm D9)
         replace Af:=Ab g117 h116 (Ne.symm Bf)
         replace Ac:=Ab g117 (Ak g115 g116 Ac Bw) Bz
         replace Bt:=Ab g117 (Ak g115 g116 (Ak g112 g113 (AC g110 (AC g109 Bt)) Di) JE) JF
         replace hr:=((((((((((hr.kn JG).kn g104).kn g105).offR g106 (AU EV)).kn g109).kn g110).kn g112).offR g113 (AU EV)).kn g115).offR g116 (AU Eu)).offR g117 (AU Ew)
         replace ho:=((((((((((ho.kn JG).kn g104).kn g105).offR g106 (AU EW)).kn g109).kn g110).kn g112).offR g113 (AU EW)).kn g115).offR g116 (AU Ev)).offR g117 (AU Ey)
         replace oc:=((((((((((oc.kn JG).kn g104).kn g105).offR g106 (AU DL)).kn g109).kn g110).kn g112).offR g113 (AU DL)).kn g115).offR g116 (AU Hs)).offR g117 (AU Ht)
         replace op:=(((((((((op.kn g104).kn g105).offR g106 (AU Dt)).kn g109).kn g110).kn g112).offR g113 (AU Dt)).kn g115).offR g116 (AU Hu)).offR g117 (AU Hv)
         replace okk:=((((((((((okk.kn JG).kn g104).kn g105).offR g106 (AU Cl)).kn g109).kn g110).kn g112).offR g113 (AU Cl)).kn g115).offR g116 (AU Du)).offR g117 (AU Dv)
         replace oy_:=(((((oy_.kn g110).kn g112).offR g113 (AU Ei)).kn g115).offR g116 (AU I5)).offR g117 (AU I6)
         replace HG:=AD (AD (AA (AD (AA (AA (AA (AD (AA (AA HG g104) g105) g106 E0) g109) g110) g112) g113 E0) g115) g116 Gy) g117 G0
         replace Aj:=h117
         refine AE ?_
         refine k114 _ _ ?_
         refine AIl ?_
         repeat refine AM ?_
         refine BK (fn:=Tryz.f20) PN (BQ (p:=10) (q:=11) Tryz.results20 PN rfl rfl rfl rfl (EU _ _ (Dq _ _ _) (.slice ao29 ds.length cap29) (.slice none 0 0) (.slice ao104 ((IX (Be x) ck)).length cap104) rfl rfl rfl) (Ed 0) Af Aj) (Bl Tryz.func49 (by kernel_rfl) rfl _ _) (Dr _ _ _) ?_
         exact SRes.mk (own:=ds) (wr:=[]) (Fu hh hv hne hK2 hkm hcke) rfl rfl rfl hown rfl oc (Own.nil _ _ _) oy_ lo_oc (fun k hk=>by simp[BO,Value.ownBlock] at hk) lo_oy_ (fun k _ hk=>by simp[BO,Value.ownBlock] at hk) (Dq _ _ _) (O7 _ (Hr x)) HG rfl
       · refine AIh ?_
         refine AL AB0 2 [(76,.int .i64 1),(77,.bool true)]
           ⟨ym r5,Cm r6 (fun _=>CB rfl),AIo⟩ fun a118 w118 g118 AEo=>?_
         refine AE ?_
         refine k100 _ _ ?_
         refine Ap AEo rfl rfl ?_
         refine AIi fun K119 k119=>?_
         refine AIh ?_
         refine AL AEo 3 [(78,.slice ko i kc),(79,.int .i64 ((i:Nat))),(80,.int .i64 0)]
           ⟨ym r5,Bk (Tryz.underlying28) rfl rfl trivial (oy rfl rfl) (fun _=>rfl),EI (.inl rfl) rfl trivial (fun _=>rfl),AIo⟩ fun a120 w120 g120 CQ=>?_
         have JH:=AA g118 g120
         refine AE ?_
         refine k119 _ _ ?_
         refine BB fun Q121 x121 y121 rt121 o121=>?_
         replace BC:=AC JH BC
         replace BJ:=AC JH BJ
         replace Af:=AC JH Af
         replace Aj:=AC JH Aj
         replace Ac:=AC JH Ac
         replace Bt:=AC JH Bt
         replace hr:=hr.kn JH
         replace ho:=ho.kn JH
         replace oc:=oc.kn JH
         replace op:=op.kn JH
         replace okk:=okk.kn JH
         replace HG:=AA HG JH
         have ow:=Own.nil w120 23 32
         have I7:=JK SV
         have I8:=JK SY
         have Fv:=JK Gx
         have Fw:=JK Gz
         have EX:=JK Ds
         have GO:=JK PK
         have ap_hr_ow:=JL (Je (.slice vo ks.length vc_) ks)
         have ap_ho_ow:=JL (BO (.slice ao ds.length ac))
         have ap_oc_ow:=JL (BO (.slice ao29 ds.length cap29))
         have ap_ow_oc:=ABB (BO (.slice ao29 ds.length cap29))
         have ap_op_ow:=JL (BO (.slice ao36 ((Be x)).length cap36))
         have ap_ow_op:=ABB (BO (.slice ao36 ((Be x)).length cap36))
         have ap_okk_ow:=JL (BO (.slice ko i kc))
         have ap_ow_okk:=ABB (BO (.slice ko i kc))
         have lo_ow:=ZU w
         refine wp_loop (fun a w'=>∃(j:Nat) (wo:Option Addr) (wc:Nat),(j≤i)∧Sv 104 [{ target:=.fn (.func 49) #[pt Gx,pt Gz],args:=#[] }] [(80,.int .i64 ((j:Int))),(78,.slice ko i kc),(79,.int .i64 ((i:Nat))),(76,.int .i64 1),(77,.bool true),(19,pt PK),(75,AO ck),(73,.int .i64 1),(74,.slice ko i kc),(54,.bool false),(53,.int .i64 ((i:Int))),(14,.slice ko i kc),(51,.slice ao ds.length ac),(52,.int .i64 ((ds.length:Nat))),(41,.slice ao ds.length ac),(42,.int .i64 ((ds.length:Nat))),(43,.bool false),(13,.slice ao36 ((Be x)).length cap36),(40,.slice ao36 ((Be x)).length cap36),(39,Bu x),(12,pt Ds),(23,.slice ao ds.length ac),(24,.int .i64 1),(25,.int .i64 ad),(26,.bool true),(27,.bool false),(28,.bool false),(29,Ao sa po (.slice vo ks.length vc_)),(30,.bool true),(31,.bool false),(32,.bool false),(22,.func (.func 49) #[] #[pt Gx,pt Gz]),(11,pt Gz),(10,pt Gx),(9,pt SY),(5,pt SV),(0,Ao sa po (.slice vo ks.length vc_)),(1,.slice ao ds.length ac),(2,.int .i64 1),(3,.int .i64 ad),(4,Bu x)] a∧w.grownBy w' none∧w'.heap[SV]?=some (.cells ([bv sa,bv po,[.slice vo ks.length vc_]].flatten).toArray 36 (0,0))∧w'.heap[SY]?=some (.cells (vc x).toArray 25 (0,0))∧w'.heap[Gx]?=some (.cells (([[.int .i64 0],[.slice none 0 0],[.int .i64 0],[.slice none 0 0],[.slice none 0 0],bv AS].flatten)).toArray 31 (0,0))∧w'.heap[Gz]?=some (.cells ([.int .i64 0]).toArray 38 (0,0))∧w'.heap[Ds]?=some (.cells ([[.int .i64 ad],[.slice ao29 ds.length cap29],[.int .i64 1],[.slice wo j wc],[.slice none 0 0],bv AS].flatten).toArray 31 (0,0))∧w'.heap[PK]?=some (.cells (bv ck).toArray 23 (0,0))∧RdK w' (.slice vo ks.length vc_) ks∧RdD w' (.slice ao ds.length ac) ds∧Own w' 23 32 (.slice ao29 ds.length cap29) ds.length (ds.flatMap Jo)∧Own w' 5 1 (.slice ao36 ((Be x)).length cap36) (((Be x)).length) (bv ((Be x)))∧Own w' 23 32 (.slice ko i kc) i (kl.flatMap Jo)∧Own w' 23 32 (.slice wo j wc) j (((wrL ck hck kl j)).flatMap Jo)∧(∀k,BO (.slice wo j wc) k→k≠SV)∧(∀k,BO (.slice wo j wc) k→k≠SY)∧(∀k,BO (.slice wo j wc) k→k≠Gx)∧(∀k,BO (.slice wo j wc) k→k≠Gz)∧(∀k,BO (.slice wo j wc) k→k≠Ds)∧(∀k,BO (.slice wo j wc) k→k≠PK)∧(∀k,Je (.slice vo ks.length vc_) ks k→¬BO (.slice wo j wc) k)∧(∀k,BO (.slice ao ds.length ac) k→¬BO (.slice wo j wc) k)∧(∀k,BO (.slice ao29 ds.length cap29) k→¬BO (.slice wo j wc) k)∧(∀k,BO (.slice wo j wc) k→¬BO (.slice ao29 ds.length cap29) k)∧(∀k,BO (.slice ao36 ((Be x)).length cap36) k→¬BO (.slice wo j wc) k)∧(∀k,BO (.slice wo j wc) k→¬BO (.slice ao36 ((Be x)).length cap36) k)∧(∀k,BO (.slice ko i kc) k→¬BO (.slice wo j wc) k)∧(∀k,BO (.slice wo j wc) k→¬BO (.slice ko i kc) k)∧(∀k,BO (.slice wo j wc) k→w.heap.size≤k)) (fun a _=>(i-intOf (a.tmps.getD 80 undef)).toNat) ⟨0,none,0,Nat.zero_le _,⟨CQ.1,CQ.2.1,CQ.2.2.2.2.1,CQ.2.2.1,CQ.2.2.2.1,CQ.2.2.2.2.2.1,CQ.2.2.2.2.2.2.1,CQ.2.2.2.2.2.2.2.1,(AK CQ).1,(AK CQ).2.1,(AK CQ).2.2.1,(AK CQ).2.2.2.1,(AK CQ).2.2.2.2.1,(AK CQ).2.2.2.2.2.1,(AK CQ).2.2.2.2.2.2.1,(AK CQ).2.2.2.2.2.2.2.1,(AK (AK CQ)).1,(AK (AK CQ)).2.1,(AK (AK CQ)).2.2.1,(AK (AK CQ)).2.2.2.1,(AK (AK CQ)).2.2.2.2.1,(AK (AK CQ)).2.2.2.2.2.1,(AK (AK CQ)).2.2.2.2.2.2.1,(AK (AK CQ)).2.2.2.2.2.2.2.1,(AK (AK (AK CQ))).1,(AK (AK (AK CQ))).2.1,(AK (AK (AK CQ))).2.2.1,(AK (AK (AK CQ))).2.2.2.1,(AK (AK (AK CQ))).2.2.2.2.1,(AK (AK (AK CQ))).2.2.2.2.2.1,(AK (AK (AK CQ))).2.2.2.2.2.2.1,(AK (AK (AK CQ))).2.2.2.2.2.2.2.1,(AK (AK (AK (AK CQ)))).1,(AK (AK (AK (AK CQ)))).2.1,(AK (AK (AK (AK CQ)))).2.2.1,(AK (AK (AK (AK CQ)))).2.2.2.1,(AK (AK (AK (AK CQ)))).2.2.2.2.1,(AK (AK (AK (AK CQ)))).2.2.2.2.2.1,(AK (AK (AK (AK CQ)))).2.2.2.2.2.2.1,(AK (AK (AK (AK CQ)))).2.2.2.2.2.2.2.1,(AK (AK (AK (AK (AK CQ))))).1,(AK (AK (AK (AK (AK CQ))))).2.1,(AK (AK (AK (AK (AK CQ))))).2.2.1,AIo⟩,HG,BC,BJ,Af,Aj,Ac,Bt,hr,ho,oc,op,okk,ow,I7,I8,Fv,Fw,EX,GO,ap_hr_ow,ap_ho_ow,ap_oc_ow,ap_ow_oc,ap_op_ow,ap_ow_op,ap_okk_ow,ap_ow_okk,lo_ow⟩ fun a122 w122 hI122=>?_
         clear BC
         clear BJ
         clear Af
         clear Aj
         clear Ac
         clear Bt
         clear hr
         clear ho
         clear oc
         clear op
         clear okk
         clear ow
         clear HG
         obtain⟨j,wo,wc,hjn,AB4,HG,BC,BJ,Af,Aj,Ac,Bt,hr,ho,oc,op,okk,ow,I7,I8,Fv,Fw,EX,GO,ap_hr_ow,ap_ho_ow,ap_oc_ow,ap_ow_oc,ap_op_ow,ap_ow_op,ap_okk_ow,ap_ow_okk,lo_ow⟩:=hI122
         refine AIi fun K123 k123=>?_
         by_cases hjl:j<i
         · have hjk:j<kl.length:=by omega
           obtain⟨ky,hx_ky⟩:∃zx,kl[j]'hjk=zx:=⟨_,rfl⟩
           refine AIh ?_
           refine AL AB4 1 [(81,.bool true)]
            ⟨Hl r7 (fun _=>Ba (by simp;omega)),AIo⟩ fun a124 w124 g124 AEp=>?_
           refine AE ?_
           refine k123 _ _ ?_
           refine AIi fun K125 k125=>?_
           refine Ap AEp rfl rfl ?_
           refine AIm ?_
           refine k125 _ _ ?_
           refine AIi fun K126 k126=>?_
           refine BB fun Q127 x127 y127 rt127 o127=>?_
           refine AIi fun K128 k128=>?_
           refine AIh ?_
           replace okk:=okk.kn g124
           refine AL AEp 2 [(82,pk ((bO ko)) (oO ko+j*32)),(83,AO ky.x)]
            ⟨BD rq8 (fun w=>CM Tryz.underlying28 (by kernel_rfl) ((Sl.of_own okk)) (by omega) (rfl) w),Bv r6 (fun _ g=>Ae (Bn ky.x ky.h.1) (by have:=Cz (Sl.of_own (okk.kn g)) Fe hjk (by decide);rw[hx_ky] at this;exact this)),AIo⟩ fun a129 w129 g129 AHC=>?_
           replace BC:=AC g129 (AC g124 BC)
           replace BJ:=AC g129 (AC g124 BJ)
           replace Af:=AC g129 (AC g124 Af)
           replace Aj:=AC g129 (AC g124 Aj)
           replace Ac:=AC g129 (AC g124 Ac)
           replace Bt:=AC g129 (AC g124 Bt)
           replace hr:=(hr.kn g124).kn g129
           replace ho:=(ho.kn g124).kn g129
           replace oc:=(oc.kn g124).kn g129
           replace op:=(op.kn g124).kn g129
           replace okk:=okk.kn g129
           replace ow:=(ow.kn g124).kn g129
           replace HG:=AA (AA HG g124) g129
           refine As (T:=23) (Z:=(bv AS)) AHC rfl rfl rfl (fun a w=>by kernel_rfl) fun a130 w130 AD9 Ch g130 z130 ML AEq=>?_
           have Nt:=Ar BC Ch
           have Nu:=Ar BJ Ch
           have M7:=Ar Af Ch
           have M8:=Ar Aj Ch
           have MM:=Ar Ac Ch
           have MN:=Ar Bt Ch
           have W9:=Bq HG Ch
           have QP:=Ax (hr.lt) Ch
           have QQ:=Ax (ho.lt) Ch
           have QR:=Ax (Own.ltS oc) Ch
           have QS:=Ax (Own.ltS op) Ch
           have PO:=Ax (Own.ltS okk) Ch
           have QT:=Ax (Own.ltS ow) Ch
           refine An AEq r7 (Bn ky.x ky.h.1) ML (F5 ky.h) fun w131 g131 h131=>?_
           replace BC:=Ab g131 (AC g130 BC) (Ne.symm Nt)
           replace BJ:=Ab g131 (AC g130 BJ) (Ne.symm Nu)
           replace Af:=Ab g131 (AC g130 Af) (Ne.symm M7)
           replace Aj:=Ab g131 (AC g130 Aj) (Ne.symm M8)
           replace Ac:=Ab g131 (AC g130 Ac) (Ne.symm MM)
           replace Bt:=Ab g131 (AC g130 Bt) (Ne.symm MN)
           replace ow:=(ow.kn g130).offR g131 (AU QT)
           replace HG:=AD (AA HG g130) g131 W9
           replace ML:=h131
           refine AE ?_
           refine k128 _ _ ?_
           refine DB (AEq.st w131) (by kernel_rfl) 6 [(84,Sp.is (pk Ds 3)),(85,Sp.is (.slice wo j wc)),(86,Sp.is (AO ck)),(87,Sp.is (AO ky.x)),(88,Sp.is (AO ((Me ck ky.x)))),(89,Sp.lit1 w131.heap.size 23 (bv (Me ck ky.x)))] rfl (by kernel_rfl) (by kernel_rfl) (by kernel_rfl) [] (by kernel_rfl)
            ⟨yf r6 (fun _=>by kernel_rfl),yp (i:=3) r6 (Kj (.slice wo j wc) rfl) Ac rfl rfl,yl r6 (Bn ck hck.1) Bt,yl r6 (Bn ky.x ky.h.1) ML,Ad [AO ck,AO ky.x] Tryz.func56 (by kernel_rfl) rq4 ⟨(oy rfl rfl),(oy rfl rfl),AIo⟩ (Aq fun W g=>ME ck ky.x hck ky.h W),N1 rfl rfl trivial (Nat.le_refl _) rfl (fun W hw v h=>match v,h with|_,⟨rfl,_⟩=>⟨bv (Me ck ky.x),Zy (LU hck ky.h) W,fun w' _ hh=>⟨_,rfl,hw.size,hh⟩⟩),AIo⟩ trivial
            [] (by kernel_rfl) trivial ⟨.inl rfl,.inl rfl,.inl rfl,.inl rfl,.inl rfl,.inl rfl,AIo⟩ (by kernel_rfl) fun a132 w132 g132 st132 nd132=>?_
           obtain⟨hn132,hd132,e132_84,e132_85,e132_86,e132_87,e132_88,e132_89,e132_21,e132_82,e132_83,e132_81,e132_80,e132_78,e132_79,e132_76,e132_77,e132_19,e132_75,e132_73,e132_74,e132_54,e132_53,e132_14,e132_51,e132_52,e132_41,e132_42,e132_43,e132_13,e132_40,e132_39,e132_12,e132_23,e132_24,e132_25,e132_26,e132_27,e132_28,e132_29,e132_30,e132_31,e132_32,e132_22,e132_11,e132_10,e132_9,e132_5,e132_0,e132_1,e132_2,e132_3,e132_4,-⟩:=st132
           obtain⟨V,e132_89q,geV,HV⟩:=e132_89
           have AGP:V≠SV:=Nat.ne_of_gt (Nat.lt_of_lt_of_le (Array.getElem?_eq_some_iff.1 BC).1 geV)
           have AGQ:V≠SY:=Nat.ne_of_gt (Nat.lt_of_lt_of_le (Array.getElem?_eq_some_iff.1 BJ).1 geV)
           have AF1:V≠Gx:=Nat.ne_of_gt (Nat.lt_of_lt_of_le (Array.getElem?_eq_some_iff.1 Af).1 geV)
           have AF2:V≠Gz:=Nat.ne_of_gt (Nat.lt_of_lt_of_le (Array.getElem?_eq_some_iff.1 Aj).1 geV)
           have U0:V≠Ds:=Nat.ne_of_gt (Nat.lt_of_lt_of_le (Array.getElem?_eq_some_iff.1 Ac).1 geV)
           have AEr:V≠PK:=Nat.ne_of_gt (Nat.lt_of_lt_of_le (Array.getElem?_eq_some_iff.1 Bt).1 geV)
           have AEA:V≠AD9:=Nat.ne_of_gt (Nat.lt_of_lt_of_le (Array.getElem?_eq_some_iff.1 ML).1 geV)
           have lo_V:w.heap.size≤V:=Nat.le_trans HG.size geV
           have ap_ow_V:=Lu (Own.ltS ow) geV
           replace BC:=AC g132 BC
           replace BJ:=AC g132 BJ
           replace Af:=AC g132 Af
           replace Aj:=AC g132 Aj
           replace Ac:=AC g132 Ac
           replace Bt:=AC g132 Bt
           replace hr:=((hr.kn g130).offR g131 (AU QP)).kn g132
           replace ho:=((ho.kn g130).offR g131 (AU QQ)).kn g132
           replace oc:=((oc.kn g130).offR g131 (AU QR)).kn g132
           replace op:=((op.kn g130).offR g131 (AU QS)).kn g132
           replace okk:=((okk.kn g130).offR g131 (AU PO)).kn g132
           replace ow:=ow.kn g132
           replace HG:=AA HG g132
           have AHD:Sv 104 [{ target:=.fn (.func 49) #[pt Gx,pt Gz],args:=#[] }] [(21,_),(82,_),(83,_),(81,_),(80,_),(78,_),(79,_),(76,_),(77,_),(19,_),(75,_),(73,_),(74,_),(54,_),(53,_),(14,_),(51,_),(52,_),(41,_),(42,_),(43,_),(13,_),(40,_),(39,_),(12,_),(23,_),(24,_),(25,_),(26,_),(27,_),(28,_),(29,_),(30,_),(31,_),(32,_),(22,_),(11,_),(10,_),(9,_),(5,_),(0,_),(1,_),(2,_),(3,_),(4,_),(85,_),(89,_)] a132:=⟨hn132,hd132,e132_21,e132_82,e132_83,e132_81,e132_80,e132_78,e132_79,e132_76,e132_77,e132_19,e132_75,e132_73,e132_74,e132_54,e132_53,e132_14,e132_51,e132_52,e132_41,e132_42,e132_43,e132_13,e132_40,e132_39,e132_12,e132_23,e132_24,e132_25,e132_26,e132_27,e132_28,e132_29,e132_30,e132_31,e132_32,e132_22,e132_11,e132_10,e132_9,e132_5,e132_0,e132_1,e132_2,e132_3,e132_4,e132_85,e132_89q,AIo⟩
           refine LM dsT AHD rfl rfl rfl rfl rfl rfl rfl rfl ow (KU HV (LU hck ky.h)) (Fj _) (by omega) fun a133 ao133 cap133 w133 owx133 CR AHE=>?_
           have PQ:=JI CR.2 I7 BC
           have PR:=JI CR.2 I8 BJ
           have Nv:=JI CR.2 Fv Af
           have Nw:=JI CR.2 Fw Aj
           have Ia:=JI CR.2 EX Ac
           have M9:=JI CR.2 GO Bt
           have Sq:=JJ CR.2 ap_hr_ow (hr.lt)
           have Sr:=JJ CR.2 ap_ho_ow (ho.lt)
           have MO:=JJ CR.2 ap_oc_ow (Own.ltS oc)
           have MP:=JJ CR.2 ap_op_ow (Own.ltS op)
           have Kn:=JJ CR.2 ap_okk_ow (Own.ltS okk)
           have ap_owx133_oc:=ABA MO
           have ap_owx133_op:=ABA MP
           have ap_owx133_okk:=ABA Kn
           have AAC:=WV CR.2 lo_ow HG
           replace Ac:=AF CR.1 Ac (fun e=>EX _ e.symm rfl)
           rw[ABu hck hjk hx_ky] at owx133
           refine AL AHE 1 [(91,pk Ds 3)]
            ⟨yf r6 (fun _=>by kernel_rfl),AIo⟩ fun a134 w134 g134 AEs=>?_
           refine Jc (L:=[[.int .i64 ad],[.slice ao29 ds.length cap29],[.int .i64 1],[.slice wo j wc],[.slice none 0 0],bv AS]) (i:=3) AEs r7 (Kj (.slice ao133 (j+1) cap133) rfl) (AC g134 Ac) rfl rfl rfl fun w135 g135 h135=>?_
           replace BC:=Ak g134 g135 (AF CR.1 BC (fun e=>I7 _ e.symm rfl)) (Ne.symm Dc)
           replace BJ:=Ak g134 g135 (AF CR.1 BJ (fun e=>I8 _ e.symm rfl)) (Ne.symm Dd)
           replace Af:=Ak g134 g135 (AF CR.1 Af (fun e=>Fv _ e.symm rfl)) (Ne.symm Bw)
           replace Aj:=Ak g134 g135 (AF CR.1 Aj (fun e=>Fw _ e.symm rfl)) (Ne.symm Bz)
           replace Bt:=Ak g134 g135 (AF CR.1 Bt (fun e=>GO _ e.symm rfl)) Di
           replace HV:=Ak g134 g135 (AF CR.1 HV (fun e=>ap_ow_V _ e.symm rfl)) U0
           replace hr:=((hr.offR CR.1 (fun k hk e=>ap_hr_ow k hk (e))).kn g134).offR g135 (AU EV)
           replace ho:=((ho.offR CR.1 (fun k hk e=>ap_ho_ow k hk (e))).kn g134).offR g135 (AU EW)
           replace oc:=((oc.offR CR.1 (fun k hk e=>ap_oc_ow k hk (e))).kn g134).offR g135 (AU DL)
           replace op:=((op.offR CR.1 (fun k hk e=>ap_op_ow k hk (e))).kn g134).offR g135 (AU Dt)
           replace okk:=((okk.offR CR.1 (fun k hk e=>ap_okk_ow k hk (e))).kn g134).offR g135 (AU Cl)
           replace HG:=AD (AA (CJ HG CR.1 fun k e=>lo_ow k (e)) g134) g135 E0
           have AHF:Sv _ _ [_,_,_,_,_,_,_,_,_,_,_,_,_,_,_,_,_,_,_,_,_,_,_,_,_,_,_,_,_,_,_,_,_,_,_,_,_,_,_,_,_,_,_,_,_] _:=AEs.dl [91,90,85,89]
           refine AE ?_
           refine y127 _ _ ?_
           refine k126 _ _ ?_
           refine AIh ?_
           refine AL AHF 1 [(92,.int .i64 (((j+1:Nat):Int)))]
            ⟨Cm r6 (fun _=>C4 (by rw[A1 (by omega) (by omega)];omega)),AIo⟩ fun a137 w137 g137 AHG=>?_
           refine AL (AHG.dl [80]) 1 [(80,.int .i64 (((j+1:Nat):Int)))]
            ⟨ym r5,AIo⟩ fun a138 w138 g138 CN=>?_
           have Hy:=AA g137 g138
           refine AE ?_
           replace BC:=AC Hy BC
           replace BJ:=AC Hy BJ
           replace Af:=AC Hy Af
           replace Aj:=AC Hy Aj
           replace Ac:=AC Hy h135
           replace Bt:=AC Hy Bt
           replace HV:=AC Hy HV
           replace hr:=hr.kn Hy
           replace ho:=ho.kn Hy
           replace oc:=oc.kn Hy
           replace op:=op.kn Hy
           replace okk:=okk.kn Hy
           replace owx133:=((owx133.kn g134).offR g135 (AU Ia)).kn Hy
           replace HG:=AA HG Hy
           exact⟨⟨j+1,ao133,cap133,by omega,⟨CN.1,CN.2.1,CN.2.2.1,(AK CN).1,(AK CN).2.1,(AK CN).2.2.1,(AK CN).2.2.2.1,(AK CN).2.2.2.2.1,(AK CN).2.2.2.2.2.1,(AK CN).2.2.2.2.2.2.1,(AK CN).2.2.2.2.2.2.2.1,(AK (AK CN)).1,(AK (AK CN)).2.1,(AK (AK CN)).2.2.1,(AK (AK CN)).2.2.2.1,(AK (AK CN)).2.2.2.2.1,(AK (AK CN)).2.2.2.2.2.1,(AK (AK CN)).2.2.2.2.2.2.1,(AK (AK CN)).2.2.2.2.2.2.2.1,(AK (AK (AK CN))).1,(AK (AK (AK CN))).2.1,(AK (AK (AK CN))).2.2.1,(AK (AK (AK CN))).2.2.2.1,(AK (AK (AK CN))).2.2.2.2.1,(AK (AK (AK CN))).2.2.2.2.2.1,(AK (AK (AK CN))).2.2.2.2.2.2.1,(AK (AK (AK CN))).2.2.2.2.2.2.2.1,(AK (AK (AK (AK CN)))).1,(AK (AK (AK (AK CN)))).2.1,(AK (AK (AK (AK CN)))).2.2.1,(AK (AK (AK (AK CN)))).2.2.2.1,(AK (AK (AK (AK CN)))).2.2.2.2.1,(AK (AK (AK (AK CN)))).2.2.2.2.2.1,(AK (AK (AK (AK CN)))).2.2.2.2.2.2.1,(AK (AK (AK (AK CN)))).2.2.2.2.2.2.2.1,(AK (AK (AK (AK (AK CN))))).1,(AK (AK (AK (AK (AK CN))))).2.1,(AK (AK (AK (AK (AK CN))))).2.2.1,(AK (AK (AK (AK (AK CN))))).2.2.2.1,(AK (AK (AK (AK (AK CN))))).2.2.2.2.1,(AK (AK (AK (AK (AK CN))))).2.2.2.2.2.1,(AK (AK (AK (AK (AK CN))))).2.2.2.2.2.2.1,(AK (AK (AK (AK (AK CN))))).2.2.2.2.2.2.2.1,AIo⟩,HG,BC,BJ,Af,Aj,Ac,Bt,hr,ho,oc,op,okk,owx133,PQ,PR,Nv,Nw,Ia,M9,Sq,Sr,MO,ap_owx133_oc,MP,ap_owx133_op,Kn,ap_owx133_okk,AAC⟩,by rw[show _=_ from CN.2.2.1,show _=_ from AB4.2.2.1];simp[intOf];omega⟩
         · have hwr:(wrL ck hck kl j).map DD.x=kl.map fun z=>Me ck z.x:=AD1 (by omega)
           refine AIh ?_
           refine AL AB4 1 [(81,.bool false)]
            ⟨Hl r7 (fun _=>Ba (by simp;omega)),AIo⟩ fun a139 w139 g139 AEt=>?_
           refine AE ?_
           refine k123 _ _ ?_
           refine AIi fun K140 k140=>?_
           refine Au AEt rfl rfl ?_
           refine wp_exit ?_
           repeat refine CD ?_
           refine x121 _ _ ?_
           refine k99 _ _ ?_
           refine AIi fun K141 k141=>?_
           refine AIh ?_
           refine AL AEt 2 [(93,.slice ao36 ((Be x)).length cap36),(94,AO ck)]
            ⟨ym r5,yl r6 (Bn ck hck.1) (AC g139 Bt),AIo⟩ fun a142 w142 g142 AHH=>?_
           have MR:=AA g139 g142
           replace Af:=AC MR Af
           replace Aj:=AC MR Aj
           replace Ac:=AC MR Ac
           replace op:=op.kn MR
           replace HG:=AA HG MR
           refine BU AHH Tryz.func57 (by kernel_rfl) r6 (RO (I4 (Be x) (Hr x) (by have:=Ga x;omega) _ _ ck hck _ (Own.sb op))) fun a143 v143 w143 hR143 AHI=>?_
           obtain⟨ao143,cap143,rfl,_⟩:=(Sl.of_own hR143.1).shape
           obtain⟨ow143,fr143⟩:=hR143
           replace fr143:=Dx fr143
           have oy_:=ow143
           clear ow143
           have g143:=fr143.1
           replace fr143:=fr143.2
           have I5:=CF fr143 Af
           have I6:=CF fr143 Aj
           have Ei:=CF fr143 Ac
           have lo_oy_:=JC HG fr143
           replace Ac:=AC g143 Ac
           refine AL AHI 1 [(96,pk Ds 4)]
            ⟨yf r6 (fun _=>by kernel_rfl),AIo⟩ fun a144 w144 g144 AEu=>?_
           refine Jc (L:=[[.int .i64 ad],[.slice ao29 ds.length cap29],[.int .i64 1],[.slice wo j wc],[.slice none 0 0],bv AS]) (i:=4) AEu r7 (F9 (.slice ao143 ((IX (Be x) ck)).length cap143) rfl) (AC g144 Ac) rfl rfl rfl fun w145 g145 h145=>?_
           replace Bt:=Ak g144 g145 (AC g143 (AC MR Bt)) Di
           replace Ac:=h145
           have AHJ:Sv _ _ [_,_,_,_,_,_,_,_,_,_,_,_,_,_,_,_,_,_,_,_,_,_,_,_,_,_,_,_,_,_,_,_,_,_,_,_,_,_,_,_,_,_] _:=AEu.dl [96,95,93,94]
           refine AE ?_
           refine k141 _ _ ?_
           refine AIi fun K147 k147=>?_
           refine AIh ?_
           refine AL AHJ 4 [(97,AO ck),(98,.int .i64 ad),(99,pk Ds 4),(100,.slice ao143 ((IX (Be x) ck)).length cap143)]
            ⟨yl r6 (Bn ck hck.1) Bt,ym r5,yf r6 (fun _=>by kernel_rfl),yp (i:=4) r6 (F9 (.slice ao143 ((IX (Be x) ck)).length cap143) rfl) Ac rfl rfl,AIo⟩ fun a148 w148 g148 AHK=>?_
           replace oy_:=((oy_.kn g144).offR g145 (AU Ei)).kn g148
           refine BU AHK Tryz.func58 (by kernel_rfl) r6 (O4 (Fg ck hck ad hia (IX (Be x) ck) (O7 _ (Hr x)) (by have:=Ga x;rw[I3];omega) _ _ _ (Own.sb oy_))) fun a149 v149 w149 hR149 AHL=>?_
           obtain⟨rfl,g149⟩:=hR149
           replace Ac:=AC g149 (AC g148 Ac)
           have AHM:Sv _ _ [_,_,_,_,_,_,_,_,_,_,_,_,_,_,_,_,_,_,_,_,_,_,_,_,_,_,_,_,_,_,_,_,_,_,_,_,_,_,_,_,_,_,_] _:=AHL.dl [97,98,99,100]
           refine AL AHM 1 [(102,pk Ds 5)]
            ⟨yf r6 (fun _=>by kernel_rfl),AIo⟩ fun a151 w151 g151 AEv=>?_
           refine Jc (L:=[[.int .i64 ad],[.slice ao29 ds.length cap29],[.int .i64 1],[.slice wo j wc],[.slice ao143 ((IX (Be x) ck)).length cap143],bv AS]) (i:=5) AEv r7 (Bn ((Tc ck ad (IX (Be x) ck))) (Dq _ _ _).1) (AC g151 Ac) rfl rfl (Xt AR (Dq _ _ _)) fun w152 g152 h152=>?_
           replace Af:=Ak g151 g152 (AC g149 (AC g148 (Ak g144 g145 (AC g143 Af) (Ne.symm Bw)))) (Ne.symm Bw)
           replace Ac:=h152
           refine AE ?_
           refine k147 _ _ ?_
           refine AIi fun K153 k153=>?_
           refine AIh ?_
           refine AL AEv 1 [(103,CP ad (.slice ao29 ds.length cap29) 1 (.slice wo j wc) (.slice ao143 ((IX (Be x) ck)).length cap143) ((Tc ck ad (IX (Be x) ck))))]
            ⟨yl r6 (EU _ _ (Dq _ _ _) (.slice ao29 ds.length cap29) (.slice wo j wc) (.slice ao143 ((IX (Be x) ck)).length cap143) rfl rfl rfl) Ac,AIo⟩ fun a154 w154 g154 YW=>?_
           refine An YW r7 (EU _ _ (Dq _ _ _) (.slice ao29 ds.length cap29) (.slice wo j wc) (.slice ao143 ((IX (Be x) ck)).length cap143) rfl rfl rfl) (AC g154 Af) (Ek AR (Dq _ _ _)) fun w155 g155 h155=>?_
           replace Aj:=Ak g154 g155 (Ak g151 g152 (AC g149 (AC g148 (Ak g144 g145 (AC g143 Aj) (Ne.symm Bz)))) (Ne.symm Bz)) Bf
           refine An YW r7 (Ed 0) Aj rfl fun w156 g156 h156=>?_
           replace Af:=Ab g156 h155 (Ne.symm Bf)
           replace oc:=((((((((((oc.kn MR).kn g143).kn g144).offR g145 (AU DL)).kn g148).kn g149).kn g151).offR g152 (AU DL)).kn g154).offR g155 (AU Hs)).offR g156 (AU Ht)
           replace op:=(((((((((op.kn g143).kn g144).offR g145 (AU Dt)).kn g148).kn g149).kn g151).offR g152 (AU Dt)).kn g154).offR g155 (AU Hu)).offR g156 (AU Hv)
           replace okk:=((((((((((okk.kn MR).kn g143).kn g144).offR g145 (AU Cl)).kn g148).kn g149).kn g151).offR g152 (AU Cl)).kn g154).offR g155 (AU Du)).offR g156 (AU Dv)
           replace ow:=((((((((((ow.kn MR).kn g143).kn g144).offR g145 (AU EX)).kn g148).kn g149).kn g151).offR g152 (AU EX)).kn g154).offR g155 (AU Fv)).offR g156 (AU Fw)
           replace oy_:=(((((oy_.kn g149).kn g151).offR g152 (AU Ei)).kn g154).offR g155 (AU I5)).offR g156 (AU I6)
           replace HG:=AD (AD (AA (AD (AA (AA (AA (AD (AA (AA HG g143) g144) g145 E0) g148) g149) g151) g152 E0) g154) g155 Gy) g156 G0
           replace Aj:=h156
           refine AE ?_
           refine k153 _ _ ?_
           refine AIl ?_
           repeat refine AM ?_
           refine BK (fn:=Tryz.f20) YW (BQ (p:=10) (q:=11) Tryz.results20 YW rfl rfl rfl rfl (EU _ _ (Dq _ _ _) (.slice ao29 ds.length cap29) (.slice wo j wc) (.slice ao143 ((IX (Be x) ck)).length cap143) rfl rfl rfl) (Ed 0) Af Aj) (Bl Tryz.func49 (by kernel_rfl) rfl _ _) (Dr _ _ _) ?_
           exact SRes.mk (own:=ds) (wr:=(wrL ck hck kl j)) (Fu hh hv hne hK2 hkm hcke) rfl (AD2 (by omega)) rfl hown (hwr.trans (Zz kl ck)) oc ow oy_ lo_oc lo_ow lo_oy_ ap_oc_ow (Dq _ _ _) (O7 _ (Hr x)) HG rfl
end Go.Proofs.YtbfjfnbcmojpiaaGreat
