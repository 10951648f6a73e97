import Derived.Test.YtbfjfnbcmojpiaaGreatOpY7
set_option linter.unusedSimpArgs false
set_option linter.unusedVariables false
set_option maxRecDepth 100000
set_option maxHeartbeats 4000000
namespace Go.Proofs.YtbfjfnbcmojpiaaGreat
open Go.RowKit Go.Shelf
theorem EM (p q:Value) (w:World):CallsD Tryz.prog 49 #[p,q] .returning w fun e u' w'=>e=.returned (.tuple #[])∧u'=.returning∧w'=w:=by
 refine callsD_of_wpS Tryz.func49 rfl fun c₀ cs hu=>?_
 apply wpS_seq
 apply wpS_region
 simp[wpOpsS,go_sem,recoverD,hu,Tryz.ntmps49,Exit.thenS]
 refine wpS_cond (t:=false) (by simp[Act.eval,Array.replicate]) ?_
 simp only[Bool.false_eq_true,if_false]
 refine wpS_of_wp (AKU ?_)
 cases c₀
 simp_all [bodyPostS,results,Tryz.results49]
theorem Ds (p q:Value) (w:World):CallsD Tryz.prog 60 #[p,q] .returning w fun e u' w'=>e=.returned (.tuple #[])∧u'=.returning∧w'=w:=by
 refine callsD_of_wpS Tryz.func60 rfl fun c₀ cs hu=>?_
 apply wpS_seq
 apply wpS_region
 simp[wpOpsS,go_sem,recoverD,hu,Tryz.ntmps60,Exit.thenS]
 refine wpS_cond (t:=false) (by simp[Act.eval,Array.replicate]) ?_
 simp only[Bool.false_eq_true,if_false]
 refine wpS_of_wp (AKU ?_)
 cases c₀
 simp_all [bodyPostS,results,Tryz.results60]
def SRes (w w':World) (r:Sd×Int) (e:Ending):Prop:=
 ∃(own wr:List DD) (ao wo bo:Option Addr) (ac wc bc:Nat),e=.returned (.tuple #[BR r.1.addr (.slice ao own.length ac) r.1.joint (.slice wo wr.length wc) (.slice bo r.1.body.length bc) r.1.tag,.int .i64 r.2])∧own.map DD.x=r.1.own∧wr.map DD.x=r.1.wr ∧
  Own w' 23 32 (.slice ao own.length ac) own.length (own.flatMap J4)∧Own w' 23 32 (.slice wo wr.length wc) wr.length (wr.flatMap J4)∧Own w' 5 1 (.slice bo r.1.body.length bc) r.1.body.length (bv r.1.body) ∧
  (∀k,Ba (.slice ao own.length ac) k→w.heap.size≤k)∧(∀k,Ba (.slice wo wr.length wc) k→w.heap.size≤k)∧(∀k,Ba (.slice bo r.1.body.length bc) k→w.heap.size≤k)∧(∀k,Ba (.slice ao own.length ac) k→¬Ba (.slice wo wr.length wc) k)∧Dg r.1.tag∧By r.1.body∧w.grownBy w' none
theorem SRes.mk {w w':World} {r:Sd×Int} {s:Sd} {er:Int} {own wr:List DD} {ao wo bo:Option Addr} {ac wc bc n m l:Nat} (hr:r=(s,er)) (hn:own.length=n) (hm:wr.length=m) (hl:s.body.length=l) (h1:own.map DD.x=s.own) (h2:wr.map DD.x=s.wr)
  (h3:Own w' 23 32 (.slice ao n ac) n (own.flatMap J4)) (h4:Own w' 23 32 (.slice wo m wc) m (wr.flatMap J4)) (h5:Own w' 5 1 (.slice bo l bc) l (bv s.body)) (f1:∀k,Ba (.slice ao n ac) k→w.heap.size≤k) (f2:∀k,Ba (.slice wo m wc) k→w.heap.size≤k) (f3:∀k,Ba (.slice bo l bc) k→w.heap.size≤k) (f4:∀k,Ba (.slice ao n ac) k→¬Ba (.slice wo m wc) k)
  (ht:Dg s.tag) (hb:By s.body) (g:w.grownBy w' none) {v:Value} (hv:v=BR s.addr (.slice ao n ac) s.joint (.slice wo m wc) (.slice bo l bc) s.tag):SRes w w' r (.returned (.tuple #[v,.int .i64 er])):=by
 subst hr hn hm hl hv
 exact⟨own,wr,ao,wo,bo,ac,wc,bc,rfl,h1,h2,h3,h4,h5,f1,f2,f3,f4,ht,hb,g⟩
theorem SRes.zero {w w':World} {r:Sd×Int} {er:Int} (hr:r=(Sd.zero,er)) (g:w.grownBy w' none):SRes w w' r (.returned (.tuple #[BR 0 (.slice none 0 0) 0 (.slice none 0 0) (.slice none 0 0) AS,.int .i64 er])):=
 SRes.mk (own:=[]) (wr:=[]) (ao:=none) (wo:=none) (bo:=none) (ac:=0) (wc:=0) (bc:=0) hr rfl rfl rfl rfl rfl (Own.nil _ _ _) (Own.nil _ _ _) (Own.nil _ _ _) (fun k hk=>by simp[Ba,Value.ownBlock] at hk) (fun k hk=>by simp[Ba,Value.ownBlock] at hk) (fun k hk=>by simp[Ba,Value.ownBlock] at hk) (fun k hk=>by simp[Ba,Value.ownBlock] at hk) Ab (fun b hb=>by simp[Sd.zero] at hb) g rfl
theorem NM {P:List VP} {own:List (List Nat)} {joint a:Int} {x:V} (h:hd own joint a=false∨Cj P=false):IL P own joint a x=(Sd.zero,1):=by
 unfold IL
 rcases h with h|h<;>simp[h]
theorem NN {P:List VP} {joint a:Int} {x:V} (h1:hd [] joint a=true) (h2:Cj P=true):IL P [] joint a x=(⟨a,[],joint,[],CD x,ML a (CD x)⟩,0):=by
 unfold IL
 simp[h1,h2]
theorem ABy {P:List VP} {own:List (List Nat)} {joint a:Int} {x:V} {e:Int} (h1:hd own joint a=true) (h2:Cj P=true) (h3:own≠[]) (h4:(DY P a own).2=e) (h5:e≠0):IL P own joint a x=(Sd.zero,e):=by
 unfold IL
 simp[h1,h2,h3,h4,h5]
theorem Mq {P:List VP} {own:List (List Nat)} {joint a:Int} {x:V} {K:List (List Nat)} {c:List Nat} (h1:hd own joint a=true) (h2:Cj P=true) (h3:own≠[]) (h4:(DY P a own).2=0) (h5:K=(DY P a own).1) (h6:PT (decide (joint=1)) K=c) :
  IL P own joint a x=(⟨a,own,joint,if joint=1 then K.map (Nr c) else [],IK (CD x) c,LS c a (IK (CD x) c)⟩,0):=by
 subst h5
 subst h6
 unfold IL
 simp[h1,h2,h3,h4]
theorem Mr {P:List VP} {a:Int}:∀{own:List (List Nat)},(∀j,j<own.length→(Cz P (MF own j) a).2=0)→(DY P a own).1=own.map (fun z=>(Cz P z a).1)∧(DY P a own).2=0
 | [],_=>⟨rfl,rfl⟩
 | o::l,h=>by
  have h0:(Cz P o a).2=0:=h 0 (by simp)
  obtain⟨h1,h2⟩:=Mr (own:=l) fun j hj=>h (j+1) (by simpa using hj)
  unfold DY
  rw[if_pos h0]
  exact⟨by rw[h1];rfl,h2⟩
theorem LK {P:List VP} {a:Int}:∀{own:List (List Nat)} {i:Nat},i<own.length→(∀j,j<i→(Cz P (MF own j) a).2=0)→(Cz P (MF own i) a).2≠0→(DY P a own).2=(Cz P (MF own i) a).2
 | [],i,hi,_,_=>by simp at hi
 | o::l,0,_,_,h=>by
  have h0:(Cz P o a).2≠0:=h
  unfold DY
  rw[if_neg h0]
  rfl
 | o::l,i+1,hi,hj,h=>by
  have h0:(Cz P o a).2=0:=hj 0 (by omega)
  have:=LK (own:=l) (i:=i) (by simpa using hi) (fun j hjj=>hj (j+1) (by omega)) h
  unfold DY
  rw[if_pos h0]
  exact this
theorem NO {P:List VP} {a:Int} {own:List (List Nat)} {i:Nat} {kl:List DD} {y:List Nat} {kx:List Nat×Int} (h:kl.map DD.x=(own.take i).map fun z=>(Cz P z a).1) (hi:i<own.length) (hla:MF own i=y) (hkx:Cz P y a=kx) {hkd:Dg kx.1}:(kl++[(⟨kx.1,hkd⟩:DD)]).map DD.x=(own.take (i+1)).map fun z=>(Cz P z a).1:=by
 rw[List.take_add_one,List.getElem?_eq_getElem hi,List.map_append,List.map_append,h]
 rw[ADY hi] at hla
 simp[hla,hkx]
theorem Pf (kl:List DD) (d:DD):kl.flatMap J4++bv d.x=(kl++[d]).flatMap J4:=by rw[List.flatMap_append];simp[J4]
theorem Js {w:World} {B:Nat} {d:List Nat} {t:TypeId} {fr:Nat×Nat} (h:w.heap[B]?=some (.cells (bv d).toArray t fr)) (hd:Dg d):Sl w 32 (.slice (some ⟨B,0,none⟩) 1 1) 1 (bv d):=by
 refine⟨by rw[AO,hd.1],_,_,rfl,Nat.le_refl _,by decide,fun h=>(by cases h),fun ad had=>?_⟩
 obtain rfl:=Option.some.inj had
 refine⟨fun _=>rfl,fun j u hu=>?_⟩
 have:=Aj h j u hu
 simpa using this
theorem Zb {d:List Nat} (hd:Dg d) (W:World):(Instr.buildSlice 28 1 #[(0,AQ d)]).run Tryz.prog W=.ok (.slice (some ⟨W.heap.size,0,none⟩) 1 1) (W.alloc (.cells (bv d).toArray 23)):=by
 obtain⟨x0,x1,x2,x3,x4,x5,x6,x7,x8,x9,x10,x11,x12,x13,x14,x15,x16,x17,x18,x19,x20,x21,x22,x23,x24,x25,x26,x27,x28,x29,x30,x31,rfl⟩:=JU _ hd.1
 kernel_rfl
theorem IM {c y:List Nat} (hc:Dg c) (hy:Dg y):Dg (Nr c y):=ABn hc (Ct 283 y)
def wrL (c:List Nat) (hc:Dg c) (kl:List DD) (j:Nat):List DD:=(kl.take j).map fun z=>⟨Nr c z.x,IM hc z.h⟩
theorem ADw {c:List Nat} (hc:Dg c) {kl:List DD} {j:Nat} {z:DD} (hj:j<kl.length) (hz:kl[j]=z):(wrL c hc kl j).flatMap J4++bv (Nr c z.x)=(wrL c hc kl (j+1)).flatMap J4:=by
 unfold wrL
 rw[List.take_add_one,List.getElem?_eq_getElem hj,hz,List.map_append,List.flatMap_append]
 simp[J4]
theorem AF5 {c:List Nat} {hc:Dg c} {kl:List DD} {j:Nat} (hj:kl.length≤j):(wrL c hc kl j).map DD.x=kl.map fun z=>Nr c z.x:=by
 unfold wrL
 rw[List.take_of_length_le hj,List.map_map]
 rfl
theorem AF6 {c:List Nat} {hc:Dg c} {kl:List DD} {j:Nat} (hj:j≤kl.length):(wrL c hc kl j).length=j:=by
 unfold wrL
 rw[List.length_map,List.length_take]
 omega
theorem ADx {w:World} {kl:List DD} {n:Nat} {ko:Option Addr} {kc:Nat} {joint:Int} {c:List Nat} (hn:kl.length=n) (hr:SlB w 32 (.slice ko n kc) n (kl.flatMap J4)) (hl:n≤1000) (hc:PT (decide (joint=1)) (kl.map DD.x)=c):Calls Tryz.prog 55 #[.int .i64 joint,.slice ko n kc] w fun e w'=>e=.returned (AQ c)∧w.grownBy w' none:=by
 subst hn hc
 exact ABv joint kl ko kc w hr hl
theorem SV {w:World} {kl:List DD} {n:Nat} {ko:Option Addr} {kc:Nat} {joint:Int} {c:List Nat} (hn:kl.length=n) (hr:SlB w 32 (.slice ko n kc) n (kl.flatMap J4)) (hl:n≤1000) (hj:joint=0∨joint=1) (hc:PT (decide (joint=1)) (kl.map DD.x)=c):Calls Tryz.prog 45 #[.int .i64 joint,.slice ko n kc] w fun e w'=>e=.returned (AQ c)∧w.grownBy w' none:=by
 subst hn hc
 exact Tn joint kl ko kc w hr hl hj
theorem RdK.noks2 {w:World} {v:Value} {ks:List VK} (h:RdK w v ks):∀i,i<(ks.map VK.p).length→∀n∈tr (ks.map VK.p) i,YR n:=fun i hi n hn=>by
 have hi':i<ks.length:=by simpa using hi
 rw[TI hi'] at hn
 exact(h.2 _ (List.getElem_mem hi')).2.1 n hn
theorem Kj {P:List VP} {o:List Nat} {a:Int} (h:∀i,i<P.length→∀n∈tr P i,YR n):Dg (Cz P o a).1:=by
 unfold Cz
 split
 · split
   · rename_i hf
     exact GD (h _ (ZB hf).1) a
   · exact Ab
 · exact Ab
theorem ADy {w:World} {ks:List VK} {vo:Option Addr} {vc:Nat} {sa po o:List Nat} {P:List VP} {a:Int} {q:List Nat×Int} (hsa:Dg sa) (hpo:Dg po) (ho:Dg o) (hk:RdK w (.slice vo ks.length vc) ks) (hm:ks.map VK.p=P) (hres:Cz P o a=q) :
 Calls Tryz.prog 32 #[A8 sa po (.slice vo ks.length vc),AQ o,.int .i64 a] w fun e w'=>e=.returned (.tuple #[AQ q.1,.int .i64 q.2])∧w.grownBy w' none:=AIi hsa hpo ho hk hm hres
theorem Oh {w:World} {ds:List DD} {own:List (List Nat)} {ao:Option Addr} {cap:Nat} {joint addr:Int} {b:Bool} (hr:RdD w (.slice ao ds.length cap) ds) (hown:ds.map DD.x=own) (hb:hd own joint addr=b):Calls Tryz.prog 50 #[.slice ao ds.length cap,.int .i64 joint,.int .i64 addr] w fun e w'=>e=.returned (.bool b)∧w.grownBy w' none:=Of hr (hown▸hb)
theorem Ik (x:V):By (CD x):=fun b hb=>AEz _ b hb
theorem ABz (kl:List DD) (c:List Nat):(kl.map fun z=>Nr c z.x)=(kl.map DD.x).map (Nr c):=by rw[List.map_map];rfl
theorem AB0 (ks:List VK) (vo:Option Addr) (vc_:Nat) (sa po:List Nat) (hsa:Dg sa) (hpo:Dg po) (ds:List DD) (ao:Option Addr) (ac:Nat) (joint ad:Int) (x:V) (w:World) (hr:RdK w (.slice vo ks.length vc_) ks) (ho:RdD w (.slice ao ds.length ac) ds) (hdl:ds.length≤1000) :
   Calls Tryz.prog 20 #[A8 sa po (.slice vo ks.length vc_),.slice ao ds.length ac,.int .i64 joint,.int .i64 ad,B7 x] w fun e w'=>SRes w w' (IL (ks.map VK.p) (ds.map DD.x) joint ad x) e:=by
 obtain⟨P,hP⟩:∃P,ks.map VK.p=P:=⟨_,rfl⟩
 obtain⟨own,hown⟩:∃own,ds.map DD.x=own:=⟨_,rfl⟩
 have hownl:own.length=ds.length:=by rw[←hown,List.length_map]
 have hnok:=hr.noks2
 rw[hP] at hnok
 rw[hP,hown]
 refine Dy Tryz.func20 rfl Tryz.ntmps20 rfl fun a0 sv0=>?_
 have HG:=World.grownBy.refl w none
 replace sv0:Sv 104 [] [(0,A8 sa po (.slice vo ks.length vc_)),(1,.slice ao ds.length ac),(2,.int .i64 joint),(3,.int .i64 ad),(4,B7 x)] a0:=sv0
 refine AKQ fun K1 k1=>?_
 refine AKP ?_
 refine Be sv0 r6 (CX hsa hpo (.slice vo ks.length vc_) rfl) fun a2 w2 Tp AJN g2 z2 Bd sv2=>?_
 refine Be sv2 r6 (Ck x) fun a3 w3 Tq AJO g3 z3 Bh sv3=>?_
 replace Bd:=AC g3 Bd
 replace hr:=(hr.kn g2).kn g3
 replace ho:=(ho.kn g2).kn g3
 replace HG:=AA (AA HG g2) g3
 refine BB (T:=31) (Z:=([[.int .i64 0],[.slice none 0 0],[.int .i64 0],[.slice none 0 0],[.slice none 0 0],bv AS].flatten)) sv3 rfl rfl rfl (fun a w=>by kernel_rfl) fun a4 w4 IP Kk g4 z4 An sv4=>?_
 have EZ:=As Bd Kk
 have Ea:=As Bh Kk
 have IQ:=Bq HG Kk
 have FX:=Ay (hr.lt) Kk
 have FY:=Ay (ho.lt) Kk
 replace Bd:=AC g4 Bd
 replace Bh:=AC g4 Bh
 replace hr:=hr.kn g4
 replace ho:=ho.kn g4
 replace HG:=AA HG g4
 refine BB (T:=38) (Z:=[.int .i64 0]) sv4 rfl rfl rfl (fun a w=>by kernel_rfl) fun a5 w5 IR JM g5 z5 Ap sv5=>?_
 have Eb:=As Bd JM
 have Ec:=As Bh JM
 have B9:=As An JM
 have IS:=Bq HG JM
 have FZ:=Ay (hr.lt) JM
 have Fa:=Ay (ho.lt) JM
 replace Bd:=AC g5 Bd
 replace Bh:=AC g5 Bh
 replace An:=AC g5 An
 replace hr:=hr.kn g5
 replace ho:=ho.kn g5
 replace HG:=AA HG g5
 refine AE ?_
 refine k1 _ _ ?_
 refine AKQ fun K6 k6=>?_
 refine AKP ?_
 refine Gm sv5 rfl rfl rfl rfl rfl rfl fun a7 sv7=>?_
 refine Eo sv7 rfl (dd:={ target:=.fn (.func 49) #[pt IP,pt IR],args:=#[] }) rfl (by have e1:=sv7.ev (x:=.tmp 22) rfl rfl;simp[execOp,resolve,Deferred.ofValue,e1];try rfl) fun a8 sv8=>?_
 refine AE ?_
 refine k6 _ _ ?_
 refine AKQ fun K9 k9=>?_
 refine AKQ fun K10 k10=>?_
 rcases(show(hd own joint ad=false∧Cj P=false)∨(hd own joint ad=false∧Cj P=true)∨(hd own joint ad=true∧Cj P=false)∨(hd own joint ad=true∧Cj P=true) by cases hd own joint ad<;>cases Cj P<;>simp) with ⟨hh,hv⟩|⟨hh,hv⟩|⟨hh,hv⟩|⟨hh,hv⟩
 · refine AKP ?_
   refine AJ sv8 10 [(23,.slice ao ds.length ac),(24,.int .i64 joint),(25,.int .i64 ad),(26,.bool false),(27,.bool true),(28,.bool true),(29,undef),(30,undef),(31,undef),(32,.bool true)]
     ⟨ym r5,ym r5,ym r5,Al [.slice ao ds.length ac,.int .i64 joint,.int .i64 ad] Tryz.func50 (by kernel_rfl) rq4 ⟨(oy rfl rfl),(oy rfl rfl),(oy rfl rfl),AKW⟩ (A7 fun W g=>Oh (ho.kn g) hown hh),C3 r6 (fun _=>Bi),ym r5,AN r6,AN r6,AN r6,A1 r7,AKW⟩ fun a11 w11 g11 Bv=>?_
   refine AE ?_
   refine k10 _ _ ?_
   refine Ar Bv rfl rfl ?_
   refine AKQ fun K12 k12=>?_
   refine AKP ?_
   replace An:=AC g11 An
   refine AJ Bv 1 [(33,BR 0 (.slice none 0 0) 0 (.slice none 0 0) (.slice none 0 0) AS)]
     ⟨BM (vs:=[]) rfl rfl trivial trivial (fun _=>AF1 _) (fun _=>rfl),AKW⟩ fun a13 w13 g13 Cg=>?_
   refine Av Cg r7 (Df _ _ Ab (.slice none 0 0) (.slice none 0 0) (.slice none 0 0) rfl rfl rfl) (AC g13 An) (Gc Ab Ab) fun w14 g14 h14=>?_
   replace Ap:=Ag g13 g14 (AC g11 Ap) B9
   refine Av Cg r7 (E9 1) Ap rfl fun w15 g15 h15=>?_
   replace Bd:=AZ g15 (Ag g13 g14 (AC g11 Bd) (Ne.symm EZ)) (Ne.symm Eb)
   replace Bh:=AZ g15 (Ag g13 g14 (AC g11 Bh) (Ne.symm Ea)) (Ne.symm Ec)
   replace An:=AZ g15 h14 (Ne.symm B9)
   replace hr:=(((hr.kn g11).kn g13).offR g14 (AP FX)).offR g15 (AP FZ)
   replace ho:=(((ho.kn g11).kn g13).offR g14 (AP FY)).offR g15 (AP Fa)
   replace HG:=AD (AD (AA (AA HG g11) g13) g14 IQ) g15 IS
   replace Ap:=h15
   refine AE ?_
   refine k12 _ _ ?_
   refine AKT ?_
   repeat refine AK ?_
   refine Bj (fn:=Tryz.f20) Cg (CC (p:=10) (q:=11) Tryz.results20 Cg rfl rfl rfl rfl (Df _ _ Ab (.slice none 0 0) (.slice none 0 0) (.slice none 0 0) rfl rfl rfl) (E9 1) An Ap) (CH Tryz.func49 (by kernel_rfl) rfl _ _) (EM _ _ _) ?_
   exact SRes.zero (NM (.inl hh)) HG
 · refine AKP ?_
   refine AJ sv8 10 [(23,.slice ao ds.length ac),(24,.int .i64 joint),(25,.int .i64 ad),(26,.bool false),(27,.bool true),(28,.bool true),(29,undef),(30,undef),(31,undef),(32,.bool true)]
     ⟨ym r5,ym r5,ym r5,Al [.slice ao ds.length ac,.int .i64 joint,.int .i64 ad] Tryz.func50 (by kernel_rfl) rq4 ⟨(oy rfl rfl),(oy rfl rfl),(oy rfl rfl),AKW⟩ (A7 fun W g=>Oh (ho.kn g) hown hh),C3 r6 (fun _=>Bi),ym r5,AN r6,AN r6,AN r6,A1 r7,AKW⟩ fun a16 w16 g16 Cr=>?_
   refine AE ?_
   refine k10 _ _ ?_
   refine Ar Cr rfl rfl ?_
   refine AKQ fun K17 k17=>?_
   refine AKP ?_
   replace An:=AC g16 An
   refine AJ Cr 1 [(33,BR 0 (.slice none 0 0) 0 (.slice none 0 0) (.slice none 0 0) AS)]
     ⟨BM (vs:=[]) rfl rfl trivial trivial (fun _=>AF1 _) (fun _=>rfl),AKW⟩ fun a18 w18 g18 CQ=>?_
   refine Av CQ r7 (Df _ _ Ab (.slice none 0 0) (.slice none 0 0) (.slice none 0 0) rfl rfl rfl) (AC g18 An) (Gc Ab Ab) fun w19 g19 h19=>?_
   replace Ap:=Ag g18 g19 (AC g16 Ap) B9
   refine Av CQ r7 (E9 1) Ap rfl fun w20 g20 h20=>?_
   replace Bd:=AZ g20 (Ag g18 g19 (AC g16 Bd) (Ne.symm EZ)) (Ne.symm Eb)
   replace Bh:=AZ g20 (Ag g18 g19 (AC g16 Bh) (Ne.symm Ea)) (Ne.symm Ec)
   replace An:=AZ g20 h19 (Ne.symm B9)
   replace hr:=(((hr.kn g16).kn g18).offR g19 (AP FX)).offR g20 (AP FZ)
   replace ho:=(((ho.kn g16).kn g18).offR g19 (AP FY)).offR g20 (AP Fa)
   replace HG:=AD (AD (AA (AA HG g16) g18) g19 IQ) g20 IS
   replace Ap:=h20
   refine AE ?_
   refine k17 _ _ ?_
   refine AKT ?_
   repeat refine AK ?_
   refine Bj (fn:=Tryz.f20) CQ (CC (p:=10) (q:=11) Tryz.results20 CQ rfl rfl rfl rfl (Df _ _ Ab (.slice none 0 0) (.slice none 0 0) (.slice none 0 0) rfl rfl rfl) (E9 1) An Ap) (CH Tryz.func49 (by kernel_rfl) rfl _ _) (EM _ _ _) ?_
   exact SRes.zero (NM (.inl hh)) HG
 · refine AKP ?_
   refine AJ sv8 10 [(23,.slice ao ds.length ac),(24,.int .i64 joint),(25,.int .i64 ad),(26,.bool true),(27,.bool false),(28,.bool false),(29,A8 sa po (.slice vo ks.length vc_)),(30,.bool false),(31,.bool true),(32,.bool true)]
     ⟨ym r5,ym r5,ym r5,Al [.slice ao ds.length ac,.int .i64 joint,.int .i64 ad] Tryz.func50 (by kernel_rfl) rq4 ⟨(oy rfl rfl),(oy rfl rfl),(oy rfl rfl),AKW⟩ (A7 fun W g=>Oh (ho.kn g) hown hh),C3 r6 (fun _=>Bi),ym r5,Ai rq9 (fun _ g=>AY (CX hsa hpo (.slice vo ks.length vc_) rfl) (Aj (AF g Bd (by simp)))),B8 [A8 sa po (.slice vo ks.length vc_)] Tryz.func51 (by kernel_rfl) r7 ⟨(oy rfl rfl),AKW⟩ (A7 fun W g=>Mg hsa hpo (hr.kn g) hP hv),IA rfl rfl (gy rfl rfl rfl) (oy rfl rfl) (fun _=>Bi) (fun _=>rfl),Aa rq9,AKW⟩ fun a21 w21 g21 CK=>?_
   refine AE ?_
   refine k10 _ _ ?_
   refine Ar CK rfl rfl ?_
   refine AKQ fun K22 k22=>?_
   refine AKP ?_
   replace An:=AC g21 An
   refine AJ CK 1 [(33,BR 0 (.slice none 0 0) 0 (.slice none 0 0) (.slice none 0 0) AS)]
     ⟨BM (vs:=[]) rfl rfl trivial trivial (fun _=>AF1 _) (fun _=>rfl),AKW⟩ fun a23 w23 g23 Cl=>?_
   refine Av Cl r7 (Df _ _ Ab (.slice none 0 0) (.slice none 0 0) (.slice none 0 0) rfl rfl rfl) (AC g23 An) (Gc Ab Ab) fun w24 g24 h24=>?_
   replace Ap:=Ag g23 g24 (AC g21 Ap) B9
   refine Av Cl r7 (E9 1) Ap rfl fun w25 g25 h25=>?_
   replace Bd:=AZ g25 (Ag g23 g24 (AC g21 Bd) (Ne.symm EZ)) (Ne.symm Eb)
   replace Bh:=AZ g25 (Ag g23 g24 (AC g21 Bh) (Ne.symm Ea)) (Ne.symm Ec)
   replace An:=AZ g25 h24 (Ne.symm B9)
   replace hr:=(((hr.kn g21).kn g23).offR g24 (AP FX)).offR g25 (AP FZ)
   replace ho:=(((ho.kn g21).kn g23).offR g24 (AP FY)).offR g25 (AP Fa)
   replace HG:=AD (AD (AA (AA HG g21) g23) g24 IQ) g25 IS
   replace Ap:=h25
   refine AE ?_
   refine k22 _ _ ?_
   refine AKT ?_
   repeat refine AK ?_
   refine Bj (fn:=Tryz.f20) Cl (CC (p:=10) (q:=11) Tryz.results20 Cl rfl rfl rfl rfl (Df _ _ Ab (.slice none 0 0) (.slice none 0 0) (.slice none 0 0) rfl rfl rfl) (E9 1) An Ap) (CH Tryz.func49 (by kernel_rfl) rfl _ _) (EM _ _ _) ?_
   exact SRes.zero (NM (.inr hv)) HG
 · obtain⟨haa,hjj,hol,hasc⟩:=Wa hh
   have hia:MM ad:=⟨by omega,by omega⟩
   refine AKP ?_
   refine AJ sv8 10 [(23,.slice ao ds.length ac),(24,.int .i64 joint),(25,.int .i64 ad),(26,.bool true),(27,.bool false),(28,.bool false),(29,A8 sa po (.slice vo ks.length vc_)),(30,.bool true),(31,.bool false),(32,.bool false)]
     ⟨ym r5,ym r5,ym r5,Al [.slice ao ds.length ac,.int .i64 joint,.int .i64 ad] Tryz.func50 (by kernel_rfl) rq4 ⟨(oy rfl rfl),(oy rfl rfl),(oy rfl rfl),AKW⟩ (A7 fun W g=>Oh (ho.kn g) hown hh),C3 r6 (fun _=>Bi),ym r5,Ai rq9 (fun _ g=>AY (CX hsa hpo (.slice vo ks.length vc_) rfl) (Aj (AF g Bd (by simp)))),B8 [A8 sa po (.slice vo ks.length vc_)] Tryz.func51 (by kernel_rfl) r7 ⟨(oy rfl rfl),AKW⟩ (A7 fun W g=>Mg hsa hpo (hr.kn g) hP hv),IA rfl rfl (gy rfl rfl rfl) (oy rfl rfl) (fun _=>Bi) (fun _=>rfl),Aa rq9,AKW⟩ fun a26 w26 g26 Cy=>?_
   refine AE ?_
   refine k10 _ _ ?_
   refine A2 Cy rfl rfl ?_
   refine AKU ?_
   refine k9 _ _ ?_
   refine AKQ fun K27 k27=>?_
   refine AKP ?_
   refine AJ Cy 2 [(34,.int .i64 ad),(35,.slice ao ds.length ac)]
     ⟨ym r5,ym r5,AKW⟩ fun a28 w28 g28 GI=>?_
   have EW:=AA g26 g28
   replace An:=AC EW An
   replace Ap:=AC EW Ap
   replace ho:=ho.kn EW
   replace HG:=AA HG EW
   refine BD GI Tryz.func52 (by kernel_rfl) r6 (AHr (by omega) ho) fun a29 v29 w29 hR29 CY=>?_
   obtain⟨ao29,cap29,rfl,g29,oc,fr29⟩:=hR29
   have Il:=DK fr29 An
   have Im:=DK fr29 Ap
   have lo_oc:=JG HG fr29
   refine AJ CY 2 [(37,.int .i64 joint),(38,BR ad (.slice ao29 ds.length cap29) joint (.slice none 0 0) (.slice none 0 0) AS)]
     ⟨ym r5,BM (vs:=[.int .i64 ad,.slice ao29 ds.length cap29,.int .i64 joint]) rfl rfl trivial ⟨(oy rfl rfl),(oy rfl rfl),(oy rfl rfl),AKW⟩ (fun _=>AJe _ _ _ _ _ _) (fun _=>rfl),AKW⟩ fun a30 w30 g30 Dl=>?_
   replace Bd:=AC g30 (AC g29 (AC EW Bd))
   replace Bh:=AC g30 (AC g29 (AC EW Bh))
   replace An:=AC g30 (AC g29 An)
   replace Ap:=AC g30 (AC g29 Ap)
   replace hr:=((hr.kn EW).kn g29).kn g30
   replace ho:=(ho.kn g29).kn g30
   replace oc:=oc.kn g30
   replace HG:=AA (AA HG g29) g30
   refine BB (T:=31) (Z:=([[.int .i64 0],[.slice none 0 0],[.int .i64 0],[.slice none 0 0],[.slice none 0 0],bv AS].flatten)) Dl rfl rfl rfl (fun a w=>by kernel_rfl) fun a31 w31 EN Fb g31 z31 Ah Fp=>?_
   have D8:=As Bd Fb
   have D9:=As Bh Fb
   have CR:=As An Fb
   have CS:=As Ap Fb
   have Fc:=Bq HG Fb
   have Ey:=Ay (hr.lt) Fb
   have Ez:=Ay (ho.lt) Fb
   have Dt:=Ay (Own.ltS oc) Fb
   refine Av Fp r7 (Df _ _ Ab (.slice ao29 ds.length cap29) (.slice none 0 0) (.slice none 0 0) rfl rfl rfl) Ah (Gc Ab Ab) fun w32 g32 h32=>?_
   replace Bh:=AZ g32 (AC g31 Bh) (Ne.symm D9)
   have Eu:Sv _ _ [_,_,_,_,_,_,_,_,_,_,_,_,_,_,_,_,_,_,_,_,_] _:=Fp.dl [37,38,36,34,35]
   refine AE ?_
   refine k27 _ _ ?_
   refine AKQ fun K34 k34=>?_
   refine AKP ?_
   refine AJ Eu 1 [(39,B7 x)]
     ⟨yl r6 (Ck x) Bh,AKW⟩ fun a35 w35 g35 Iz=>?_
   replace An:=AC g35 (AZ g32 (AC g31 An) (Ne.symm CR))
   replace Ap:=AC g35 (AZ g32 (AC g31 Ap) (Ne.symm CS))
   replace Ah:=AC g35 h32
   replace HG:=AA (AD (AA HG g31) g32 Fc) g35
   refine BD Iz Tryz.func53 (by kernel_rfl) r6 (Nt (ZT x _)) fun a36 v36 w36 hR36 Ep=>?_
   obtain⟨ao36,cap36,rfl,_⟩:=(Sl.of_own hR36.1).shape
   obtain⟨ow36,fr36⟩:=hR36
   replace fr36:=C7 fr36
   have op:=ow36
   clear ow36
   have g36:=fr36.1
   replace fr36:=fr36.2
   have Io:=DK fr36 An
   have Ip:=DK fr36 Ap
   have EO:=DK fr36 Ah
   have lo_op:=JG HG fr36
   replace Bd:=AC g36 (AC g35 (AZ g32 (AC g31 Bd) (Ne.symm D8)))
   replace Bh:=AC g36 (AC g35 Bh)
   replace An:=AC g36 An
   replace Ap:=AC g36 Ap
   replace Ah:=AC g36 Ah
   replace hr:=(((hr.kn g31).offR g32 (AP Ey)).kn g35).kn g36
   replace ho:=(((ho.kn g31).offR g32 (AP Ez)).kn g35).kn g36
   replace oc:=(((oc.kn g31).offR g32 (AP Dt)).kn g35).kn g36
   replace HG:=AA HG g36
   refine AR (v:=.slice ao36 ((CD x)).length cap36) Ep r6 fun a37 IE=>?_
   refine AE ?_
   refine k34 _ _ ?_
   refine AKQ fun K38 k38=>?_
   refine AKQ fun K39 k39=>?_
   rcases Nat.eq_zero_or_pos ds.length with hz|hz
   · obtain rfl:own=[]:=List.eq_nil_of_length_eq_zero (by omega)
     refine AKP ?_
     refine AJ IE 3 [(41,.slice ao ds.length ac),(42,.int .i64 ((ds.length:Nat))),(43,.bool true)]
       ⟨ym r5,Au (Tryz.underlying28) rfl rfl trivial (oy rfl rfl) (fun _=>rfl),Cp r6 (fun _=>BU (JE (by omega))),AKW⟩ fun a40 w40 g40 IG=>?_
     refine AE ?_
     refine k39 _ _ ?_
     refine Ar IG rfl rfl ?_
     refine AKQ fun K41 k41=>?_
     refine AKP ?_
     refine AJ IG 2 [(44,.slice ao36 ((CD x)).length cap36),(45,pk EN 4)]
       ⟨ym r5,yf r6 (fun _=>by kernel_rfl),AKW⟩ fun a42 w42 g42 Gp=>?_
     have OB:=AA g40 g42
     refine La (L:=[[.int .i64 ad],[.slice ao29 ds.length cap29],[.int .i64 joint],[.slice none 0 0],[.slice none 0 0],bv AS]) (i:=4) Gp r7 (Di (.slice ao36 ((CD x)).length cap36) rfl) (AC OB Ah) rfl rfl rfl fun w43 g43 h43=>?_
     refine AE ?_
     refine k41 _ _ ?_
     refine AKQ fun K44 k44=>?_
     refine AKP ?_
     refine AJ Gp 2 [(46,.int .i64 ad),(47,.slice ao36 ((CD x)).length cap36)]
       ⟨ym r5,ym r5,AKW⟩ fun a45 w45 g45 E8=>?_
     replace op:=((op.kn OB).offR g43 (AP EO)).kn g45
     refine BD E8 Tryz.func54 (by kernel_rfl) r6 (I1 (I2 ad hia (CD x) (Ik x) (by have:=Hy x;omega) _ _ _ (Own.sb op))) fun a46 v46 w46 hR46 I0=>?_
     obtain⟨rfl,g46⟩:=hR46
     replace Ah:=AC g46 (AC g45 h43)
     refine AJ I0 1 [(49,pk EN 5)]
       ⟨yf r6 (fun _=>by kernel_rfl),AKW⟩ fun a47 w47 g47 NH=>?_
     refine La (L:=[[.int .i64 ad],[.slice ao29 ds.length cap29],[.int .i64 joint],[.slice none 0 0],[.slice ao36 ((CD x)).length cap36],bv AS]) (i:=5) NH r7 (Bb ((ML ad (CD x))) (DM ad (CD x)).1) (AC g47 Ah) rfl rfl (Vl Ab (DM ad (CD x))) fun w48 g48 h48=>?_
     replace An:=Ag g47 g48 (AC g46 (AC g45 (Ag OB g43 An (Ne.symm CR)))) (Ne.symm CR)
     replace Ah:=h48
     have LQ:Sv _ _ [_,_,_,_,_,_,_,_,_,_,_,_,_,_,_,_,_,_,_,_,_,_,_,_,_,_,_,_,_] _:=NH.dl [49,48,46,47]
     refine AE ?_
     refine k44 _ _ ?_
     refine AKQ fun K50 k50=>?_
     refine AKP ?_
     refine AJ LQ 1 [(50,BR ad (.slice ao29 ds.length cap29) joint (.slice none 0 0) (.slice ao36 ((CD x)).length cap36) ((ML ad (CD x))))]
       ⟨yl r6 (Df _ _ (DM ad (CD x)) (.slice ao29 ds.length cap29) (.slice none 0 0) (.slice ao36 ((CD x)).length cap36) rfl rfl rfl) Ah,AKW⟩ fun a51 w51 g51 AB1=>?_
     refine Av AB1 r7 (Df _ _ (DM ad (CD x)) (.slice ao29 ds.length cap29) (.slice none 0 0) (.slice ao36 ((CD x)).length cap36) rfl rfl rfl) (AC g51 An) (Gc Ab (DM ad (CD x))) fun w52 g52 h52=>?_
     replace Ap:=Ag g51 g52 (Ag g47 g48 (AC g46 (AC g45 (Ag OB g43 Ap (Ne.symm CS)))) (Ne.symm CS)) B9
     refine Av AB1 r7 (E9 0) Ap rfl fun w53 g53 h53=>?_
     replace Bd:=AZ g53 (Ag g51 g52 (Ag g47 g48 (AC g46 (AC g45 (Ag OB g43 Bd (Ne.symm D8)))) (Ne.symm D8)) (Ne.symm EZ)) (Ne.symm Eb)
     replace Bh:=AZ g53 (Ag g51 g52 (Ag g47 g48 (AC g46 (AC g45 (Ag OB g43 Bh (Ne.symm D9)))) (Ne.symm D9)) (Ne.symm Ea)) (Ne.symm Ec)
     replace An:=AZ g53 h52 (Ne.symm B9)
     replace Ah:=AZ g53 (Ag g51 g52 Ah CR) CS
     replace hr:=((((((((hr.kn OB).offR g43 (AP Ey)).kn g45).kn g46).kn g47).offR g48 (AP Ey)).kn g51).offR g52 (AP FX)).offR g53 (AP FZ)
     replace ho:=((((((((ho.kn OB).offR g43 (AP Ez)).kn g45).kn g46).kn g47).offR g48 (AP Ez)).kn g51).offR g52 (AP FY)).offR g53 (AP Fa)
     replace oc:=((((((((oc.kn OB).offR g43 (AP Dt)).kn g45).kn g46).kn g47).offR g48 (AP Dt)).kn g51).offR g52 (AP Il)).offR g53 (AP Im)
     replace op:=(((((op.kn g46).kn g47).offR g48 (AP EO)).kn g51).offR g52 (AP Io)).offR g53 (AP Ip)
     replace HG:=AD (AD (AA (AD (AA (AA (AA (AD (AA HG OB) g43 Fc) g45) g46) g47) g48 Fc) g51) g52 IQ) g53 IS
     replace Ap:=h53
     refine AE ?_
     refine k50 _ _ ?_
     refine AKT ?_
     repeat refine AK ?_
     refine Bj (fn:=Tryz.f20) AB1 (CC (p:=10) (q:=11) Tryz.results20 AB1 rfl rfl rfl rfl (Df _ _ (DM ad (CD x)) (.slice ao29 ds.length cap29) (.slice none 0 0) (.slice ao36 ((CD x)).length cap36) rfl rfl rfl) (E9 0) An Ap) (CH Tryz.func49 (by kernel_rfl) rfl _ _) (EM _ _ _) ?_
     exact SRes.mk (own:=ds) (wr:=[]) (NN hh hv) rfl rfl rfl hown rfl oc (Own.nil _ _ _) op lo_oc (fun k hk=>by simp[Ba,Value.ownBlock] at hk) lo_op (fun k _ hk=>by simp[Ba,Value.ownBlock] at hk) (DM _ _) (Ik x) HG rfl
   · have hne:own≠[]:=fun h=>by rw[h] at hownl;simp at hownl;omega
     refine AKP ?_
     refine AJ IE 3 [(41,.slice ao ds.length ac),(42,.int .i64 ((ds.length:Nat))),(43,.bool false)]
       ⟨ym r5,Au (Tryz.underlying28) rfl rfl trivial (oy rfl rfl) (fun _=>rfl),Cp r6 (fun _=>BU (HH (by omega))),AKW⟩ fun a54 w54 g54 KV=>?_
     refine AE ?_
     refine k39 _ _ ?_
     refine A2 KV rfl rfl ?_
     refine AKU ?_
     refine k38 _ _ ?_
     refine AKQ fun K55 k55=>?_
     refine AKP ?_
     refine AR (v:=.slice none 0 0) KV r6 fun a56 Pg=>?_
     refine AE ?_
     refine k55 _ _ ?_
     refine AKQ fun K57 k57=>?_
     refine AKQ fun K58 k58=>?_
     refine AKP ?_
     refine AJ Pg 3 [(51,.slice ao ds.length ac),(52,.int .i64 ((ds.length:Nat))),(53,.int .i64 0)]
       ⟨ym r5,Au (Tryz.underlying28) rfl rfl trivial (oy rfl rfl) (fun _=>rfl),En (.inl rfl) rfl trivial (fun _=>rfl),AKW⟩ fun a59 w59 g59 Ej=>?_
     have Qo:=AA g54 g59
     refine AE ?_
     refine k58 _ _ ?_
     refine BI fun Q60 x60 y60 rt60 o60=>?_
     replace Bd:=AC Qo Bd
     replace Bh:=AC Qo Bh
     replace An:=AC Qo An
     replace Ap:=AC Qo Ap
     replace Ah:=AC Qo Ah
     replace hr:=hr.kn Qo
     replace ho:=ho.kn Qo
     replace oc:=oc.kn Qo
     replace op:=op.kn Qo
     replace HG:=AA HG Qo
     have okk:=Own.nil w59 23 32
     have Iq:=Hm Tp
     have Ir:=Hm Tq
     have EP:=Hm IP
     have EQ:=Hm IR
     have DI:=Hm EN
     have ap_hr_okk:=Gk (TH (.slice vo ks.length vc_) ks)
     have ap_ho_okk:=Gk (Ba (.slice ao ds.length ac))
     have ap_oc_okk:=Gk (Ba (.slice ao29 ds.length cap29))
     have ap_okk_oc:=AC9 (Ba (.slice ao29 ds.length cap29))
     have ap_op_okk:=Gk (Ba (.slice ao36 ((CD x)).length cap36))
     have ap_okk_op:=AC9 (Ba (.slice ao36 ((CD x)).length cap36))
     have lo_okk:=Yt w
     refine wp_loop (fun a w'=>∃(i:Nat) (ko:Option Addr) (kc:Nat) (kl:List DD),(i≤ds.length)∧(kl.map DD.x=(own.take i).map fun z=>(Cz P z ad).1)∧(∀j,j<i→(Cz P (MF own j) ad).2=0)∧Sv 104 [{ target:=.fn (.func 49) #[pt IP,pt IR],args:=#[] }] [(53,.int .i64 ((i:Int))),(14,.slice ko i kc),(51,.slice ao ds.length ac),(52,.int .i64 ((ds.length:Nat))),(41,.slice ao ds.length ac),(42,.int .i64 ((ds.length:Nat))),(43,.bool false),(13,.slice ao36 ((CD x)).length cap36),(40,.slice ao36 ((CD x)).length cap36),(39,B7 x),(12,pt EN),(23,.slice ao ds.length ac),(24,.int .i64 joint),(25,.int .i64 ad),(26,.bool true),(27,.bool false),(28,.bool false),(29,A8 sa po (.slice vo ks.length vc_)),(30,.bool true),(31,.bool false),(32,.bool false),(22,.func (.func 49) #[] #[pt IP,pt IR]),(11,pt IR),(10,pt IP),(9,pt Tq),(5,pt Tp),(0,A8 sa po (.slice vo ks.length vc_)),(1,.slice ao ds.length ac),(2,.int .i64 joint),(3,.int .i64 ad),(4,B7 x)] a∧w.grownBy w' none∧w'.heap[Tp]?=some (.cells ([bv sa,bv po,[.slice vo ks.length vc_]].flatten).toArray 36 (0,0))∧w'.heap[Tq]?=some (.cells (vc x).toArray 25 (0,0))∧w'.heap[IP]?=some (.cells (([[.int .i64 0],[.slice none 0 0],[.int .i64 0],[.slice none 0 0],[.slice none 0 0],bv AS].flatten)).toArray 31 (0,0))∧w'.heap[IR]?=some (.cells ([.int .i64 0]).toArray 38 (0,0))∧w'.heap[EN]?=some (.cells ([[.int .i64 ad],[.slice ao29 ds.length cap29],[.int .i64 joint],[.slice none 0 0],[.slice none 0 0],bv AS].flatten).toArray 31 (0,0))∧RdK w' (.slice vo ks.length vc_) ks∧RdD w' (.slice ao ds.length ac) ds∧Own w' 23 32 (.slice ao29 ds.length cap29) ds.length (ds.flatMap J4)∧Own w' 5 1 (.slice ao36 ((CD x)).length cap36) (((CD x)).length) (bv ((CD x)))∧Own w' 23 32 (.slice ko i kc) i (kl.flatMap J4)∧(∀k,Ba (.slice ko i kc) k→k≠Tp)∧(∀k,Ba (.slice ko i kc) k→k≠Tq)∧(∀k,Ba (.slice ko i kc) k→k≠IP)∧(∀k,Ba (.slice ko i kc) k→k≠IR)∧(∀k,Ba (.slice ko i kc) k→k≠EN)∧(∀k,TH (.slice vo ks.length vc_) ks k→¬Ba (.slice ko i kc) k)∧(∀k,Ba (.slice ao ds.length ac) k→¬Ba (.slice ko i kc) k)∧(∀k,Ba (.slice ao29 ds.length cap29) k→¬Ba (.slice ko i kc) k)∧(∀k,Ba (.slice ko i kc) k→¬Ba (.slice ao29 ds.length cap29) k)∧(∀k,Ba (.slice ao36 ((CD x)).length cap36) k→¬Ba (.slice ko i kc) k)∧(∀k,Ba (.slice ko i kc) k→¬Ba (.slice ao36 ((CD x)).length cap36) k)∧(∀k,Ba (.slice ko i kc) k→w.heap.size≤k)) (fun a _=>(ds.length-intOf (a.tmps.getD 53 undef)).toNat) ⟨0,none,0,[],Nat.zero_le _,rfl,fun j hj=>by omega,⟨Ej.1,Ej.2.1,Ej.2.2.2.2.1,Ej.2.2.2.2.2.1,Ej.2.2.1,Ej.2.2.2.1,Ej.2.2.2.2.2.2.1,Ej.2.2.2.2.2.2.2.1,(AL Ej).1,(AL Ej).2.1,(AL Ej).2.2.1,(AL Ej).2.2.2.1,(AL Ej).2.2.2.2.1,(AL Ej).2.2.2.2.2.1,(AL Ej).2.2.2.2.2.2.1,(AL Ej).2.2.2.2.2.2.2.1,(AL (AL Ej)).1,(AL (AL Ej)).2.1,(AL (AL Ej)).2.2.1,(AL (AL Ej)).2.2.2.1,(AL (AL Ej)).2.2.2.2.1,(AL (AL Ej)).2.2.2.2.2.1,(AL (AL Ej)).2.2.2.2.2.2.1,(AL (AL Ej)).2.2.2.2.2.2.2.1,(AL (AL (AL Ej))).1,(AL (AL (AL Ej))).2.1,(AL (AL (AL Ej))).2.2.1,(AL (AL (AL Ej))).2.2.2.1,(AL (AL (AL Ej))).2.2.2.2.1,(AL (AL (AL Ej))).2.2.2.2.2.1,(AL (AL (AL Ej))).2.2.2.2.2.2.1,(AL (AL (AL Ej))).2.2.2.2.2.2.2.1,(AL (AL (AL (AL Ej)))).1,AKW⟩,HG,Bd,Bh,An,Ap,Ah,hr,ho,oc,op,okk,Iq,Ir,EP,EQ,DI,ap_hr_okk,ap_ho_okk,ap_oc_okk,ap_okk_oc,ap_op_okk,ap_okk_op,lo_okk⟩ fun a61 w61 hI61=>?_
     clear Bd
     clear Bh
     clear An
     clear Ap
     clear Ah
     clear hr
     clear ho
     clear oc
     clear op
     clear okk
     clear HG
     obtain⟨i,ko,kc,kl,hin,hkl,hok,Wb,HG,Bd,Bh,An,Ap,Ah,hr,ho,oc,op,okk,Iq,Ir,EP,EQ,DI,ap_hr_okk,ap_ho_okk,ap_oc_okk,ap_okk_oc,ap_op_okk,ap_okk_op,lo_okk⟩:=hI61
     refine AKQ fun K62 k62=>?_
     by_cases hi:i<ds.length
     · obtain⟨y,hx_y⟩:∃zx,ds[i]'hi=zx:=⟨_,rfl⟩
       have hla:MF own i=y.x:=by rw[←hown,Hp hi,hx_y]
       obtain⟨kx,hkx⟩:∃q,Cz P y.x ad=q:=⟨_,rfl⟩
       have hkd:Dg kx.1:=hkx▸Kj hnok
       refine AKP ?_
       refine AJ Wb 1 [(54,.bool true)]
         ⟨FG r7 (fun _=>BJ (by simp;omega)),AKW⟩ fun a63 w63 g63 OD=>?_
       refine AE ?_
       refine k62 _ _ ?_
       refine AKQ fun K64 k64=>?_
       refine Ar OD rfl rfl ?_
       refine AKU ?_
       refine k64 _ _ ?_
       refine AKQ fun K65 k65=>?_
       refine BI fun Q66 x66 y66 rt66 o66=>?_
       refine AKQ fun K67 k67=>?_
       refine AKP ?_
       replace ho:=ho.kn g63
       refine AJ OD 2 [(55,pk ((bO ao)) (oO ao+i*32)),(56,AQ y.x)]
         ⟨BH rq8 (fun w=>CU Tryz.underlying28 (by kernel_rfl) (ho.1) (by omega) (rfl) w),Bg r6 (fun _ g=>AY (Bb y.x y.h.1) (by have:=Cb (ho.kn g).1 DV hi (by decide);rw[hx_y] at this;exact this)),AKW⟩ fun a68 w68 g68 I3=>?_
       replace Bd:=AC g68 (AC g63 Bd)
       replace Bh:=AC g68 (AC g63 Bh)
       replace An:=AC g68 (AC g63 An)
       replace Ap:=AC g68 (AC g63 Ap)
       replace Ah:=AC g68 (AC g63 Ah)
       replace hr:=(hr.kn g63).kn g68
       replace ho:=ho.kn g68
       replace oc:=(oc.kn g63).kn g68
       replace op:=(op.kn g63).kn g68
       replace okk:=(okk.kn g63).kn g68
       replace HG:=AA (AA HG g63) g68
       refine BB (T:=23) (Z:=(bv AS)) I3 rfl rfl rfl (fun a w=>by kernel_rfl) fun a69 w69 AJf EA g69 z69 Tr AIw=>?_
       have Ph:=As Bd EA
       have Pi:=As Bh EA
       have OE:=As An EA
       have OF:=As Ap EA
       have NP:=As Ah EA
       have AB2:=Bq HG EA
       have Ts:=Ay (hr.lt) EA
       have Tt:=Ay (ho.lt) EA
       have Tu:=Ay (Own.ltS oc) EA
       have Tv:=Ay (Own.ltS op) EA
       have Qp:=Ay (Own.ltS okk) EA
       refine Av AIw r7 (Bb y.x y.h.1) Tr (Dk y.h) fun w70 g70 h70=>?_
       replace Bd:=AZ g70 (AC g69 Bd) (Ne.symm Ph)
       replace hr:=(hr.kn g69).offR g70 (AP Ts)
       replace Tr:=h70
       refine AE ?_
       refine k67 _ _ ?_
       refine AKQ fun K71 k71=>?_
       refine AKP ?_
       refine AJ AIw 7 [(58,A8 sa po (.slice vo ks.length vc_)),(59,AQ y.x),(60,.int .i64 ad),(61,.tuple #[AQ kx.1,.int .i64 kx.2]),(57,.tuple #[AQ kx.1,.int .i64 kx.2]),(62,AQ kx.1),(63,.int .i64 kx.2)]
         ⟨yl r6 (CX hsa hpo (.slice vo ks.length vc_) rfl) Bd,yl r6 (Bb y.x y.h.1) Tr,ym r5,Al [A8 sa po (.slice vo ks.length vc_),AQ y.x,.int .i64 ad] Tryz.func32 (by kernel_rfl) rq4 ⟨(oy rfl rfl),(oy rfl rfl),(oy rfl rfl),AKW⟩ (A7 fun W g=>ADy hsa hpo y.h (hr.kn g) hP hkx),ym r5,BZ rq4 (fun _ _ h=>⟨_,_,h,rfl,rfl⟩),BZ rq4 (fun _ _ h=>⟨_,_,h,rfl,rfl⟩),AKW⟩ fun a72 w72 g72 Tw=>?_
       replace Bd:=AC g72 Bd
       replace Bh:=AC g72 (AZ g70 (AC g69 Bh) (Ne.symm Pi))
       replace An:=AC g72 (AZ g70 (AC g69 An) (Ne.symm OE))
       replace Ap:=AC g72 (AZ g70 (AC g69 Ap) (Ne.symm OF))
       replace Ah:=AC g72 (AZ g70 (AC g69 Ah) (Ne.symm NP))
       replace hr:=hr.kn g72
       replace ho:=((ho.kn g69).offR g70 (AP Tt)).kn g72
       replace oc:=((oc.kn g69).offR g70 (AP Tu)).kn g72
       replace op:=((op.kn g69).offR g70 (AP Tv)).kn g72
       replace okk:=((okk.kn g69).offR g70 (AP Qp)).kn g72
       replace HG:=AA (AD (AA HG g69) g70 AB2) g72
       refine BB (T:=23) (Z:=(bv AS)) Tw rfl rfl rfl (fun a w=>by kernel_rfl) fun a73 w73 AJg EB g73 z73 Tx Pj=>?_
       have Pk:=As Bd EB
       have Pm:=As Bh EB
       have OH:=As An EB
       have OI:=As Ap EB
       have NQ:=As Ah EB
       have AB3:=Bq HG EB
       have Ty:=Ay (hr.lt) EB
       have Tz:=Ay (ho.lt) EB
       have T5:=Ay (Own.ltS oc) EB
       have T6:=Ay (Own.ltS op) EB
       have Qq:=Ay (Own.ltS okk) EB
       refine Av Pj r7 (Bb kx.1 hkd.1) Tx (Dk hkd) fun w74 g74 h74=>?_
       replace Bd:=AZ g74 (AC g73 Bd) (Ne.symm Pk)
       replace Bh:=AZ g74 (AC g73 Bh) (Ne.symm Pm)
       replace An:=AZ g74 (AC g73 An) (Ne.symm OH)
       replace Ap:=AZ g74 (AC g73 Ap) (Ne.symm OI)
       replace Ah:=AZ g74 (AC g73 Ah) (Ne.symm NQ)
       replace hr:=(hr.kn g73).offR g74 (AP Ty)
       replace ho:=(ho.kn g73).offR g74 (AP Tz)
       replace oc:=(oc.kn g73).offR g74 (AP T5)
       replace op:=(op.kn g73).offR g74 (AP T6)
       replace okk:=(okk.kn g73).offR g74 (AP Qq)
       replace HG:=AD (AA HG g73) g74 AB3
       replace Tx:=h74
       refine AR (v:=.int .i64 kx.2) Pj r6 fun a75 ADz=>?_
       have T7:Sv _ _ [_,_,_,_,_,_,_,_,_,_,_,_,_,_,_,_,_,_,_,_,_,_,_,_,_,_,_,_,_,_,_,_,_,_,_,_,_] _:=ADz.dl [58,59,60,61,57,62,63]
       refine AE ?_
       refine k71 _ _ ?_
       refine AKQ fun K77 k77=>?_
       refine AKQ fun K78 k78=>?_
       by_cases he:kx.2=0
       · have hkl1:=NO hkl (by omega) hla hkx (hkd:=hkd)
         have hok1:∀j,j<i+1→(Cz P (MF own j) ad).2=0:=fun j hj=>if e:j=i then (by rw[e,hla,hkx];exact he) else hok j (by omega)
         refine AKP ?_
         refine AJ T7 2 [(64,.int .i64 kx.2),(65,.bool false)]
           ⟨ym r5,Cp r6 (fun _=>Db (by simpa using he)),AKW⟩ fun a79 w79 g79 MH=>?_
         refine AE ?_
         refine k78 _ _ ?_
         refine A2 MH rfl rfl ?_
         refine AKU ?_
         refine k77 _ _ ?_
         refine AKP ?_
         refine AJ MH 2 [(68,.slice ko i kc),(69,AQ kx.1)]
           ⟨ym r5,yl r6 (Bb kx.1 hkd.1) (AC g79 Tx),AKW⟩ fun a80 w80 g80 AHs=>?_
         have Pn:=AA g79 g80
         refine Jn (cs:=bv kx.1) (e:=23) AHs rfl rfl rfl rfl rfl rfl (Zb hkd) fun a81 w81 AJh AIC g81 z81 AF7 AB4=>?_
         replace Bd:=AC g81 (AC Pn Bd)
         replace Bh:=AC g81 (AC Pn Bh)
         replace An:=AC g81 (AC Pn An)
         replace Ap:=AC g81 (AC Pn Ap)
         replace Ah:=AC g81 (AC Pn Ah)
         replace hr:=(hr.kn Pn).kn g81
         replace ho:=(ho.kn Pn).kn g81
         replace oc:=(oc.kn Pn).kn g81
         replace op:=(op.kn Pn).kn g81
         replace okk:=(okk.kn Pn).kn g81
         replace HG:=AA (AA HG Pn) g81
         refine IC dsT AB4 rfl rfl rfl rfl rfl rfl rfl rfl okk (Js AF7 hkd) (Dx _) (by omega) fun a82 ao82 cap82 w82 owx82 CG Wc=>?_
         have Qr:=Ha CG.2 Iq Bd
         have Qs:=Ha CG.2 Ir Bh
         have Po:=Ha CG.2 EP An
         have Pp:=Ha CG.2 EQ Ap
         have OJ:=Ha CG.2 DI Ah
         have We:=Fl CG.2 ap_hr_okk (hr.lt)
         have Wf:=Fl CG.2 ap_ho_okk (ho.lt)
         have Nu:=Fl CG.2 ap_oc_okk (Own.ltS oc)
         have Nv:=Fl CG.2 ap_op_okk (Own.ltS op)
         have ap_owx82_oc:=AC8 Nu
         have ap_owx82_op:=AC8 Nv
         have AD0:=TB CG.2 lo_okk HG
         replace Bd:=AF CG.1 Bd (fun e=>Iq _ e.symm rfl)
         replace Bh:=AF CG.1 Bh (fun e=>Ir _ e.symm rfl)
         replace An:=AF CG.1 An (fun e=>EP _ e.symm rfl)
         replace Ap:=AF CG.1 Ap (fun e=>EQ _ e.symm rfl)
         replace Ah:=AF CG.1 Ah (fun e=>DI _ e.symm rfl)
         replace hr:=hr.offR CG.1 (fun k hk e=>ap_hr_okk k hk (e))
         replace ho:=ho.offR CG.1 (fun k hk e=>ap_ho_okk k hk (e))
         replace oc:=oc.offR CG.1 (fun k hk e=>ap_oc_okk k hk (e))
         replace op:=op.offR CG.1 (fun k hk e=>ap_op_okk k hk (e))
         replace HG:=Ca HG CG.1 fun k e=>lo_okk k (e)
         rw[Pf kl ⟨kx.1,hkd⟩] at owx82
         refine AR (v:=.slice ao82 (i+1) cap82) Wc r6 fun a83 J8=>?_
         have Pq:Sv _ _ [_,_,_,_,_,_,_,_,_,_,_,_,_,_,_,_,_,_,_,_,_,_,_,_,_,_,_,_,_,_,_,_,_,_,_,_,_,_,_] _:=J8.dl [71,70,68,69]
         refine AE ?_
         refine y66 _ _ ?_
         refine k65 _ _ ?_
         refine AKP ?_
         refine AJ Pq 1 [(72,.int .i64 (((i+1:Nat):Int)))]
           ⟨Cp r6 (fun _=>DL (by rw[Bc (by omega) (by omega)];omega)),AKW⟩ fun a85 w85 g85 AD1=>?_
         refine AJ (AD1.dl [53]) 1 [(53,.int .i64 (((i+1:Nat):Int)))]
           ⟨ym r5,AKW⟩ fun a86 w86 g86 ER=>?_
         have Pr:=AA g85 g86
         refine AE ?_
         replace Bd:=AC Pr Bd
         replace Bh:=AC Pr Bh
         replace An:=AC Pr An
         replace Ap:=AC Pr Ap
         replace Ah:=AC Pr Ah
         replace hr:=hr.kn Pr
         replace ho:=ho.kn Pr
         replace oc:=oc.kn Pr
         replace op:=op.kn Pr
         replace owx82:=owx82.kn Pr
         replace HG:=AA HG Pr
         exact⟨⟨i+1,ao82,cap82,(kl++[⟨kx.1,hkd⟩]),by omega,hkl1,hok1,⟨ER.1,ER.2.1,ER.2.2.1,ER.2.2.2.2.1,(AL ER).2.2.2.2.2.1,(AL ER).2.2.2.2.2.2.1,(AL ER).2.2.2.2.2.2.2.1,(AL (AL ER)).1,(AL (AL ER)).2.1,(AL (AL ER)).2.2.1,(AL (AL ER)).2.2.2.1,(AL (AL ER)).2.2.2.2.1,(AL (AL ER)).2.2.2.2.2.1,(AL (AL ER)).2.2.2.2.2.2.1,(AL (AL ER)).2.2.2.2.2.2.2.1,(AL (AL (AL ER))).1,(AL (AL (AL ER))).2.1,(AL (AL (AL ER))).2.2.1,(AL (AL (AL ER))).2.2.2.1,(AL (AL (AL ER))).2.2.2.2.1,(AL (AL (AL ER))).2.2.2.2.2.1,(AL (AL (AL ER))).2.2.2.2.2.2.1,(AL (AL (AL ER))).2.2.2.2.2.2.2.1,(AL (AL (AL (AL ER)))).1,(AL (AL (AL (AL ER)))).2.1,(AL (AL (AL (AL ER)))).2.2.1,(AL (AL (AL (AL ER)))).2.2.2.1,(AL (AL (AL (AL ER)))).2.2.2.2.1,(AL (AL (AL (AL ER)))).2.2.2.2.2.1,(AL (AL (AL (AL ER)))).2.2.2.2.2.2.1,(AL (AL (AL (AL ER)))).2.2.2.2.2.2.2.1,(AL (AL (AL (AL (AL ER))))).1,(AL (AL (AL (AL (AL ER))))).2.1,AKW⟩,HG,Bd,Bh,An,Ap,Ah,hr,ho,oc,op,owx82,Qr,Qs,Po,Pp,OJ,We,Wf,Nu,ap_owx82_oc,Nv,ap_owx82_op,AD0⟩,by rw[show _=_ from ER.2.2.1,show _=_ from Wb.2.2.1];simp[intOf];omega⟩
       · have hke:=LK (P:=P) (a:=ad) (own:=own) (i:=i) (by omega) hok (by rw[hla,hkx];exact he)
         rw[hla,hkx] at hke
         refine AKP ?_
         refine AJ T7 2 [(64,.int .i64 kx.2),(65,.bool true)]
           ⟨ym r5,Cp r6 (fun _=>Db (by simpa using he)),AKW⟩ fun a87 w87 g87 Zc=>?_
         refine AE ?_
         refine k78 _ _ ?_
         refine Ar Zc rfl rfl ?_
         refine AKQ fun K88 k88=>?_
         refine AKP ?_
         replace An:=AC g87 An
         refine AJ Zc 2 [(66,BR 0 (.slice none 0 0) 0 (.slice none 0 0) (.slice none 0 0) AS),(67,.int .i64 kx.2)]
           ⟨BM (vs:=[]) rfl rfl trivial trivial (fun _=>AF1 _) (fun _=>rfl),ym r5,AKW⟩ fun a89 w89 g89 Wg=>?_
         refine Av Wg r7 (Df _ _ Ab (.slice none 0 0) (.slice none 0 0) (.slice none 0 0) rfl rfl rfl) (AC g89 An) (Gc Ab Ab) fun w90 g90 h90=>?_
         replace Ap:=Ag g89 g90 (AC g87 Ap) B9
         refine Av Wg r7 (E9 kx.2) Ap rfl fun w91 g91 h91=>?_
         replace Bd:=AZ g91 (Ag g89 g90 (AC g87 Bd) (Ne.symm EZ)) (Ne.symm Eb)
         replace Bh:=AZ g91 (Ag g89 g90 (AC g87 Bh) (Ne.symm Ea)) (Ne.symm Ec)
         replace An:=AZ g91 h90 (Ne.symm B9)
         replace Ah:=AZ g91 (Ag g89 g90 (AC g87 Ah) CR) CS
         replace hr:=(((hr.kn g87).kn g89).offR g90 (AP FX)).offR g91 (AP FZ)
         replace ho:=(((ho.kn g87).kn g89).offR g90 (AP FY)).offR g91 (AP Fa)
         replace oc:=(((oc.kn g87).kn g89).offR g90 (AP Il)).offR g91 (AP Im)
         replace op:=(((op.kn g87).kn g89).offR g90 (AP Io)).offR g91 (AP Ip)
         replace okk:=(((okk.kn g87).kn g89).offR g90 (AP EP)).offR g91 (AP EQ)
         replace HG:=AD (AD (AA (AA HG g87) g89) g90 IQ) g91 IS
         replace Ap:=h91
         refine AE ?_
         refine k88 _ _ ?_
         refine AKT ?_
         repeat refine AK ?_
         refine rt66 _ _ ?_
         repeat refine AK ?_
         refine rt60 _ _ ?_
         repeat refine AK ?_
         refine Bj (fn:=Tryz.f20) Wg (CC (p:=10) (q:=11) Tryz.results20 Wg rfl rfl rfl rfl (Df _ _ Ab (.slice none 0 0) (.slice none 0 0) (.slice none 0 0) rfl rfl rfl) (E9 kx.2) An Ap) (CH Tryz.func49 (by kernel_rfl) rfl _ _) (EM _ _ _) ?_
         exact SRes.zero (ABy hh hv hne hke he) HG
     · obtain⟨hK1,hK2⟩:=Mr (P:=P) (a:=ad) (own:=own) fun j hj=>hok j (by omega)
       have hkm:kl.map DD.x=(DY P ad own).1:=by rw[hK1,hkl,List.take_of_length_le (by omega)]
       refine AKP ?_
       refine AJ Wb 1 [(54,.bool false)]
         ⟨FG r7 (fun _=>BJ (by simp;omega)),AKW⟩ fun a92 w92 g92 AD2=>?_
       refine AE ?_
       refine k62 _ _ ?_
       refine AKQ fun K93 k93=>?_
       refine A2 AD2 rfl rfl ?_
       refine wp_exit ?_
       repeat refine CT ?_
       refine x60 _ _ ?_
       refine k57 _ _ ?_
       refine AKQ fun K94 k94=>?_
       have hkll:kl.length=i:=by have:=congrArg List.length hkl;simpa using this.trans (by rw[List.length_map,List.length_take];omega)
       obtain⟨ck,hcke⟩:∃c,PT (decide (joint=1)) (kl.map DD.x)=c:=⟨_,rfl⟩
       have hck:Dg ck:=hcke▸GJ _ _
       refine AKP ?_
       refine AJ AD2 2 [(73,.int .i64 joint),(74,.slice ko i kc)]
         ⟨ym r5,ym r5,AKW⟩ fun a95 w95 g95 AHt=>?_
       replace okk:=(okk.kn g92).kn g95
       refine BD AHt Tryz.func55 (by kernel_rfl) r6 (I1 (ADx hkll (Own.sb okk) (by omega) hcke)) fun a96 v96 w96 hR96 AB5=>?_
       obtain⟨rfl,g96⟩:=hR96
       replace Bd:=AC g96 (AC g95 (AC g92 Bd))
       replace Bh:=AC g96 (AC g95 (AC g92 Bh))
       replace An:=AC g96 (AC g95 (AC g92 An))
       replace Ap:=AC g96 (AC g95 (AC g92 Ap))
       replace Ah:=AC g96 (AC g95 (AC g92 Ah))
       replace hr:=((hr.kn g92).kn g95).kn g96
       replace ho:=((ho.kn g92).kn g95).kn g96
       replace oc:=((oc.kn g92).kn g95).kn g96
       replace op:=((op.kn g92).kn g95).kn g96
       replace okk:=okk.kn g96
       replace HG:=AA (AA (AA HG g92) g95) g96
       refine BB (T:=23) (Z:=(bv AS)) AB5 rfl rfl rfl (fun a w=>by kernel_rfl) fun a97 w97 Ps EC g97 z97 CJ Zd=>?_
       have Pt:=As Bd EC
       have Pu:=As Bh EC
       have J0:=As An EC
       have J1:=As Ap EC
       have ED:=As Ah EC
       have AB6:=Bq HG EC
       have T8:=Ay (hr.lt) EC
       have T9:=Ay (ho.lt) EC
       have UA:=Ay (Own.ltS oc) EC
       have UB:=Ay (Own.ltS op) EC
       have Qt:=Ay (Own.ltS okk) EC
       refine Av Zd r7 (Bb ck hck.1) CJ (Dk hck) fun w98 g98 h98=>?_
       replace Bd:=AZ g98 (AC g97 Bd) (Ne.symm Pt)
       replace Bh:=AZ g98 (AC g97 Bh) (Ne.symm Pu)
       replace An:=AZ g98 (AC g97 An) (Ne.symm J0)
       replace Ap:=AZ g98 (AC g97 Ap) (Ne.symm J1)
       replace Ah:=AZ g98 (AC g97 Ah) (Ne.symm ED)
       replace hr:=(hr.kn g97).offR g98 (AP T8)
       replace ho:=(ho.kn g97).offR g98 (AP T9)
       replace oc:=(oc.kn g97).offR g98 (AP UA)
       replace op:=(op.kn g97).offR g98 (AP UB)
       replace okk:=(okk.kn g97).offR g98 (AP Qt)
       replace HG:=AD (AA HG g97) g98 AB6
       replace CJ:=h98
       refine AE ?_
       refine k94 _ _ ?_
       refine AKQ fun K99 k99=>?_
       refine AKQ fun K100 k100=>?_
       rcases hjj with rfl|rfl
       · refine AKP ?_
         refine AJ Zd 2 [(76,.int .i64 0),(77,.bool false)]
           ⟨ym r5,Cp r6 (fun _=>BU rfl),AKW⟩ fun a101 w101 g101 AAl=>?_
         refine AE ?_
         refine k100 _ _ ?_
         refine A2 AAl rfl rfl ?_
         refine AKU ?_
         refine k99 _ _ ?_
         refine AKQ fun K102 k102=>?_
         refine AKP ?_
         refine AJ AAl 2 [(93,.slice ao36 ((CD x)).length cap36),(94,AQ ck)]
           ⟨ym r5,yl r6 (Bb ck hck.1) (AC g101 CJ),AKW⟩ fun a103 w103 g103 AAm=>?_
         have J2:=AA g101 g103
         replace An:=AC J2 An
         replace Ap:=AC J2 Ap
         replace Ah:=AC J2 Ah
         replace op:=op.kn J2
         replace HG:=AA HG J2
         refine BD AAm Tryz.func57 (by kernel_rfl) r6 (Nt (Jp (CD x) (Ik x) (by have:=Hy x;omega) _ _ ck hck _ (Own.sb op))) fun a104 v104 w104 hR104 Wh=>?_
         obtain⟨ao104,cap104,rfl,_⟩:=(Sl.of_own hR104.1).shape
         obtain⟨ow104,fr104⟩:=hR104
         replace fr104:=C7 fr104
         have oy_:=ow104
         clear ow104
         have g104:=fr104.1
         replace fr104:=fr104.2
         have Jt:=DK fr104 An
         have Ju:=DK fr104 Ap
         have FL:=DK fr104 Ah
         have lo_oy_:=JG HG fr104
         replace Ah:=AC g104 Ah
         refine AJ Wh 1 [(96,pk EN 4)]
           ⟨yf r6 (fun _=>by kernel_rfl),AKW⟩ fun a105 w105 g105 SY=>?_
         refine La (L:=[[.int .i64 ad],[.slice ao29 ds.length cap29],[.int .i64 0],[.slice none 0 0],[.slice none 0 0],bv AS]) (i:=4) SY r7 (Di (.slice ao104 ((IK (CD x) ck)).length cap104) rfl) (AC g105 Ah) rfl rfl rfl fun w106 g106 h106=>?_
         replace CJ:=Ag g105 g106 (AC g104 (AC J2 CJ)) ED
         replace Ah:=h106
         have Wi:Sv _ _ [_,_,_,_,_,_,_,_,_,_,_,_,_,_,_,_,_,_,_,_,_,_,_,_,_,_,_,_,_,_,_,_,_,_,_,_,_,_] _:=SY.dl [96,95,93,94]
         refine AE ?_
         refine k102 _ _ ?_
         refine AKQ fun K108 k108=>?_
         refine AKP ?_
         refine AJ Wi 4 [(97,AQ ck),(98,.int .i64 ad),(99,pk EN 4),(100,.slice ao104 ((IK (CD x) ck)).length cap104)]
           ⟨yl r6 (Bb ck hck.1) CJ,ym r5,yf r6 (fun _=>by kernel_rfl),yp (i:=4) r6 (Di (.slice ao104 ((IK (CD x) ck)).length cap104) rfl) Ah rfl rfl,AKW⟩ fun a109 w109 g109 Wj=>?_
         replace oy_:=((oy_.kn g105).offR g106 (AP FL)).kn g109
         refine BD Wj Tryz.func58 (by kernel_rfl) r6 (I1 (Gb ck hck ad hia (IK (CD x) ck) (NJ _ (Ik x)) (by have:=Hy x;rw[LG];omega) _ _ _ (Own.sb oy_))) fun a110 v110 w110 hR110 Gr=>?_
         obtain⟨rfl,g110⟩:=hR110
         replace Ah:=AC g110 (AC g109 Ah)
         have Lb:Sv _ _ [_,_,_,_,_,_,_,_,_,_,_,_,_,_,_,_,_,_,_,_,_,_,_,_,_,_,_,_,_,_,_,_,_,_,_,_,_,_,_] _:=Gr.dl [97,98,99,100]
         refine AJ Lb 1 [(102,pk EN 5)]
           ⟨yf r6 (fun _=>by kernel_rfl),AKW⟩ fun a112 w112 g112 AGl=>?_
         refine La (L:=[[.int .i64 ad],[.slice ao29 ds.length cap29],[.int .i64 0],[.slice none 0 0],[.slice ao104 ((IK (CD x) ck)).length cap104],bv AS]) (i:=5) AGl r7 (Bb ((LS ck ad (IK (CD x) ck))) (Cm _ _ _).1) (AC g112 Ah) rfl rfl (Vl Ab (Cm _ _ _)) fun w113 g113 h113=>?_
         replace An:=Ag g112 g113 (AC g110 (AC g109 (Ag g105 g106 (AC g104 An) (Ne.symm CR)))) (Ne.symm CR)
         replace Ah:=h113
         refine AE ?_
         refine k108 _ _ ?_
         refine AKQ fun K114 k114=>?_
         refine AKP ?_
         refine AJ AGl 1 [(103,BR ad (.slice ao29 ds.length cap29) 0 (.slice none 0 0) (.slice ao104 ((IK (CD x) ck)).length cap104) ((LS ck ad (IK (CD x) ck))))]
           ⟨yl r6 (Df _ _ (Cm _ _ _) (.slice ao29 ds.length cap29) (.slice none 0 0) (.slice ao104 ((IK (CD x) ck)).length cap104) rfl rfl rfl) Ah,AKW⟩ fun a115 w115 g115 Lc=>?_
         refine Av Lc r7 (Df _ _ (Cm _ _ _) (.slice ao29 ds.length cap29) (.slice none 0 0) (.slice ao104 ((IK (CD x) ck)).length cap104) rfl rfl rfl) (AC g115 An) (Gc Ab (Cm _ _ _)) fun w116 g116 h116=>?_
         replace Ap:=Ag g115 g116 (Ag g112 g113 (AC g110 (AC g109 (Ag g105 g106 (AC g104 Ap) (Ne.symm CS)))) (Ne.symm CS)) B9
         refine Av Lc r7 (E9 0) Ap rfl fun w117 g117 h117=>?_
         replace Bd:=AZ g117 (Ag g115 g116 (Ag g112 g113 (AC g110 (AC g109 (Ag g105 g106 (AC g104 (AC J2 Bd)) (Ne.symm D8)))) (Ne.symm D8)) (Ne.symm EZ)) (Ne.symm Eb)
         replace Bh:=AZ g117 (Ag g115 g116 (Ag g112 g113 (AC g110 (AC g109 (Ag g105 g106 (AC g104 (AC J2 Bh)) (Ne.symm D9)))) (Ne.symm D9)) (Ne.symm Ea)) (Ne.symm Ec)
         replace An:=AZ g117 h116 (Ne.symm B9)
         replace Ah:=AZ g117 (Ag g115 g116 Ah CR) CS
         replace CJ:=AZ g117 (Ag g115 g116 (Ag g112 g113 (AC g110 (AC g109 CJ)) ED) J0) J1
         replace hr:=((((((((((hr.kn J2).kn g104).kn g105).offR g106 (AP Ey)).kn g109).kn g110).kn g112).offR g113 (AP Ey)).kn g115).offR g116 (AP FX)).offR g117 (AP FZ)
         replace ho:=((((((((((ho.kn J2).kn g104).kn g105).offR g106 (AP Ez)).kn g109).kn g110).kn g112).offR g113 (AP Ez)).kn g115).offR g116 (AP FY)).offR g117 (AP Fa)
         replace oc:=((((((((((oc.kn J2).kn g104).kn g105).offR g106 (AP Dt)).kn g109).kn g110).kn g112).offR g113 (AP Dt)).kn g115).offR g116 (AP Il)).offR g117 (AP Im)
         replace op:=(((((((((op.kn g104).kn g105).offR g106 (AP EO)).kn g109).kn g110).kn g112).offR g113 (AP EO)).kn g115).offR g116 (AP Io)).offR g117 (AP Ip)
         replace okk:=((((((((((okk.kn J2).kn g104).kn g105).offR g106 (AP DI)).kn g109).kn g110).kn g112).offR g113 (AP DI)).kn g115).offR g116 (AP EP)).offR g117 (AP EQ)
         replace oy_:=(((((oy_.kn g110).kn g112).offR g113 (AP FL)).kn g115).offR g116 (AP Jt)).offR g117 (AP Ju)
         replace HG:=AD (AD (AA (AD (AA (AA (AA (AD (AA (AA HG g104) g105) g106 Fc) g109) g110) g112) g113 Fc) g115) g116 IQ) g117 IS
         replace Ap:=h117
         refine AE ?_
         refine k114 _ _ ?_
         refine AKT ?_
         repeat refine AK ?_
         refine Bj (fn:=Tryz.f20) Lc (CC (p:=10) (q:=11) Tryz.results20 Lc rfl rfl rfl rfl (Df _ _ (Cm _ _ _) (.slice ao29 ds.length cap29) (.slice none 0 0) (.slice ao104 ((IK (CD x) ck)).length cap104) rfl rfl rfl) (E9 0) An Ap) (CH Tryz.func49 (by kernel_rfl) rfl _ _) (EM _ _ _) ?_
         exact SRes.mk (own:=ds) (wr:=[]) (Mq hh hv hne hK2 hkm hcke) rfl rfl rfl hown rfl oc (Own.nil _ _ _) oy_ lo_oc (fun k hk=>by simp[Ba,Value.ownBlock] at hk) lo_oy_ (fun k _ hk=>by simp[Ba,Value.ownBlock] at hk) (Cm _ _ _) (NJ _ (Ik x)) HG rfl
       · refine AKP ?_
         refine AJ Zd 2 [(76,.int .i64 1),(77,.bool true)]
           ⟨ym r5,Cp r6 (fun _=>BU rfl),AKW⟩ fun a118 w118 g118 AGm=>?_
         refine AE ?_
         refine k100 _ _ ?_
         refine Ar AGm rfl rfl ?_
         refine AKQ fun K119 k119=>?_
         refine AKP ?_
         refine AJ AGm 3 [(78,.slice ko i kc),(79,.int .i64 ((i:Nat))),(80,.int .i64 0)]
           ⟨ym r5,Au (Tryz.underlying28) rfl rfl trivial (oy rfl rfl) (fun _=>rfl),En (.inl rfl) rfl trivial (fun _=>rfl),AKW⟩ fun a120 w120 g120 Cc=>?_
         have J3:=AA g118 g120
         refine AE ?_
         refine k119 _ _ ?_
         refine BI fun Q121 x121 y121 rt121 o121=>?_
         replace Bd:=AC J3 Bd
         replace Bh:=AC J3 Bh
         replace An:=AC J3 An
         replace Ap:=AC J3 Ap
         replace Ah:=AC J3 Ah
         replace CJ:=AC J3 CJ
         replace hr:=hr.kn J3
         replace ho:=ho.kn J3
         replace oc:=oc.kn J3
         replace op:=op.kn J3
         replace okk:=okk.kn J3
         replace HG:=AA HG J3
         have ow:=Own.nil w120 23 32
         have Jv:=Hm Tp
         have Jw:=Hm Tq
         have Gs:=Hm IP
         have Gu:=Hm IR
         have E0:=Hm EN
         have Hq:=Hm Ps
         have ap_hr_ow:=Gk (TH (.slice vo ks.length vc_) ks)
         have ap_ho_ow:=Gk (Ba (.slice ao ds.length ac))
         have ap_oc_ow:=Gk (Ba (.slice ao29 ds.length cap29))
         have ap_ow_oc:=AC9 (Ba (.slice ao29 ds.length cap29))
         have ap_op_ow:=Gk (Ba (.slice ao36 ((CD x)).length cap36))
         have ap_ow_op:=AC9 (Ba (.slice ao36 ((CD x)).length cap36))
         have ap_okk_ow:=Gk (Ba (.slice ko i kc))
         have ap_ow_okk:=AC9 (Ba (.slice ko i kc))
         have lo_ow:=Yt w
         refine wp_loop (fun a w'=>∃(j:Nat) (wo:Option Addr) (wc:Nat),(j≤i)∧Sv 104 [{ target:=.fn (.func 49) #[pt IP,pt IR],args:=#[] }] [(80,.int .i64 ((j:Int))),(78,.slice ko i kc),(79,.int .i64 ((i:Nat))),(76,.int .i64 1),(77,.bool true),(19,pt Ps),(75,AQ ck),(73,.int .i64 1),(74,.slice ko i kc),(54,.bool false),(53,.int .i64 ((i:Int))),(14,.slice ko i kc),(51,.slice ao ds.length ac),(52,.int .i64 ((ds.length:Nat))),(41,.slice ao ds.length ac),(42,.int .i64 ((ds.length:Nat))),(43,.bool false),(13,.slice ao36 ((CD x)).length cap36),(40,.slice ao36 ((CD x)).length cap36),(39,B7 x),(12,pt EN),(23,.slice ao ds.length ac),(24,.int .i64 1),(25,.int .i64 ad),(26,.bool true),(27,.bool false),(28,.bool false),(29,A8 sa po (.slice vo ks.length vc_)),(30,.bool true),(31,.bool false),(32,.bool false),(22,.func (.func 49) #[] #[pt IP,pt IR]),(11,pt IR),(10,pt IP),(9,pt Tq),(5,pt Tp),(0,A8 sa po (.slice vo ks.length vc_)),(1,.slice ao ds.length ac),(2,.int .i64 1),(3,.int .i64 ad),(4,B7 x)] a∧w.grownBy w' none∧w'.heap[Tp]?=some (.cells ([bv sa,bv po,[.slice vo ks.length vc_]].flatten).toArray 36 (0,0))∧w'.heap[Tq]?=some (.cells (vc x).toArray 25 (0,0))∧w'.heap[IP]?=some (.cells (([[.int .i64 0],[.slice none 0 0],[.int .i64 0],[.slice none 0 0],[.slice none 0 0],bv AS].flatten)).toArray 31 (0,0))∧w'.heap[IR]?=some (.cells ([.int .i64 0]).toArray 38 (0,0))∧w'.heap[EN]?=some (.cells ([[.int .i64 ad],[.slice ao29 ds.length cap29],[.int .i64 1],[.slice wo j wc],[.slice none 0 0],bv AS].flatten).toArray 31 (0,0))∧w'.heap[Ps]?=some (.cells (bv ck).toArray 23 (0,0))∧RdK w' (.slice vo ks.length vc_) ks∧RdD w' (.slice ao ds.length ac) ds∧Own w' 23 32 (.slice ao29 ds.length cap29) ds.length (ds.flatMap J4)∧Own w' 5 1 (.slice ao36 ((CD x)).length cap36) (((CD x)).length) (bv ((CD x)))∧Own w' 23 32 (.slice ko i kc) i (kl.flatMap J4)∧Own w' 23 32 (.slice wo j wc) j (((wrL ck hck kl j)).flatMap J4)∧(∀k,Ba (.slice wo j wc) k→k≠Tp)∧(∀k,Ba (.slice wo j wc) k→k≠Tq)∧(∀k,Ba (.slice wo j wc) k→k≠IP)∧(∀k,Ba (.slice wo j wc) k→k≠IR)∧(∀k,Ba (.slice wo j wc) k→k≠EN)∧(∀k,Ba (.slice wo j wc) k→k≠Ps)∧(∀k,TH (.slice vo ks.length vc_) ks k→¬Ba (.slice wo j wc) k)∧(∀k,Ba (.slice ao ds.length ac) k→¬Ba (.slice wo j wc) k)∧(∀k,Ba (.slice ao29 ds.length cap29) k→¬Ba (.slice wo j wc) k)∧(∀k,Ba (.slice wo j wc) k→¬Ba (.slice ao29 ds.length cap29) k)∧(∀k,Ba (.slice ao36 ((CD x)).length cap36) k→¬Ba (.slice wo j wc) k)∧(∀k,Ba (.slice wo j wc) k→¬Ba (.slice ao36 ((CD x)).length cap36) k)∧(∀k,Ba (.slice ko i kc) k→¬Ba (.slice wo j wc) k)∧(∀k,Ba (.slice wo j wc) k→¬Ba (.slice ko i kc) k)∧(∀k,Ba (.slice wo j wc) k→w.heap.size≤k)) (fun a _=>(i-intOf (a.tmps.getD 80 undef)).toNat) ⟨0,none,0,Nat.zero_le _,⟨Cc.1,Cc.2.1,Cc.2.2.2.2.1,Cc.2.2.1,Cc.2.2.2.1,Cc.2.2.2.2.2.1,Cc.2.2.2.2.2.2.1,Cc.2.2.2.2.2.2.2.1,(AL Cc).1,(AL Cc).2.1,(AL Cc).2.2.1,(AL Cc).2.2.2.1,(AL Cc).2.2.2.2.1,(AL Cc).2.2.2.2.2.1,(AL Cc).2.2.2.2.2.2.1,(AL Cc).2.2.2.2.2.2.2.1,(AL (AL Cc)).1,(AL (AL Cc)).2.1,(AL (AL Cc)).2.2.1,(AL (AL Cc)).2.2.2.1,(AL (AL Cc)).2.2.2.2.1,(AL (AL Cc)).2.2.2.2.2.1,(AL (AL Cc)).2.2.2.2.2.2.1,(AL (AL Cc)).2.2.2.2.2.2.2.1,(AL (AL (AL Cc))).1,(AL (AL (AL Cc))).2.1,(AL (AL (AL Cc))).2.2.1,(AL (AL (AL Cc))).2.2.2.1,(AL (AL (AL Cc))).2.2.2.2.1,(AL (AL (AL Cc))).2.2.2.2.2.1,(AL (AL (AL Cc))).2.2.2.2.2.2.1,(AL (AL (AL Cc))).2.2.2.2.2.2.2.1,(AL (AL (AL (AL Cc)))).1,(AL (AL (AL (AL Cc)))).2.1,(AL (AL (AL (AL Cc)))).2.2.1,(AL (AL (AL (AL Cc)))).2.2.2.1,(AL (AL (AL (AL Cc)))).2.2.2.2.1,(AL (AL (AL (AL Cc)))).2.2.2.2.2.1,(AL (AL (AL (AL Cc)))).2.2.2.2.2.2.1,(AL (AL (AL (AL Cc)))).2.2.2.2.2.2.2.1,(AL (AL (AL (AL (AL Cc))))).1,(AL (AL (AL (AL (AL Cc))))).2.1,(AL (AL (AL (AL (AL Cc))))).2.2.1,AKW⟩,HG,Bd,Bh,An,Ap,Ah,CJ,hr,ho,oc,op,okk,ow,Jv,Jw,Gs,Gu,E0,Hq,ap_hr_ow,ap_ho_ow,ap_oc_ow,ap_ow_oc,ap_op_ow,ap_ow_op,ap_okk_ow,ap_ow_okk,lo_ow⟩ fun a122 w122 hI122=>?_
         clear Bd
         clear Bh
         clear An
         clear Ap
         clear Ah
         clear CJ
         clear hr
         clear ho
         clear oc
         clear op
         clear okk
         clear ow
         clear HG
         obtain⟨j,wo,wc,hjn,SZ,HG,Bd,Bh,An,Ap,Ah,CJ,hr,ho,oc,op,okk,ow,Jv,Jw,Gs,Gu,E0,Hq,ap_hr_ow,ap_ho_ow,ap_oc_ow,ap_ow_oc,ap_op_ow,ap_ow_op,ap_okk_ow,ap_ow_okk,lo_ow⟩:=hI122
         refine AKQ fun K123 k123=>?_
         by_cases hjl:j<i
         · have hjk:j<kl.length:=by omega
           obtain⟨ky,hx_ky⟩:∃zx,kl[j]'hjk=zx:=⟨_,rfl⟩
           refine AKP ?_
           refine AJ SZ 1 [(81,.bool true)]
            ⟨FG r7 (fun _=>BJ (by simp;omega)),AKW⟩ fun a124 w124 g124 Wk=>?_
           refine AE ?_
           refine k123 _ _ ?_
           refine AKQ fun K125 k125=>?_
           refine Ar Wk rfl rfl ?_
           refine AKU ?_
           refine k125 _ _ ?_
           refine AKQ fun K126 k126=>?_
           refine BI fun Q127 x127 y127 rt127 o127=>?_
           refine AKQ fun K128 k128=>?_
           refine AKP ?_
           replace okk:=okk.kn g124
           refine AJ Wk 2 [(82,pk ((bO ko)) (oO ko+j*32)),(83,AQ ky.x)]
            ⟨BH rq8 (fun w=>CU Tryz.underlying28 (by kernel_rfl) ((Sl.of_own okk)) (by omega) (rfl) w),Bg r6 (fun _ g=>AY (Bb ky.x ky.h.1) (by have:=Cb (Sl.of_own (okk.kn g)) DV hjk (by decide);rw[hx_ky] at this;exact this)),AKW⟩ fun a129 w129 g129 AAn=>?_
           replace Bd:=AC g129 (AC g124 Bd)
           replace Bh:=AC g129 (AC g124 Bh)
           replace An:=AC g129 (AC g124 An)
           replace Ap:=AC g129 (AC g124 Ap)
           replace Ah:=AC g129 (AC g124 Ah)
           replace CJ:=AC g129 (AC g124 CJ)
           replace hr:=(hr.kn g124).kn g129
           replace ho:=(ho.kn g124).kn g129
           replace oc:=(oc.kn g124).kn g129
           replace op:=(op.kn g124).kn g129
           replace okk:=okk.kn g129
           replace ow:=(ow.kn g124).kn g129
           replace HG:=AA (AA HG g124) g129
           refine BB (T:=23) (Z:=(bv AS)) AAn rfl rfl rfl (fun a w=>by kernel_rfl) fun a130 w130 AF8 DF g130 z130 Ms Wl=>?_
           have OK:=As Bd DF
           have OL:=As Bh DF
           have NS:=As An DF
           have NT:=As Ap DF
           have Mt:=As Ah DF
           have Mu:=As CJ DF
           have Ze:=Bq HG DF
           have Qu:=Ay (hr.lt) DF
           have Qv:=Ay (ho.lt) DF
           have Qw:=Ay (Own.ltS oc) DF
           have Qx:=Ay (Own.ltS op) DF
           have Pv:=Ay (Own.ltS okk) DF
           have Qy:=Ay (Own.ltS ow) DF
           refine Av Wl r7 (Bb ky.x ky.h.1) Ms (Dk ky.h) fun w131 g131 h131=>?_
           replace Bd:=AZ g131 (AC g130 Bd) (Ne.symm OK)
           replace Bh:=AZ g131 (AC g130 Bh) (Ne.symm OL)
           replace An:=AZ g131 (AC g130 An) (Ne.symm NS)
           replace Ap:=AZ g131 (AC g130 Ap) (Ne.symm NT)
           replace Ah:=AZ g131 (AC g130 Ah) (Ne.symm Mt)
           replace CJ:=AZ g131 (AC g130 CJ) (Ne.symm Mu)
           replace ow:=(ow.kn g130).offR g131 (AP Qy)
           replace HG:=AD (AA HG g130) g131 Ze
           replace Ms:=h131
           refine AE ?_
           refine k128 _ _ ?_
           refine Eg (Wl.st w131) (by kernel_rfl) 6 [(84,Sp.is (pk EN 3)),(85,Sp.is (.slice wo j wc)),(86,Sp.is (AQ ck)),(87,Sp.is (AQ ky.x)),(88,Sp.is (AQ ((Nr ck ky.x)))),(89,Sp.lit1 w131.heap.size 23 (bv (Nr ck ky.x)))] rfl (by kernel_rfl) (by kernel_rfl) (by kernel_rfl) [] (by kernel_rfl)
            ⟨yf r6 (fun _=>by kernel_rfl),yp (i:=3) r6 (D4 (.slice wo j wc) rfl) Ah rfl rfl,yl r6 (Bb ck hck.1) CJ,yl r6 (Bb ky.x ky.h.1) Ms,Al [AQ ck,AQ ky.x] Tryz.func56 (by kernel_rfl) rq4 ⟨(oy rfl rfl),(oy rfl rfl),AKW⟩ (A7 fun W g=>Mj ck ky.x hck ky.h W),TE rfl rfl trivial (Nat.le_refl _) rfl (fun W hw v h=>match v,h with|_,⟨rfl,_⟩=>⟨bv (Nr ck ky.x),Zb (IM hck ky.h) W,fun w' _ hh=>⟨_,rfl,hw.size,hh⟩⟩),AKW⟩ trivial
            [] (by kernel_rfl) trivial ⟨.inl rfl,.inl rfl,.inl rfl,.inl rfl,.inl rfl,.inl rfl,AKW⟩ (by kernel_rfl) fun a132 w132 g132 st132 nd132=>?_
           obtain⟨hn132,hd132,e132_84,e132_85,e132_86,e132_87,e132_88,e132_89,e132_21,e132_82,e132_83,e132_81,e132_80,e132_78,e132_79,e132_76,e132_77,e132_19,e132_75,e132_73,e132_74,e132_54,e132_53,e132_14,e132_51,e132_52,e132_41,e132_42,e132_43,e132_13,e132_40,e132_39,e132_12,e132_23,e132_24,e132_25,e132_26,e132_27,e132_28,e132_29,e132_30,e132_31,e132_32,e132_22,e132_11,e132_10,e132_9,e132_5,e132_0,e132_1,e132_2,e132_3,e132_4,-⟩:=st132
           obtain⟨V,e132_89q,geV,HV⟩:=e132_89
           have AID:V≠Tp:=Nat.ne_of_gt (Nat.lt_of_lt_of_le (Array.getElem?_eq_some_iff.1 Bd).1 geV)
           have AIE:V≠Tq:=Nat.ne_of_gt (Nat.lt_of_lt_of_le (Array.getElem?_eq_some_iff.1 Bh).1 geV)
           have AHu:V≠IP:=Nat.ne_of_gt (Nat.lt_of_lt_of_le (Array.getElem?_eq_some_iff.1 An).1 geV)
           have AHv:V≠IR:=Nat.ne_of_gt (Nat.lt_of_lt_of_le (Array.getElem?_eq_some_iff.1 Ap).1 geV)
           have Wm:V≠EN:=Nat.ne_of_gt (Nat.lt_of_lt_of_le (Array.getElem?_eq_some_iff.1 Ah).1 geV)
           have AGn:V≠Ps:=Nat.ne_of_gt (Nat.lt_of_lt_of_le (Array.getElem?_eq_some_iff.1 CJ).1 geV)
           have AF9:V≠AF8:=Nat.ne_of_gt (Nat.lt_of_lt_of_le (Array.getElem?_eq_some_iff.1 Ms).1 geV)
           have lo_V:w.heap.size≤V:=Nat.le_trans HG.size geV
           have ap_ow_V:=Gj (Own.ltS ow) geV
           replace Bd:=AC g132 Bd
           replace Bh:=AC g132 Bh
           replace An:=AC g132 An
           replace Ap:=AC g132 Ap
           replace Ah:=AC g132 Ah
           replace CJ:=AC g132 CJ
           replace hr:=((hr.kn g130).offR g131 (AP Qu)).kn g132
           replace ho:=((ho.kn g130).offR g131 (AP Qv)).kn g132
           replace oc:=((oc.kn g130).offR g131 (AP Qw)).kn g132
           replace op:=((op.kn g130).offR g131 (AP Qx)).kn g132
           replace okk:=((okk.kn g130).offR g131 (AP Pv)).kn g132
           replace ow:=ow.kn g132
           replace HG:=AA HG g132
           have AAo:Sv 104 [{ target:=.fn (.func 49) #[pt IP,pt IR],args:=#[] }] [(21,_),(82,_),(83,_),(81,_),(80,_),(78,_),(79,_),(76,_),(77,_),(19,_),(75,_),(73,_),(74,_),(54,_),(53,_),(14,_),(51,_),(52,_),(41,_),(42,_),(43,_),(13,_),(40,_),(39,_),(12,_),(23,_),(24,_),(25,_),(26,_),(27,_),(28,_),(29,_),(30,_),(31,_),(32,_),(22,_),(11,_),(10,_),(9,_),(5,_),(0,_),(1,_),(2,_),(3,_),(4,_),(85,_),(89,_)] a132:=⟨hn132,hd132,e132_21,e132_82,e132_83,e132_81,e132_80,e132_78,e132_79,e132_76,e132_77,e132_19,e132_75,e132_73,e132_74,e132_54,e132_53,e132_14,e132_51,e132_52,e132_41,e132_42,e132_43,e132_13,e132_40,e132_39,e132_12,e132_23,e132_24,e132_25,e132_26,e132_27,e132_28,e132_29,e132_30,e132_31,e132_32,e132_22,e132_11,e132_10,e132_9,e132_5,e132_0,e132_1,e132_2,e132_3,e132_4,e132_85,e132_89q,AKW⟩
           refine IC dsT AAo rfl rfl rfl rfl rfl rfl rfl rfl ow (Js HV (IM hck ky.h)) (Dx _) (by omega) fun a133 ao133 cap133 w133 owx133 CG AIx=>?_
           have Pw:=Ha CG.2 Jv Bd
           have Px:=Ha CG.2 Jw Bh
           have OM:=Ha CG.2 Gs An
           have ON:=Ha CG.2 Gu Ap
           have JN:=Ha CG.2 E0 Ah
           have NU:=Ha CG.2 Hq CJ
           have UC:=Fl CG.2 ap_hr_ow (hr.lt)
           have UD:=Fl CG.2 ap_ho_ow (ho.lt)
           have Mv:=Fl CG.2 ap_oc_ow (Own.ltS oc)
           have Mw:=Fl CG.2 ap_op_ow (Own.ltS op)
           have Ld:=Fl CG.2 ap_okk_ow (Own.ltS okk)
           have ap_owx133_oc:=AC8 Mv
           have ap_owx133_op:=AC8 Mw
           have ap_owx133_okk:=AC8 Ld
           have AB7:=TB CG.2 lo_ow HG
           replace Ah:=AF CG.1 Ah (fun e=>E0 _ e.symm rfl)
           rw[ADw hck hjk hx_ky] at owx133
           refine AJ AIx 1 [(91,pk EN 3)]
            ⟨yf r6 (fun _=>by kernel_rfl),AKW⟩ fun a134 w134 g134 Wn=>?_
           refine La (L:=[[.int .i64 ad],[.slice ao29 ds.length cap29],[.int .i64 1],[.slice wo j wc],[.slice none 0 0],bv AS]) (i:=3) Wn r7 (D4 (.slice ao133 (j+1) cap133) rfl) (AC g134 Ah) rfl rfl rfl fun w135 g135 h135=>?_
           replace Bd:=Ag g134 g135 (AF CG.1 Bd (fun e=>Jv _ e.symm rfl)) (Ne.symm D8)
           replace Bh:=Ag g134 g135 (AF CG.1 Bh (fun e=>Jw _ e.symm rfl)) (Ne.symm D9)
           replace An:=Ag g134 g135 (AF CG.1 An (fun e=>Gs _ e.symm rfl)) (Ne.symm CR)
           replace Ap:=Ag g134 g135 (AF CG.1 Ap (fun e=>Gu _ e.symm rfl)) (Ne.symm CS)
           replace CJ:=Ag g134 g135 (AF CG.1 CJ (fun e=>Hq _ e.symm rfl)) ED
           replace HV:=Ag g134 g135 (AF CG.1 HV (fun e=>ap_ow_V _ e.symm rfl)) Wm
           replace hr:=((hr.offR CG.1 (fun k hk e=>ap_hr_ow k hk (e))).kn g134).offR g135 (AP Ey)
           replace ho:=((ho.offR CG.1 (fun k hk e=>ap_ho_ow k hk (e))).kn g134).offR g135 (AP Ez)
           replace oc:=((oc.offR CG.1 (fun k hk e=>ap_oc_ow k hk (e))).kn g134).offR g135 (AP Dt)
           replace op:=((op.offR CG.1 (fun k hk e=>ap_op_ow k hk (e))).kn g134).offR g135 (AP EO)
           replace okk:=((okk.offR CG.1 (fun k hk e=>ap_okk_ow k hk (e))).kn g134).offR g135 (AP DI)
           replace HG:=AD (AA (Ca HG CG.1 fun k e=>lo_ow k (e)) g134) g135 Fc
           have AIy:Sv _ _ [_,_,_,_,_,_,_,_,_,_,_,_,_,_,_,_,_,_,_,_,_,_,_,_,_,_,_,_,_,_,_,_,_,_,_,_,_,_,_,_,_,_,_,_,_] _:=Wn.dl [91,90,85,89]
           refine AE ?_
           refine y127 _ _ ?_
           refine k126 _ _ ?_
           refine AKP ?_
           refine AJ AIy 1 [(92,.int .i64 (((j+1:Nat):Int)))]
            ⟨Cp r6 (fun _=>DL (by rw[Bc (by omega) (by omega)];omega)),AKW⟩ fun a137 w137 g137 AIz=>?_
           refine AJ (AIz.dl [80]) 1 [(80,.int .i64 (((j+1:Nat):Int)))]
            ⟨ym r5,AKW⟩ fun a138 w138 g138 Ci=>?_
           have Is:=AA g137 g138
           refine AE ?_
           replace Bd:=AC Is Bd
           replace Bh:=AC Is Bh
           replace An:=AC Is An
           replace Ap:=AC Is Ap
           replace Ah:=AC Is h135
           replace CJ:=AC Is CJ
           replace HV:=AC Is HV
           replace hr:=hr.kn Is
           replace ho:=ho.kn Is
           replace oc:=oc.kn Is
           replace op:=op.kn Is
           replace okk:=okk.kn Is
           replace owx133:=((owx133.kn g134).offR g135 (AP JN)).kn Is
           replace HG:=AA HG Is
           exact⟨⟨j+1,ao133,cap133,by omega,⟨Ci.1,Ci.2.1,Ci.2.2.1,(AL Ci).1,(AL Ci).2.1,(AL Ci).2.2.1,(AL Ci).2.2.2.1,(AL Ci).2.2.2.2.1,(AL Ci).2.2.2.2.2.1,(AL Ci).2.2.2.2.2.2.1,(AL Ci).2.2.2.2.2.2.2.1,(AL (AL Ci)).1,(AL (AL Ci)).2.1,(AL (AL Ci)).2.2.1,(AL (AL Ci)).2.2.2.1,(AL (AL Ci)).2.2.2.2.1,(AL (AL Ci)).2.2.2.2.2.1,(AL (AL Ci)).2.2.2.2.2.2.1,(AL (AL Ci)).2.2.2.2.2.2.2.1,(AL (AL (AL Ci))).1,(AL (AL (AL Ci))).2.1,(AL (AL (AL Ci))).2.2.1,(AL (AL (AL Ci))).2.2.2.1,(AL (AL (AL Ci))).2.2.2.2.1,(AL (AL (AL Ci))).2.2.2.2.2.1,(AL (AL (AL Ci))).2.2.2.2.2.2.1,(AL (AL (AL Ci))).2.2.2.2.2.2.2.1,(AL (AL (AL (AL Ci)))).1,(AL (AL (AL (AL Ci)))).2.1,(AL (AL (AL (AL Ci)))).2.2.1,(AL (AL (AL (AL Ci)))).2.2.2.1,(AL (AL (AL (AL Ci)))).2.2.2.2.1,(AL (AL (AL (AL Ci)))).2.2.2.2.2.1,(AL (AL (AL (AL Ci)))).2.2.2.2.2.2.1,(AL (AL (AL (AL Ci)))).2.2.2.2.2.2.2.1,(AL (AL (AL (AL (AL Ci))))).1,(AL (AL (AL (AL (AL Ci))))).2.1,(AL (AL (AL (AL (AL Ci))))).2.2.1,(AL (AL (AL (AL (AL Ci))))).2.2.2.1,(AL (AL (AL (AL (AL Ci))))).2.2.2.2.1,(AL (AL (AL (AL (AL Ci))))).2.2.2.2.2.1,(AL (AL (AL (AL (AL Ci))))).2.2.2.2.2.2.1,(AL (AL (AL (AL (AL Ci))))).2.2.2.2.2.2.2.1,AKW⟩,HG,Bd,Bh,An,Ap,Ah,CJ,hr,ho,oc,op,okk,owx133,Pw,Px,OM,ON,JN,NU,UC,UD,Mv,ap_owx133_oc,Mw,ap_owx133_op,Ld,ap_owx133_okk,AB7⟩,by rw[show _=_ from Ci.2.2.1,show _=_ from SZ.2.2.1];simp[intOf];omega⟩
         · have hwr:(wrL ck hck kl j).map DD.x=kl.map fun z=>Nr ck z.x:=AF5 (by omega)
           refine AKP ?_
           refine AJ SZ 1 [(81,.bool false)]
            ⟨FG r7 (fun _=>BJ (by simp;omega)),AKW⟩ fun a139 w139 g139 AGo=>?_
           refine AE ?_
           refine k123 _ _ ?_
           refine AKQ fun K140 k140=>?_
           refine A2 AGo rfl rfl ?_
           refine wp_exit ?_
           repeat refine CT ?_
           refine x121 _ _ ?_
           refine k99 _ _ ?_
           refine AKQ fun K141 k141=>?_
           refine AKP ?_
           refine AJ AGo 2 [(93,.slice ao36 ((CD x)).length cap36),(94,AQ ck)]
            ⟨ym r5,yl r6 (Bb ck hck.1) (AC g139 CJ),AKW⟩ fun a142 w142 g142 AI0=>?_
           have Mx:=AA g139 g142
           replace An:=AC Mx An
           replace Ap:=AC Mx Ap
           replace Ah:=AC Mx Ah
           replace op:=op.kn Mx
           replace HG:=AA HG Mx
           refine BD AI0 Tryz.func57 (by kernel_rfl) r6 (Nt (Jp (CD x) (Ik x) (by have:=Hy x;omega) _ _ ck hck _ (Own.sb op))) fun a143 v143 w143 hR143 AI1=>?_
           obtain⟨ao143,cap143,rfl,_⟩:=(Sl.of_own hR143.1).shape
           obtain⟨ow143,fr143⟩:=hR143
           replace fr143:=C7 fr143
           have oy_:=ow143
           clear ow143
           have g143:=fr143.1
           replace fr143:=fr143.2
           have Jt:=DK fr143 An
           have Ju:=DK fr143 Ap
           have FL:=DK fr143 Ah
           have lo_oy_:=JG HG fr143
           replace Ah:=AC g143 Ah
           refine AJ AI1 1 [(96,pk EN 4)]
            ⟨yf r6 (fun _=>by kernel_rfl),AKW⟩ fun a144 w144 g144 AGp=>?_
           refine La (L:=[[.int .i64 ad],[.slice ao29 ds.length cap29],[.int .i64 1],[.slice wo j wc],[.slice none 0 0],bv AS]) (i:=4) AGp r7 (Di (.slice ao143 ((IK (CD x) ck)).length cap143) rfl) (AC g144 Ah) rfl rfl rfl fun w145 g145 h145=>?_
           replace CJ:=Ag g144 g145 (AC g143 (AC Mx CJ)) ED
           replace Ah:=h145
           have AI2:Sv _ _ [_,_,_,_,_,_,_,_,_,_,_,_,_,_,_,_,_,_,_,_,_,_,_,_,_,_,_,_,_,_,_,_,_,_,_,_,_,_,_,_,_,_] _:=AGp.dl [96,95,93,94]
           refine AE ?_
           refine k141 _ _ ?_
           refine AKQ fun K147 k147=>?_
           refine AKP ?_
           refine AJ AI2 4 [(97,AQ ck),(98,.int .i64 ad),(99,pk EN 4),(100,.slice ao143 ((IK (CD x) ck)).length cap143)]
            ⟨yl r6 (Bb ck hck.1) CJ,ym r5,yf r6 (fun _=>by kernel_rfl),yp (i:=4) r6 (Di (.slice ao143 ((IK (CD x) ck)).length cap143) rfl) Ah rfl rfl,AKW⟩ fun a148 w148 g148 AI3=>?_
           replace oy_:=((oy_.kn g144).offR g145 (AP FL)).kn g148
           refine BD AI3 Tryz.func58 (by kernel_rfl) r6 (I1 (Gb ck hck ad hia (IK (CD x) ck) (NJ _ (Ik x)) (by have:=Hy x;rw[LG];omega) _ _ _ (Own.sb oy_))) fun a149 v149 w149 hR149 AI4=>?_
           obtain⟨rfl,g149⟩:=hR149
           replace Ah:=AC g149 (AC g148 Ah)
           have AI5:Sv _ _ [_,_,_,_,_,_,_,_,_,_,_,_,_,_,_,_,_,_,_,_,_,_,_,_,_,_,_,_,_,_,_,_,_,_,_,_,_,_,_,_,_,_,_] _:=AI4.dl [97,98,99,100]
           refine AJ AI5 1 [(102,pk EN 5)]
            ⟨yf r6 (fun _=>by kernel_rfl),AKW⟩ fun a151 w151 g151 AGq=>?_
           refine La (L:=[[.int .i64 ad],[.slice ao29 ds.length cap29],[.int .i64 1],[.slice wo j wc],[.slice ao143 ((IK (CD x) ck)).length cap143],bv AS]) (i:=5) AGq r7 (Bb ((LS ck ad (IK (CD x) ck))) (Cm _ _ _).1) (AC g151 Ah) rfl rfl (Vl Ab (Cm _ _ _)) fun w152 g152 h152=>?_
           replace An:=Ag g151 g152 (AC g149 (AC g148 (Ag g144 g145 (AC g143 An) (Ne.symm CR)))) (Ne.symm CR)
           replace Ah:=h152
           refine AE ?_
           refine k147 _ _ ?_
           refine AKQ fun K153 k153=>?_
           refine AKP ?_
           refine AJ AGq 1 [(103,BR ad (.slice ao29 ds.length cap29) 1 (.slice wo j wc) (.slice ao143 ((IK (CD x) ck)).length cap143) ((LS ck ad (IK (CD x) ck))))]
            ⟨yl r6 (Df _ _ (Cm _ _ _) (.slice ao29 ds.length cap29) (.slice wo j wc) (.slice ao143 ((IK (CD x) ck)).length cap143) rfl rfl rfl) Ah,AKW⟩ fun a154 w154 g154 AAp=>?_
           refine Av AAp r7 (Df _ _ (Cm _ _ _) (.slice ao29 ds.length cap29) (.slice wo j wc) (.slice ao143 ((IK (CD x) ck)).length cap143) rfl rfl rfl) (AC g154 An) (Gc Ab (Cm _ _ _)) fun w155 g155 h155=>?_
           replace Ap:=Ag g154 g155 (Ag g151 g152 (AC g149 (AC g148 (Ag g144 g145 (AC g143 Ap) (Ne.symm CS)))) (Ne.symm CS)) B9
           refine Av AAp r7 (E9 0) Ap rfl fun w156 g156 h156=>?_
           replace An:=AZ g156 h155 (Ne.symm B9)
           replace oc:=((((((((((oc.kn Mx).kn g143).kn g144).offR g145 (AP Dt)).kn g148).kn g149).kn g151).offR g152 (AP Dt)).kn g154).offR g155 (AP Il)).offR g156 (AP Im)
           replace op:=(((((((((op.kn g143).kn g144).offR g145 (AP EO)).kn g148).kn g149).kn g151).offR g152 (AP EO)).kn g154).offR g155 (AP Io)).offR g156 (AP Ip)
           replace okk:=((((((((((okk.kn Mx).kn g143).kn g144).offR g145 (AP DI)).kn g148).kn g149).kn g151).offR g152 (AP DI)).kn g154).offR g155 (AP EP)).offR g156 (AP EQ)
           replace ow:=((((((((((ow.kn Mx).kn g143).kn g144).offR g145 (AP E0)).kn g148).kn g149).kn g151).offR g152 (AP E0)).kn g154).offR g155 (AP Gs)).offR g156 (AP Gu)
           replace oy_:=(((((oy_.kn g149).kn g151).offR g152 (AP FL)).kn g154).offR g155 (AP Jt)).offR g156 (AP Ju)
           replace HG:=AD (AD (AA (AD (AA (AA (AA (AD (AA (AA HG g143) g144) g145 Fc) g148) g149) g151) g152 Fc) g154) g155 IQ) g156 IS
           replace Ap:=h156
           refine AE ?_
           refine k153 _ _ ?_
           refine AKT ?_
           repeat refine AK ?_
           refine Bj (fn:=Tryz.f20) AAp (CC (p:=10) (q:=11) Tryz.results20 AAp rfl rfl rfl rfl (Df _ _ (Cm _ _ _) (.slice ao29 ds.length cap29) (.slice wo j wc) (.slice ao143 ((IK (CD x) ck)).length cap143) rfl rfl rfl) (E9 0) An Ap) (CH Tryz.func49 (by kernel_rfl) rfl _ _) (EM _ _ _) ?_
           exact SRes.mk (own:=ds) (wr:=(wrL ck hck kl j)) (Mq hh hv hne hK2 hkm hcke) rfl (AF6 (by omega)) rfl hown (hwr.trans (ABz kl ck)) oc ow oy_ lo_oc lo_ow lo_oy_ ap_oc_ow (Cm _ _ _) (NJ _ (Ik x)) HG rfl
end Go.Proofs.YtbfjfnbcmojpiaaGreat
