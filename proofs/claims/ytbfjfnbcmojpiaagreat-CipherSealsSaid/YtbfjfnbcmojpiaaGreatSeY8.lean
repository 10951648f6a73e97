import Derived.Test.YtbfjfnbcmojpiaaGreatSeY7
set_option linter.unusedSimpArgs false
set_option linter.unusedVariables false
set_option maxRecDepth 100000
set_option maxHeartbeats 4000000
namespace Go.Proofs.YtbfjfnbcmojpiaaGreat
open Go.RowKit Go.Shelf
theorem Ec (p q:Value) (w:World):CallsD Tryz.prog 49 #[p,q] .returning w fun e u' w'=>e=.returned (.tuple #[])∧u'=.returning∧w'=w:=by
 refine callsD_of_wpS Tryz.func49 rfl fun c₀ cs hu=>?_
 apply wpS_seq
 apply wpS_region
 simp[wpOpsS,go_sem,recoverD,hu,Tryz.ntmps49,Exit.thenS]
 refine wpS_cond (t:=false) (by simp[Act.eval,Array.replicate]) ?_
 simp only[Bool.false_eq_true,if_false]
 refine wpS_of_wp (ALe ?_)
 cases c₀
 simp_all [bodyPostS,results,Tryz.results49]
theorem Dw (p q:Value) (w:World):CallsD Tryz.prog 60 #[p,q] .returning w fun e u' w'=>e=.returned (.tuple #[])∧u'=.returning∧w'=w:=by
 refine callsD_of_wpS Tryz.func60 rfl fun c₀ cs hu=>?_
 apply wpS_seq
 apply wpS_region
 simp[wpOpsS,go_sem,recoverD,hu,Tryz.ntmps60,Exit.thenS]
 refine wpS_cond (t:=false) (by simp[Act.eval,Array.replicate]) ?_
 simp only[Bool.false_eq_true,if_false]
 refine wpS_of_wp (ALe ?_)
 cases c₀
 simp_all [bodyPostS,results,Tryz.results60]
def SRes (w w':World) (r:Sd×Int) (e:Ending):Prop:=
 ∃(own wr:List DD) (ao wo bo:Option Addr) (ac wc bc:Nat),e=.returned (.tuple #[Bm r.1.addr (.slice ao own.length ac) r.1.joint (.slice wo wr.length wc) (.slice bo r.1.body.length bc) r.1.tag,.int .i64 r.2])∧own.map DD.x=r.1.own∧wr.map DD.x=r.1.wr ∧
  Own w' 23 32 (.slice ao own.length ac) own.length (own.flatMap Ic)∧Own w' 23 32 (.slice wo wr.length wc) wr.length (wr.flatMap Ic)∧Own w' 5 1 (.slice bo r.1.body.length bc) r.1.body.length (bv r.1.body) ∧
  (∀k,BM (.slice ao own.length ac) k→w.heap.size≤k)∧(∀k,BM (.slice wo wr.length wc) k→w.heap.size≤k)∧(∀k,BM (.slice bo r.1.body.length bc) k→w.heap.size≤k)∧(∀k,BM (.slice ao own.length ac) k→¬BM (.slice wo wr.length wc) k)∧Dg r.1.tag∧By r.1.body∧w.grownBy w' none
theorem SRes.mk {w w':World} {r:Sd×Int} {s:Sd} {er:Int} {own wr:List DD} {ao wo bo:Option Addr} {ac wc bc n m l:Nat} (hr:r=(s,er)) (hn:own.length=n) (hm:wr.length=m) (hl:s.body.length=l) (h1:own.map DD.x=s.own) (h2:wr.map DD.x=s.wr)
  (h3:Own w' 23 32 (.slice ao n ac) n (own.flatMap Ic)) (h4:Own w' 23 32 (.slice wo m wc) m (wr.flatMap Ic)) (h5:Own w' 5 1 (.slice bo l bc) l (bv s.body)) (f1:∀k,BM (.slice ao n ac) k→w.heap.size≤k) (f2:∀k,BM (.slice wo m wc) k→w.heap.size≤k) (f3:∀k,BM (.slice bo l bc) k→w.heap.size≤k) (f4:∀k,BM (.slice ao n ac) k→¬BM (.slice wo m wc) k)
  (ht:Dg s.tag) (hb:By s.body) (g:w.grownBy w' none) {v:Value} (hv:v=Bm s.addr (.slice ao n ac) s.joint (.slice wo m wc) (.slice bo l bc) s.tag):SRes w w' r (.returned (.tuple #[v,.int .i64 er])):=by
 subst hr hn hm hl hv
 exact⟨own,wr,ao,wo,bo,ac,wc,bc,rfl,h1,h2,h3,h4,h5,f1,f2,f3,f4,ht,hb,g⟩
theorem SRes.zero {w w':World} {r:Sd×Int} {er:Int} (hr:r=(Sd.zero,er)) (g:w.grownBy w' none):SRes w w' r (.returned (.tuple #[Bm 0 (.slice none 0 0) 0 (.slice none 0 0) (.slice none 0 0) AM,.int .i64 er])):=
 SRes.mk (own:=[]) (wr:=[]) (ao:=none) (wo:=none) (bo:=none) (ac:=0) (wc:=0) (bc:=0) hr rfl rfl rfl rfl rfl (Own.nil _ _ _) (Own.nil _ _ _) (Own.nil _ _ _) (fun k hk=>by simp[BM,Value.ownBlock] at hk) (fun k hk=>by simp[BM,Value.ownBlock] at hk) (fun k hk=>by simp[BM,Value.ownBlock] at hk) (fun k hk=>by simp[BM,Value.ownBlock] at hk) AP (fun b hb=>by simp[Sd.zero] at hb) g rfl
theorem IY {P:List VP} {own:List (List Nat)} {joint a:Int} {x:V} (h:hd own joint a=false∨CZ P=false):Fg P own joint a x=(Sd.zero,1):=by
 unfold Fg
 rcases h with h|h<;>simp[h]
theorem L3 {P:List VP} {joint a:Int} {x:V} (h1:hd [] joint a=true) (h2:CZ P=true):Fg P [] joint a x=(⟨a,[],joint,[],BD x,Wf a (BD x)⟩,0):=by
 unfold Fg
 simp[h1,h2]
theorem T5 {P:List VP} {own:List (List Nat)} {joint a:Int} {x:V} {e:Int} (h1:hd own joint a=true) (h2:CZ P=true) (h3:own≠[]) (h4:(Df P a own).2=e) (h5:e≠0):Fg P own joint a x=(Sd.zero,e):=by
 unfold Fg
 simp[h1,h2,h3,h4,h5]
theorem Jr {P:List VP} {own:List (List Nat)} {joint a:Int} {x:V} {K:List (List Nat)} {c:List Nat} (h1:hd own joint a=true) (h2:CZ P=true) (h3:own≠[]) (h4:(Df P a own).2=0) (h5:K=(Df P a own).1) (h6:Tx (decide (joint=1)) K=c) :
  Fg P own joint a x=(⟨a,own,joint,if joint=1 then K.map (OD c) else [],Fv (BD x) c,QZ c a (Fv (BD x) c)⟩,0):=by
 subst h5
 subst h6
 unfold Fg
 simp[h1,h2,h3,h4]
theorem NU {P:List VP} {a:Int}:∀{own:List (List Nat)},(∀j,j<own.length→(DI P (No own j) a).2=0)→(Df P a own).1=own.map (fun z=>(DI P z a).1)∧(Df P a own).2=0
 | [],_=>⟨rfl,rfl⟩
 | o::l,h=>by
  have h0:(DI P o a).2=0:=h 0 (by simp)
  obtain⟨h1,h2⟩:=NU (own:=l) fun j hj=>h (j+1) (by simpa using hj)
  unfold Df
  rw[if_pos h0]
  exact⟨by rw[h1];rfl,h2⟩
theorem L5 {P:List VP} {a:Int}:∀{own:List (List Nat)} {i:Nat},i<own.length→(∀j,j<i→(DI P (No own j) a).2=0)→(DI P (No own i) a).2≠0→(Df P a own).2=(DI P (No own i) a).2
 | [],i,hi,_,_=>by simp at hi
 | o::l,0,_,_,h=>by
  have h0:(DI P o a).2≠0:=h
  unfold Df
  rw[if_neg h0]
  rfl
 | o::l,i+1,hi,hj,h=>by
  have h0:(DI P o a).2=0:=hj 0 (by omega)
  have:=L5 (own:=l) (i:=i) (by simpa using hi) (fun j hjj=>hj (j+1) (by omega)) h
  unfold Df
  rw[if_pos h0]
  exact this
theorem OH {P:List VP} {a:Int} {own:List (List Nat)} {i:Nat} {kl:List DD} {y:List Nat} {kx:List Nat×Int} (h:kl.map DD.x=(own.take i).map fun z=>(DI P z a).1) (hi:i<own.length) (hla:No own i=y) (hkx:DI P y a=kx) {hkd:Dg kx.1}:(kl++[(⟨kx.1,hkd⟩:DD)]).map DD.x=(own.take (i+1)).map fun z=>(DI P z a).1:=by
 rw[List.take_add_one,List.getElem?_eq_getElem hi,List.map_append,List.map_append,h]
 rw[AEn hi] at hla
 simp[hla,hkx]
theorem Ql (kl:List DD) (d:DD):kl.flatMap Ic++bv d.x=(kl++[d]).flatMap Ic:=by rw[List.flatMap_append];simp[Ic]
theorem JK {w:World} {B:Nat} {d:List Nat} {t:TypeId} {fr:Nat×Nat} (h:w.heap[B]?=some (.cells (bv d).toArray t fr)) (hd:Dg d):Sl w 32 (.slice (some ⟨B,0,none⟩) 1 1) 1 (bv d):=by
 refine⟨by rw[AL,hd.1],_,_,rfl,Nat.le_refl _,by decide,fun h=>(by cases h),fun ad had=>?_⟩
 obtain rfl:=Option.some.inj had
 refine⟨fun _=>rfl,fun j u hu=>?_⟩
 have:=Am h j u hu
 simpa using this
theorem YR {d:List Nat} (hd:Dg d) (W:World):(Instr.buildSlice 28 1 #[(0,AO d)]).run Tryz.prog W=.ok (.slice (some ⟨W.heap.size,0,none⟩) 1 1) (W.alloc (.cells (bv d).toArray 23)):=by
 obtain⟨x0,x1,x2,x3,x4,x5,x6,x7,x8,x9,x10,x11,x12,x13,x14,x15,x16,x17,x18,x19,x20,x21,x22,x23,x24,x25,x26,x27,x28,x29,x30,x31,rfl⟩:=Ih _ hd.1
 kernel_rfl
theorem KX {c y:List Nat} (hc:Dg c) (hy:Dg y):Dg (OD c y):=ACs hc (Be 283 y)
def wrL (c:List Nat) (hc:Dg c) (kl:List DD) (j:Nat):List DD:=(kl.take j).map fun z=>⟨OD c z.x,KX hc z.h⟩
theorem YS {c:List Nat} (hc:Dg c) {kl:List DD} {j:Nat} {z:DD} (hj:j<kl.length) (hz:kl[j]=z):(wrL c hc kl j).flatMap Ic++bv (OD c z.x)=(wrL c hc kl (j+1)).flatMap Ic:=by
 unfold wrL
 rw[List.take_add_one,List.getElem?_eq_getElem hj,hz,List.map_append,List.flatMap_append]
 simp[Ic]
theorem ABd {c:List Nat} {hc:Dg c} {kl:List DD} {j:Nat} (hj:kl.length≤j):(wrL c hc kl j).map DD.x=kl.map fun z=>OD c z.x:=by
 unfold wrL
 rw[List.take_of_length_le hj,List.map_map]
 rfl
theorem ABe {c:List Nat} {hc:Dg c} {kl:List DD} {j:Nat} (hj:j≤kl.length):(wrL c hc kl j).length=j:=by
 unfold wrL
 rw[List.length_map,List.length_take]
 omega
theorem AE8 {w:World} {kl:List DD} {n:Nat} {ko:Option Addr} {kc:Nat} {joint:Int} {c:List Nat} (hn:kl.length=n) (hr:SlB w 32 (.slice ko n kc) n (kl.flatMap Ic)) (hl:n≤1000) (hc:Tx (decide (joint=1)) (kl.map DD.x)=c):Calls Tryz.prog 55 #[.int .i64 joint,.slice ko n kc] w fun e w'=>e=.returned (AO c)∧w.grownBy w' none:=by
 subst hn hc
 exact AC0 joint kl ko kc w hr hl
theorem AC5 {w:World} {kl:List DD} {n:Nat} {ko:Option Addr} {kc:Nat} {joint:Int} {c:List Nat} (hn:kl.length=n) (hr:SlB w 32 (.slice ko n kc) n (kl.flatMap Ic)) (hl:n≤1000) (hj:joint=0∨joint=1) (hc:Tx (decide (joint=1)) (kl.map DD.x)=c):Calls Tryz.prog 45 #[.int .i64 joint,.slice ko n kc] w fun e w'=>e=.returned (AO c)∧w.grownBy w' none:=by
 subst hn hc
 exact VN joint kl ko kc w hr hl hj
theorem RdK.noks2 {w:World} {v:Value} {ks:List VK} (h:RdK w v ks):∀i,i<(ks.map VK.p).length→∀n∈tr (ks.map VK.p) i,Nok n:=fun i hi n hn=>by
 have hi':i<ks.length:=by simpa using hi
 rw[Ur hi'] at hn
 exact(h.2 _ (List.getElem_mem hi')).2.1 n hn
theorem NV {P:List VP} {o:List Nat} {a:Int} (h:∀i,i<P.length→∀n∈tr P i,Nok n):Dg (DI P o a).1:=by
 unfold DI
 split
 · split
   · rename_i hf
     exact Gr (h _ (Ug hf).1) a
   · exact AP
 · exact AP
theorem AE9 {w:World} {ks:List VK} {vo:Option Addr} {vc:Nat} {sa po o:List Nat} {P:List VP} {a:Int} {q:List Nat×Int} (hsa:Dg sa) (hpo:Dg po) (ho:Dg o) (hk:RdK w (.slice vo ks.length vc) ks) (hm:ks.map VK.p=P) (hres:DI P o a=q) :
 Calls Tryz.prog 32 #[Aw sa po (.slice vo ks.length vc),AO o,.int .i64 a] w fun e w'=>e=.returned (.tuple #[AO q.1,.int .i64 q.2])∧w.grownBy w' none:=AJq hsa hpo ho hk hm hres
theorem Pk {w:World} {ds:List DD} {own:List (List Nat)} {ao:Option Addr} {cap:Nat} {joint addr:Int} {b:Bool} (hr:RdD w (.slice ao ds.length cap) ds) (hown:ds.map DD.x=own) (hb:hd own joint addr=b):Calls Tryz.prog 50 #[.slice ao ds.length cap,.int .i64 joint,.int .i64 addr] w fun e w'=>e=.returned (.bool b)∧w.grownBy w' none:=Pi hr (hown▸hb)
theorem ABf {w:World} {ds:List DD} {own:List (List Nat)} {ao:Option Addr} {cap:Nat} {joint addr:Int} {b:Bool} (hr:RdD w (.slice ao ds.length cap) ds) (hown:ds.map DD.x=own) (hb:hd own joint addr=b):Calls Tryz.prog 41 #[.slice ao ds.length cap,.int .i64 joint,.int .i64 addr] w fun e w'=>e=.returned (.bool b)∧w.grownBy w' none:=AG7 hr (hown▸hb)
theorem EE (x:V):By (BD x):=fun b hb=>AF0 _ b hb
theorem T6 (kl:List DD) (c:List Nat):(kl.map fun z=>OD c z.x)=(kl.map DD.x).map (OD c):=by rw[List.map_map];rfl
theorem AC6 (ks:List VK) (vo:Option Addr) (vc_:Nat) (sa po:List Nat) (hsa:Dg sa) (hpo:Dg po) (ds:List DD) (ao:Option Addr) (ac:Nat) (joint ad:Int) (x:V) (w:World) (hr:RdK w (.slice vo ks.length vc_) ks) (ho:RdD w (.slice ao ds.length ac) ds) (hdl:ds.length≤1000) :
   Calls Tryz.prog 20 #[Aw sa po (.slice vo ks.length vc_),.slice ao ds.length ac,.int .i64 joint,.int .i64 ad,Bp x] w fun e w'=>SRes w w' (Fg (ks.map VK.p) (ds.map DD.x) joint ad x) e:=by
 obtain⟨P,hP⟩:∃P,ks.map VK.p=P:=⟨_,rfl⟩
 obtain⟨own,hown⟩:∃own,ds.map DD.x=own:=⟨_,rfl⟩
 have hownl:own.length=ds.length:=by rw[←hown,List.length_map]
 have hnok:=hr.noks2
 rw[hP] at hnok
 rw[hP,hown]
 refine Eu Tryz.func20 rfl Tryz.ntmps20 rfl fun a0 sv0=>?_
 have HG:=World.grownBy.refl w none
 replace sv0:Sv 104 [] [(0,Aw sa po (.slice vo ks.length vc_)),(1,.slice ao ds.length ac),(2,.int .i64 joint),(3,.int .i64 ad),(4,Bp x)] a0:=sv0
 refine ALa fun K1 k1=>?_
 refine ALZ ?_
 refine BZ sv0 r6 (Bq hsa hpo (.slice vo ks.length vc_) rfl) fun a2 w2 I6 AHA g2 z2 Ah sv2=>?_
 refine BZ sv2 r6 (ED x) fun a3 w3 I7 AHB g3 z3 Al sv3=>?_
 replace Ah:=AC g3 Ah
 replace hr:=(hr.kn g2).kn g3
 replace ho:=(ho.kn g2).kn g3
 replace HG:=AA (AA HG g2) g3
 refine Az (T:=31) (Z:=([[.int .i64 0],[.slice none 0 0],[.int .i64 0],[.slice none 0 0],[.slice none 0 0],bv AM].flatten)) sv3 rfl rfl rfl (fun a w=>by kernel_rfl) fun a4 w4 EC FK g4 z4 AQ sv4=>?_
 have CQ:=Ax Ah FK
 have CR:=Ax Al FK
 have Dm:=Bk HG FK
 have Ct:=Ay (hr.lt) FK
 have Cu:=Ay (ho.lt) FK
 replace Ah:=AC g4 Ah
 replace Al:=AC g4 Al
 replace hr:=hr.kn g4
 replace ho:=ho.kn g4
 replace HG:=AA HG g4
 refine Az (T:=38) (Z:=[.int .i64 0]) sv4 rfl rfl rfl (fun a w=>by kernel_rfl) fun a5 w5 Ix Js g5 z5 Ao sv5=>?_
 have Ev:=Ax Ah Js
 have Ew:=Ax Al Js
 have Bw:=Ax AQ Js
 have Iy:=Bk HG Js
 have Fw:=Ay (hr.lt) Js
 have Fx:=Ay (ho.lt) Js
 replace Ah:=AC g5 Ah
 replace Al:=AC g5 Al
 replace AQ:=AC g5 AQ
 replace hr:=hr.kn g5
 replace ho:=ho.kn g5
 replace HG:=AA HG g5
 refine AE ?_
 refine k1 _ _ ?_
 refine ALa fun K6 k6=>?_
 refine ALZ ?_
 refine Ht sv5 rfl rfl rfl rfl rfl rfl fun a7 sv7=>?_
 refine Fe sv7 rfl (dd:={ target:=.fn (.func 49) #[pt EC,pt Ix],args:=#[] }) rfl (by have e1:=sv7.ev (x:=.tmp 22) rfl rfl;simp[execOp,resolve,Deferred.ofValue,e1];try rfl) fun a8 sv8=>?_
 refine AE ?_
 refine k6 _ _ ?_
 refine ALa fun K9 k9=>?_
 refine ALa fun K10 k10=>?_
 rcases(show(hd own joint ad=false∧CZ P=false)∨(hd own joint ad=false∧CZ P=true)∨(hd own joint ad=true∧CZ P=false)∨(hd own joint ad=true∧CZ P=true) by cases hd own joint ad<;>cases CZ P<;>simp) with ⟨hh,hv⟩|⟨hh,hv⟩|⟨hh,hv⟩|⟨hh,hv⟩
 · refine ALZ ?_
   refine AH sv8 10 [(23,.slice ao ds.length ac),(24,.int .i64 joint),(25,.int .i64 ad),(26,.bool false),(27,.bool true),(28,.bool true),(29,undef),(30,undef),(31,undef),(32,.bool true)]
     ⟨ym r5,ym r5,ym r5,Ae [.slice ao ds.length ac,.int .i64 joint,.int .i64 ad] Tryz.func50 (by kernel_rfl) rq4 ⟨(oy rfl rfl),(oy rfl rfl),(oy rfl rfl),ALg⟩ (Au fun W g=>Pk (ho.kn g) hown hh),Cr r6 (fun _=>Ba),ym r5,AS r6,AS r6,AS r6,BQ r7,ALg⟩ fun a11 w11 g11 B7=>?_
   refine AE ?_
   refine k10 _ _ ?_
   refine Av B7 rfl rfl ?_
   refine ALa fun K12 k12=>?_
   refine ALZ ?_
   replace AQ:=AC g11 AQ
   refine AH B7 1 [(33,Bm 0 (.slice none 0 0) 0 (.slice none 0 0) (.slice none 0 0) AM)]
     ⟨BR (vs:=[]) rfl rfl trivial trivial (fun _=>YM _) (fun _=>rfl),ALg⟩ fun a13 w13 g13 Cl=>?_
   refine As Cl r7 (Cy _ _ AP (.slice none 0 0) (.slice none 0 0) (.slice none 0 0) rfl rfl rfl) (AC g13 AQ) (C7 AP AP) fun w14 g14 h14=>?_
   replace Ao:=Af g13 g14 (AC g11 Ao) Bw
   refine As Cl r7 (GI 1) Ao rfl fun w15 g15 h15=>?_
   replace Ah:=Ac g15 (Af g13 g14 (AC g11 Ah) (Ne.symm CQ)) (Ne.symm Ev)
   replace Al:=Ac g15 (Af g13 g14 (AC g11 Al) (Ne.symm CR)) (Ne.symm Ew)
   replace AQ:=Ac g15 h14 (Ne.symm Bw)
   replace hr:=(((hr.kn g11).kn g13).offR g14 (AR Ct)).offR g15 (AR Fw)
   replace ho:=(((ho.kn g11).kn g13).offR g14 (AR Cu)).offR g15 (AR Fx)
   replace HG:=AD (AD (AA (AA HG g11) g13) g14 Dm) g15 Iy
   replace Ao:=h15
   refine AE ?_
   refine k12 _ _ ?_
   refine ALd ?_
   repeat refine AJ ?_
   refine Bi (fn:=Tryz.f20) Cl (B6 (p:=10) (q:=11) Tryz.results20 Cl rfl rfl rfl rfl (Cy _ _ AP (.slice none 0 0) (.slice none 0 0) (.slice none 0 0) rfl rfl rfl) (GI 1) AQ Ao) (CH Tryz.func49 (by kernel_rfl) rfl _ _) (Ec _ _ _) ?_
   exact SRes.zero (IY (.inl hh)) HG
 · refine ALZ ?_
   refine AH sv8 10 [(23,.slice ao ds.length ac),(24,.int .i64 joint),(25,.int .i64 ad),(26,.bool false),(27,.bool true),(28,.bool true),(29,undef),(30,undef),(31,undef),(32,.bool true)]
     ⟨ym r5,ym r5,ym r5,Ae [.slice ao ds.length ac,.int .i64 joint,.int .i64 ad] Tryz.func50 (by kernel_rfl) rq4 ⟨(oy rfl rfl),(oy rfl rfl),(oy rfl rfl),ALg⟩ (Au fun W g=>Pk (ho.kn g) hown hh),Cr r6 (fun _=>Ba),ym r5,AS r6,AS r6,AS r6,BQ r7,ALg⟩ fun a16 w16 g16 Ch=>?_
   refine AE ?_
   refine k10 _ _ ?_
   refine Av Ch rfl rfl ?_
   refine ALa fun K17 k17=>?_
   refine ALZ ?_
   replace AQ:=AC g16 AQ
   refine AH Ch 1 [(33,Bm 0 (.slice none 0 0) 0 (.slice none 0 0) (.slice none 0 0) AM)]
     ⟨BR (vs:=[]) rfl rfl trivial trivial (fun _=>YM _) (fun _=>rfl),ALg⟩ fun a18 w18 g18 CD=>?_
   refine As CD r7 (Cy _ _ AP (.slice none 0 0) (.slice none 0 0) (.slice none 0 0) rfl rfl rfl) (AC g18 AQ) (C7 AP AP) fun w19 g19 h19=>?_
   replace Ao:=Af g18 g19 (AC g16 Ao) Bw
   refine As CD r7 (GI 1) Ao rfl fun w20 g20 h20=>?_
   replace Ah:=Ac g20 (Af g18 g19 (AC g16 Ah) (Ne.symm CQ)) (Ne.symm Ev)
   replace Al:=Ac g20 (Af g18 g19 (AC g16 Al) (Ne.symm CR)) (Ne.symm Ew)
   replace AQ:=Ac g20 h19 (Ne.symm Bw)
   replace hr:=(((hr.kn g16).kn g18).offR g19 (AR Ct)).offR g20 (AR Fw)
   replace ho:=(((ho.kn g16).kn g18).offR g19 (AR Cu)).offR g20 (AR Fx)
   replace HG:=AD (AD (AA (AA HG g16) g18) g19 Dm) g20 Iy
   replace Ao:=h20
   refine AE ?_
   refine k17 _ _ ?_
   refine ALd ?_
   repeat refine AJ ?_
   refine Bi (fn:=Tryz.f20) CD (B6 (p:=10) (q:=11) Tryz.results20 CD rfl rfl rfl rfl (Cy _ _ AP (.slice none 0 0) (.slice none 0 0) (.slice none 0 0) rfl rfl rfl) (GI 1) AQ Ao) (CH Tryz.func49 (by kernel_rfl) rfl _ _) (Ec _ _ _) ?_
   exact SRes.zero (IY (.inl hh)) HG
 · refine ALZ ?_
   refine AH sv8 10 [(23,.slice ao ds.length ac),(24,.int .i64 joint),(25,.int .i64 ad),(26,.bool true),(27,.bool false),(28,.bool false),(29,Aw sa po (.slice vo ks.length vc_)),(30,.bool false),(31,.bool true),(32,.bool true)]
     ⟨ym r5,ym r5,ym r5,Ae [.slice ao ds.length ac,.int .i64 joint,.int .i64 ad] Tryz.func50 (by kernel_rfl) rq4 ⟨(oy rfl rfl),(oy rfl rfl),(oy rfl rfl),ALg⟩ (Au fun W g=>Pk (ho.kn g) hown hh),Cr r6 (fun _=>Ba),ym r5,A2 rq9 (fun _ g=>Ab (Bq hsa hpo (.slice vo ks.length vc_) rfl) (Am (AF g Ah (by simp)))),Bn [Aw sa po (.slice vo ks.length vc_)] Tryz.func51 (by kernel_rfl) r7 ⟨(oy rfl rfl),ALg⟩ (Au fun W g=>NI hsa hpo (hr.kn g) hP hv),Ik rfl rfl (gy rfl rfl rfl) (oy rfl rfl) (fun _=>Ba) (fun _=>rfl),Ag rq9,ALg⟩ fun a21 w21 g21 Di=>?_
   refine AE ?_
   refine k10 _ _ ?_
   refine Av Di rfl rfl ?_
   refine ALa fun K22 k22=>?_
   refine ALZ ?_
   replace AQ:=AC g21 AQ
   refine AH Di 1 [(33,Bm 0 (.slice none 0 0) 0 (.slice none 0 0) (.slice none 0 0) AM)]
     ⟨BR (vs:=[]) rfl rfl trivial trivial (fun _=>YM _) (fun _=>rfl),ALg⟩ fun a23 w23 g23 CS=>?_
   refine As CS r7 (Cy _ _ AP (.slice none 0 0) (.slice none 0 0) (.slice none 0 0) rfl rfl rfl) (AC g23 AQ) (C7 AP AP) fun w24 g24 h24=>?_
   replace Ao:=Af g23 g24 (AC g21 Ao) Bw
   refine As CS r7 (GI 1) Ao rfl fun w25 g25 h25=>?_
   replace Ah:=Ac g25 (Af g23 g24 (AC g21 Ah) (Ne.symm CQ)) (Ne.symm Ev)
   replace Al:=Ac g25 (Af g23 g24 (AC g21 Al) (Ne.symm CR)) (Ne.symm Ew)
   replace AQ:=Ac g25 h24 (Ne.symm Bw)
   replace hr:=(((hr.kn g21).kn g23).offR g24 (AR Ct)).offR g25 (AR Fw)
   replace ho:=(((ho.kn g21).kn g23).offR g24 (AR Cu)).offR g25 (AR Fx)
   replace HG:=AD (AD (AA (AA HG g21) g23) g24 Dm) g25 Iy
   replace Ao:=h25
   refine AE ?_
   refine k22 _ _ ?_
   refine ALd ?_
   repeat refine AJ ?_
   refine Bi (fn:=Tryz.f20) CS (B6 (p:=10) (q:=11) Tryz.results20 CS rfl rfl rfl rfl (Cy _ _ AP (.slice none 0 0) (.slice none 0 0) (.slice none 0 0) rfl rfl rfl) (GI 1) AQ Ao) (CH Tryz.func49 (by kernel_rfl) rfl _ _) (Ec _ _ _) ?_
   exact SRes.zero (IY (.inr hv)) HG
 · obtain⟨haa,hjj,hol,hasc⟩:=ABc hh
   have hia:Mw ad:=⟨by omega,by omega⟩
   refine ALZ ?_
   refine AH sv8 10 [(23,.slice ao ds.length ac),(24,.int .i64 joint),(25,.int .i64 ad),(26,.bool true),(27,.bool false),(28,.bool false),(29,Aw sa po (.slice vo ks.length vc_)),(30,.bool true),(31,.bool false),(32,.bool false)]
     ⟨ym r5,ym r5,ym r5,Ae [.slice ao ds.length ac,.int .i64 joint,.int .i64 ad] Tryz.func50 (by kernel_rfl) rq4 ⟨(oy rfl rfl),(oy rfl rfl),(oy rfl rfl),ALg⟩ (Au fun W g=>Pk (ho.kn g) hown hh),Cr r6 (fun _=>Ba),ym r5,A2 rq9 (fun _ g=>Ab (Bq hsa hpo (.slice vo ks.length vc_) rfl) (Am (AF g Ah (by simp)))),Bn [Aw sa po (.slice vo ks.length vc_)] Tryz.func51 (by kernel_rfl) r7 ⟨(oy rfl rfl),ALg⟩ (Au fun W g=>NI hsa hpo (hr.kn g) hP hv),Ik rfl rfl (gy rfl rfl rfl) (oy rfl rfl) (fun _=>Ba) (fun _=>rfl),Ag rq9,ALg⟩ fun a26 w26 g26 Cp=>?_
   refine AE ?_
   refine k10 _ _ ?_
   refine A1 Cp rfl rfl ?_
   refine ALe ?_
   refine k9 _ _ ?_
   refine ALa fun K27 k27=>?_
   refine ALZ ?_
   refine AH Cp 2 [(34,.int .i64 ad),(35,.slice ao ds.length ac)]
     ⟨ym r5,ym r5,ALg⟩ fun a28 w28 g28 Dp=>?_
   have KF:=AA g26 g28
   replace AQ:=AC KF AQ
   replace Ao:=AC KF Ao
   replace ho:=ho.kn KF
   replace HG:=AA HG KF
   refine BB Dp Tryz.func52 (by kernel_rfl) r6 (AI0 (by omega) ho) fun a29 v29 w29 hR29 CU=>?_
   obtain⟨ao29,cap29,rfl,g29,oc,fr29⟩:=hR29
   have JL:=Ca fr29 AQ
   have JM:=Ca fr29 Ao
   have lo_oc:=Gk HG fr29
   refine AH CU 2 [(37,.int .i64 joint),(38,Bm ad (.slice ao29 ds.length cap29) joint (.slice none 0 0) (.slice none 0 0) AM)]
     ⟨ym r5,BR (vs:=[.int .i64 ad,.slice ao29 ds.length cap29,.int .i64 joint]) rfl rfl trivial ⟨(oy rfl rfl),(oy rfl rfl),(oy rfl rfl),ALg⟩ (fun _=>AJ4 _ _ _ _ _ _) (fun _=>rfl),ALg⟩ fun a30 w30 g30 Ds=>?_
   replace Ah:=AC g30 (AC g29 (AC KF Ah))
   replace Al:=AC g30 (AC g29 (AC KF Al))
   replace AQ:=AC g30 (AC g29 AQ)
   replace Ao:=AC g30 (AC g29 Ao)
   replace hr:=((hr.kn KF).kn g29).kn g30
   replace ho:=(ho.kn g29).kn g30
   replace oc:=oc.kn g30
   replace HG:=AA (AA HG g29) g30
   refine Az (T:=31) (Z:=([[.int .i64 0],[.slice none 0 0],[.int .i64 0],[.slice none 0 0],[.slice none 0 0],bv AM].flatten)) Ds rfl rfl rfl (fun a w=>by kernel_rfl) fun a31 w31 Ed Fy g31 z31 Ai Hv=>?_
   have EH:=Ax Ah Fy
   have EI:=Ax Al Fy
   have CJ:=Ax AQ Fy
   have CK:=Ax Ao Fy
   have Fz:=Bk HG Fy
   have FR:=Ay (hr.lt) Fy
   have FS:=Ay (ho.lt) Fy
   have Dx:=Ay (Own.ltS oc) Fy
   refine As Hv r7 (Cy _ _ AP (.slice ao29 ds.length cap29) (.slice none 0 0) (.slice none 0 0) rfl rfl rfl) Ai (C7 AP AP) fun w32 g32 h32=>?_
   replace Al:=Ac g32 (AC g31 Al) (Ne.symm EI)
   have Fb:Sv _ _ [_,_,_,_,_,_,_,_,_,_,_,_,_,_,_,_,_,_,_,_,_] _:=Hv.dl [37,38,36,34,35]
   refine AE ?_
   refine k27 _ _ ?_
   refine ALa fun K34 k34=>?_
   refine ALZ ?_
   refine AH Fb 1 [(39,Bp x)]
     ⟨yl r6 (ED x) Al,ALg⟩ fun a35 w35 g35 Mj=>?_
   replace AQ:=AC g35 (Ac g32 (AC g31 AQ) (Ne.symm CJ))
   replace Ao:=AC g35 (Ac g32 (AC g31 Ao) (Ne.symm CK))
   replace Ai:=AC g35 h32
   replace HG:=AA (AD (AA HG g31) g32 Fz) g35
   refine BB Mj Tryz.func53 (by kernel_rfl) r6 (NN (AAW x _)) fun a36 v36 w36 hR36 FG=>?_
   obtain⟨ao36,cap36,rfl,_⟩:=(Sl.of_own hR36.1).shape
   obtain⟨ow36,fr36⟩:=hR36
   replace fr36:=Cq fr36
   have op:=ow36
   clear ow36
   have g36:=fr36.1
   replace fr36:=fr36.2
   have EW:=Ca fr36 AQ
   have JN:=Ca fr36 Ao
   have Ee:=Ca fr36 Ai
   have lo_op:=Gk HG fr36
   replace Ah:=AC g36 (AC g35 (Ac g32 (AC g31 Ah) (Ne.symm EH)))
   replace Al:=AC g36 (AC g35 Al)
   replace AQ:=AC g36 AQ
   replace Ao:=AC g36 Ao
   replace Ai:=AC g36 Ai
   replace hr:=(((hr.kn g31).offR g32 (AR FR)).kn g35).kn g36
   replace ho:=(((ho.kn g31).offR g32 (AR FS)).kn g35).kn g36
   replace oc:=(((oc.kn g31).offR g32 (AR Dx)).kn g35).kn g36
   replace HG:=AA HG g36
   refine AX (v:=.slice ao36 ((BD x)).length cap36) FG r6 fun a37 Gx=>?_
   refine AE ?_
   refine k34 _ _ ?_
   refine ALa fun K38 k38=>?_
   refine ALa fun K39 k39=>?_
   rcases Nat.eq_zero_or_pos ds.length with hz|hz
   · obtain rfl:own=[]:=List.eq_nil_of_length_eq_zero (by omega)
     refine ALZ ?_
     refine AH Gx 3 [(41,.slice ao ds.length ac),(42,.int .i64 ((ds.length:Nat))),(43,.bool true)]
       ⟨ym r5,BI (Tryz.underlying28) rfl rfl trivial (oy rfl rfl) (fun _=>rfl),Cm r6 (fun _=>Bd (Ny (by omega))),ALg⟩ fun a40 w40 g40 Jm=>?_
     refine AE ?_
     refine k39 _ _ ?_
     refine Av Jm rfl rfl ?_
     refine ALa fun K41 k41=>?_
     refine ALZ ?_
     refine AH Jm 2 [(44,.slice ao36 ((BD x)).length cap36),(45,pk Ed 4)]
       ⟨ym r5,yf r6 (fun _=>by kernel_rfl),ALg⟩ fun a42 w42 g42 GH=>?_
     have PB:=AA g40 g42
     refine Hq (L:=[[.int .i64 ad],[.slice ao29 ds.length cap29],[.int .i64 joint],[.slice none 0 0],[.slice none 0 0],bv AM]) (i:=4) GH r7 (E8 (.slice ao36 ((BD x)).length cap36) rfl) (AC PB Ai) rfl rfl rfl fun w43 g43 h43=>?_
     refine AE ?_
     refine k41 _ _ ?_
     refine ALa fun K44 k44=>?_
     refine ALZ ?_
     refine AH GH 2 [(46,.int .i64 ad),(47,.slice ao36 ((BD x)).length cap36)]
       ⟨ym r5,ym r5,ALg⟩ fun a45 w45 g45 Ep=>?_
     replace op:=((op.kn PB).offR g43 (AR Ee)).kn g45
     refine BB Ep Tryz.func54 (by kernel_rfl) r6 (Jq (JY ad hia (BD x) (EE x) (by have:=Em x;omega) _ _ _ (Own.sb op))) fun a46 v46 w46 hR46 Iq=>?_
     obtain⟨rfl,g46⟩:=hR46
     replace Ai:=AC g46 (AC g45 h43)
     refine AH Iq 1 [(49,pk Ed 5)]
       ⟨yf r6 (fun _=>by kernel_rfl),ALg⟩ fun a47 w47 g47 Kq=>?_
     refine Hq (L:=[[.int .i64 ad],[.slice ao29 ds.length cap29],[.int .i64 joint],[.slice none 0 0],[.slice ao36 ((BD x)).length cap36],bv AM]) (i:=5) Kq r7 (BV ((Wf ad (BD x))) (Dr ad (BD x)).1) (AC g47 Ai) rfl rfl (QI AP (Dr ad (BD x))) fun w48 g48 h48=>?_
     replace AQ:=Af g47 g48 (AC g46 (AC g45 (Af PB g43 AQ (Ne.symm CJ)))) (Ne.symm CJ)
     replace Ai:=h48
     have ES:Sv _ _ [_,_,_,_,_,_,_,_,_,_,_,_,_,_,_,_,_,_,_,_,_,_,_,_,_,_,_,_,_] _:=Kq.dl [49,48,46,47]
     refine AE ?_
     refine k44 _ _ ?_
     refine ALa fun K50 k50=>?_
     refine ALZ ?_
     refine AH ES 1 [(50,Bm ad (.slice ao29 ds.length cap29) joint (.slice none 0 0) (.slice ao36 ((BD x)).length cap36) ((Wf ad (BD x))))]
       ⟨yl r6 (Cy _ _ (Dr ad (BD x)) (.slice ao29 ds.length cap29) (.slice none 0 0) (.slice ao36 ((BD x)).length cap36) rfl rfl rfl) Ai,ALg⟩ fun a51 w51 g51 FJ=>?_
     refine As FJ r7 (Cy _ _ (Dr ad (BD x)) (.slice ao29 ds.length cap29) (.slice none 0 0) (.slice ao36 ((BD x)).length cap36) rfl rfl rfl) (AC g51 AQ) (C7 AP (Dr ad (BD x))) fun w52 g52 h52=>?_
     replace Ao:=Af g51 g52 (Af g47 g48 (AC g46 (AC g45 (Af PB g43 Ao (Ne.symm CK)))) (Ne.symm CK)) Bw
     refine As FJ r7 (GI 0) Ao rfl fun w53 g53 h53=>?_
     replace Ah:=Ac g53 (Af g51 g52 (Af g47 g48 (AC g46 (AC g45 (Af PB g43 Ah (Ne.symm EH)))) (Ne.symm EH)) (Ne.symm CQ)) (Ne.symm Ev)
     replace Al:=Ac g53 (Af g51 g52 (Af g47 g48 (AC g46 (AC g45 (Af PB g43 Al (Ne.symm EI)))) (Ne.symm EI)) (Ne.symm CR)) (Ne.symm Ew)
     replace AQ:=Ac g53 h52 (Ne.symm Bw)
     replace Ai:=Ac g53 (Af g51 g52 Ai CJ) CK
     replace hr:=((((((((hr.kn PB).offR g43 (AR FR)).kn g45).kn g46).kn g47).offR g48 (AR FR)).kn g51).offR g52 (AR Ct)).offR g53 (AR Fw)
     replace ho:=((((((((ho.kn PB).offR g43 (AR FS)).kn g45).kn g46).kn g47).offR g48 (AR FS)).kn g51).offR g52 (AR Cu)).offR g53 (AR Fx)
     replace oc:=((((((((oc.kn PB).offR g43 (AR Dx)).kn g45).kn g46).kn g47).offR g48 (AR Dx)).kn g51).offR g52 (AR JL)).offR g53 (AR JM)
     replace op:=(((((op.kn g46).kn g47).offR g48 (AR Ee)).kn g51).offR g52 (AR EW)).offR g53 (AR JN)
     replace HG:=AD (AD (AA (AD (AA (AA (AA (AD (AA HG PB) g43 Fz) g45) g46) g47) g48 Fz) g51) g52 Dm) g53 Iy
     replace Ao:=h53
     refine AE ?_
     refine k50 _ _ ?_
     refine ALd ?_
     repeat refine AJ ?_
     refine Bi (fn:=Tryz.f20) FJ (B6 (p:=10) (q:=11) Tryz.results20 FJ rfl rfl rfl rfl (Cy _ _ (Dr ad (BD x)) (.slice ao29 ds.length cap29) (.slice none 0 0) (.slice ao36 ((BD x)).length cap36) rfl rfl rfl) (GI 0) AQ Ao) (CH Tryz.func49 (by kernel_rfl) rfl _ _) (Ec _ _ _) ?_
     exact SRes.mk (own:=ds) (wr:=[]) (L3 hh hv) rfl rfl rfl hown rfl oc (Own.nil _ _ _) op lo_oc (fun k hk=>by simp[BM,Value.ownBlock] at hk) lo_op (fun k _ hk=>by simp[BM,Value.ownBlock] at hk) (Dr _ _) (EE x) HG rfl
   · have hne:own≠[]:=fun h=>by rw[h] at hownl;simp at hownl;omega
     refine ALZ ?_
     refine AH Gx 3 [(41,.slice ao ds.length ac),(42,.int .i64 ((ds.length:Nat))),(43,.bool false)]
       ⟨ym r5,BI (Tryz.underlying28) rfl rfl trivial (oy rfl rfl) (fun _=>rfl),Cm r6 (fun _=>Bd (MG (by omega))),ALg⟩ fun a54 w54 g54 N9=>?_
     refine AE ?_
     refine k39 _ _ ?_
     refine A1 N9 rfl rfl ?_
     refine ALe ?_
     refine k38 _ _ ?_
     refine ALa fun K55 k55=>?_
     refine ALZ ?_
     refine AX (v:=.slice none 0 0) N9 r6 fun a56 SC=>?_
     refine AE ?_
     refine k55 _ _ ?_
     refine ALa fun K57 k57=>?_
     refine ALa fun K58 k58=>?_
     refine ALZ ?_
     refine AH SC 3 [(51,.slice ao ds.length ac),(52,.int .i64 ((ds.length:Nat))),(53,.int .i64 0)]
       ⟨ym r5,BI (Tryz.underlying28) rfl rfl trivial (oy rfl rfl) (fun _=>rfl),FA (.inl rfl) rfl trivial (fun _=>rfl),ALg⟩ fun a59 w59 g59 Er=>?_
     have NH:=AA g54 g59
     refine AE ?_
     refine k58 _ _ ?_
     refine A8 fun Q60 x60 y60 rt60 o60=>?_
     replace Ah:=AC NH Ah
     replace Al:=AC NH Al
     replace AQ:=AC NH AQ
     replace Ao:=AC NH Ao
     replace Ai:=AC NH Ai
     replace hr:=hr.kn NH
     replace ho:=ho.kn NH
     replace oc:=oc.kn NH
     replace op:=op.kn NH
     replace HG:=AA HG NH
     have okk:=Own.nil w59 23 32
     have Dy:=Hr I6
     have Dz:=Hr I7
     have B9:=Hr EC
     have Ef:=Hr Ix
     have DS:=Hr Ed
     have ap_hr_okk:=IC (Kv (.slice vo ks.length vc_) ks)
     have ap_ho_okk:=IC (BM (.slice ao ds.length ac))
     have ap_oc_okk:=IC (BM (.slice ao29 ds.length cap29))
     have ap_okk_oc:=XS (BM (.slice ao29 ds.length cap29))
     have ap_op_okk:=IC (BM (.slice ao36 ((BD x)).length cap36))
     have ap_okk_op:=XS (BM (.slice ao36 ((BD x)).length cap36))
     have lo_okk:=XT w
     refine wp_loop (fun a w'=>∃(i:Nat) (ko:Option Addr) (kc:Nat) (kl:List DD),(i≤ds.length)∧(kl.map DD.x=(own.take i).map fun z=>(DI P z ad).1)∧(∀j,j<i→(DI P (No own j) ad).2=0)∧Sv 104 [{ target:=.fn (.func 49) #[pt EC,pt Ix],args:=#[] }] [(53,.int .i64 ((i:Int))),(14,.slice ko i kc),(51,.slice ao ds.length ac),(52,.int .i64 ((ds.length:Nat))),(41,.slice ao ds.length ac),(42,.int .i64 ((ds.length:Nat))),(43,.bool false),(13,.slice ao36 ((BD x)).length cap36),(40,.slice ao36 ((BD x)).length cap36),(39,Bp x),(12,pt Ed),(23,.slice ao ds.length ac),(24,.int .i64 joint),(25,.int .i64 ad),(26,.bool true),(27,.bool false),(28,.bool false),(29,Aw sa po (.slice vo ks.length vc_)),(30,.bool true),(31,.bool false),(32,.bool false),(22,.func (.func 49) #[] #[pt EC,pt Ix]),(11,pt Ix),(10,pt EC),(9,pt I7),(5,pt I6),(0,Aw sa po (.slice vo ks.length vc_)),(1,.slice ao ds.length ac),(2,.int .i64 joint),(3,.int .i64 ad),(4,Bp x)] a∧w.grownBy w' none∧w'.heap[I6]?=some (.cells ([bv sa,bv po,[.slice vo ks.length vc_]].flatten).toArray 36 (0,0))∧w'.heap[I7]?=some (.cells (vc x).toArray 25 (0,0))∧w'.heap[EC]?=some (.cells (([[.int .i64 0],[.slice none 0 0],[.int .i64 0],[.slice none 0 0],[.slice none 0 0],bv AM].flatten)).toArray 31 (0,0))∧w'.heap[Ix]?=some (.cells ([.int .i64 0]).toArray 38 (0,0))∧w'.heap[Ed]?=some (.cells ([[.int .i64 ad],[.slice ao29 ds.length cap29],[.int .i64 joint],[.slice none 0 0],[.slice none 0 0],bv AM].flatten).toArray 31 (0,0))∧RdK w' (.slice vo ks.length vc_) ks∧RdD w' (.slice ao ds.length ac) ds∧Own w' 23 32 (.slice ao29 ds.length cap29) ds.length (ds.flatMap Ic)∧Own w' 5 1 (.slice ao36 ((BD x)).length cap36) (((BD x)).length) (bv ((BD x)))∧Own w' 23 32 (.slice ko i kc) i (kl.flatMap Ic)∧(∀k,BM (.slice ko i kc) k→k≠I6)∧(∀k,BM (.slice ko i kc) k→k≠I7)∧(∀k,BM (.slice ko i kc) k→k≠EC)∧(∀k,BM (.slice ko i kc) k→k≠Ix)∧(∀k,BM (.slice ko i kc) k→k≠Ed)∧(∀k,Kv (.slice vo ks.length vc_) ks k→¬BM (.slice ko i kc) k)∧(∀k,BM (.slice ao ds.length ac) k→¬BM (.slice ko i kc) k)∧(∀k,BM (.slice ao29 ds.length cap29) k→¬BM (.slice ko i kc) k)∧(∀k,BM (.slice ko i kc) k→¬BM (.slice ao29 ds.length cap29) k)∧(∀k,BM (.slice ao36 ((BD x)).length cap36) k→¬BM (.slice ko i kc) k)∧(∀k,BM (.slice ko i kc) k→¬BM (.slice ao36 ((BD x)).length cap36) k)∧(∀k,BM (.slice ko i kc) k→w.heap.size≤k)) (fun a _=>(ds.length-intOf (a.tmps.getD 53 undef)).toNat) ⟨0,none,0,[],Nat.zero_le _,rfl,fun j hj=>by omega,⟨Er.1,Er.2.1,Er.2.2.2.2.1,Er.2.2.2.2.2.1,Er.2.2.1,Er.2.2.2.1,Er.2.2.2.2.2.2.1,Er.2.2.2.2.2.2.2.1,(AG Er).1,(AG Er).2.1,(AG Er).2.2.1,(AG Er).2.2.2.1,(AG Er).2.2.2.2.1,(AG Er).2.2.2.2.2.1,(AG Er).2.2.2.2.2.2.1,(AG Er).2.2.2.2.2.2.2.1,(AG (AG Er)).1,(AG (AG Er)).2.1,(AG (AG Er)).2.2.1,(AG (AG Er)).2.2.2.1,(AG (AG Er)).2.2.2.2.1,(AG (AG Er)).2.2.2.2.2.1,(AG (AG Er)).2.2.2.2.2.2.1,(AG (AG Er)).2.2.2.2.2.2.2.1,(AG (AG (AG Er))).1,(AG (AG (AG Er))).2.1,(AG (AG (AG Er))).2.2.1,(AG (AG (AG Er))).2.2.2.1,(AG (AG (AG Er))).2.2.2.2.1,(AG (AG (AG Er))).2.2.2.2.2.1,(AG (AG (AG Er))).2.2.2.2.2.2.1,(AG (AG (AG Er))).2.2.2.2.2.2.2.1,(AG (AG (AG (AG Er)))).1,ALg⟩,HG,Ah,Al,AQ,Ao,Ai,hr,ho,oc,op,okk,Dy,Dz,B9,Ef,DS,ap_hr_okk,ap_ho_okk,ap_oc_okk,ap_okk_oc,ap_op_okk,ap_okk_op,lo_okk⟩ fun a61 w61 hI61=>?_
     clear Ah
     clear Al
     clear AQ
     clear Ao
     clear Ai
     clear hr
     clear ho
     clear oc
     clear op
     clear okk
     clear HG
     obtain⟨i,ko,kc,kl,hin,hkl,hok,OA,HG,Ah,Al,AQ,Ao,Ai,hr,ho,oc,op,okk,Dy,Dz,B9,Ef,DS,ap_hr_okk,ap_ho_okk,ap_oc_okk,ap_okk_oc,ap_op_okk,ap_okk_op,lo_okk⟩:=hI61
     refine ALa fun K62 k62=>?_
     by_cases hi:i<ds.length
     · obtain⟨y,hx_y⟩:∃zx,ds[i]'hi=zx:=⟨_,rfl⟩
       have hla:No own i=y.x:=by rw[←hown,IT hi,hx_y]
       obtain⟨kx,hkx⟩:∃q,DI P y.x ad=q:=⟨_,rfl⟩
       have hkd:Dg kx.1:=hkx▸NV hnok
       refine ALZ ?_
       refine AH OA 1 [(54,.bool true)]
         ⟨GC r7 (fun _=>BE (by simp;omega)),ALg⟩ fun a63 w63 g63 AC7=>?_
       refine AE ?_
       refine k62 _ _ ?_
       refine ALa fun K64 k64=>?_
       refine Av AC7 rfl rfl ?_
       refine ALe ?_
       refine k64 _ _ ?_
       refine ALa fun K65 k65=>?_
       refine A8 fun Q66 x66 y66 rt66 o66=>?_
       refine ALa fun K67 k67=>?_
       refine ALZ ?_
       replace ho:=ho.kn g63
       refine AH AC7 2 [(55,pk ((bO ao)) (oO ao+i*32)),(56,AO y.x)]
         ⟨BA rq8 (fun w=>B8 Tryz.underlying28 (by kernel_rfl) (ho.1) (by omega) (rfl) w),Bc r6 (fun _ g=>Ab (BV y.x y.h.1) (by have:=CT (ho.kn g).1 DW hi (by decide);rw[hx_y] at this;exact this)),ALg⟩ fun a68 w68 g68 La=>?_
       replace Ah:=AC g68 (AC g63 Ah)
       replace Al:=AC g68 (AC g63 Al)
       replace AQ:=AC g68 (AC g63 AQ)
       replace Ao:=AC g68 (AC g63 Ao)
       replace Ai:=AC g68 (AC g63 Ai)
       replace hr:=(hr.kn g63).kn g68
       replace ho:=ho.kn g68
       replace oc:=(oc.kn g63).kn g68
       replace op:=(op.kn g63).kn g68
       replace okk:=(okk.kn g63).kn g68
       replace HG:=AA (AA HG g63) g68
       refine Az (T:=23) (Z:=(bv AM)) La rfl rfl rfl (fun a w=>by kernel_rfl) fun a69 w69 AKo EJ g69 z69 VQ AJ5=>?_
       have Qm:=Ax Ah EJ
       have Qn:=Ax Al EJ
       have PD:=Ax AQ EJ
       have PE:=Ax Ao EJ
       have OI:=Ax Ai EJ
       have AC8:=Bk HG EJ
       have VR:=Ay (hr.lt) EJ
       have VS:=Ay (ho.lt) EJ
       have VT:=Ay (Own.ltS oc) EJ
       have VU:=Ay (Own.ltS op) EJ
       have SM:=Ay (Own.ltS okk) EJ
       refine As AJ5 r7 (BV y.x y.h.1) VQ (En y.h) fun w70 g70 h70=>?_
       replace Ah:=Ac g70 (AC g69 Ah) (Ne.symm Qm)
       replace hr:=(hr.kn g69).offR g70 (AR VR)
       replace VQ:=h70
       refine AE ?_
       refine k67 _ _ ?_
       refine ALa fun K71 k71=>?_
       refine ALZ ?_
       refine AH AJ5 7 [(58,Aw sa po (.slice vo ks.length vc_)),(59,AO y.x),(60,.int .i64 ad),(61,.tuple #[AO kx.1,.int .i64 kx.2]),(57,.tuple #[AO kx.1,.int .i64 kx.2]),(62,AO kx.1),(63,.int .i64 kx.2)]
         ⟨yl r6 (Bq hsa hpo (.slice vo ks.length vc_) rfl) Ah,yl r6 (BV y.x y.h.1) VQ,ym r5,Ae [Aw sa po (.slice vo ks.length vc_),AO y.x,.int .i64 ad] Tryz.func32 (by kernel_rfl) rq4 ⟨(oy rfl rfl),(oy rfl rfl),(oy rfl rfl),ALg⟩ (Au fun W g=>AE9 hsa hpo y.h (hr.kn g) hP hkx),ym r5,BX rq4 (fun _ _ h=>⟨_,_,h,rfl,rfl⟩),BX rq4 (fun _ _ h=>⟨_,_,h,rfl,rfl⟩),ALg⟩ fun a72 w72 g72 AHC=>?_
       replace Ah:=AC g72 Ah
       replace Al:=AC g72 (Ac g70 (AC g69 Al) (Ne.symm Qn))
       replace AQ:=AC g72 (Ac g70 (AC g69 AQ) (Ne.symm PD))
       replace Ao:=AC g72 (Ac g70 (AC g69 Ao) (Ne.symm PE))
       replace Ai:=AC g72 (Ac g70 (AC g69 Ai) (Ne.symm OI))
       replace hr:=hr.kn g72
       replace ho:=((ho.kn g69).offR g70 (AR VS)).kn g72
       replace oc:=((oc.kn g69).offR g70 (AR VT)).kn g72
       replace op:=((op.kn g69).offR g70 (AR VU)).kn g72
       replace okk:=((okk.kn g69).offR g70 (AR SM)).kn g72
       replace HG:=AA (AD (AA HG g69) g70 AC8) g72
       refine Az (T:=23) (Z:=(bv AM)) AHC rfl rfl rfl (fun a w=>by kernel_rfl) fun a73 w73 AKp EK g73 z73 VW YT=>?_
       have Qo:=Ax Ah EK
       have Qp:=Ax Al EK
       have PF:=Ax AQ EK
       have PG:=Ax Ao EK
       have OJ:=Ax Ai EK
       have AC9:=Bk HG EK
       have VY:=Ay (hr.lt) EK
       have VZ:=Ay (ho.lt) EK
       have Va:=Ay (Own.ltS oc) EK
       have Vb:=Ay (Own.ltS op) EK
       have SN:=Ay (Own.ltS okk) EK
       refine As YT r7 (BV kx.1 hkd.1) VW (En hkd) fun w74 g74 h74=>?_
       replace Ah:=Ac g74 (AC g73 Ah) (Ne.symm Qo)
       replace Al:=Ac g74 (AC g73 Al) (Ne.symm Qp)
       replace AQ:=Ac g74 (AC g73 AQ) (Ne.symm PF)
       replace Ao:=Ac g74 (AC g73 Ao) (Ne.symm PG)
       replace Ai:=Ac g74 (AC g73 Ai) (Ne.symm OJ)
       replace hr:=(hr.kn g73).offR g74 (AR VY)
       replace ho:=(ho.kn g73).offR g74 (AR VZ)
       replace oc:=(oc.kn g73).offR g74 (AR Va)
       replace op:=(op.kn g73).offR g74 (AR Vb)
       replace okk:=(okk.kn g73).offR g74 (AR SN)
       replace HG:=AD (AA HG g73) g74 AC9
       replace VW:=h74
       refine AX (v:=.int .i64 kx.2) YT r6 fun a75 AI1=>?_
       have ADA:Sv _ _ [_,_,_,_,_,_,_,_,_,_,_,_,_,_,_,_,_,_,_,_,_,_,_,_,_,_,_,_,_,_,_,_,_,_,_,_,_] _:=AI1.dl [58,59,60,61,57,62,63]
       refine AE ?_
       refine k71 _ _ ?_
       refine ALa fun K77 k77=>?_
       refine ALa fun K78 k78=>?_
       by_cases he:kx.2=0
       · have hkl1:=OH hkl (by omega) hla hkx (hkd:=hkd)
         have hok1:∀j,j<i+1→(DI P (No own j) ad).2=0:=fun j hj=>if e:j=i then (by rw[e,hla,hkx];exact he) else hok j (by omega)
         refine ALZ ?_
         refine AH ADA 2 [(64,.int .i64 kx.2),(65,.bool false)]
           ⟨ym r5,Cm r6 (fun _=>FB (by simpa using he)),ALg⟩ fun a79 w79 g79 SO=>?_
         refine AE ?_
         refine k78 _ _ ?_
         refine A1 SO rfl rfl ?_
         refine ALe ?_
         refine k77 _ _ ?_
         refine ALZ ?_
         refine AH SO 2 [(68,.slice ko i kc),(69,AO kx.1)]
           ⟨ym r5,yl r6 (BV kx.1 hkd.1) (AC g79 VW),ALg⟩ fun a80 w80 g80 AI2=>?_
         have Qq:=AA g79 g80
         refine KQ (cs:=bv kx.1) (e:=23) AI2 rfl rfl rfl rfl rfl rfl (YR hkd) fun a81 w81 AKq AJN g81 z81 AHD AKr=>?_
         replace Ah:=AC g81 (AC Qq Ah)
         replace Al:=AC g81 (AC Qq Al)
         replace AQ:=AC g81 (AC Qq AQ)
         replace Ao:=AC g81 (AC Qq Ao)
         replace Ai:=AC g81 (AC Qq Ai)
         replace hr:=(hr.kn Qq).kn g81
         replace ho:=(ho.kn Qq).kn g81
         replace oc:=(oc.kn Qq).kn g81
         replace op:=(op.kn Qq).kn g81
         replace okk:=(okk.kn Qq).kn g81
         replace HG:=AA (AA HG Qq) g81
         refine GV dsT AKr rfl rfl rfl rfl rfl rfl rfl rfl okk (JK AHD hkd) (Dj _) (by omega) fun a82 ao82 cap82 w82 owx82 Bh Vc=>?_
         have SP:=GD Bh.2 Dy Ah
         have SQ:=GD Bh.2 Dz Al
         have Qr:=GD Bh.2 B9 AQ
         have Qs:=GD Bh.2 Ef Ao
         have PH:=GD Bh.2 DS Ai
         have YU:=Fo Bh.2 ap_hr_okk (hr.lt)
         have YV:=Fo Bh.2 ap_ho_okk (ho.lt)
         have Ok:=Fo Bh.2 ap_oc_okk (Own.ltS oc)
         have Ol:=Fo Bh.2 ap_op_okk (Own.ltS op)
         have ap_owx82_oc:=Uj Ok
         have ap_owx82_op:=Uj Ol
         have AFA:=Oz Bh.2 lo_okk HG
         replace Ah:=AF Bh.1 Ah (fun e=>Dy _ e.symm rfl)
         replace Al:=AF Bh.1 Al (fun e=>Dz _ e.symm rfl)
         replace AQ:=AF Bh.1 AQ (fun e=>B9 _ e.symm rfl)
         replace Ao:=AF Bh.1 Ao (fun e=>Ef _ e.symm rfl)
         replace Ai:=AF Bh.1 Ai (fun e=>DS _ e.symm rfl)
         replace hr:=hr.offR Bh.1 (fun k hk e=>ap_hr_okk k hk (e))
         replace ho:=ho.offR Bh.1 (fun k hk e=>ap_ho_okk k hk (e))
         replace oc:=oc.offR Bh.1 (fun k hk e=>ap_oc_okk k hk (e))
         replace op:=op.offR Bh.1 (fun k hk e=>ap_op_okk k hk (e))
         replace HG:=Br HG Bh.1 fun k e=>lo_okk k (e)
         rw[Ql kl ⟨kx.1,hkd⟩] at owx82
         refine AX (v:=.slice ao82 (i+1) cap82) Vc r6 fun a83 AHE=>?_
         have Vd:Sv _ _ [_,_,_,_,_,_,_,_,_,_,_,_,_,_,_,_,_,_,_,_,_,_,_,_,_,_,_,_,_,_,_,_,_,_,_,_,_,_,_] _:=AHE.dl [71,70,68,69]
         refine AE ?_
         refine y66 _ _ ?_
         refine k65 _ _ ?_
         refine ALZ ?_
         refine AH Vd 1 [(72,.int .i64 (((i+1:Nat):Int)))]
           ⟨Cm r6 (fun _=>DB (by rw[BG (by omega) (by omega)];omega)),ALg⟩ fun a85 w85 g85 ADB=>?_
         refine AH (ADB.dl [53]) 1 [(53,.int .i64 (((i+1:Nat):Int)))]
           ⟨ym r5,ALg⟩ fun a86 w86 g86 Ez=>?_
         have Qt:=AA g85 g86
         refine AE ?_
         replace Ah:=AC Qt Ah
         replace Al:=AC Qt Al
         replace AQ:=AC Qt AQ
         replace Ao:=AC Qt Ao
         replace Ai:=AC Qt Ai
         replace hr:=hr.kn Qt
         replace ho:=ho.kn Qt
         replace oc:=oc.kn Qt
         replace op:=op.kn Qt
         replace owx82:=owx82.kn Qt
         replace HG:=AA HG Qt
         exact⟨⟨i+1,ao82,cap82,(kl++[⟨kx.1,hkd⟩]),by omega,hkl1,hok1,⟨Ez.1,Ez.2.1,Ez.2.2.1,Ez.2.2.2.2.1,(AG Ez).2.2.2.2.2.1,(AG Ez).2.2.2.2.2.2.1,(AG Ez).2.2.2.2.2.2.2.1,(AG (AG Ez)).1,(AG (AG Ez)).2.1,(AG (AG Ez)).2.2.1,(AG (AG Ez)).2.2.2.1,(AG (AG Ez)).2.2.2.2.1,(AG (AG Ez)).2.2.2.2.2.1,(AG (AG Ez)).2.2.2.2.2.2.1,(AG (AG Ez)).2.2.2.2.2.2.2.1,(AG (AG (AG Ez))).1,(AG (AG (AG Ez))).2.1,(AG (AG (AG Ez))).2.2.1,(AG (AG (AG Ez))).2.2.2.1,(AG (AG (AG Ez))).2.2.2.2.1,(AG (AG (AG Ez))).2.2.2.2.2.1,(AG (AG (AG Ez))).2.2.2.2.2.2.1,(AG (AG (AG Ez))).2.2.2.2.2.2.2.1,(AG (AG (AG (AG Ez)))).1,(AG (AG (AG (AG Ez)))).2.1,(AG (AG (AG (AG Ez)))).2.2.1,(AG (AG (AG (AG Ez)))).2.2.2.1,(AG (AG (AG (AG Ez)))).2.2.2.2.1,(AG (AG (AG (AG Ez)))).2.2.2.2.2.1,(AG (AG (AG (AG Ez)))).2.2.2.2.2.2.1,(AG (AG (AG (AG Ez)))).2.2.2.2.2.2.2.1,(AG (AG (AG (AG (AG Ez))))).1,(AG (AG (AG (AG (AG Ez))))).2.1,ALg⟩,HG,Ah,Al,AQ,Ao,Ai,hr,ho,oc,op,owx82,SP,SQ,Qr,Qs,PH,YU,YV,Ok,ap_owx82_oc,Ol,ap_owx82_op,AFA⟩,by rw[show _=_ from Ez.2.2.1,show _=_ from OA.2.2.1];simp[intOf];omega⟩
       · have hke:=L5 (P:=P) (a:=ad) (own:=own) (i:=i) (by omega) hok (by rw[hla,hkx];exact he)
         rw[hla,hkx] at hke
         refine ALZ ?_
         refine AH ADA 2 [(64,.int .i64 kx.2),(65,.bool true)]
           ⟨ym r5,Cm r6 (fun _=>FB (by simpa using he)),ALg⟩ fun a87 w87 g87 AHF=>?_
         refine AE ?_
         refine k78 _ _ ?_
         refine Av AHF rfl rfl ?_
         refine ALa fun K88 k88=>?_
         refine ALZ ?_
         replace AQ:=AC g87 AQ
         refine AH AHF 2 [(66,Bm 0 (.slice none 0 0) 0 (.slice none 0 0) (.slice none 0 0) AM),(67,.int .i64 kx.2)]
           ⟨BR (vs:=[]) rfl rfl trivial trivial (fun _=>YM _) (fun _=>rfl),ym r5,ALg⟩ fun a89 w89 g89 YW=>?_
         refine As YW r7 (Cy _ _ AP (.slice none 0 0) (.slice none 0 0) (.slice none 0 0) rfl rfl rfl) (AC g89 AQ) (C7 AP AP) fun w90 g90 h90=>?_
         replace Ao:=Af g89 g90 (AC g87 Ao) Bw
         refine As YW r7 (GI kx.2) Ao rfl fun w91 g91 h91=>?_
         replace Ah:=Ac g91 (Af g89 g90 (AC g87 Ah) (Ne.symm CQ)) (Ne.symm Ev)
         replace Al:=Ac g91 (Af g89 g90 (AC g87 Al) (Ne.symm CR)) (Ne.symm Ew)
         replace AQ:=Ac g91 h90 (Ne.symm Bw)
         replace Ai:=Ac g91 (Af g89 g90 (AC g87 Ai) CJ) CK
         replace hr:=(((hr.kn g87).kn g89).offR g90 (AR Ct)).offR g91 (AR Fw)
         replace ho:=(((ho.kn g87).kn g89).offR g90 (AR Cu)).offR g91 (AR Fx)
         replace oc:=(((oc.kn g87).kn g89).offR g90 (AR JL)).offR g91 (AR JM)
         replace op:=(((op.kn g87).kn g89).offR g90 (AR EW)).offR g91 (AR JN)
         replace okk:=(((okk.kn g87).kn g89).offR g90 (AR B9)).offR g91 (AR Ef)
         replace HG:=AD (AD (AA (AA HG g87) g89) g90 Dm) g91 Iy
         replace Ao:=h91
         refine AE ?_
         refine k88 _ _ ?_
         refine ALd ?_
         repeat refine AJ ?_
         refine rt66 _ _ ?_
         repeat refine AJ ?_
         refine rt60 _ _ ?_
         repeat refine AJ ?_
         refine Bi (fn:=Tryz.f20) YW (B6 (p:=10) (q:=11) Tryz.results20 YW rfl rfl rfl rfl (Cy _ _ AP (.slice none 0 0) (.slice none 0 0) (.slice none 0 0) rfl rfl rfl) (GI kx.2) AQ Ao) (CH Tryz.func49 (by kernel_rfl) rfl _ _) (Ec _ _ _) ?_
         exact SRes.zero (T5 hh hv hne hke he) HG
     · obtain⟨hK1,hK2⟩:=NU (P:=P) (a:=ad) (own:=own) fun j hj=>hok j (by omega)
       have hkm:kl.map DD.x=(Df P ad own).1:=by rw[hK1,hkl,List.take_of_length_le (by omega)]
       refine ALZ ?_
       refine AH OA 1 [(54,.bool false)]
         ⟨GC r7 (fun _=>BE (by simp;omega)),ALg⟩ fun a92 w92 g92 AFB=>?_
       refine AE ?_
       refine k62 _ _ ?_
       refine ALa fun K93 k93=>?_
       refine A1 AFB rfl rfl ?_
       refine wp_exit ?_
       repeat refine Bo ?_
       refine x60 _ _ ?_
       refine k57 _ _ ?_
       refine ALa fun K94 k94=>?_
       have hkll:kl.length=i:=by have:=congrArg List.length hkl;simpa using this.trans (by rw[List.length_map,List.length_take];omega)
       obtain⟨ck,hcke⟩:∃c,Tx (decide (joint=1)) (kl.map DD.x)=c:=⟨_,rfl⟩
       have hck:Dg ck:=hcke▸OE _ _
       refine ALZ ?_
       refine AH AFB 2 [(73,.int .i64 joint),(74,.slice ko i kc)]
         ⟨ym r5,ym r5,ALg⟩ fun a95 w95 g95 AI3=>?_
       replace okk:=(okk.kn g92).kn g95
       refine BB AI3 Tryz.func55 (by kernel_rfl) r6 (Jq (AE8 hkll (Own.sb okk) (by omega) hcke)) fun a96 v96 w96 hR96 AHG=>?_
       obtain⟨rfl,g96⟩:=hR96
       replace Ah:=AC g96 (AC g95 (AC g92 Ah))
       replace Al:=AC g96 (AC g95 (AC g92 Al))
       replace AQ:=AC g96 (AC g95 (AC g92 AQ))
       replace Ao:=AC g96 (AC g95 (AC g92 Ao))
       replace Ai:=AC g96 (AC g95 (AC g92 Ai))
       replace hr:=((hr.kn g92).kn g95).kn g96
       replace ho:=((ho.kn g92).kn g95).kn g96
       replace oc:=((oc.kn g92).kn g95).kn g96
       replace op:=((op.kn g92).kn g95).kn g96
       replace okk:=okk.kn g96
       replace HG:=AA (AA (AA HG g92) g95) g96
       refine Az (T:=23) (Z:=(bv AM)) AHG rfl rfl rfl (fun a w=>by kernel_rfl) fun a97 w97 Qu EL g97 z97 CC AFC=>?_
       have Qv:=Ax Ah EL
       have Qw:=Ax Al EL
       have Kk:=Ax AQ EL
       have Kl:=Ax Ao EL
       have EM:=Ax Ai EL
       have ADC:=Bk HG EL
       have Ve:=Ay (hr.lt) EL
       have Vf:=Ay (ho.lt) EL
       have Vg:=Ay (Own.ltS oc) EL
       have Vh:=Ay (Own.ltS op) EL
       have SR:=Ay (Own.ltS okk) EL
       refine As AFC r7 (BV ck hck.1) CC (En hck) fun w98 g98 h98=>?_
       replace Ah:=Ac g98 (AC g97 Ah) (Ne.symm Qv)
       replace Al:=Ac g98 (AC g97 Al) (Ne.symm Qw)
       replace AQ:=Ac g98 (AC g97 AQ) (Ne.symm Kk)
       replace Ao:=Ac g98 (AC g97 Ao) (Ne.symm Kl)
       replace Ai:=Ac g98 (AC g97 Ai) (Ne.symm EM)
       replace hr:=(hr.kn g97).offR g98 (AR Ve)
       replace ho:=(ho.kn g97).offR g98 (AR Vf)
       replace oc:=(oc.kn g97).offR g98 (AR Vg)
       replace op:=(op.kn g97).offR g98 (AR Vh)
       replace okk:=(okk.kn g97).offR g98 (AR SR)
       replace HG:=AD (AA HG g97) g98 ADC
       replace CC:=h98
       refine AE ?_
       refine k94 _ _ ?_
       refine ALa fun K99 k99=>?_
       refine ALa fun K100 k100=>?_
       rcases hjj with rfl|rfl
       · refine ALZ ?_
         refine AH AFC 2 [(76,.int .i64 0),(77,.bool false)]
           ⟨ym r5,Cm r6 (fun _=>Bd rfl),ALg⟩ fun a101 w101 g101 T7=>?_
         refine AE ?_
         refine k100 _ _ ?_
         refine A1 T7 rfl rfl ?_
         refine ALe ?_
         refine k99 _ _ ?_
         refine ALa fun K102 k102=>?_
         refine ALZ ?_
         refine AH T7 2 [(93,.slice ao36 ((BD x)).length cap36),(94,AO ck)]
           ⟨ym r5,yl r6 (BV ck hck.1) (AC g101 CC),ALg⟩ fun a103 w103 g103 ABg=>?_
         have Km:=AA g101 g103
         replace AQ:=AC Km AQ
         replace Ao:=AC Km Ao
         replace Ai:=AC Km Ai
         replace op:=op.kn Km
         replace HG:=AA HG Km
         refine BB ABg Tryz.func57 (by kernel_rfl) r6 (NN (KU (BD x) (EE x) (by have:=Em x;omega) _ _ ck hck _ (Own.sb op))) fun a104 v104 w104 hR104 YX=>?_
         obtain⟨ao104,cap104,rfl,_⟩:=(Sl.of_own hR104.1).shape
         obtain⟨ow104,fr104⟩:=hR104
         replace fr104:=Cq fr104
         have oy_:=ow104
         clear ow104
         have g104:=fr104.1
         replace fr104:=fr104.2
         have Eg:=Ca fr104 AQ
         have KY:=Ca fr104 Ao
         have Fi:=Ca fr104 Ai
         have lo_oy_:=Gk HG fr104
         replace Ai:=AC g104 Ai
         refine AH YX 1 [(96,pk Ed 4)]
           ⟨yf r6 (fun _=>by kernel_rfl),ALg⟩ fun a105 w105 g105 ABh=>?_
         refine Hq (L:=[[.int .i64 ad],[.slice ao29 ds.length cap29],[.int .i64 0],[.slice none 0 0],[.slice none 0 0],bv AM]) (i:=4) ABh r7 (E8 (.slice ao104 ((Fv (BD x) ck)).length cap104) rfl) (AC g105 Ai) rfl rfl rfl fun w106 g106 h106=>?_
         replace CC:=Af g105 g106 (AC g104 (AC Km CC)) EM
         replace Ai:=h106
         have YY:Sv _ _ [_,_,_,_,_,_,_,_,_,_,_,_,_,_,_,_,_,_,_,_,_,_,_,_,_,_,_,_,_,_,_,_,_,_,_,_,_,_] _:=ABh.dl [96,95,93,94]
         refine AE ?_
         refine k102 _ _ ?_
         refine ALa fun K108 k108=>?_
         refine ALZ ?_
         refine AH YY 4 [(97,AO ck),(98,.int .i64 ad),(99,pk Ed 4),(100,.slice ao104 ((Fv (BD x) ck)).length cap104)]
           ⟨yl r6 (BV ck hck.1) CC,ym r5,yf r6 (fun _=>by kernel_rfl),yp (i:=4) r6 (E8 (.slice ao104 ((Fv (BD x) ck)).length cap104) rfl) Ai rfl rfl,ALg⟩ fun a109 w109 g109 T8=>?_
         replace oy_:=((oy_.kn g105).offR g106 (AR Fi)).kn g109
         refine BB T8 Tryz.func58 (by kernel_rfl) r6 (Jq (Hh ck hck ad hia (Fv (BD x) ck) (KS _ (EE x)) (by have:=Em x;rw[KR];omega) _ _ _ (Own.sb oy_))) fun a110 v110 w110 hR110 Iz=>?_
         obtain⟨rfl,g110⟩:=hR110
         replace Ai:=AC g110 (AC g109 Ai)
         have ABi:Sv _ _ [_,_,_,_,_,_,_,_,_,_,_,_,_,_,_,_,_,_,_,_,_,_,_,_,_,_,_,_,_,_,_,_,_,_,_,_,_,_,_] _:=Iz.dl [97,98,99,100]
         refine AH ABi 1 [(102,pk Ed 5)]
           ⟨yf r6 (fun _=>by kernel_rfl),ALg⟩ fun a112 w112 g112 YZ=>?_
         refine Hq (L:=[[.int .i64 ad],[.slice ao29 ds.length cap29],[.int .i64 0],[.slice none 0 0],[.slice ao104 ((Fv (BD x) ck)).length cap104],bv AM]) (i:=5) YZ r7 (BV ((QZ ck ad (Fv (BD x) ck))) (CV _ _ _).1) (AC g112 Ai) rfl rfl (QI AP (CV _ _ _)) fun w113 g113 h113=>?_
         replace AQ:=Af g112 g113 (AC g110 (AC g109 (Af g105 g106 (AC g104 AQ) (Ne.symm CJ)))) (Ne.symm CJ)
         replace Ai:=h113
         refine AE ?_
         refine k108 _ _ ?_
         refine ALa fun K114 k114=>?_
         refine ALZ ?_
         refine AH YZ 1 [(103,Bm ad (.slice ao29 ds.length cap29) 0 (.slice none 0 0) (.slice ao104 ((Fv (BD x) ck)).length cap104) ((QZ ck ad (Fv (BD x) ck))))]
           ⟨yl r6 (Cy _ _ (CV _ _ _) (.slice ao29 ds.length cap29) (.slice none 0 0) (.slice ao104 ((Fv (BD x) ck)).length cap104) rfl rfl rfl) Ai,ALg⟩ fun a115 w115 g115 Cb=>?_
         refine As Cb r7 (Cy _ _ (CV _ _ _) (.slice ao29 ds.length cap29) (.slice none 0 0) (.slice ao104 ((Fv (BD x) ck)).length cap104) rfl rfl rfl) (AC g115 AQ) (C7 AP (CV _ _ _)) fun w116 g116 h116=>?_
         replace Ao:=Af g115 g116 (Af g112 g113 (AC g110 (AC g109 (Af g105 g106 (AC g104 Ao) (Ne.symm CK)))) (Ne.symm CK)) Bw
         refine As Cb r7 (GI 0) Ao rfl fun w117 g117 h117=>?_
         replace Ah:=Ac g117 (Af g115 g116 (Af g112 g113 (AC g110 (AC g109 (Af g105 g106 (AC g104 (AC Km Ah)) (Ne.symm EH)))) (Ne.symm EH)) (Ne.symm CQ)) (Ne.symm Ev)
         replace Al:=Ac g117 (Af g115 g116 (Af g112 g113 (AC g110 (AC g109 (Af g105 g106 (AC g104 (AC Km Al)) (Ne.symm EI)))) (Ne.symm EI)) (Ne.symm CR)) (Ne.symm Ew)
         replace AQ:=Ac g117 h116 (Ne.symm Bw)
         replace Ai:=Ac g117 (Af g115 g116 Ai CJ) CK
         replace CC:=Ac g117 (Af g115 g116 (Af g112 g113 (AC g110 (AC g109 CC)) EM) Kk) Kl
         replace hr:=((((((((((hr.kn Km).kn g104).kn g105).offR g106 (AR FR)).kn g109).kn g110).kn g112).offR g113 (AR FR)).kn g115).offR g116 (AR Ct)).offR g117 (AR Fw)
         replace ho:=((((((((((ho.kn Km).kn g104).kn g105).offR g106 (AR FS)).kn g109).kn g110).kn g112).offR g113 (AR FS)).kn g115).offR g116 (AR Cu)).offR g117 (AR Fx)
         replace oc:=((((((((((oc.kn Km).kn g104).kn g105).offR g106 (AR Dx)).kn g109).kn g110).kn g112).offR g113 (AR Dx)).kn g115).offR g116 (AR JL)).offR g117 (AR JM)
         replace op:=(((((((((op.kn g104).kn g105).offR g106 (AR Ee)).kn g109).kn g110).kn g112).offR g113 (AR Ee)).kn g115).offR g116 (AR EW)).offR g117 (AR JN)
         replace okk:=((((((((((okk.kn Km).kn g104).kn g105).offR g106 (AR DS)).kn g109).kn g110).kn g112).offR g113 (AR DS)).kn g115).offR g116 (AR B9)).offR g117 (AR Ef)
         replace oy_:=(((((oy_.kn g110).kn g112).offR g113 (AR Fi)).kn g115).offR g116 (AR Eg)).offR g117 (AR KY)
         replace HG:=AD (AD (AA (AD (AA (AA (AA (AD (AA (AA HG g104) g105) g106 Fz) g109) g110) g112) g113 Fz) g115) g116 Dm) g117 Iy
         replace Ao:=h117
         refine AE ?_
         refine k114 _ _ ?_
         refine ALd ?_
         repeat refine AJ ?_
         refine Bi (fn:=Tryz.f20) Cb (B6 (p:=10) (q:=11) Tryz.results20 Cb rfl rfl rfl rfl (Cy _ _ (CV _ _ _) (.slice ao29 ds.length cap29) (.slice none 0 0) (.slice ao104 ((Fv (BD x) ck)).length cap104) rfl rfl rfl) (GI 0) AQ Ao) (CH Tryz.func49 (by kernel_rfl) rfl _ _) (Ec _ _ _) ?_
         exact SRes.mk (own:=ds) (wr:=[]) (Jr hh hv hne hK2 hkm hcke) rfl rfl rfl hown rfl oc (Own.nil _ _ _) oy_ lo_oc (fun k hk=>by simp[BM,Value.ownBlock] at hk) lo_oy_ (fun k _ hk=>by simp[BM,Value.ownBlock] at hk) (CV _ _ _) (KS _ (EE x)) HG rfl
       · refine ALZ ?_
         refine AH AFC 2 [(76,.int .i64 1),(77,.bool true)]
           ⟨ym r5,Cm r6 (fun _=>Bd rfl),ALg⟩ fun a118 w118 g118 AHv=>?_
         refine AE ?_
         refine k100 _ _ ?_
         refine Av AHv rfl rfl ?_
         refine ALa fun K119 k119=>?_
         refine ALZ ?_
         refine AH AHv 3 [(78,.slice ko i kc),(79,.int .i64 ((i:Nat))),(80,.int .i64 0)]
           ⟨ym r5,BI (Tryz.underlying28) rfl rfl trivial (oy rfl rfl) (fun _=>rfl),FA (.inl rfl) rfl trivial (fun _=>rfl),ALg⟩ fun a120 w120 g120 Cc=>?_
         have Kn:=AA g118 g120
         refine AE ?_
         refine k119 _ _ ?_
         refine A8 fun Q121 x121 y121 rt121 o121=>?_
         replace Ah:=AC Kn Ah
         replace Al:=AC Kn Al
         replace AQ:=AC Kn AQ
         replace Ao:=AC Kn Ao
         replace Ai:=AC Kn Ai
         replace CC:=AC Kn CC
         replace hr:=hr.kn Kn
         replace ho:=ho.kn Kn
         replace oc:=oc.kn Kn
         replace op:=op.kn Kn
         replace okk:=okk.kn Kn
         replace HG:=AA HG Kn
         have ow:=Own.nil w120 23 32
         have Eh:=Hr I6
         have Ei:=Hr I7
         have DU:=Hr EC
         have H0:=Hr Ix
         have FT:=Hr Ed
         have IU:=Hr Qu
         have ap_hr_ow:=IC (Kv (.slice vo ks.length vc_) ks)
         have ap_ho_ow:=IC (BM (.slice ao ds.length ac))
         have ap_oc_ow:=IC (BM (.slice ao29 ds.length cap29))
         have ap_ow_oc:=XS (BM (.slice ao29 ds.length cap29))
         have ap_op_ow:=IC (BM (.slice ao36 ((BD x)).length cap36))
         have ap_ow_op:=XS (BM (.slice ao36 ((BD x)).length cap36))
         have ap_okk_ow:=IC (BM (.slice ko i kc))
         have ap_ow_okk:=XS (BM (.slice ko i kc))
         have lo_ow:=XT w
         refine wp_loop (fun a w'=>∃(j:Nat) (wo:Option Addr) (wc:Nat),(j≤i)∧Sv 104 [{ target:=.fn (.func 49) #[pt EC,pt Ix],args:=#[] }] [(80,.int .i64 ((j:Int))),(78,.slice ko i kc),(79,.int .i64 ((i:Nat))),(76,.int .i64 1),(77,.bool true),(19,pt Qu),(75,AO ck),(73,.int .i64 1),(74,.slice ko i kc),(54,.bool false),(53,.int .i64 ((i:Int))),(14,.slice ko i kc),(51,.slice ao ds.length ac),(52,.int .i64 ((ds.length:Nat))),(41,.slice ao ds.length ac),(42,.int .i64 ((ds.length:Nat))),(43,.bool false),(13,.slice ao36 ((BD x)).length cap36),(40,.slice ao36 ((BD x)).length cap36),(39,Bp x),(12,pt Ed),(23,.slice ao ds.length ac),(24,.int .i64 1),(25,.int .i64 ad),(26,.bool true),(27,.bool false),(28,.bool false),(29,Aw sa po (.slice vo ks.length vc_)),(30,.bool true),(31,.bool false),(32,.bool false),(22,.func (.func 49) #[] #[pt EC,pt Ix]),(11,pt Ix),(10,pt EC),(9,pt I7),(5,pt I6),(0,Aw sa po (.slice vo ks.length vc_)),(1,.slice ao ds.length ac),(2,.int .i64 1),(3,.int .i64 ad),(4,Bp x)] a∧w.grownBy w' none∧w'.heap[I6]?=some (.cells ([bv sa,bv po,[.slice vo ks.length vc_]].flatten).toArray 36 (0,0))∧w'.heap[I7]?=some (.cells (vc x).toArray 25 (0,0))∧w'.heap[EC]?=some (.cells (([[.int .i64 0],[.slice none 0 0],[.int .i64 0],[.slice none 0 0],[.slice none 0 0],bv AM].flatten)).toArray 31 (0,0))∧w'.heap[Ix]?=some (.cells ([.int .i64 0]).toArray 38 (0,0))∧w'.heap[Ed]?=some (.cells ([[.int .i64 ad],[.slice ao29 ds.length cap29],[.int .i64 1],[.slice wo j wc],[.slice none 0 0],bv AM].flatten).toArray 31 (0,0))∧w'.heap[Qu]?=some (.cells (bv ck).toArray 23 (0,0))∧RdK w' (.slice vo ks.length vc_) ks∧RdD w' (.slice ao ds.length ac) ds∧Own w' 23 32 (.slice ao29 ds.length cap29) ds.length (ds.flatMap Ic)∧Own w' 5 1 (.slice ao36 ((BD x)).length cap36) (((BD x)).length) (bv ((BD x)))∧Own w' 23 32 (.slice ko i kc) i (kl.flatMap Ic)∧Own w' 23 32 (.slice wo j wc) j (((wrL ck hck kl j)).flatMap Ic)∧(∀k,BM (.slice wo j wc) k→k≠I6)∧(∀k,BM (.slice wo j wc) k→k≠I7)∧(∀k,BM (.slice wo j wc) k→k≠EC)∧(∀k,BM (.slice wo j wc) k→k≠Ix)∧(∀k,BM (.slice wo j wc) k→k≠Ed)∧(∀k,BM (.slice wo j wc) k→k≠Qu)∧(∀k,Kv (.slice vo ks.length vc_) ks k→¬BM (.slice wo j wc) k)∧(∀k,BM (.slice ao ds.length ac) k→¬BM (.slice wo j wc) k)∧(∀k,BM (.slice ao29 ds.length cap29) k→¬BM (.slice wo j wc) k)∧(∀k,BM (.slice wo j wc) k→¬BM (.slice ao29 ds.length cap29) k)∧(∀k,BM (.slice ao36 ((BD x)).length cap36) k→¬BM (.slice wo j wc) k)∧(∀k,BM (.slice wo j wc) k→¬BM (.slice ao36 ((BD x)).length cap36) k)∧(∀k,BM (.slice ko i kc) k→¬BM (.slice wo j wc) k)∧(∀k,BM (.slice wo j wc) k→¬BM (.slice ko i kc) k)∧(∀k,BM (.slice wo j wc) k→w.heap.size≤k)) (fun a _=>(i-intOf (a.tmps.getD 80 undef)).toNat) ⟨0,none,0,Nat.zero_le _,⟨Cc.1,Cc.2.1,Cc.2.2.2.2.1,Cc.2.2.1,Cc.2.2.2.1,Cc.2.2.2.2.2.1,Cc.2.2.2.2.2.2.1,Cc.2.2.2.2.2.2.2.1,(AG Cc).1,(AG Cc).2.1,(AG Cc).2.2.1,(AG Cc).2.2.2.1,(AG Cc).2.2.2.2.1,(AG Cc).2.2.2.2.2.1,(AG Cc).2.2.2.2.2.2.1,(AG Cc).2.2.2.2.2.2.2.1,(AG (AG Cc)).1,(AG (AG Cc)).2.1,(AG (AG Cc)).2.2.1,(AG (AG Cc)).2.2.2.1,(AG (AG Cc)).2.2.2.2.1,(AG (AG Cc)).2.2.2.2.2.1,(AG (AG Cc)).2.2.2.2.2.2.1,(AG (AG Cc)).2.2.2.2.2.2.2.1,(AG (AG (AG Cc))).1,(AG (AG (AG Cc))).2.1,(AG (AG (AG Cc))).2.2.1,(AG (AG (AG Cc))).2.2.2.1,(AG (AG (AG Cc))).2.2.2.2.1,(AG (AG (AG Cc))).2.2.2.2.2.1,(AG (AG (AG Cc))).2.2.2.2.2.2.1,(AG (AG (AG Cc))).2.2.2.2.2.2.2.1,(AG (AG (AG (AG Cc)))).1,(AG (AG (AG (AG Cc)))).2.1,(AG (AG (AG (AG Cc)))).2.2.1,(AG (AG (AG (AG Cc)))).2.2.2.1,(AG (AG (AG (AG Cc)))).2.2.2.2.1,(AG (AG (AG (AG Cc)))).2.2.2.2.2.1,(AG (AG (AG (AG Cc)))).2.2.2.2.2.2.1,(AG (AG (AG (AG Cc)))).2.2.2.2.2.2.2.1,(AG (AG (AG (AG (AG Cc))))).1,(AG (AG (AG (AG (AG Cc))))).2.1,(AG (AG (AG (AG (AG Cc))))).2.2.1,ALg⟩,HG,Ah,Al,AQ,Ao,Ai,CC,hr,ho,oc,op,okk,ow,Eh,Ei,DU,H0,FT,IU,ap_hr_ow,ap_ho_ow,ap_oc_ow,ap_ow_oc,ap_op_ow,ap_ow_op,ap_okk_ow,ap_ow_okk,lo_ow⟩ fun a122 w122 hI122=>?_
         clear Ah
         clear Al
         clear AQ
         clear Ao
         clear Ai
         clear CC
         clear hr
         clear ho
         clear oc
         clear op
         clear okk
         clear ow
         clear HG
         obtain⟨j,wo,wc,hjn,AFD,HG,Ah,Al,AQ,Ao,Ai,CC,hr,ho,oc,op,okk,ow,Eh,Ei,DU,H0,FT,IU,ap_hr_ow,ap_ho_ow,ap_oc_ow,ap_ow_oc,ap_op_ow,ap_ow_op,ap_okk_ow,ap_ow_okk,lo_ow⟩:=hI122
         refine ALa fun K123 k123=>?_
         by_cases hjl:j<i
         · have hjk:j<kl.length:=by omega
           obtain⟨ky,hx_ky⟩:∃zx,kl[j]'hjk=zx:=⟨_,rfl⟩
           refine ALZ ?_
           refine AH AFD 1 [(81,.bool true)]
            ⟨GC r7 (fun _=>BE (by simp;omega)),ALg⟩ fun a124 w124 g124 ABj=>?_
           refine AE ?_
           refine k123 _ _ ?_
           refine ALa fun K125 k125=>?_
           refine Av ABj rfl rfl ?_
           refine ALe ?_
           refine k125 _ _ ?_
           refine ALa fun K126 k126=>?_
           refine A8 fun Q127 x127 y127 rt127 o127=>?_
           refine ALa fun K128 k128=>?_
           refine ALZ ?_
           replace okk:=okk.kn g124
           refine AH ABj 2 [(82,pk ((bO ko)) (oO ko+j*32)),(83,AO ky.x)]
            ⟨BA rq8 (fun w=>B8 Tryz.underlying28 (by kernel_rfl) ((Sl.of_own okk)) (by omega) (rfl) w),Bc r6 (fun _ g=>Ab (BV ky.x ky.h.1) (by have:=CT (Sl.of_own (okk.kn g)) DW hjk (by decide);rw[hx_ky] at this;exact this)),ALg⟩ fun a129 w129 g129 Cv=>?_
           replace Ah:=AC g129 (AC g124 Ah)
           replace Al:=AC g129 (AC g124 Al)
           replace AQ:=AC g129 (AC g124 AQ)
           replace Ao:=AC g129 (AC g124 Ao)
           replace Ai:=AC g129 (AC g124 Ai)
           replace CC:=AC g129 (AC g124 CC)
           replace hr:=(hr.kn g124).kn g129
           replace ho:=(ho.kn g124).kn g129
           replace oc:=(oc.kn g124).kn g129
           replace op:=(op.kn g124).kn g129
           replace okk:=okk.kn g129
           replace ow:=(ow.kn g124).kn g129
           replace HG:=AA (AA HG g124) g129
           refine Az (T:=23) (Z:=(bv AM)) Cv rfl rfl rfl (fun a w=>by kernel_rfl) fun a130 w130 AHH DJ g130 z130 NW Ya=>?_
           have PI:=Ax Ah DJ
           have PJ:=Ax Al DJ
           have OK:=Ax AQ DJ
           have OL:=Ax Ao DJ
           have NX:=Ax Ai DJ
           have NY:=Ax CC DJ
           have AAd:=Bk HG DJ
           have SS:=Ay (hr.lt) DJ
           have SU:=Ay (ho.lt) DJ
           have SV:=Ay (Own.ltS oc) DJ
           have SY:=Ay (Own.ltS op) DJ
           have Qx:=Ay (Own.ltS okk) DJ
           have SZ:=Ay (Own.ltS ow) DJ
           refine As Ya r7 (BV ky.x ky.h.1) NW (En ky.h) fun w131 g131 h131=>?_
           replace Ah:=Ac g131 (AC g130 Ah) (Ne.symm PI)
           replace Al:=Ac g131 (AC g130 Al) (Ne.symm PJ)
           replace AQ:=Ac g131 (AC g130 AQ) (Ne.symm OK)
           replace Ao:=Ac g131 (AC g130 Ao) (Ne.symm OL)
           replace Ai:=Ac g131 (AC g130 Ai) (Ne.symm NX)
           replace CC:=Ac g131 (AC g130 CC) (Ne.symm NY)
           replace ow:=(ow.kn g130).offR g131 (AR SZ)
           replace HG:=AD (AA HG g130) g131 AAd
           replace NW:=h131
           refine AE ?_
           refine k128 _ _ ?_
           refine DM (Ya.st w131) (by kernel_rfl) 6 [(84,Sp.is (pk Ed 3)),(85,Sp.is (.slice wo j wc)),(86,Sp.is (AO ck)),(87,Sp.is (AO ky.x)),(88,Sp.is (AO ((OD ck ky.x)))),(89,Sp.lit1 w131.heap.size 23 (bv (OD ck ky.x)))] rfl (by kernel_rfl) (by kernel_rfl) (by kernel_rfl) [] (by kernel_rfl)
            ⟨yf r6 (fun _=>by kernel_rfl),yp (i:=3) r6 (Hz (.slice wo j wc) rfl) Ai rfl rfl,yl r6 (BV ck hck.1) CC,yl r6 (BV ky.x ky.h.1) NW,Ae [AO ck,AO ky.x] Tryz.func56 (by kernel_rfl) rq4 ⟨(oy rfl rfl),(oy rfl rfl),ALg⟩ (Au fun W g=>NM ck ky.x hck ky.h W),NB rfl rfl trivial (Nat.le_refl _) rfl (fun W hw v h=>match v,h with|_,⟨rfl,_⟩=>⟨bv (OD ck ky.x),YR (KX hck ky.h) W,fun w' _ hh=>⟨_,rfl,hw.size,hh⟩⟩),ALg⟩ trivial
            [] (by kernel_rfl) trivial ⟨.inl rfl,.inl rfl,.inl rfl,.inl rfl,.inl rfl,.inl rfl,ALg⟩ (by kernel_rfl) fun a132 w132 g132 st132 nd132=>?_
           obtain⟨hn132,hd132,e132_84,e132_85,e132_86,e132_87,e132_88,e132_89,e132_21,e132_82,e132_83,e132_81,e132_80,e132_78,e132_79,e132_76,e132_77,e132_19,e132_75,e132_73,e132_74,e132_54,e132_53,e132_14,e132_51,e132_52,e132_41,e132_42,e132_43,e132_13,e132_40,e132_39,e132_12,e132_23,e132_24,e132_25,e132_26,e132_27,e132_28,e132_29,e132_30,e132_31,e132_32,e132_22,e132_11,e132_10,e132_9,e132_5,e132_0,e132_1,e132_2,e132_3,e132_4,-⟩:=st132
           obtain⟨V,e132_89q,geV,HV⟩:=e132_89
           have ADD:V≠I6:=Nat.ne_of_gt (Nat.lt_of_lt_of_le (Array.getElem?_eq_some_iff.1 Ah).1 geV)
           have ADE:V≠I7:=Nat.ne_of_gt (Nat.lt_of_lt_of_le (Array.getElem?_eq_some_iff.1 Al).1 geV)
           have AAe:V≠EC:=Nat.ne_of_gt (Nat.lt_of_lt_of_le (Array.getElem?_eq_some_iff.1 AQ).1 geV)
           have AI4:V≠Ix:=Nat.ne_of_gt (Nat.lt_of_lt_of_le (Array.getElem?_eq_some_iff.1 Ao).1 geV)
           have Yb:V≠Ed:=Nat.ne_of_gt (Nat.lt_of_lt_of_le (Array.getElem?_eq_some_iff.1 Ai).1 geV)
           have AHw:V≠Qu:=Nat.ne_of_gt (Nat.lt_of_lt_of_le (Array.getElem?_eq_some_iff.1 CC).1 geV)
           have AHI:V≠AHH:=Nat.ne_of_gt (Nat.lt_of_lt_of_le (Array.getElem?_eq_some_iff.1 NW).1 geV)
           have lo_V:w.heap.size≤V:=Nat.le_trans HG.size geV
           have ap_ow_V:=JC (Own.ltS ow) geV
           replace Ah:=AC g132 Ah
           replace Al:=AC g132 Al
           replace AQ:=AC g132 AQ
           replace Ao:=AC g132 Ao
           replace Ai:=AC g132 Ai
           replace CC:=AC g132 CC
           replace hr:=((hr.kn g130).offR g131 (AR SS)).kn g132
           replace ho:=((ho.kn g130).offR g131 (AR SU)).kn g132
           replace oc:=((oc.kn g130).offR g131 (AR SV)).kn g132
           replace op:=((op.kn g130).offR g131 (AR SY)).kn g132
           replace okk:=((okk.kn g130).offR g131 (AR Qx)).kn g132
           replace ow:=ow.kn g132
           replace HG:=AA HG g132
           have AFE:Sv 104 [{ target:=.fn (.func 49) #[pt EC,pt Ix],args:=#[] }] [(21,_),(82,_),(83,_),(81,_),(80,_),(78,_),(79,_),(76,_),(77,_),(19,_),(75,_),(73,_),(74,_),(54,_),(53,_),(14,_),(51,_),(52,_),(41,_),(42,_),(43,_),(13,_),(40,_),(39,_),(12,_),(23,_),(24,_),(25,_),(26,_),(27,_),(28,_),(29,_),(30,_),(31,_),(32,_),(22,_),(11,_),(10,_),(9,_),(5,_),(0,_),(1,_),(2,_),(3,_),(4,_),(85,_),(89,_)] a132:=⟨hn132,hd132,e132_21,e132_82,e132_83,e132_81,e132_80,e132_78,e132_79,e132_76,e132_77,e132_19,e132_75,e132_73,e132_74,e132_54,e132_53,e132_14,e132_51,e132_52,e132_41,e132_42,e132_43,e132_13,e132_40,e132_39,e132_12,e132_23,e132_24,e132_25,e132_26,e132_27,e132_28,e132_29,e132_30,e132_31,e132_32,e132_22,e132_11,e132_10,e132_9,e132_5,e132_0,e132_1,e132_2,e132_3,e132_4,e132_85,e132_89q,ALg⟩
           refine GV dsT AFE rfl rfl rfl rfl rfl rfl rfl rfl ow (JK HV (KX hck ky.h)) (Dj _) (by omega) fun a133 ao133 cap133 w133 owx133 Bh AFF=>?_
           have Qy:=GD Bh.2 Eh Ah
           have Qz:=GD Bh.2 Ei Al
           have PK:=GD Bh.2 DU AQ
           have PL:=GD Bh.2 H0 Ao
           have Jt:=GD Bh.2 FT Ai
           have OM:=GD Bh.2 IU CC
           have Vi:=Fo Bh.2 ap_hr_ow (hr.lt)
           have Vj:=Fo Bh.2 ap_ho_ow (ho.lt)
           have NZ:=Fo Bh.2 ap_oc_ow (Own.ltS oc)
           have Na:=Fo Bh.2 ap_op_ow (Own.ltS op)
           have MO:=Fo Bh.2 ap_okk_ow (Own.ltS okk)
           have ap_owx133_oc:=Uj NZ
           have ap_owx133_op:=Uj Na
           have ap_owx133_okk:=Uj MO
           have ADF:=Oz Bh.2 lo_ow HG
           replace Ai:=AF Bh.1 Ai (fun e=>FT _ e.symm rfl)
           rw[YS hck hjk hx_ky] at owx133
           refine AH AFF 1 [(91,pk Ed 3)]
            ⟨yf r6 (fun _=>by kernel_rfl),ALg⟩ fun a134 w134 g134 Yc=>?_
           refine Hq (L:=[[.int .i64 ad],[.slice ao29 ds.length cap29],[.int .i64 1],[.slice wo j wc],[.slice none 0 0],bv AM]) (i:=3) Yc r7 (Hz (.slice ao133 (j+1) cap133) rfl) (AC g134 Ai) rfl rfl rfl fun w135 g135 h135=>?_
           replace Ah:=Af g134 g135 (AF Bh.1 Ah (fun e=>Eh _ e.symm rfl)) (Ne.symm EH)
           replace Al:=Af g134 g135 (AF Bh.1 Al (fun e=>Ei _ e.symm rfl)) (Ne.symm EI)
           replace AQ:=Af g134 g135 (AF Bh.1 AQ (fun e=>DU _ e.symm rfl)) (Ne.symm CJ)
           replace Ao:=Af g134 g135 (AF Bh.1 Ao (fun e=>H0 _ e.symm rfl)) (Ne.symm CK)
           replace CC:=Af g134 g135 (AF Bh.1 CC (fun e=>IU _ e.symm rfl)) EM
           replace HV:=Af g134 g135 (AF Bh.1 HV (fun e=>ap_ow_V _ e.symm rfl)) Yb
           replace hr:=((hr.offR Bh.1 (fun k hk e=>ap_hr_ow k hk (e))).kn g134).offR g135 (AR FR)
           replace ho:=((ho.offR Bh.1 (fun k hk e=>ap_ho_ow k hk (e))).kn g134).offR g135 (AR FS)
           replace oc:=((oc.offR Bh.1 (fun k hk e=>ap_oc_ow k hk (e))).kn g134).offR g135 (AR Dx)
           replace op:=((op.offR Bh.1 (fun k hk e=>ap_op_ow k hk (e))).kn g134).offR g135 (AR Ee)
           replace okk:=((okk.offR Bh.1 (fun k hk e=>ap_okk_ow k hk (e))).kn g134).offR g135 (AR DS)
           replace HG:=AD (AA (Br HG Bh.1 fun k e=>lo_ow k (e)) g134) g135 Fz
           have AFG:Sv _ _ [_,_,_,_,_,_,_,_,_,_,_,_,_,_,_,_,_,_,_,_,_,_,_,_,_,_,_,_,_,_,_,_,_,_,_,_,_,_,_,_,_,_,_,_,_] _:=Yc.dl [91,90,85,89]
           refine AE ?_
           refine y127 _ _ ?_
           refine k126 _ _ ?_
           refine ALZ ?_
           refine AH AFG 1 [(92,.int .i64 (((j+1:Nat):Int)))]
            ⟨Cm r6 (fun _=>DB (by rw[BG (by omega) (by omega)];omega)),ALg⟩ fun a137 w137 g137 AJ6=>?_
           refine AH (AJ6.dl [80]) 1 [(80,.int .i64 (((j+1:Nat):Int)))]
            ⟨ym r5,ALg⟩ fun a138 w138 g138 Ce=>?_
           have JO:=AA g137 g138
           refine AE ?_
           replace Ah:=AC JO Ah
           replace Al:=AC JO Al
           replace AQ:=AC JO AQ
           replace Ao:=AC JO Ao
           replace Ai:=AC JO h135
           replace CC:=AC JO CC
           replace HV:=AC JO HV
           replace hr:=hr.kn JO
           replace ho:=ho.kn JO
           replace oc:=oc.kn JO
           replace op:=op.kn JO
           replace okk:=okk.kn JO
           replace owx133:=((owx133.kn g134).offR g135 (AR Jt)).kn JO
           replace HG:=AA HG JO
           exact⟨⟨j+1,ao133,cap133,by omega,⟨Ce.1,Ce.2.1,Ce.2.2.1,(AG Ce).1,(AG Ce).2.1,(AG Ce).2.2.1,(AG Ce).2.2.2.1,(AG Ce).2.2.2.2.1,(AG Ce).2.2.2.2.2.1,(AG Ce).2.2.2.2.2.2.1,(AG Ce).2.2.2.2.2.2.2.1,(AG (AG Ce)).1,(AG (AG Ce)).2.1,(AG (AG Ce)).2.2.1,(AG (AG Ce)).2.2.2.1,(AG (AG Ce)).2.2.2.2.1,(AG (AG Ce)).2.2.2.2.2.1,(AG (AG Ce)).2.2.2.2.2.2.1,(AG (AG Ce)).2.2.2.2.2.2.2.1,(AG (AG (AG Ce))).1,(AG (AG (AG Ce))).2.1,(AG (AG (AG Ce))).2.2.1,(AG (AG (AG Ce))).2.2.2.1,(AG (AG (AG Ce))).2.2.2.2.1,(AG (AG (AG Ce))).2.2.2.2.2.1,(AG (AG (AG Ce))).2.2.2.2.2.2.1,(AG (AG (AG Ce))).2.2.2.2.2.2.2.1,(AG (AG (AG (AG Ce)))).1,(AG (AG (AG (AG Ce)))).2.1,(AG (AG (AG (AG Ce)))).2.2.1,(AG (AG (AG (AG Ce)))).2.2.2.1,(AG (AG (AG (AG Ce)))).2.2.2.2.1,(AG (AG (AG (AG Ce)))).2.2.2.2.2.1,(AG (AG (AG (AG Ce)))).2.2.2.2.2.2.1,(AG (AG (AG (AG Ce)))).2.2.2.2.2.2.2.1,(AG (AG (AG (AG (AG Ce))))).1,(AG (AG (AG (AG (AG Ce))))).2.1,(AG (AG (AG (AG (AG Ce))))).2.2.1,(AG (AG (AG (AG (AG Ce))))).2.2.2.1,(AG (AG (AG (AG (AG Ce))))).2.2.2.2.1,(AG (AG (AG (AG (AG Ce))))).2.2.2.2.2.1,(AG (AG (AG (AG (AG Ce))))).2.2.2.2.2.2.1,(AG (AG (AG (AG (AG Ce))))).2.2.2.2.2.2.2.1,ALg⟩,HG,Ah,Al,AQ,Ao,Ai,CC,hr,ho,oc,op,okk,owx133,Qy,Qz,PK,PL,Jt,OM,Vi,Vj,NZ,ap_owx133_oc,Na,ap_owx133_op,MO,ap_owx133_okk,ADF⟩,by rw[show _=_ from Ce.2.2.1,show _=_ from AFD.2.2.1];simp[intOf];omega⟩
         · have hwr:(wrL ck hck kl j).map DD.x=kl.map fun z=>OD ck z.x:=ABd (by omega)
           refine ALZ ?_
           refine AH AFD 1 [(81,.bool false)]
            ⟨GC r7 (fun _=>BE (by simp;omega)),ALg⟩ fun a139 w139 g139 ABk=>?_
           refine AE ?_
           refine k123 _ _ ?_
           refine ALa fun K140 k140=>?_
           refine A1 ABk rfl rfl ?_
           refine wp_exit ?_
           repeat refine Bo ?_
           refine x121 _ _ ?_
           refine k99 _ _ ?_
           refine ALa fun K141 k141=>?_
           refine ALZ ?_
           refine AH ABk 2 [(93,.slice ao36 ((BD x)).length cap36),(94,AO ck)]
            ⟨ym r5,yl r6 (BV ck hck.1) (AC g139 CC),ALg⟩ fun a142 w142 g142 AJ7=>?_
           have Nb:=AA g139 g142
           replace AQ:=AC Nb AQ
           replace Ao:=AC Nb Ao
           replace Ai:=AC Nb Ai
           replace op:=op.kn Nb
           replace HG:=AA HG Nb
           refine BB AJ7 Tryz.func57 (by kernel_rfl) r6 (NN (KU (BD x) (EE x) (by have:=Em x;omega) _ _ ck hck _ (Own.sb op))) fun a143 v143 w143 hR143 AJ8=>?_
           obtain⟨ao143,cap143,rfl,_⟩:=(Sl.of_own hR143.1).shape
           obtain⟨ow143,fr143⟩:=hR143
           replace fr143:=Cq fr143
           have oy_:=ow143
           clear ow143
           have g143:=fr143.1
           replace fr143:=fr143.2
           have Eg:=Ca fr143 AQ
           have KY:=Ca fr143 Ao
           have Fi:=Ca fr143 Ai
           have lo_oy_:=Gk HG fr143
           replace Ai:=AC g143 Ai
           refine AH AJ8 1 [(96,pk Ed 4)]
            ⟨yf r6 (fun _=>by kernel_rfl),ALg⟩ fun a144 w144 g144 Yd=>?_
           refine Hq (L:=[[.int .i64 ad],[.slice ao29 ds.length cap29],[.int .i64 1],[.slice wo j wc],[.slice none 0 0],bv AM]) (i:=4) Yd r7 (E8 (.slice ao143 ((Fv (BD x) ck)).length cap143) rfl) (AC g144 Ai) rfl rfl rfl fun w145 g145 h145=>?_
           replace CC:=Af g144 g145 (AC g143 (AC Nb CC)) EM
           replace Ai:=h145
           have ABl:Sv _ _ [_,_,_,_,_,_,_,_,_,_,_,_,_,_,_,_,_,_,_,_,_,_,_,_,_,_,_,_,_,_,_,_,_,_,_,_,_,_,_,_,_,_] _:=Yd.dl [96,95,93,94]
           refine AE ?_
           refine k141 _ _ ?_
           refine ALa fun K147 k147=>?_
           refine ALZ ?_
           refine AH ABl 4 [(97,AO ck),(98,.int .i64 ad),(99,pk Ed 4),(100,.slice ao143 ((Fv (BD x) ck)).length cap143)]
            ⟨yl r6 (BV ck hck.1) CC,ym r5,yf r6 (fun _=>by kernel_rfl),yp (i:=4) r6 (E8 (.slice ao143 ((Fv (BD x) ck)).length cap143) rfl) Ai rfl rfl,ALg⟩ fun a148 w148 g148 AJ9=>?_
           replace oy_:=((oy_.kn g144).offR g145 (AR Fi)).kn g148
           refine BB AJ9 Tryz.func58 (by kernel_rfl) r6 (Jq (Hh ck hck ad hia (Fv (BD x) ck) (KS _ (EE x)) (by have:=Em x;rw[KR];omega) _ _ _ (Own.sb oy_))) fun a149 v149 w149 hR149 AKA=>?_
           obtain⟨rfl,g149⟩:=hR149
           replace Ai:=AC g149 (AC g148 Ai)
           have AKB:Sv _ _ [_,_,_,_,_,_,_,_,_,_,_,_,_,_,_,_,_,_,_,_,_,_,_,_,_,_,_,_,_,_,_,_,_,_,_,_,_,_,_,_,_,_,_] _:=AKA.dl [97,98,99,100]
           refine AH AKB 1 [(102,pk Ed 5)]
            ⟨yf r6 (fun _=>by kernel_rfl),ALg⟩ fun a151 w151 g151 AHx=>?_
           refine Hq (L:=[[.int .i64 ad],[.slice ao29 ds.length cap29],[.int .i64 1],[.slice wo j wc],[.slice ao143 ((Fv (BD x) ck)).length cap143],bv AM]) (i:=5) AHx r7 (BV ((QZ ck ad (Fv (BD x) ck))) (CV _ _ _).1) (AC g151 Ai) rfl rfl (QI AP (CV _ _ _)) fun w152 g152 h152=>?_
           replace AQ:=Af g151 g152 (AC g149 (AC g148 (Af g144 g145 (AC g143 AQ) (Ne.symm CJ)))) (Ne.symm CJ)
           replace Ai:=h152
           refine AE ?_
           refine k147 _ _ ?_
           refine ALa fun K153 k153=>?_
           refine ALZ ?_
           refine AH AHx 1 [(103,Bm ad (.slice ao29 ds.length cap29) 1 (.slice wo j wc) (.slice ao143 ((Fv (BD x) ck)).length cap143) ((QZ ck ad (Fv (BD x) ck))))]
            ⟨yl r6 (Cy _ _ (CV _ _ _) (.slice ao29 ds.length cap29) (.slice wo j wc) (.slice ao143 ((Fv (BD x) ck)).length cap143) rfl rfl rfl) Ai,ALg⟩ fun a154 w154 g154 ABm=>?_
           refine As ABm r7 (Cy _ _ (CV _ _ _) (.slice ao29 ds.length cap29) (.slice wo j wc) (.slice ao143 ((Fv (BD x) ck)).length cap143) rfl rfl rfl) (AC g154 AQ) (C7 AP (CV _ _ _)) fun w155 g155 h155=>?_
           replace Ao:=Af g154 g155 (Af g151 g152 (AC g149 (AC g148 (Af g144 g145 (AC g143 Ao) (Ne.symm CK)))) (Ne.symm CK)) Bw
           refine As ABm r7 (GI 0) Ao rfl fun w156 g156 h156=>?_
           replace AQ:=Ac g156 h155 (Ne.symm Bw)
           replace oc:=((((((((((oc.kn Nb).kn g143).kn g144).offR g145 (AR Dx)).kn g148).kn g149).kn g151).offR g152 (AR Dx)).kn g154).offR g155 (AR JL)).offR g156 (AR JM)
           replace op:=(((((((((op.kn g143).kn g144).offR g145 (AR Ee)).kn g148).kn g149).kn g151).offR g152 (AR Ee)).kn g154).offR g155 (AR EW)).offR g156 (AR JN)
           replace okk:=((((((((((okk.kn Nb).kn g143).kn g144).offR g145 (AR DS)).kn g148).kn g149).kn g151).offR g152 (AR DS)).kn g154).offR g155 (AR B9)).offR g156 (AR Ef)
           replace ow:=((((((((((ow.kn Nb).kn g143).kn g144).offR g145 (AR FT)).kn g148).kn g149).kn g151).offR g152 (AR FT)).kn g154).offR g155 (AR DU)).offR g156 (AR H0)
           replace oy_:=(((((oy_.kn g149).kn g151).offR g152 (AR Fi)).kn g154).offR g155 (AR Eg)).offR g156 (AR KY)
           replace HG:=AD (AD (AA (AD (AA (AA (AA (AD (AA (AA HG g143) g144) g145 Fz) g148) g149) g151) g152 Fz) g154) g155 Dm) g156 Iy
           replace Ao:=h156
           refine AE ?_
           refine k153 _ _ ?_
           refine ALd ?_
           repeat refine AJ ?_
           refine Bi (fn:=Tryz.f20) ABm (B6 (p:=10) (q:=11) Tryz.results20 ABm rfl rfl rfl rfl (Cy _ _ (CV _ _ _) (.slice ao29 ds.length cap29) (.slice wo j wc) (.slice ao143 ((Fv (BD x) ck)).length cap143) rfl rfl rfl) (GI 0) AQ Ao) (CH Tryz.func49 (by kernel_rfl) rfl _ _) (Ec _ _ _) ?_
           exact SRes.mk (own:=ds) (wr:=(wrL ck hck kl j)) (Jr hh hv hne hK2 hkm hcke) rfl (ABe (by omega)) rfl hown (hwr.trans (T6 kl ck)) oc ow oy_ lo_oc lo_ow lo_oy_ ap_oc_ow (CV _ _ _) (KS _ (EE x)) HG rfl
end Go.Proofs.YtbfjfnbcmojpiaaGreat
