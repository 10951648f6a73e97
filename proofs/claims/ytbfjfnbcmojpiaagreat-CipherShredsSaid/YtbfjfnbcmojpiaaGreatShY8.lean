import Derived.Test.YtbfjfnbcmojpiaaGreatShY7
set_option linter.unusedSimpArgs false
set_option linter.unusedVariables false
set_option maxRecDepth 100000
set_option maxHeartbeats 4000000
namespace Go.Proofs.YtbfjfnbcmojpiaaGreat
open Go.RowKit Go.Shelf
theorem Eg (p q:Value) (w:World):CallsD Tryz.prog 49 #[p,q] .returning w fun e u' w'=>e=.returned (.tuple #[])∧u'=.returning∧w'=w:=by
 refine callsD_of_wpS Tryz.func49 rfl fun c₀ cs hu=>?_
 apply wpS_seq
 apply wpS_region
 simp[wpOpsS,go_sem,recoverD,hu,Tryz.ntmps49,Exit.thenS]
 refine wpS_cond (t:=false) (by simp[Act.eval,Array.replicate]) ?_
 simp only[Bool.false_eq_true,if_false]
 refine wpS_of_wp (ALs ?_)
 cases c₀
 simp_all [bodyPostS,results,Tryz.results49]
theorem D0 (p q:Value) (w:World):CallsD Tryz.prog 60 #[p,q] .returning w fun e u' w'=>e=.returned (.tuple #[])∧u'=.returning∧w'=w:=by
 refine callsD_of_wpS Tryz.func60 rfl fun c₀ cs hu=>?_
 apply wpS_seq
 apply wpS_region
 simp[wpOpsS,go_sem,recoverD,hu,Tryz.ntmps60,Exit.thenS]
 refine wpS_cond (t:=false) (by simp[Act.eval,Array.replicate]) ?_
 simp only[Bool.false_eq_true,if_false]
 refine wpS_of_wp (ALs ?_)
 cases c₀
 simp_all [bodyPostS,results,Tryz.results60]
def SRes (w w':World) (r:Sd×Int) (e:Ending):Prop:=
 ∃(own wr:List DD) (ao wo bo:Option Addr) (ac wc bc:Nat),e=.returned (.tuple #[Bw r.1.addr (.slice ao own.length ac) r.1.joint (.slice wo wr.length wc) (.slice bo r.1.body.length bc) r.1.tag,.int .i64 r.2])∧own.map DD.x=r.1.own∧wr.map DD.x=r.1.wr ∧
  Own w' 23 32 (.slice ao own.length ac) own.length (own.flatMap ML)∧Own w' 23 32 (.slice wo wr.length wc) wr.length (wr.flatMap ML)∧Own w' 5 1 (.slice bo r.1.body.length bc) r.1.body.length (bv r.1.body) ∧
  (∀k,Bq (.slice ao own.length ac) k→w.heap.size≤k)∧(∀k,Bq (.slice wo wr.length wc) k→w.heap.size≤k)∧(∀k,Bq (.slice bo r.1.body.length bc) k→w.heap.size≤k)∧(∀k,Bq (.slice ao own.length ac) k→¬Bq (.slice wo wr.length wc) k)∧Dg r.1.tag∧By r.1.body∧w.grownBy w' none
theorem SRes.mk {w w':World} {r:Sd×Int} {s:Sd} {er:Int} {own wr:List DD} {ao wo bo:Option Addr} {ac wc bc n m l:Nat} (hr:r=(s,er)) (hn:own.length=n) (hm:wr.length=m) (hl:s.body.length=l) (h1:own.map DD.x=s.own) (h2:wr.map DD.x=s.wr)
  (h3:Own w' 23 32 (.slice ao n ac) n (own.flatMap ML)) (h4:Own w' 23 32 (.slice wo m wc) m (wr.flatMap ML)) (h5:Own w' 5 1 (.slice bo l bc) l (bv s.body)) (f1:∀k,Bq (.slice ao n ac) k→w.heap.size≤k) (f2:∀k,Bq (.slice wo m wc) k→w.heap.size≤k) (f3:∀k,Bq (.slice bo l bc) k→w.heap.size≤k) (f4:∀k,Bq (.slice ao n ac) k→¬Bq (.slice wo m wc) k)
  (ht:Dg s.tag) (hb:By s.body) (g:w.grownBy w' none) {v:Value} (hv:v=Bw s.addr (.slice ao n ac) s.joint (.slice wo m wc) (.slice bo l bc) s.tag):SRes w w' r (.returned (.tuple #[v,.int .i64 er])):=by
 subst hr hn hm hl hv
 exact⟨own,wr,ao,wo,bo,ac,wc,bc,rfl,h1,h2,h3,h4,h5,f1,f2,f3,f4,ht,hb,g⟩
theorem SRes.zero {w w':World} {r:Sd×Int} {er:Int} (hr:r=(Sd.zero,er)) (g:w.grownBy w' none):SRes w w' r (.returned (.tuple #[Bw 0 (.slice none 0 0) 0 (.slice none 0 0) (.slice none 0 0) AQ,.int .i64 er])):=
 SRes.mk (own:=[]) (wr:=[]) (ao:=none) (wo:=none) (bo:=none) (ac:=0) (wc:=0) (bc:=0) hr rfl rfl rfl rfl rfl (Own.nil _ _ _) (Own.nil _ _ _) (Own.nil _ _ _) (fun k hk=>by simp[Bq,Value.ownBlock] at hk) (fun k hk=>by simp[Bq,Value.ownBlock] at hk) (fun k hk=>by simp[Bq,Value.ownBlock] at hk) (fun k hk=>by simp[Bq,Value.ownBlock] at hk) AO (fun b hb=>by simp[Sd.zero] at hb) g rfl
theorem Pd {P:List VP} {own:List (List Nat)} {joint a:Int} {x:V} (h:hd own joint a=false∨CH P=false):Eu P own joint a x=(Sd.zero,1):=by
 unfold Eu
 rcases h with h|h<;>simp[h]
theorem KH {P:List VP} {joint a:Int} {x:V} (h1:hd [] joint a=true) (h2:CH P=true):Eu P [] joint a x=(⟨a,[],joint,[],B6 x,tgC a (B6 x)⟩,0):=by
 unfold Eu
 simp[h1,h2]
theorem AC6 {P:List VP} {own:List (List Nat)} {joint a:Int} {x:V} {e:Int} (h1:hd own joint a=true) (h2:CH P=true) (h3:own≠[]) (h4:(Cf P a own).2=e) (h5:e≠0):Eu P own joint a x=(Sd.zero,e):=by
 unfold Eu
 simp[h1,h2,h3,h4,h5]
theorem Ev {P:List VP} {own:List (List Nat)} {joint a:Int} {x:V} {K:List (List Nat)} {c:List Nat} (h1:hd own joint a=true) (h2:CH P=true) (h3:own≠[]) (h4:(Cf P a own).2=0) (h5:K=(Cf P a own).1) (h6:Vf (decide (joint=1)) K=c) :
  Eu P own joint a x=(⟨a,own,joint,if joint=1 then K.map (NC c) else [],Jv (B6 x) c,Vg c a (Jv (B6 x) c)⟩,0):=by
 subst h5
 subst h6
 unfold Eu
 simp[h1,h2,h3,h4]
theorem GV {P:List VP} {a:Int}:∀{own:List (List Nat)},(∀j,j<own.length→(CP P (Hg own j) a).2=0)→(Cf P a own).1=own.map (fun z=>(CP P z a).1)∧(Cf P a own).2=0
 | [],_=>⟨rfl,rfl⟩
 | o::l,h=>by
  have h0:(CP P o a).2=0:=h 0 (by simp)
  obtain⟨h1,h2⟩:=GV (own:=l) fun j hj=>h (j+1) (by simpa using hj)
  unfold Cf
  rw[if_pos h0]
  exact⟨by rw[h1];rfl,h2⟩
theorem KI {P:List VP} {a:Int}:∀{own:List (List Nat)} {i:Nat},i<own.length→(∀j,j<i→(CP P (Hg own j) a).2=0)→(CP P (Hg own i) a).2≠0→(Cf P a own).2=(CP P (Hg own i) a).2
 | [],i,hi,_,_=>by simp at hi
 | o::l,0,_,_,h=>by
  have h0:(CP P o a).2≠0:=h
  unfold Cf
  rw[if_neg h0]
  rfl
 | o::l,i+1,hi,hj,h=>by
  have h0:(CP P o a).2=0:=hj 0 (by omega)
  have:=KI (own:=l) (i:=i) (by simpa using hi) (fun j hjj=>hj (j+1) (by omega)) h
  unfold Cf
  rw[if_pos h0]
  exact this
theorem Um {P:List VP} {a:Int} {own:List (List Nat)} {i:Nat} {kl:List DD} {y:List Nat} {kx:List Nat×Int} (h:kl.map DD.x=(own.take i).map fun z=>(CP P z a).1) (hi:i<own.length) (hla:Hg own i=y) (hkx:CP P y a=kx) {hkd:Dg kx.1}:(kl++[(⟨kx.1,hkd⟩:DD)]).map DD.x=(own.take (i+1)).map fun z=>(CP P z a).1:=by
 rw[List.take_add_one,List.getElem?_eq_getElem hi,List.map_append,List.map_append,h]
 rw[MJ hi] at hla
 simp[hla,hkx]
theorem Vr (kl:List DD) (d:DD):kl.flatMap ML++bv d.x=(kl++[d]).flatMap ML:=by rw[List.flatMap_append];simp[ML]
theorem Ms {w:World} {B:Nat} {d:List Nat} {t:TypeId} {fr:Nat×Nat} (h:w.heap[B]?=some (.cells (bv d).toArray t fr)) (hd:Dg d):Sl w 32 (.slice (some ⟨B,0,none⟩) 1 1) 1 (bv d):=by
 refine⟨by rw[AJ,hd.1],_,_,rfl,Nat.le_refl _,by decide,fun h=>(by cases h),fun ad had=>?_⟩
 obtain rfl:=Option.some.inj had
 refine⟨fun _=>rfl,fun j u hu=>?_⟩
 have:=Af h j u hu
 simpa using this
theorem AC7 {d:List Nat} (hd:Dg d) (W:World):(Instr.buildSlice 28 1 #[(0,AP d)]).run Tryz.prog W=.ok (.slice (some ⟨W.heap.size,0,none⟩) 1 1) (W.alloc (.cells (bv d).toArray 23)):=by
 obtain⟨x0,x1,x2,x3,x4,x5,x6,x7,x8,x9,x10,x11,x12,x13,x14,x15,x16,x17,x18,x19,x20,x21,x22,x23,x24,x25,x26,x27,x28,x29,x30,x31,rfl⟩:=Is _ hd.1
 kernel_rfl
theorem Nl {c y:List Nat} (hc:Dg c) (hy:Dg y):Dg (NC c y):=AE6 hc (Be 283 y)
def wrL (c:List Nat) (hc:Dg c) (kl:List DD) (j:Nat):List DD:=(kl.take j).map fun z=>⟨NC c z.x,Nl hc z.h⟩
theorem AFH {c:List Nat} (hc:Dg c) {kl:List DD} {j:Nat} {z:DD} (hj:j<kl.length) (hz:kl[j]=z):(wrL c hc kl j).flatMap ML++bv (NC c z.x)=(wrL c hc kl (j+1)).flatMap ML:=by
 unfold wrL
 rw[List.take_add_one,List.getElem?_eq_getElem hj,hz,List.map_append,List.flatMap_append]
 simp[ML]
theorem AHK {c:List Nat} {hc:Dg c} {kl:List DD} {j:Nat} (hj:kl.length≤j):(wrL c hc kl j).map DD.x=kl.map fun z=>NC c z.x:=by
 unfold wrL
 rw[List.take_of_length_le hj,List.map_map]
 rfl
theorem AHL {c:List Nat} {hc:Dg c} {kl:List DD} {j:Nat} (hj:j≤kl.length):(wrL c hc kl j).length=j:=by
 unfold wrL
 rw[List.length_map,List.length_take]
 omega
theorem AFI {w:World} {kl:List DD} {n:Nat} {ko:Option Addr} {kc:Nat} {joint:Int} {c:List Nat} (hn:kl.length=n) (hr:SlB w 32 (.slice ko n kc) n (kl.flatMap ML)) (hl:n≤1000) (hc:Vf (decide (joint=1)) (kl.map DD.x)=c):Calls Tryz.prog 55 #[.int .i64 joint,.slice ko n kc] w fun e w'=>e=.returned (AP c)∧w.grownBy w' none:=by
 subst hn hc
 exact AC2 joint kl ko kc w hr hl
theorem RdK.noks2 {w:World} {v:Value} {ks:List VK} (h:RdK w v ks):∀i,i<(ks.map VK.p).length→∀n∈tr (ks.map VK.p) i,Nok n:=fun i hi n hn=>by
 have hi':i<ks.length:=by simpa using hi
 rw[VO hi'] at hn
 exact(h.2 _ (List.getElem_mem hi')).2.1 n hn
theorem SN {P:List VP} {o:List Nat} {a:Int} (h:∀i,i<P.length→∀n∈tr P i,Nok n):Dg (CP P o a).1:=by
 unfold CP
 split
 · split
   · rename_i hf
     exact Mh (h _ (KT hf).1) a
   · exact AO
 · exact AO
theorem AFJ {w:World} {ks:List VK} {vo:Option Addr} {vc:Nat} {sa po o:List Nat} {P:List VP} {a:Int} {q:List Nat×Int} (hsa:Dg sa) (hpo:Dg po) (ho:Dg o) (hk:RdK w (.slice vo ks.length vc) ks) (hm:ks.map VK.p=P) (hres:CP P o a=q) :
 Calls Tryz.prog 32 #[Ao sa po (.slice vo ks.length vc),AP o,.int .i64 a] w fun e w'=>e=.returned (.tuple #[AP q.1,.int .i64 q.2])∧w.grownBy w' none:=AJ6 hsa hpo ho hk hm hres
theorem Qu {w:World} {ds:List DD} {own:List (List Nat)} {ao:Option Addr} {cap:Nat} {joint addr:Int} {b:Bool} (hr:RdD w (.slice ao ds.length cap) ds) (hown:ds.map DD.x=own) (hb:hd own joint addr=b):Calls Tryz.prog 50 #[.slice ao ds.length cap,.int .i64 joint,.int .i64 addr] w fun e w'=>e=.returned (.bool b)∧w.grownBy w' none:=Qs hr (hown▸hb)
theorem Je (x:V):By (B6 x):=fun b hb=>AF7 _ b hb
theorem AC8 (kl:List DD) (c:List Nat):(kl.map fun z=>NC c z.x)=(kl.map DD.x).map (NC c):=by rw[List.map_map];rfl
theorem AC9 (ks:List VK) (vo:Option Addr) (vc_:Nat) (sa po:List Nat) (hsa:Dg sa) (hpo:Dg po) (ds:List DD) (ao:Option Addr) (ac:Nat) (joint ad:Int) (x:V) (w:World) (hr:RdK w (.slice vo ks.length vc_) ks) (ho:RdD w (.slice ao ds.length ac) ds) (hdl:ds.length≤1000) :
   Calls Tryz.prog 20 #[Ao sa po (.slice vo ks.length vc_),.slice ao ds.length ac,.int .i64 joint,.int .i64 ad,BR x] w fun e w'=>SRes w w' (Eu (ks.map VK.p) (ds.map DD.x) joint ad x) e:=by
 obtain⟨P,hP⟩:∃P,ks.map VK.p=P:=⟨_,rfl⟩
 obtain⟨own,hown⟩:∃own,ds.map DD.x=own:=⟨_,rfl⟩
 have hownl:own.length=ds.length:=by rw[←hown,List.length_map]
 have hnok:=hr.noks2
 rw[hP] at hnok
 rw[hP,hown]
 refine Dv Tryz.func20 rfl Tryz.ntmps20 rfl fun a0 sv0=>?_
 have HG:=World.grownBy.refl w none
 replace sv0:Sv 104 [] [(0,Ao sa po (.slice vo ks.length vc_)),(1,.slice ao ds.length ac),(2,.int .i64 joint),(3,.int .i64 ad),(4,BR x)] a0:=sv0
 refine ALo fun K1 k1=>?_
 refine ALn ?_
 refine Bn sv0 r6 (BX hsa hpo (.slice vo ks.length vc_) rfl) fun a2 w2 Vs AKs g2 z2 Bb sv2=>?_
 refine Bn sv2 r6 (C6 x) fun a3 w3 Vt AKt g3 z3 Bh sv3=>?_
 replace Bb:=AC g3 Bb
 replace hr:=(hr.kn g2).kn g3
 replace ho:=(ho.kn g2).kn g3
 replace HG:=AA (AA HG g2) g3
 refine Av (T:=31) (Z:=([[.int .i64 0],[.slice none 0 0],[.int .i64 0],[.slice none 0 0],[.slice none 0 0],bv AQ].flatten)) sv3 rfl rfl rfl (fun a w=>by kernel_rfl) fun a4 w4 I9 MR g4 z4 Ak sv4=>?_
 have Ey:=Ar Bb MR
 have Ez:=Ar Bh MR
 have JA:=Bt HG MR
 have Fv:=A1 (hr.lt) MR
 have Fw:=A1 (ho.lt) MR
 replace Bb:=AC g4 Bb
 replace Bh:=AC g4 Bh
 replace hr:=hr.kn g4
 replace ho:=ho.kn g4
 replace HG:=AA HG g4
 refine Av (T:=38) (Z:=[.int .i64 0]) sv4 rfl rfl rfl (fun a w=>by kernel_rfl) fun a5 w5 JB KJ g5 z5 An sv5=>?_
 have E0:=Ar Bb KJ
 have E2:=Ar Bh KJ
 have B9:=Ar Ak KJ
 have JC:=Bt HG KJ
 have Fx:=A1 (hr.lt) KJ
 have Fy:=A1 (ho.lt) KJ
 replace Bb:=AC g5 Bb
 replace Bh:=AC g5 Bh
 replace Ak:=AC g5 Ak
 replace hr:=hr.kn g5
 replace ho:=ho.kn g5
 replace HG:=AA HG g5
 refine AE ?_
 refine k1 _ _ ?_
 refine ALo fun K6 k6=>?_
 refine ALn ?_
 refine Fu sv5 rfl rfl rfl rfl rfl rfl fun a7 sv7=>?_
 refine Er sv7 rfl (dd:={ target:=.fn (.func 49) #[pt I9,pt JB],args:=#[] }) rfl (by have e1:=sv7.ev (x:=.tmp 22) rfl rfl;simp[execOp,resolve,Deferred.ofValue,e1];try rfl) fun a8 sv8=>?_
 refine AE ?_
 refine k6 _ _ ?_
 refine ALo fun K9 k9=>?_
 refine ALo fun K10 k10=>?_
 rcases(show(hd own joint ad=false∧CH P=false)∨(hd own joint ad=false∧CH P=true)∨(hd own joint ad=true∧CH P=false)∨(hd own joint ad=true∧CH P=true) by cases hd own joint ad<;>cases CH P<;>simp) with ⟨hh,hv⟩|⟨hh,hv⟩|⟨hh,hv⟩|⟨hh,hv⟩
 · refine ALn ?_
   refine AI sv8 10 [(23,.slice ao ds.length ac),(24,.int .i64 joint),(25,.int .i64 ad),(26,.bool false),(27,.bool true),(28,.bool true),(29,undef),(30,undef),(31,undef),(32,.bool true)]
     ⟨ym r5,ym r5,ym r5,Ae [.slice ao ds.length ac,.int .i64 joint,.int .i64 ad] Tryz.func50 (by kernel_rfl) rq4 ⟨(oy rfl rfl),(oy rfl rfl),(oy rfl rfl),ALu⟩ (Au fun W g=>Qu (ho.kn g) hown hh),Cl r6 (fun _=>BJ),ym r5,AX r6,AX r6,AX r6,B8 r7,ALu⟩ fun a11 w11 g11 CV=>?_
   refine AE ?_
   refine k10 _ _ ?_
   refine Ay CV rfl rfl ?_
   refine ALo fun K12 k12=>?_
   refine ALn ?_
   replace Ak:=AC g11 Ak
   refine AI CV 1 [(33,Bw 0 (.slice none 0 0) 0 (.slice none 0 0) (.slice none 0 0) AQ)]
     ⟨Ba (vs:=[]) rfl rfl trivial trivial (fun _=>AHF _) (fun _=>rfl),ALu⟩ fun a13 w13 g13 EC=>?_
   refine As EC r7 (Dz _ _ AO (.slice none 0 0) (.slice none 0 0) (.slice none 0 0) rfl rfl rfl) (AC g13 Ak) (FS AO AO) fun w14 g14 h14=>?_
   replace An:=Al g13 g14 (AC g11 An) B9
   refine As EC r7 (EU 1) An rfl fun w15 g15 h15=>?_
   replace Bb:=AY g15 (Al g13 g14 (AC g11 Bb) (Ne.symm Ey)) (Ne.symm E0)
   replace Bh:=AY g15 (Al g13 g14 (AC g11 Bh) (Ne.symm Ez)) (Ne.symm E2)
   replace Ak:=AY g15 h14 (Ne.symm B9)
   replace hr:=(((hr.kn g11).kn g13).offR g14 (AV Fv)).offR g15 (AV Fx)
   replace ho:=(((ho.kn g11).kn g13).offR g14 (AV Fw)).offR g15 (AV Fy)
   replace HG:=AD (AD (AA (AA HG g11) g13) g14 JA) g15 JC
   replace An:=h15
   refine AE ?_
   refine k12 _ _ ?_
   refine ALr ?_
   repeat refine AL ?_
   refine BU (fn:=Tryz.f20) EC (Bj (p:=10) (q:=11) Tryz.results20 EC rfl rfl rfl rfl (Dz _ _ AO (.slice none 0 0) (.slice none 0 0) (.slice none 0 0) rfl rfl rfl) (EU 1) Ak An) (Bz Tryz.func49 (by kernel_rfl) rfl _ _) (Eg _ _ _) ?_
   exact SRes.zero (Pd (.inl hh)) HG
 · refine ALn ?_
   refine AI sv8 10 [(23,.slice ao ds.length ac),(24,.int .i64 joint),(25,.int .i64 ad),(26,.bool false),(27,.bool true),(28,.bool true),(29,undef),(30,undef),(31,undef),(32,.bool true)]
     ⟨ym r5,ym r5,ym r5,Ae [.slice ao ds.length ac,.int .i64 joint,.int .i64 ad] Tryz.func50 (by kernel_rfl) rq4 ⟨(oy rfl rfl),(oy rfl rfl),(oy rfl rfl),ALu⟩ (Au fun W g=>Qu (ho.kn g) hown hh),Cl r6 (fun _=>BJ),ym r5,AX r6,AX r6,AX r6,B8 r7,ALu⟩ fun a16 w16 g16 Cu=>?_
   refine AE ?_
   refine k10 _ _ ?_
   refine Ay Cu rfl rfl ?_
   refine ALo fun K17 k17=>?_
   refine ALn ?_
   replace Ak:=AC g16 Ak
   refine AI Cu 1 [(33,Bw 0 (.slice none 0 0) 0 (.slice none 0 0) (.slice none 0 0) AQ)]
     ⟨Ba (vs:=[]) rfl rfl trivial trivial (fun _=>AHF _) (fun _=>rfl),ALu⟩ fun a18 w18 g18 CU=>?_
   refine As CU r7 (Dz _ _ AO (.slice none 0 0) (.slice none 0 0) (.slice none 0 0) rfl rfl rfl) (AC g18 Ak) (FS AO AO) fun w19 g19 h19=>?_
   replace An:=Al g18 g19 (AC g16 An) B9
   refine As CU r7 (EU 1) An rfl fun w20 g20 h20=>?_
   replace Bb:=AY g20 (Al g18 g19 (AC g16 Bb) (Ne.symm Ey)) (Ne.symm E0)
   replace Bh:=AY g20 (Al g18 g19 (AC g16 Bh) (Ne.symm Ez)) (Ne.symm E2)
   replace Ak:=AY g20 h19 (Ne.symm B9)
   replace hr:=(((hr.kn g16).kn g18).offR g19 (AV Fv)).offR g20 (AV Fx)
   replace ho:=(((ho.kn g16).kn g18).offR g19 (AV Fw)).offR g20 (AV Fy)
   replace HG:=AD (AD (AA (AA HG g16) g18) g19 JA) g20 JC
   replace An:=h20
   refine AE ?_
   refine k17 _ _ ?_
   refine ALr ?_
   repeat refine AL ?_
   refine BU (fn:=Tryz.f20) CU (Bj (p:=10) (q:=11) Tryz.results20 CU rfl rfl rfl rfl (Dz _ _ AO (.slice none 0 0) (.slice none 0 0) (.slice none 0 0) rfl rfl rfl) (EU 1) Ak An) (Bz Tryz.func49 (by kernel_rfl) rfl _ _) (Eg _ _ _) ?_
   exact SRes.zero (Pd (.inl hh)) HG
 · refine ALn ?_
   refine AI sv8 10 [(23,.slice ao ds.length ac),(24,.int .i64 joint),(25,.int .i64 ad),(26,.bool true),(27,.bool false),(28,.bool false),(29,Ao sa po (.slice vo ks.length vc_)),(30,.bool false),(31,.bool true),(32,.bool true)]
     ⟨ym r5,ym r5,ym r5,Ae [.slice ao ds.length ac,.int .i64 joint,.int .i64 ad] Tryz.func50 (by kernel_rfl) rq4 ⟨(oy rfl rfl),(oy rfl rfl),(oy rfl rfl),ALu⟩ (Au fun W g=>Qu (ho.kn g) hown hh),Cl r6 (fun _=>BJ),ym r5,Ap rq9 (fun _ g=>Ac (BX hsa hpo (.slice vo ks.length vc_) rfl) (Af (AF g Bb (by simp)))),Bf [Ao sa po (.slice vo ks.length vc_)] Tryz.func51 (by kernel_rfl) r7 ⟨(oy rfl rfl),ALu⟩ (Au fun W g=>OT hsa hpo (hr.kn g) hP hv),Fc rfl rfl (gy rfl rfl rfl) (oy rfl rfl) (fun _=>BJ) (fun _=>rfl),Ax rq9,ALu⟩ fun a21 w21 g21 Da=>?_
   refine AE ?_
   refine k10 _ _ ?_
   refine Ay Da rfl rfl ?_
   refine ALo fun K22 k22=>?_
   refine ALn ?_
   replace Ak:=AC g21 Ak
   refine AI Da 1 [(33,Bw 0 (.slice none 0 0) 0 (.slice none 0 0) (.slice none 0 0) AQ)]
     ⟨Ba (vs:=[]) rfl rfl trivial trivial (fun _=>AHF _) (fun _=>rfl),ALu⟩ fun a23 w23 g23 Cz=>?_
   refine As Cz r7 (Dz _ _ AO (.slice none 0 0) (.slice none 0 0) (.slice none 0 0) rfl rfl rfl) (AC g23 Ak) (FS AO AO) fun w24 g24 h24=>?_
   replace An:=Al g23 g24 (AC g21 An) B9
   refine As Cz r7 (EU 1) An rfl fun w25 g25 h25=>?_
   replace Bb:=AY g25 (Al g23 g24 (AC g21 Bb) (Ne.symm Ey)) (Ne.symm E0)
   replace Bh:=AY g25 (Al g23 g24 (AC g21 Bh) (Ne.symm Ez)) (Ne.symm E2)
   replace Ak:=AY g25 h24 (Ne.symm B9)
   replace hr:=(((hr.kn g21).kn g23).offR g24 (AV Fv)).offR g25 (AV Fx)
   replace ho:=(((ho.kn g21).kn g23).offR g24 (AV Fw)).offR g25 (AV Fy)
   replace HG:=AD (AD (AA (AA HG g21) g23) g24 JA) g25 JC
   replace An:=h25
   refine AE ?_
   refine k22 _ _ ?_
   refine ALr ?_
   repeat refine AL ?_
   refine BU (fn:=Tryz.f20) Cz (Bj (p:=10) (q:=11) Tryz.results20 Cz rfl rfl rfl rfl (Dz _ _ AO (.slice none 0 0) (.slice none 0 0) (.slice none 0 0) rfl rfl rfl) (EU 1) Ak An) (Bz Tryz.func49 (by kernel_rfl) rfl _ _) (Eg _ _ _) ?_
   exact SRes.zero (Pd (.inr hv)) HG
 · obtain⟨haa,hjj,hol,hasc⟩:=ABp hh
   have hia:RB ad:=⟨by omega,by omega⟩
   refine ALn ?_
   refine AI sv8 10 [(23,.slice ao ds.length ac),(24,.int .i64 joint),(25,.int .i64 ad),(26,.bool true),(27,.bool false),(28,.bool false),(29,Ao sa po (.slice vo ks.length vc_)),(30,.bool true),(31,.bool false),(32,.bool false)]
     ⟨ym r5,ym r5,ym r5,Ae [.slice ao ds.length ac,.int .i64 joint,.int .i64 ad] Tryz.func50 (by kernel_rfl) rq4 ⟨(oy rfl rfl),(oy rfl rfl),(oy rfl rfl),ALu⟩ (Au fun W g=>Qu (ho.kn g) hown hh),Cl r6 (fun _=>BJ),ym r5,Ap rq9 (fun _ g=>Ac (BX hsa hpo (.slice vo ks.length vc_) rfl) (Af (AF g Bb (by simp)))),Bf [Ao sa po (.slice vo ks.length vc_)] Tryz.func51 (by kernel_rfl) r7 ⟨(oy rfl rfl),ALu⟩ (Au fun W g=>OT hsa hpo (hr.kn g) hP hv),Fc rfl rfl (gy rfl rfl rfl) (oy rfl rfl) (fun _=>BJ) (fun _=>rfl),Ax rq9,ALu⟩ fun a26 w26 g26 Cj=>?_
   refine AE ?_
   refine k10 _ _ ?_
   refine Az Cj rfl rfl ?_
   refine ALs ?_
   refine k9 _ _ ?_
   refine ALo fun K27 k27=>?_
   refine ALn ?_
   refine AI Cj 2 [(34,.int .i64 ad),(35,.slice ao ds.length ac)]
     ⟨ym r5,ym r5,ALu⟩ fun a28 w28 g28 L8=>?_
   have Na:=AA g26 g28
   replace Ak:=AC Na Ak
   replace An:=AC Na An
   replace ho:=ho.kn Na
   replace HG:=AA HG Na
   refine Bu L8 Tryz.func52 (by kernel_rfl) r6 (AJA (by omega) ho) fun a29 v29 w29 hR29 CR=>?_
   obtain⟨ao29,cap29,rfl,g29,oc,fr29⟩:=hR29
   have Jf:=CK fr29 Ak
   have Jg:=CK fr29 An
   have lo_oc:=LO HG fr29
   refine AI CR 2 [(37,.int .i64 joint),(38,Bw ad (.slice ao29 ds.length cap29) joint (.slice none 0 0) (.slice none 0 0) AQ)]
     ⟨ym r5,Ba (vs:=[.int .i64 ad,.slice ao29 ds.length cap29,.int .i64 joint]) rfl rfl trivial ⟨(oy rfl rfl),(oy rfl rfl),(oy rfl rfl),ALu⟩ (fun _=>AK8 _ _ _ _ _ _) (fun _=>rfl),ALu⟩ fun a30 w30 g30 Fd=>?_
   replace Bb:=AC g30 (AC g29 (AC Na Bb))
   replace Bh:=AC g30 (AC g29 (AC Na Bh))
   replace Ak:=AC g30 (AC g29 Ak)
   replace An:=AC g30 (AC g29 An)
   replace hr:=((hr.kn Na).kn g29).kn g30
   replace ho:=(ho.kn g29).kn g30
   replace oc:=oc.kn g30
   replace HG:=AA (AA HG g29) g30
   refine Av (T:=31) (Z:=([[.int .i64 0],[.slice none 0 0],[.int .i64 0],[.slice none 0 0],[.slice none 0 0],bv AQ].flatten)) Fd rfl rfl rfl (fun a w=>by kernel_rfl) fun a31 w31 Eh Fz g31 z31 Ai Hu=>?_
   have EJ:=Ar Bb Fz
   have EK:=Ar Bh Fz
   have CM:=Ar Ak Fz
   have CN:=Ar An Fz
   have F4:=Bt HG Fz
   have FT:=A1 (hr.lt) Fz
   have FU:=A1 (ho.lt) Fz
   have D1:=A1 (Own.ltS oc) Fz
   refine As Hu r7 (Dz _ _ AO (.slice ao29 ds.length cap29) (.slice none 0 0) (.slice none 0 0) rfl rfl rfl) Ai (FS AO AO) fun w32 g32 h32=>?_
   replace Bh:=AY g32 (AC g31 Bh) (Ne.symm EK)
   have IZ:Sv _ _ [_,_,_,_,_,_,_,_,_,_,_,_,_,_,_,_,_,_,_,_,_] _:=Hu.dl [37,38,36,34,35]
   refine AE ?_
   refine k27 _ _ ?_
   refine ALo fun K34 k34=>?_
   refine ALn ?_
   refine AI IZ 1 [(39,BR x)]
     ⟨yl r6 (C6 x) Bh,ALu⟩ fun a35 w35 g35 Js=>?_
   replace Ak:=AC g35 (AY g32 (AC g31 Ak) (Ne.symm CM))
   replace An:=AC g35 (AY g32 (AC g31 An) (Ne.symm CN))
   replace Ai:=AC g35 h32
   replace HG:=AA (AD (AA HG g31) g32 F4) g35
   refine Bu Js Tryz.func53 (by kernel_rfl) r6 (Uk (AAh x _)) fun a36 v36 w36 hR36 F5=>?_
   obtain⟨ao36,cap36,rfl,_⟩:=(Sl.of_own hR36.1).shape
   obtain⟨ow36,fr36⟩:=hR36
   replace fr36:=En fr36
   have op:=ow36
   clear ow36
   have g36:=fr36.1
   replace fr36:=fr36.2
   have Jh:=CK fr36 Ak
   have Ji:=CK fr36 An
   have Ei:=CK fr36 Ai
   have lo_op:=LO HG fr36
   replace Bb:=AC g36 (AC g35 (AY g32 (AC g31 Bb) (Ne.symm EJ)))
   replace Bh:=AC g36 (AC g35 Bh)
   replace Ak:=AC g36 Ak
   replace An:=AC g36 An
   replace Ai:=AC g36 Ai
   replace hr:=(((hr.kn g31).offR g32 (AV FT)).kn g35).kn g36
   replace ho:=(((ho.kn g31).offR g32 (AV FU)).kn g35).kn g36
   replace oc:=(((oc.kn g31).offR g32 (AV D1)).kn g35).kn g36
   replace HG:=AA HG g36
   refine Aa (v:=.slice ao36 ((B6 x)).length cap36) F5 r6 fun a37 Jt=>?_
   refine AE ?_
   refine k34 _ _ ?_
   refine ALo fun K38 k38=>?_
   refine ALo fun K39 k39=>?_
   rcases Nat.eq_zero_or_pos ds.length with hz|hz
   · obtain rfl:own=[]:=List.eq_nil_of_length_eq_zero (by omega)
     refine ALn ?_
     refine AI Jt 3 [(41,.slice ao ds.length ac),(42,.int .i64 ((ds.length:Nat))),(43,.bool true)]
       ⟨ym r5,CB (Tryz.underlying28) rfl rfl trivial (oy rfl rfl) (fun _=>rfl),CQ r6 (fun _=>Bi (QN (by omega))),ALu⟩ fun a40 w40 g40 Lc=>?_
     refine AE ?_
     refine k39 _ _ ?_
     refine Ay Lc rfl rfl ?_
     refine ALo fun K41 k41=>?_
     refine ALn ?_
     refine AI Lc 2 [(44,.slice ao36 ((B6 x)).length cap36),(45,pk Eh 4)]
       ⟨ym r5,yf r6 (fun _=>by kernel_rfl),ALu⟩ fun a42 w42 g42 GK=>?_
     have F6:=AA g40 g42
     refine NB (L:=[[.int .i64 ad],[.slice ao29 ds.length cap29],[.int .i64 joint],[.slice none 0 0],[.slice none 0 0],bv AQ]) (i:=4) GK r7 (IR (.slice ao36 ((B6 x)).length cap36) rfl) (AC F6 Ai) rfl rfl rfl fun w43 g43 h43=>?_
     refine AE ?_
     refine k41 _ _ ?_
     refine ALo fun K44 k44=>?_
     refine ALn ?_
     refine AI GK 2 [(46,.int .i64 ad),(47,.slice ao36 ((B6 x)).length cap36)]
       ⟨ym r5,ym r5,ALu⟩ fun a45 w45 g45 CL=>?_
     replace op:=((op.kn F6).offR g43 (AV Ei)).kn g45
     refine Bu CL Tryz.func54 (by kernel_rfl) r6 (QV (Jw ad hia (B6 x) (Je x) (by have:=Ip x;omega) _ _ _ (Own.sb op))) fun a46 v46 w46 hR46 IC=>?_
     obtain⟨rfl,g46⟩:=hR46
     replace Ai:=AC g46 (AC g45 h43)
     refine AI IC 1 [(49,pk Eh 5)]
       ⟨yf r6 (fun _=>by kernel_rfl),ALu⟩ fun a47 w47 g47 Ld=>?_
     refine NB (L:=[[.int .i64 ad],[.slice ao29 ds.length cap29],[.int .i64 joint],[.slice none 0 0],[.slice ao36 ((B6 x)).length cap36],bv AQ]) (i:=5) Ld r7 (CD ((tgC ad (B6 x))) (IE ad (B6 x)).1) (AC g47 Ai) rfl rfl (ABX AO (IE ad (B6 x))) fun w48 g48 h48=>?_
     replace Ak:=Al g47 g48 (AC g46 (AC g45 (Al F6 g43 Ak (Ne.symm CM)))) (Ne.symm CM)
     replace Ai:=h48
     have GL:Sv _ _ [_,_,_,_,_,_,_,_,_,_,_,_,_,_,_,_,_,_,_,_,_,_,_,_,_,_,_,_,_] _:=Ld.dl [49,48,46,47]
     refine AE ?_
     refine k44 _ _ ?_
     refine ALo fun K50 k50=>?_
     refine ALn ?_
     refine AI GL 1 [(50,Bw ad (.slice ao29 ds.length cap29) joint (.slice none 0 0) (.slice ao36 ((B6 x)).length cap36) ((tgC ad (B6 x))))]
       ⟨yl r6 (Dz _ _ (IE ad (B6 x)) (.slice ao29 ds.length cap29) (.slice none 0 0) (.slice ao36 ((B6 x)).length cap36) rfl rfl rfl) Ai,ALu⟩ fun a51 w51 g51 ED=>?_
     refine As ED r7 (Dz _ _ (IE ad (B6 x)) (.slice ao29 ds.length cap29) (.slice none 0 0) (.slice ao36 ((B6 x)).length cap36) rfl rfl rfl) (AC g51 Ak) (FS AO (IE ad (B6 x))) fun w52 g52 h52=>?_
     replace An:=Al g51 g52 (Al g47 g48 (AC g46 (AC g45 (Al F6 g43 An (Ne.symm CN)))) (Ne.symm CN)) B9
     refine As ED r7 (EU 0) An rfl fun w53 g53 h53=>?_
     replace Bb:=AY g53 (Al g51 g52 (Al g47 g48 (AC g46 (AC g45 (Al F6 g43 Bb (Ne.symm EJ)))) (Ne.symm EJ)) (Ne.symm Ey)) (Ne.symm E0)
     replace Bh:=AY g53 (Al g51 g52 (Al g47 g48 (AC g46 (AC g45 (Al F6 g43 Bh (Ne.symm EK)))) (Ne.symm EK)) (Ne.symm Ez)) (Ne.symm E2)
     replace Ak:=AY g53 h52 (Ne.symm B9)
     replace Ai:=AY g53 (Al g51 g52 Ai CM) CN
     replace hr:=((((((((hr.kn F6).offR g43 (AV FT)).kn g45).kn g46).kn g47).offR g48 (AV FT)).kn g51).offR g52 (AV Fv)).offR g53 (AV Fx)
     replace ho:=((((((((ho.kn F6).offR g43 (AV FU)).kn g45).kn g46).kn g47).offR g48 (AV FU)).kn g51).offR g52 (AV Fw)).offR g53 (AV Fy)
     replace oc:=((((((((oc.kn F6).offR g43 (AV D1)).kn g45).kn g46).kn g47).offR g48 (AV D1)).kn g51).offR g52 (AV Jf)).offR g53 (AV Jg)
     replace op:=(((((op.kn g46).kn g47).offR g48 (AV Ei)).kn g51).offR g52 (AV Jh)).offR g53 (AV Ji)
     replace HG:=AD (AD (AA (AD (AA (AA (AA (AD (AA HG F6) g43 F4) g45) g46) g47) g48 F4) g51) g52 JA) g53 JC
     replace An:=h53
     refine AE ?_
     refine k50 _ _ ?_
     refine ALr ?_
     repeat refine AL ?_
     refine BU (fn:=Tryz.f20) ED (Bj (p:=10) (q:=11) Tryz.results20 ED rfl rfl rfl rfl (Dz _ _ (IE ad (B6 x)) (.slice ao29 ds.length cap29) (.slice none 0 0) (.slice ao36 ((B6 x)).length cap36) rfl rfl rfl) (EU 0) Ak An) (Bz Tryz.func49 (by kernel_rfl) rfl _ _) (Eg _ _ _) ?_
     exact SRes.mk (own:=ds) (wr:=[]) (KH hh hv) rfl rfl rfl hown rfl oc (Own.nil _ _ _) op lo_oc (fun k hk=>by simp[Bq,Value.ownBlock] at hk) lo_op (fun k _ hk=>by simp[Bq,Value.ownBlock] at hk) (IE _ _) (Je x) HG rfl
   · have hne:own≠[]:=fun h=>by rw[h] at hownl;simp at hownl;omega
     refine ALn ?_
     refine AI Jt 3 [(41,.slice ao ds.length ac),(42,.int .i64 ((ds.length:Nat))),(43,.bool false)]
       ⟨ym r5,CB (Tryz.underlying28) rfl rfl trivial (oy rfl rfl) (fun _=>rfl),CQ r6 (fun _=>Bi (NU (by omega))),ALu⟩ fun a54 w54 g54 ME=>?_
     refine AE ?_
     refine k39 _ _ ?_
     refine Az ME rfl rfl ?_
     refine ALs ?_
     refine k38 _ _ ?_
     refine ALo fun K55 k55=>?_
     refine ALn ?_
     refine Aa (v:=.slice none 0 0) ME r6 fun a56 QU=>?_
     refine AE ?_
     refine k55 _ _ ?_
     refine ALo fun K57 k57=>?_
     refine ALo fun K58 k58=>?_
     refine ALn ?_
     refine AI QU 3 [(51,.slice ao ds.length ac),(52,.int .i64 ((ds.length:Nat))),(53,.int .i64 0)]
       ⟨ym r5,CB (Tryz.underlying28) rfl rfl trivial (oy rfl rfl) (fun _=>rfl),FE (.inl rfl) rfl trivial (fun _=>rfl),ALu⟩ fun a59 w59 g59 FB=>?_
     have OQ:=AA g54 g59
     refine AE ?_
     refine k58 _ _ ?_
     refine BM fun Q60 x60 y60 rt60 o60=>?_
     replace Bb:=AC OQ Bb
     replace Bh:=AC OQ Bh
     replace Ak:=AC OQ Ak
     replace An:=AC OQ An
     replace Ai:=AC OQ Ai
     replace hr:=hr.kn OQ
     replace ho:=ho.kn OQ
     replace oc:=oc.kn OQ
     replace op:=op.kn OQ
     replace HG:=AA HG OQ
     have okk:=Own.nil w59 23 32
     have Jj:=LZ Vs
     have Jk:=LZ Vt
     have Ej:=LZ I9
     have Ek:=LZ JB
     have DH:=LZ Eh
     have ap_hr_okk:=La (KX (.slice vo ks.length vc_) ks)
     have ap_ho_okk:=La (Bq (.slice ao ds.length ac))
     have ap_oc_okk:=La (Bq (.slice ao29 ds.length cap29))
     have ap_okk_oc:=AEU (Bq (.slice ao29 ds.length cap29))
     have ap_op_okk:=La (Bq (.slice ao36 ((B6 x)).length cap36))
     have ap_okk_op:=AEU (Bq (.slice ao36 ((B6 x)).length cap36))
     have lo_okk:=ACe w
     refine wp_loop (fun a w'=>∃(i:Nat) (ko:Option Addr) (kc:Nat) (kl:List DD),(i≤ds.length)∧(kl.map DD.x=(own.take i).map fun z=>(CP P z ad).1)∧(∀j,j<i→(CP P (Hg own j) ad).2=0)∧Sv 104 [{ target:=.fn (.func 49) #[pt I9,pt JB],args:=#[] }] [(53,.int .i64 ((i:Int))),(14,.slice ko i kc),(51,.slice ao ds.length ac),(52,.int .i64 ((ds.length:Nat))),(41,.slice ao ds.length ac),(42,.int .i64 ((ds.length:Nat))),(43,.bool false),(13,.slice ao36 ((B6 x)).length cap36),(40,.slice ao36 ((B6 x)).length cap36),(39,BR x),(12,pt Eh),(23,.slice ao ds.length ac),(24,.int .i64 joint),(25,.int .i64 ad),(26,.bool true),(27,.bool false),(28,.bool false),(29,Ao sa po (.slice vo ks.length vc_)),(30,.bool true),(31,.bool false),(32,.bool false),(22,.func (.func 49) #[] #[pt I9,pt JB]),(11,pt JB),(10,pt I9),(9,pt Vt),(5,pt Vs),(0,Ao sa po (.slice vo ks.length vc_)),(1,.slice ao ds.length ac),(2,.int .i64 joint),(3,.int .i64 ad),(4,BR x)] a∧w.grownBy w' none∧w'.heap[Vs]?=some (.cells ([bv sa,bv po,[.slice vo ks.length vc_]].flatten).toArray 36 (0,0))∧w'.heap[Vt]?=some (.cells (vc x).toArray 25 (0,0))∧w'.heap[I9]?=some (.cells (([[.int .i64 0],[.slice none 0 0],[.int .i64 0],[.slice none 0 0],[.slice none 0 0],bv AQ].flatten)).toArray 31 (0,0))∧w'.heap[JB]?=some (.cells ([.int .i64 0]).toArray 38 (0,0))∧w'.heap[Eh]?=some (.cells ([[.int .i64 ad],[.slice ao29 ds.length cap29],[.int .i64 joint],[.slice none 0 0],[.slice none 0 0],bv AQ].flatten).toArray 31 (0,0))∧RdK w' (.slice vo ks.length vc_) ks∧RdD w' (.slice ao ds.length ac) ds∧Own w' 23 32 (.slice ao29 ds.length cap29) ds.length (ds.flatMap ML)∧Own w' 5 1 (.slice ao36 ((B6 x)).length cap36) (((B6 x)).length) (bv ((B6 x)))∧Own w' 23 32 (.slice ko i kc) i (kl.flatMap ML)∧(∀k,Bq (.slice ko i kc) k→k≠Vs)∧(∀k,Bq (.slice ko i kc) k→k≠Vt)∧(∀k,Bq (.slice ko i kc) k→k≠I9)∧(∀k,Bq (.slice ko i kc) k→k≠JB)∧(∀k,Bq (.slice ko i kc) k→k≠Eh)∧(∀k,KX (.slice vo ks.length vc_) ks k→¬Bq (.slice ko i kc) k)∧(∀k,Bq (.slice ao ds.length ac) k→¬Bq (.slice ko i kc) k)∧(∀k,Bq (.slice ao29 ds.length cap29) k→¬Bq (.slice ko i kc) k)∧(∀k,Bq (.slice ko i kc) k→¬Bq (.slice ao29 ds.length cap29) k)∧(∀k,Bq (.slice ao36 ((B6 x)).length cap36) k→¬Bq (.slice ko i kc) k)∧(∀k,Bq (.slice ko i kc) k→¬Bq (.slice ao36 ((B6 x)).length cap36) k)∧(∀k,Bq (.slice ko i kc) k→w.heap.size≤k)) (fun a _=>(ds.length-intOf (a.tmps.getD 53 undef)).toNat) ⟨0,none,0,[],Nat.zero_le _,rfl,fun j hj=>by omega,⟨FB.1,FB.2.1,FB.2.2.2.2.1,FB.2.2.2.2.2.1,FB.2.2.1,FB.2.2.2.1,FB.2.2.2.2.2.2.1,FB.2.2.2.2.2.2.2.1,(AH FB).1,(AH FB).2.1,(AH FB).2.2.1,(AH FB).2.2.2.1,(AH FB).2.2.2.2.1,(AH FB).2.2.2.2.2.1,(AH FB).2.2.2.2.2.2.1,(AH FB).2.2.2.2.2.2.2.1,(AH (AH FB)).1,(AH (AH FB)).2.1,(AH (AH FB)).2.2.1,(AH (AH FB)).2.2.2.1,(AH (AH FB)).2.2.2.2.1,(AH (AH FB)).2.2.2.2.2.1,(AH (AH FB)).2.2.2.2.2.2.1,(AH (AH FB)).2.2.2.2.2.2.2.1,(AH (AH (AH FB))).1,(AH (AH (AH FB))).2.1,(AH (AH (AH FB))).2.2.1,(AH (AH (AH FB))).2.2.2.1,(AH (AH (AH FB))).2.2.2.2.1,(AH (AH (AH FB))).2.2.2.2.2.1,(AH (AH (AH FB))).2.2.2.2.2.2.1,(AH (AH (AH FB))).2.2.2.2.2.2.2.1,(AH (AH (AH (AH FB)))).1,ALu⟩,HG,Bb,Bh,Ak,An,Ai,hr,ho,oc,op,okk,Jj,Jk,Ej,Ek,DH,ap_hr_okk,ap_ho_okk,ap_oc_okk,ap_okk_oc,ap_op_okk,ap_okk_op,lo_okk⟩ fun a61 w61 hI61=>?_
     clear Bb
     clear Bh
     clear Ak
     clear An
     clear Ai
     clear hr
     clear ho
     clear oc
     clear op
     clear okk
     clear HG
     obtain⟨i,ko,kc,kl,hin,hkl,hok,Lg,HG,Bb,Bh,Ak,An,Ai,hr,ho,oc,op,okk,Jj,Jk,Ej,Ek,DH,ap_hr_okk,ap_ho_okk,ap_oc_okk,ap_okk_oc,ap_op_okk,ap_okk_op,lo_okk⟩:=hI61
     refine ALo fun K62 k62=>?_
     by_cases hi:i<ds.length
     · obtain⟨y,hx_y⟩:∃zx,ds[i]'hi=zx:=⟨_,rfl⟩
       have hla:Hg own i=y.x:=by rw[←hown,Mq hi,hx_y]
       obtain⟨kx,hkx⟩:∃q,CP P y.x ad=q:=⟨_,rfl⟩
       have hkd:Dg kx.1:=hkx▸SN hnok
       refine ALn ?_
       refine AI Lg 1 [(54,.bool true)]
         ⟨Hc r7 (fun _=>Bv (by simp;omega)),ALu⟩ fun a63 w63 g63 ADA=>?_
       refine AE ?_
       refine k62 _ _ ?_
       refine ALo fun K64 k64=>?_
       refine Ay ADA rfl rfl ?_
       refine ALs ?_
       refine k64 _ _ ?_
       refine ALo fun K65 k65=>?_
       refine BM fun Q66 x66 y66 rt66 o66=>?_
       refine ALo fun K67 k67=>?_
       refine ALn ?_
       replace ho:=ho.kn g63
       refine AI ADA 2 [(55,pk ((bO ao)) (oO ao+i*32)),(56,AP y.x)]
         ⟨BV rq8 (fun w=>Ce Tryz.underlying28 (by kernel_rfl) (ho.1) (by omega) (rfl) w),CE r6 (fun _ g=>Ac (CD y.x y.h.1) (by have:=Dq (ho.kn g).1 Hh hi (by decide);rw[hx_y] at this;exact this)),ALu⟩ fun a68 w68 g68 Of=>?_
       replace Bb:=AC g68 (AC g63 Bb)
       replace Bh:=AC g68 (AC g63 Bh)
       replace Ak:=AC g68 (AC g63 Ak)
       replace An:=AC g68 (AC g63 An)
       replace Ai:=AC g68 (AC g63 Ai)
       replace hr:=(hr.kn g63).kn g68
       replace ho:=ho.kn g68
       replace oc:=(oc.kn g63).kn g68
       replace op:=(op.kn g63).kn g68
       replace okk:=(okk.kn g63).kn g68
       replace HG:=AA (AA HG g63) g68
       refine Av (T:=23) (Z:=(bv AQ)) Of rfl rfl rfl (fun a w=>by kernel_rfl) fun a69 w69 ALA EL g69 z69 Vu ADB=>?_
       have SO:=Ar Bb EL
       have SP:=Ar Bh EL
       have QW:=Ar Ak EL
       have QX:=Ar An EL
       have Pe:=Ar Ai EL
       have ADC:=Bt HG EL
       have Vv:=A1 (hr.lt) EL
       have Vw:=A1 (ho.lt) EL
       have Vx:=A1 (Own.ltS oc) EL
       have Vy:=A1 (Own.ltS op) EL
       have Th:=A1 (Own.ltS okk) EL
       refine As ADB r7 (CD y.x y.h.1) Vu (IB y.h) fun w70 g70 h70=>?_
       replace Bb:=AY g70 (AC g69 Bb) (Ne.symm SO)
       replace hr:=(hr.kn g69).offR g70 (AV Vv)
       replace Vu:=h70
       refine AE ?_
       refine k67 _ _ ?_
       refine ALo fun K71 k71=>?_
       refine ALn ?_
       refine AI ADB 7 [(58,Ao sa po (.slice vo ks.length vc_)),(59,AP y.x),(60,.int .i64 ad),(61,.tuple #[AP kx.1,.int .i64 kx.2]),(57,.tuple #[AP kx.1,.int .i64 kx.2]),(62,AP kx.1),(63,.int .i64 kx.2)]
         ⟨yl r6 (BX hsa hpo (.slice vo ks.length vc_) rfl) Bb,yl r6 (CD y.x y.h.1) Vu,ym r5,Ae [Ao sa po (.slice vo ks.length vc_),AP y.x,.int .i64 ad] Tryz.func32 (by kernel_rfl) rq4 ⟨(oy rfl rfl),(oy rfl rfl),(oy rfl rfl),ALu⟩ (Au fun W g=>AFJ hsa hpo y.h (hr.kn g) hP hkx),ym r5,BC rq4 (fun _ _ h=>⟨_,_,h,rfl,rfl⟩),BC rq4 (fun _ _ h=>⟨_,_,h,rfl,rfl⟩),ALu⟩ fun a72 w72 g72 AHM=>?_
       replace Bb:=AC g72 Bb
       replace Bh:=AC g72 (AY g70 (AC g69 Bh) (Ne.symm SP))
       replace Ak:=AC g72 (AY g70 (AC g69 Ak) (Ne.symm QW))
       replace An:=AC g72 (AY g70 (AC g69 An) (Ne.symm QX))
       replace Ai:=AC g72 (AY g70 (AC g69 Ai) (Ne.symm Pe))
       replace hr:=hr.kn g72
       replace ho:=((ho.kn g69).offR g70 (AV Vw)).kn g72
       replace oc:=((oc.kn g69).offR g70 (AV Vx)).kn g72
       replace op:=((op.kn g69).offR g70 (AV Vy)).kn g72
       replace okk:=((okk.kn g69).offR g70 (AV Th)).kn g72
       replace HG:=AA (AD (AA HG g69) g70 ADC) g72
       refine Av (T:=23) (Z:=(bv AQ)) AHM rfl rfl rfl (fun a w=>by kernel_rfl) fun a73 w73 ALB EM g73 z73 Vz WA=>?_
       have SR:=Ar Bb EM
       have SS:=Ar Bh EM
       have QY:=Ar Ak EM
       have QZ:=Ar An EM
       have Pf:=Ar Ai EM
       have ADD:=Bt HG EM
       have WC:=A1 (hr.lt) EM
       have WD:=A1 (ho.lt) EM
       have WE:=A1 (Own.ltS oc) EM
       have WG:=A1 (Own.ltS op) EM
       have Ti:=A1 (Own.ltS okk) EM
       refine As WA r7 (CD kx.1 hkd.1) Vz (IB hkd) fun w74 g74 h74=>?_
       replace Bb:=AY g74 (AC g73 Bb) (Ne.symm SR)
       replace Bh:=AY g74 (AC g73 Bh) (Ne.symm SS)
       replace Ak:=AY g74 (AC g73 Ak) (Ne.symm QY)
       replace An:=AY g74 (AC g73 An) (Ne.symm QZ)
       replace Ai:=AY g74 (AC g73 Ai) (Ne.symm Pf)
       replace hr:=(hr.kn g73).offR g74 (AV WC)
       replace ho:=(ho.kn g73).offR g74 (AV WD)
       replace oc:=(oc.kn g73).offR g74 (AV WE)
       replace op:=(op.kn g73).offR g74 (AV WG)
       replace okk:=(okk.kn g73).offR g74 (AV Ti)
       replace HG:=AD (AA HG g73) g74 ADD
       replace Vz:=h74
       refine Aa (v:=.int .i64 kx.2) WA r6 fun a75 AJB=>?_
       have Yf:Sv _ _ [_,_,_,_,_,_,_,_,_,_,_,_,_,_,_,_,_,_,_,_,_,_,_,_,_,_,_,_,_,_,_,_,_,_,_,_,_] _:=AJB.dl [58,59,60,61,57,62,63]
       refine AE ?_
       refine k71 _ _ ?_
       refine ALo fun K77 k77=>?_
       refine ALo fun K78 k78=>?_
       by_cases he:kx.2=0
       · have hkl1:=Um hkl (by omega) hla hkx (hkd:=hkd)
         have hok1:∀j,j<i+1→(CP P (Hg own j) ad).2=0:=fun j hj=>if e:j=i then (by rw[e,hla,hkx];exact he) else hok j (by omega)
         refine ALn ?_
         refine AI Yf 2 [(64,.int .i64 kx.2),(65,.bool false)]
           ⟨ym r5,CQ r6 (fun _=>Dt (by simpa using he)),ALu⟩ fun a79 w79 g79 Tj=>?_
         refine AE ?_
         refine k78 _ _ ?_
         refine Az Tj rfl rfl ?_
         refine ALs ?_
         refine k77 _ _ ?_
         refine ALn ?_
         refine AI Tj 2 [(68,.slice ko i kc),(69,AP kx.1)]
           ⟨ym r5,yl r6 (CD kx.1 hkd.1) (AC g79 Vz),ALu⟩ fun a80 w80 g80 AAk=>?_
         have SU:=AA g79 g80
         refine Oa (cs:=bv kx.1) (e:=23) AAk rfl rfl rfl rfl rfl rfl (AC7 hkd) fun a81 w81 ALC AJb g81 z81 AHN ALD=>?_
         replace Bb:=AC g81 (AC SU Bb)
         replace Bh:=AC g81 (AC SU Bh)
         replace Ak:=AC g81 (AC SU Ak)
         replace An:=AC g81 (AC SU An)
         replace Ai:=AC g81 (AC SU Ai)
         replace hr:=(hr.kn SU).kn g81
         replace ho:=(ho.kn SU).kn g81
         replace oc:=(oc.kn SU).kn g81
         replace op:=(op.kn SU).kn g81
         replace okk:=(okk.kn SU).kn g81
         replace HG:=AA (AA HG SU) g81
         refine NZ dsT ALD rfl rfl rfl rfl rfl rfl rfl rfl okk (Ms AHN hkd) (Hl _) (by omega) fun a82 ao82 cap82 w82 owx82 Cq Qa=>?_
         have Tk:=LV Cq.2 Jj Bb
         have Tl:=LV Cq.2 Jk Bh
         have SV:=LV Cq.2 Ej Ak
         have SY:=LV Cq.2 Ek An
         have Qb:=LV Cq.2 DH Ai
         have Yg:=LY Cq.2 ap_hr_okk (hr.lt)
         have Yh:=LY Cq.2 ap_ho_okk (ho.lt)
         have QC:=LY Cq.2 ap_oc_okk (Own.ltS oc)
         have QD:=LY Cq.2 ap_op_okk (Own.ltS op)
         have ap_owx82_oc:=AET QC
         have ap_owx82_op:=AET QD
         have AFK:=AAD Cq.2 lo_okk HG
         replace Bb:=AF Cq.1 Bb (fun e=>Jj _ e.symm rfl)
         replace Bh:=AF Cq.1 Bh (fun e=>Jk _ e.symm rfl)
         replace Ak:=AF Cq.1 Ak (fun e=>Ej _ e.symm rfl)
         replace An:=AF Cq.1 An (fun e=>Ek _ e.symm rfl)
         replace Ai:=AF Cq.1 Ai (fun e=>DH _ e.symm rfl)
         replace hr:=hr.offR Cq.1 (fun k hk e=>ap_hr_okk k hk (e))
         replace ho:=ho.offR Cq.1 (fun k hk e=>ap_ho_okk k hk (e))
         replace oc:=oc.offR Cq.1 (fun k hk e=>ap_oc_okk k hk (e))
         replace op:=op.offR Cq.1 (fun k hk e=>ap_op_okk k hk (e))
         replace HG:=Bp HG Cq.1 fun k e=>lo_okk k (e)
         rw[Vr kl ⟨kx.1,hkd⟩] at owx82
         refine Aa (v:=.slice ao82 (i+1) cap82) Qa r6 fun a83 Yi=>?_
         have ADE:Sv _ _ [_,_,_,_,_,_,_,_,_,_,_,_,_,_,_,_,_,_,_,_,_,_,_,_,_,_,_,_,_,_,_,_,_,_,_,_,_,_,_] _:=Yi.dl [71,70,68,69]
         refine AE ?_
         refine y66 _ _ ?_
         refine k65 _ _ ?_
         refine ALn ?_
         refine AI ADE 1 [(72,.int .i64 (((i+1:Nat):Int)))]
           ⟨CQ r6 (fun _=>DV (by rw[BG (by omega) (by omega)];omega)),ALu⟩ fun a85 w85 g85 AAl=>?_
         refine AI (AAl.dl [53]) 1 [(53,.int .i64 (((i+1:Nat):Int)))]
           ⟨ym r5,ALu⟩ fun a86 w86 g86 EN=>?_
         have SZ:=AA g85 g86
         refine AE ?_
         replace Bb:=AC SZ Bb
         replace Bh:=AC SZ Bh
         replace Ak:=AC SZ Ak
         replace An:=AC SZ An
         replace Ai:=AC SZ Ai
         replace hr:=hr.kn SZ
         replace ho:=ho.kn SZ
         replace oc:=oc.kn SZ
         replace op:=op.kn SZ
         replace owx82:=owx82.kn SZ
         replace HG:=AA HG SZ
         exact⟨⟨i+1,ao82,cap82,(kl++[⟨kx.1,hkd⟩]),by omega,hkl1,hok1,⟨EN.1,EN.2.1,EN.2.2.1,EN.2.2.2.2.1,(AH EN).2.2.2.2.2.1,(AH EN).2.2.2.2.2.2.1,(AH EN).2.2.2.2.2.2.2.1,(AH (AH EN)).1,(AH (AH EN)).2.1,(AH (AH EN)).2.2.1,(AH (AH EN)).2.2.2.1,(AH (AH EN)).2.2.2.2.1,(AH (AH EN)).2.2.2.2.2.1,(AH (AH EN)).2.2.2.2.2.2.1,(AH (AH EN)).2.2.2.2.2.2.2.1,(AH (AH (AH EN))).1,(AH (AH (AH EN))).2.1,(AH (AH (AH EN))).2.2.1,(AH (AH (AH EN))).2.2.2.1,(AH (AH (AH EN))).2.2.2.2.1,(AH (AH (AH EN))).2.2.2.2.2.1,(AH (AH (AH EN))).2.2.2.2.2.2.1,(AH (AH (AH EN))).2.2.2.2.2.2.2.1,(AH (AH (AH (AH EN)))).1,(AH (AH (AH (AH EN)))).2.1,(AH (AH (AH (AH EN)))).2.2.1,(AH (AH (AH (AH EN)))).2.2.2.1,(AH (AH (AH (AH EN)))).2.2.2.2.1,(AH (AH (AH (AH EN)))).2.2.2.2.2.1,(AH (AH (AH (AH EN)))).2.2.2.2.2.2.1,(AH (AH (AH (AH EN)))).2.2.2.2.2.2.2.1,(AH (AH (AH (AH (AH EN))))).1,(AH (AH (AH (AH (AH EN))))).2.1,ALu⟩,HG,Bb,Bh,Ak,An,Ai,hr,ho,oc,op,owx82,Tk,Tl,SV,SY,Qb,Yg,Yh,QC,ap_owx82_oc,QD,ap_owx82_op,AFK⟩,by rw[show _=_ from EN.2.2.1,show _=_ from Lg.2.2.1];simp[intOf];omega⟩
       · have hke:=KI (P:=P) (a:=ad) (own:=own) (i:=i) (by omega) hok (by rw[hla,hkx];exact he)
         rw[hla,hkx] at hke
         refine ALn ?_
         refine AI Yf 2 [(64,.int .i64 kx.2),(65,.bool true)]
           ⟨ym r5,CQ r6 (fun _=>Dt (by simpa using he)),ALu⟩ fun a87 w87 g87 ADF=>?_
         refine AE ?_
         refine k78 _ _ ?_
         refine Ay ADF rfl rfl ?_
         refine ALo fun K88 k88=>?_
         refine ALn ?_
         replace Ak:=AC g87 Ak
         refine AI ADF 2 [(66,Bw 0 (.slice none 0 0) 0 (.slice none 0 0) (.slice none 0 0) AQ),(67,.int .i64 kx.2)]
           ⟨Ba (vs:=[]) rfl rfl trivial trivial (fun _=>AHF _) (fun _=>rfl),ym r5,ALu⟩ fun a89 w89 g89 Yj=>?_
         refine As Yj r7 (Dz _ _ AO (.slice none 0 0) (.slice none 0 0) (.slice none 0 0) rfl rfl rfl) (AC g89 Ak) (FS AO AO) fun w90 g90 h90=>?_
         replace An:=Al g89 g90 (AC g87 An) B9
         refine As Yj r7 (EU kx.2) An rfl fun w91 g91 h91=>?_
         replace Bb:=AY g91 (Al g89 g90 (AC g87 Bb) (Ne.symm Ey)) (Ne.symm E0)
         replace Bh:=AY g91 (Al g89 g90 (AC g87 Bh) (Ne.symm Ez)) (Ne.symm E2)
         replace Ak:=AY g91 h90 (Ne.symm B9)
         replace Ai:=AY g91 (Al g89 g90 (AC g87 Ai) CM) CN
         replace hr:=(((hr.kn g87).kn g89).offR g90 (AV Fv)).offR g91 (AV Fx)
         replace ho:=(((ho.kn g87).kn g89).offR g90 (AV Fw)).offR g91 (AV Fy)
         replace oc:=(((oc.kn g87).kn g89).offR g90 (AV Jf)).offR g91 (AV Jg)
         replace op:=(((op.kn g87).kn g89).offR g90 (AV Jh)).offR g91 (AV Ji)
         replace okk:=(((okk.kn g87).kn g89).offR g90 (AV Ej)).offR g91 (AV Ek)
         replace HG:=AD (AD (AA (AA HG g87) g89) g90 JA) g91 JC
         replace An:=h91
         refine AE ?_
         refine k88 _ _ ?_
         refine ALr ?_
         repeat refine AL ?_
         refine rt66 _ _ ?_
         repeat refine AL ?_
         refine rt60 _ _ ?_
         repeat refine AL ?_
         refine BU (fn:=Tryz.f20) Yj (Bj (p:=10) (q:=11) Tryz.results20 Yj rfl rfl rfl rfl (Dz _ _ AO (.slice none 0 0) (.slice none 0 0) (.slice none 0 0) rfl rfl rfl) (EU kx.2) Ak An) (Bz Tryz.func49 (by kernel_rfl) rfl _ _) (Eg _ _ _) ?_
         exact SRes.zero (AC6 hh hv hne hke he) HG
     · obtain⟨hK1,hK2⟩:=GV (P:=P) (a:=ad) (own:=own) fun j hj=>hok j (by omega)
       have hkm:kl.map DD.x=(Cf P ad own).1:=by rw[hK1,hkl,List.take_of_length_le (by omega)]
       refine ALn ?_
       refine AI Lg 1 [(54,.bool false)]
         ⟨Hc r7 (fun _=>Bv (by simp;omega)),ALu⟩ fun a92 w92 g92 WH=>?_
       refine AE ?_
       refine k62 _ _ ?_
       refine ALo fun K93 k93=>?_
       refine Az WH rfl rfl ?_
       refine wp_exit ?_
       repeat refine CW ?_
       refine x60 _ _ ?_
       refine k57 _ _ ?_
       refine ALo fun K94 k94=>?_
       have hkll:kl.length=i:=by have:=congrArg List.length hkl;simpa using this.trans (by rw[List.length_map,List.length_take];omega)
       obtain⟨ck,hcke⟩:∃c,Vf (decide (joint=1)) (kl.map DD.x)=c:=⟨_,rfl⟩
       have hck:Dg ck:=hcke▸Nk _ _
       refine ALn ?_
       refine AI WH 2 [(73,.int .i64 joint),(74,.slice ko i kc)]
         ⟨ym r5,ym r5,ALu⟩ fun a95 w95 g95 ALE=>?_
       replace okk:=(okk.kn g92).kn g95
       refine Bu ALE Tryz.func55 (by kernel_rfl) r6 (QV (AFI hkll (Own.sb okk) (by omega) hcke)) fun a96 v96 w96 hR96 Tm=>?_
       obtain⟨rfl,g96⟩:=hR96
       replace Bb:=AC g96 (AC g95 (AC g92 Bb))
       replace Bh:=AC g96 (AC g95 (AC g92 Bh))
       replace Ak:=AC g96 (AC g95 (AC g92 Ak))
       replace An:=AC g96 (AC g95 (AC g92 An))
       replace Ai:=AC g96 (AC g95 (AC g92 Ai))
       replace hr:=((hr.kn g92).kn g95).kn g96
       replace ho:=((ho.kn g92).kn g95).kn g96
       replace oc:=((oc.kn g92).kn g95).kn g96
       replace op:=((op.kn g92).kn g95).kn g96
       replace okk:=okk.kn g96
       replace HG:=AA (AA (AA HG g92) g95) g96
       refine Av (T:=23) (Z:=(bv AQ)) Tm rfl rfl rfl (fun a w=>by kernel_rfl) fun a97 w97 Sa EO g97 z97 CG AFL=>?_
       have Sb:=Ar Bb EO
       have Sc:=Ar Bh EO
       have LQ:=Ar Ak EO
       have LR:=Ar An EO
       have EP:=Ar Ai EO
       have ADG:=Bt HG EO
       have WI:=A1 (hr.lt) EO
       have WJ:=A1 (ho.lt) EO
       have WK:=A1 (Own.ltS oc) EO
       have WL:=A1 (Own.ltS op) EO
       have Tn:=A1 (Own.ltS okk) EO
       refine As AFL r7 (CD ck hck.1) CG (IB hck) fun w98 g98 h98=>?_
       replace Bb:=AY g98 (AC g97 Bb) (Ne.symm Sb)
       replace Bh:=AY g98 (AC g97 Bh) (Ne.symm Sc)
       replace Ak:=AY g98 (AC g97 Ak) (Ne.symm LQ)
       replace An:=AY g98 (AC g97 An) (Ne.symm LR)
       replace Ai:=AY g98 (AC g97 Ai) (Ne.symm EP)
       replace hr:=(hr.kn g97).offR g98 (AV WI)
       replace ho:=(ho.kn g97).offR g98 (AV WJ)
       replace oc:=(oc.kn g97).offR g98 (AV WK)
       replace op:=(op.kn g97).offR g98 (AV WL)
       replace okk:=(okk.kn g97).offR g98 (AV Tn)
       replace HG:=AD (AA HG g97) g98 ADG
       replace CG:=h98
       refine AE ?_
       refine k94 _ _ ?_
       refine ALo fun K99 k99=>?_
       refine ALo fun K100 k100=>?_
       rcases hjj with rfl|rfl
       · refine ALn ?_
         refine AI AFL 2 [(76,.int .i64 0),(77,.bool false)]
           ⟨ym r5,CQ r6 (fun _=>Bi rfl),ALu⟩ fun a101 w101 g101 ND=>?_
         refine AE ?_
         refine k100 _ _ ?_
         refine Az ND rfl rfl ?_
         refine ALs ?_
         refine k99 _ _ ?_
         refine ALo fun K102 k102=>?_
         refine ALn ?_
         refine AI ND 2 [(93,.slice ao36 ((B6 x)).length cap36),(94,AP ck)]
           ⟨ym r5,yl r6 (CD ck hck.1) (AC g101 CG),ALu⟩ fun a103 w103 g103 QE=>?_
         have LS:=AA g101 g103
         replace Ak:=AC LS Ak
         replace An:=AC LS An
         replace Ai:=AC LS Ai
         replace op:=op.kn LS
         replace HG:=AA HG LS
         refine Bu QE Tryz.func57 (by kernel_rfl) r6 (Uk (Kq (B6 x) (Je x) (by have:=Ip x;omega) _ _ ck hck _ (Own.sb op))) fun a104 v104 w104 hR104 Og=>?_
         obtain⟨ao104,cap104,rfl,_⟩:=(Sl.of_own hR104.1).shape
         obtain⟨ow104,fr104⟩:=hR104
         replace fr104:=En fr104
         have oy_:=ow104
         clear ow104
         have g104:=fr104.1
         replace fr104:=fr104.2
         have Kr:=CK fr104 Ak
         have Ks:=CK fr104 An
         have Ff:=CK fr104 Ai
         have lo_oy_:=LO HG fr104
         replace Ai:=AC g104 Ai
         refine AI Og 1 [(96,pk Eh 4)]
           ⟨yf r6 (fun _=>by kernel_rfl),ALu⟩ fun a105 w105 g105 ABq=>?_
         refine NB (L:=[[.int .i64 ad],[.slice ao29 ds.length cap29],[.int .i64 0],[.slice none 0 0],[.slice none 0 0],bv AQ]) (i:=4) ABq r7 (IR (.slice ao104 ((Jv (B6 x) ck)).length cap104) rfl) (AC g105 Ai) rfl rfl rfl fun w106 g106 h106=>?_
         replace CG:=Al g105 g106 (AC g104 (AC LS CG)) EP
         replace Ai:=h106
         have AFM:Sv _ _ [_,_,_,_,_,_,_,_,_,_,_,_,_,_,_,_,_,_,_,_,_,_,_,_,_,_,_,_,_,_,_,_,_,_,_,_,_,_] _:=ABq.dl [96,95,93,94]
         refine AE ?_
         refine k102 _ _ ?_
         refine ALo fun K108 k108=>?_
         refine ALn ?_
         refine AI AFM 4 [(97,AP ck),(98,.int .i64 ad),(99,pk Eh 4),(100,.slice ao104 ((Jv (B6 x) ck)).length cap104)]
           ⟨yl r6 (CD ck hck.1) CG,ym r5,yf r6 (fun _=>by kernel_rfl),yp (i:=4) r6 (IR (.slice ao104 ((Jv (B6 x) ck)).length cap104) rfl) Ai rfl rfl,ALu⟩ fun a109 w109 g109 AFN=>?_
         replace oy_:=((oy_.kn g105).offR g106 (AV Ff)).kn g109
         refine Bu AFN Tryz.func58 (by kernel_rfl) r6 (QV (Hj ck hck ad hia (Jv (B6 x) ck) (SE _ (Je x)) (by have:=Ip x;rw[Kp];omega) _ _ _ (Own.sb oy_))) fun a110 v110 w110 hR110 JD=>?_
         obtain⟨rfl,g110⟩:=hR110
         replace Ai:=AC g110 (AC g109 Ai)
         have ABr:Sv _ _ [_,_,_,_,_,_,_,_,_,_,_,_,_,_,_,_,_,_,_,_,_,_,_,_,_,_,_,_,_,_,_,_,_,_,_,_,_,_,_] _:=JD.dl [97,98,99,100]
         refine AI ABr 1 [(102,pk Eh 5)]
           ⟨yf r6 (fun _=>by kernel_rfl),ALu⟩ fun a112 w112 g112 AH2=>?_
         refine NB (L:=[[.int .i64 ad],[.slice ao29 ds.length cap29],[.int .i64 0],[.slice none 0 0],[.slice ao104 ((Jv (B6 x) ck)).length cap104],bv AQ]) (i:=5) AH2 r7 (CD ((Vg ck ad (Jv (B6 x) ck))) (Ef _ _ _).1) (AC g112 Ai) rfl rfl (ABX AO (Ef _ _ _)) fun w113 g113 h113=>?_
         replace Ak:=Al g112 g113 (AC g110 (AC g109 (Al g105 g106 (AC g104 Ak) (Ne.symm CM)))) (Ne.symm CM)
         replace Ai:=h113
         refine AE ?_
         refine k108 _ _ ?_
         refine ALo fun K114 k114=>?_
         refine ALn ?_
         refine AI AH2 1 [(103,Bw ad (.slice ao29 ds.length cap29) 0 (.slice none 0 0) (.slice ao104 ((Jv (B6 x) ck)).length cap104) ((Vg ck ad (Jv (B6 x) ck))))]
           ⟨yl r6 (Dz _ _ (Ef _ _ _) (.slice ao29 ds.length cap29) (.slice none 0 0) (.slice ao104 ((Jv (B6 x) ck)).length cap104) rfl rfl rfl) Ai,ALu⟩ fun a115 w115 g115 Se=>?_
         refine As Se r7 (Dz _ _ (Ef _ _ _) (.slice ao29 ds.length cap29) (.slice none 0 0) (.slice ao104 ((Jv (B6 x) ck)).length cap104) rfl rfl rfl) (AC g115 Ak) (FS AO (Ef _ _ _)) fun w116 g116 h116=>?_
         replace An:=Al g115 g116 (Al g112 g113 (AC g110 (AC g109 (Al g105 g106 (AC g104 An) (Ne.symm CN)))) (Ne.symm CN)) B9
         refine As Se r7 (EU 0) An rfl fun w117 g117 h117=>?_
         replace Bb:=AY g117 (Al g115 g116 (Al g112 g113 (AC g110 (AC g109 (Al g105 g106 (AC g104 (AC LS Bb)) (Ne.symm EJ)))) (Ne.symm EJ)) (Ne.symm Ey)) (Ne.symm E0)
         replace Bh:=AY g117 (Al g115 g116 (Al g112 g113 (AC g110 (AC g109 (Al g105 g106 (AC g104 (AC LS Bh)) (Ne.symm EK)))) (Ne.symm EK)) (Ne.symm Ez)) (Ne.symm E2)
         replace Ak:=AY g117 h116 (Ne.symm B9)
         replace Ai:=AY g117 (Al g115 g116 Ai CM) CN
         replace CG:=AY g117 (Al g115 g116 (Al g112 g113 (AC g110 (AC g109 CG)) EP) LQ) LR
         replace hr:=((((((((((hr.kn LS).kn g104).kn g105).offR g106 (AV FT)).kn g109).kn g110).kn g112).offR g113 (AV FT)).kn g115).offR g116 (AV Fv)).offR g117 (AV Fx)
         replace ho:=((((((((((ho.kn LS).kn g104).kn g105).offR g106 (AV FU)).kn g109).kn g110).kn g112).offR g113 (AV FU)).kn g115).offR g116 (AV Fw)).offR g117 (AV Fy)
         replace oc:=((((((((((oc.kn LS).kn g104).kn g105).offR g106 (AV D1)).kn g109).kn g110).kn g112).offR g113 (AV D1)).kn g115).offR g116 (AV Jf)).offR g117 (AV Jg)
         replace op:=(((((((((op.kn g104).kn g105).offR g106 (AV Ei)).kn g109).kn g110).kn g112).offR g113 (AV Ei)).kn g115).offR g116 (AV Jh)).offR g117 (AV Ji)
         replace okk:=((((((((((okk.kn LS).kn g104).kn g105).offR g106 (AV DH)).kn g109).kn g110).kn g112).offR g113 (AV DH)).kn g115).offR g116 (AV Ej)).offR g117 (AV Ek)
         replace oy_:=(((((oy_.kn g110).kn g112).offR g113 (AV Ff)).kn g115).offR g116 (AV Kr)).offR g117 (AV Ks)
         replace HG:=AD (AD (AA (AD (AA (AA (AA (AD (AA (AA HG g104) g105) g106 F4) g109) g110) g112) g113 F4) g115) g116 JA) g117 JC
         replace An:=h117
         refine AE ?_
         refine k114 _ _ ?_
         refine ALr ?_
         repeat refine AL ?_
         refine BU (fn:=Tryz.f20) Se (Bj (p:=10) (q:=11) Tryz.results20 Se rfl rfl rfl rfl (Dz _ _ (Ef _ _ _) (.slice ao29 ds.length cap29) (.slice none 0 0) (.slice ao104 ((Jv (B6 x) ck)).length cap104) rfl rfl rfl) (EU 0) Ak An) (Bz Tryz.func49 (by kernel_rfl) rfl _ _) (Eg _ _ _) ?_
         exact SRes.mk (own:=ds) (wr:=[]) (Ev hh hv hne hK2 hkm hcke) rfl rfl rfl hown rfl oc (Own.nil _ _ _) oy_ lo_oc (fun k hk=>by simp[Bq,Value.ownBlock] at hk) lo_oy_ (fun k _ hk=>by simp[Bq,Value.ownBlock] at hk) (Ef _ _ _) (SE _ (Je x)) HG rfl
       · refine ALn ?_
         refine AI AFL 2 [(76,.int .i64 1),(77,.bool true)]
           ⟨ym r5,CQ r6 (fun _=>Bi rfl),ALu⟩ fun a118 w118 g118 AH3=>?_
         refine AE ?_
         refine k100 _ _ ?_
         refine Ay AH3 rfl rfl ?_
         refine ALo fun K119 k119=>?_
         refine ALn ?_
         refine AI AH3 3 [(78,.slice ko i kc),(79,.int .i64 ((i:Nat))),(80,.int .i64 0)]
           ⟨ym r5,CB (Tryz.underlying28) rfl rfl trivial (oy rfl rfl) (fun _=>rfl),FE (.inl rfl) rfl trivial (fun _=>rfl),ALu⟩ fun a120 w120 g120 Cm=>?_
         have LU:=AA g118 g120
         refine AE ?_
         refine k119 _ _ ?_
         refine BM fun Q121 x121 y121 rt121 o121=>?_
         replace Bb:=AC LU Bb
         replace Bh:=AC LU Bh
         replace Ak:=AC LU Ak
         replace An:=AC LU An
         replace Ai:=AC LU Ai
         replace CG:=AC LU CG
         replace hr:=hr.kn LU
         replace ho:=ho.kn LU
         replace oc:=oc.kn LU
         replace op:=op.kn LU
         replace okk:=okk.kn LU
         replace HG:=AA HG LU
         have ow:=Own.nil w120 23 32
         have Ku:=LZ Vs
         have Kv:=LZ Vt
         have Hw:=LZ I9
         have Hx:=LZ JB
         have FV:=LZ Eh
         have Ie:=LZ Sa
         have ap_hr_ow:=La (KX (.slice vo ks.length vc_) ks)
         have ap_ho_ow:=La (Bq (.slice ao ds.length ac))
         have ap_oc_ow:=La (Bq (.slice ao29 ds.length cap29))
         have ap_ow_oc:=AEU (Bq (.slice ao29 ds.length cap29))
         have ap_op_ow:=La (Bq (.slice ao36 ((B6 x)).length cap36))
         have ap_ow_op:=AEU (Bq (.slice ao36 ((B6 x)).length cap36))
         have ap_okk_ow:=La (Bq (.slice ko i kc))
         have ap_ow_okk:=AEU (Bq (.slice ko i kc))
         have lo_ow:=ACe w
         refine wp_loop (fun a w'=>∃(j:Nat) (wo:Option Addr) (wc:Nat),(j≤i)∧Sv 104 [{ target:=.fn (.func 49) #[pt I9,pt JB],args:=#[] }] [(80,.int .i64 ((j:Int))),(78,.slice ko i kc),(79,.int .i64 ((i:Nat))),(76,.int .i64 1),(77,.bool true),(19,pt Sa),(75,AP ck),(73,.int .i64 1),(74,.slice ko i kc),(54,.bool false),(53,.int .i64 ((i:Int))),(14,.slice ko i kc),(51,.slice ao ds.length ac),(52,.int .i64 ((ds.length:Nat))),(41,.slice ao ds.length ac),(42,.int .i64 ((ds.length:Nat))),(43,.bool false),(13,.slice ao36 ((B6 x)).length cap36),(40,.slice ao36 ((B6 x)).length cap36),(39,BR x),(12,pt Eh),(23,.slice ao ds.length ac),(24,.int .i64 1),(25,.int .i64 ad),(26,.bool true),(27,.bool false),(28,.bool false),(29,Ao sa po (.slice vo ks.length vc_)),(30,.bool true),(31,.bool false),(32,.bool false),(22,.func (.func 49) #[] #[pt I9,pt JB]),(11,pt JB),(10,pt I9),(9,pt Vt),(5,pt Vs),(0,Ao sa po (.slice vo ks.length vc_)),(1,.slice ao ds.length ac),(2,.int .i64 1),(3,.int .i64 ad),(4,BR x)] a∧w.grownBy w' none∧w'.heap[Vs]?=some (.cells ([bv sa,bv po,[.slice vo ks.length vc_]].flatten).toArray 36 (0,0))∧w'.heap[Vt]?=some (.cells (vc x).toArray 25 (0,0))∧w'.heap[I9]?=some (.cells (([[.int .i64 0],[.slice none 0 0],[.int .i64 0],[.slice none 0 0],[.slice none 0 0],bv AQ].flatten)).toArray 31 (0,0))∧w'.heap[JB]?=some (.cells ([.int .i64 0]).toArray 38 (0,0))∧w'.heap[Eh]?=some (.cells ([[.int .i64 ad],[.slice ao29 ds.length cap29],[.int .i64 1],[.slice wo j wc],[.slice none 0 0],bv AQ].flatten).toArray 31 (0,0))∧w'.heap[Sa]?=some (.cells (bv ck).toArray 23 (0,0))∧RdK w' (.slice vo ks.length vc_) ks∧RdD w' (.slice ao ds.length ac) ds∧Own w' 23 32 (.slice ao29 ds.length cap29) ds.length (ds.flatMap ML)∧Own w' 5 1 (.slice ao36 ((B6 x)).length cap36) (((B6 x)).length) (bv ((B6 x)))∧Own w' 23 32 (.slice ko i kc) i (kl.flatMap ML)∧Own w' 23 32 (.slice wo j wc) j (((wrL ck hck kl j)).flatMap ML)∧(∀k,Bq (.slice wo j wc) k→k≠Vs)∧(∀k,Bq (.slice wo j wc) k→k≠Vt)∧(∀k,Bq (.slice wo j wc) k→k≠I9)∧(∀k,Bq (.slice wo j wc) k→k≠JB)∧(∀k,Bq (.slice wo j wc) k→k≠Eh)∧(∀k,Bq (.slice wo j wc) k→k≠Sa)∧(∀k,KX (.slice vo ks.length vc_) ks k→¬Bq (.slice wo j wc) k)∧(∀k,Bq (.slice ao ds.length ac) k→¬Bq (.slice wo j wc) k)∧(∀k,Bq (.slice ao29 ds.length cap29) k→¬Bq (.slice wo j wc) k)∧(∀k,Bq (.slice wo j wc) k→¬Bq (.slice ao29 ds.length cap29) k)∧(∀k,Bq (.slice ao36 ((B6 x)).length cap36) k→¬Bq (.slice wo j wc) k)∧(∀k,Bq (.slice wo j wc) k→¬Bq (.slice ao36 ((B6 x)).length cap36) k)∧(∀k,Bq (.slice ko i kc) k→¬Bq (.slice wo j wc) k)∧(∀k,Bq (.slice wo j wc) k→¬Bq (.slice ko i kc) k)∧(∀k,Bq (.slice wo j wc) k→w.heap.size≤k)) (fun a _=>(i-intOf (a.tmps.getD 80 undef)).toNat) ⟨0,none,0,Nat.zero_le _,⟨Cm.1,Cm.2.1,Cm.2.2.2.2.1,Cm.2.2.1,Cm.2.2.2.1,Cm.2.2.2.2.2.1,Cm.2.2.2.2.2.2.1,Cm.2.2.2.2.2.2.2.1,(AH Cm).1,(AH Cm).2.1,(AH Cm).2.2.1,(AH Cm).2.2.2.1,(AH Cm).2.2.2.2.1,(AH Cm).2.2.2.2.2.1,(AH Cm).2.2.2.2.2.2.1,(AH Cm).2.2.2.2.2.2.2.1,(AH (AH Cm)).1,(AH (AH Cm)).2.1,(AH (AH Cm)).2.2.1,(AH (AH Cm)).2.2.2.1,(AH (AH Cm)).2.2.2.2.1,(AH (AH Cm)).2.2.2.2.2.1,(AH (AH Cm)).2.2.2.2.2.2.1,(AH (AH Cm)).2.2.2.2.2.2.2.1,(AH (AH (AH Cm))).1,(AH (AH (AH Cm))).2.1,(AH (AH (AH Cm))).2.2.1,(AH (AH (AH Cm))).2.2.2.1,(AH (AH (AH Cm))).2.2.2.2.1,(AH (AH (AH Cm))).2.2.2.2.2.1,(AH (AH (AH Cm))).2.2.2.2.2.2.1,(AH (AH (AH Cm))).2.2.2.2.2.2.2.1,(AH (AH (AH (AH Cm)))).1,(AH (AH (AH (AH Cm)))).2.1,(AH (AH (AH (AH Cm)))).2.2.1,(AH (AH (AH (AH Cm)))).2.2.2.1,(AH (AH (AH (AH Cm)))).2.2.2.2.1,(AH (AH (AH (AH Cm)))).2.2.2.2.2.1,(AH (AH (AH (AH Cm)))).2.2.2.2.2.2.1,(AH (AH (AH (AH Cm)))).2.2.2.2.2.2.2.1,(AH (AH (AH (AH (AH Cm))))).1,(AH (AH (AH (AH (AH Cm))))).2.1,(AH (AH (AH (AH (AH Cm))))).2.2.1,ALu⟩,HG,Bb,Bh,Ak,An,Ai,CG,hr,ho,oc,op,okk,ow,Ku,Kv,Hw,Hx,FV,Ie,ap_hr_ow,ap_ho_ow,ap_oc_ow,ap_ow_oc,ap_op_ow,ap_ow_op,ap_okk_ow,ap_ow_okk,lo_ow⟩ fun a122 w122 hI122=>?_
         clear Bb
         clear Bh
         clear Ak
         clear An
         clear Ai
         clear CG
         clear hr
         clear ho
         clear oc
         clear op
         clear okk
         clear ow
         clear HG
         obtain⟨j,wo,wc,hjn,AFO,HG,Bb,Bh,Ak,An,Ai,CG,hr,ho,oc,op,okk,ow,Ku,Kv,Hw,Hx,FV,Ie,ap_hr_ow,ap_ho_ow,ap_oc_ow,ap_ow_oc,ap_op_ow,ap_ow_op,ap_okk_ow,ap_ow_okk,lo_ow⟩:=hI122
         refine ALo fun K123 k123=>?_
         by_cases hjl:j<i
         · have hjk:j<kl.length:=by omega
           obtain⟨ky,hx_ky⟩:∃zx,kl[j]'hjk=zx:=⟨_,rfl⟩
           refine ALn ?_
           refine AI AFO 1 [(81,.bool true)]
            ⟨Hc r7 (fun _=>Bv (by simp;omega)),ALu⟩ fun a124 w124 g124 AH4=>?_
           refine AE ?_
           refine k123 _ _ ?_
           refine ALo fun K125 k125=>?_
           refine Ay AH4 rfl rfl ?_
           refine ALs ?_
           refine k125 _ _ ?_
           refine ALo fun K126 k126=>?_
           refine BM fun Q127 x127 y127 rt127 o127=>?_
           refine ALo fun K128 k128=>?_
           refine ALn ?_
           replace okk:=okk.kn g124
           refine AI AH4 2 [(82,pk ((bO ko)) (oO ko+j*32)),(83,AP ky.x)]
            ⟨BV rq8 (fun w=>Ce Tryz.underlying28 (by kernel_rfl) ((Sl.of_own okk)) (by omega) (rfl) w),CE r6 (fun _ g=>Ac (CD ky.x ky.h.1) (by have:=Dq (Sl.of_own (okk.kn g)) Hh hjk (by decide);rw[hx_ky] at this;exact this)),ALu⟩ fun a129 w129 g129 AKO=>?_
           replace Bb:=AC g129 (AC g124 Bb)
           replace Bh:=AC g129 (AC g124 Bh)
           replace Ak:=AC g129 (AC g124 Ak)
           replace An:=AC g129 (AC g124 An)
           replace Ai:=AC g129 (AC g124 Ai)
           replace CG:=AC g129 (AC g124 CG)
           replace hr:=(hr.kn g124).kn g129
           replace ho:=(ho.kn g124).kn g129
           replace oc:=(oc.kn g124).kn g129
           replace op:=(op.kn g124).kn g129
           replace okk:=okk.kn g129
           replace ow:=(ow.kn g124).kn g129
           replace HG:=AA (AA HG g124) g129
           refine Av (T:=23) (Z:=(bv AQ)) AKO rfl rfl rfl (fun a w=>by kernel_rfl) fun a130 w130 AHO DA g130 z130 Oh AH5=>?_
           have Qc:=Ar Bb DA
           have Qd:=Ar Bh DA
           have Pg:=Ar Ak DA
           have Ph:=Ar An DA
           have Oi:=Ar Ai DA
           have Oj:=Ar CG DA
           have AAm:=Bt HG DA
           have To:=A1 (hr.lt) DA
           have Tp:=A1 (ho.lt) DA
           have Tq:=A1 (Own.ltS oc) DA
           have Tr:=A1 (Own.ltS op) DA
           have Sf:=A1 (Own.ltS okk) DA
           have Ts:=A1 (Own.ltS ow) DA
           refine As AH5 r7 (CD ky.x ky.h.1) Oh (IB ky.h) fun w131 g131 h131=>?_
           replace Bb:=AY g131 (AC g130 Bb) (Ne.symm Qc)
           replace Bh:=AY g131 (AC g130 Bh) (Ne.symm Qd)
           replace Ak:=AY g131 (AC g130 Ak) (Ne.symm Pg)
           replace An:=AY g131 (AC g130 An) (Ne.symm Ph)
           replace Ai:=AY g131 (AC g130 Ai) (Ne.symm Oi)
           replace CG:=AY g131 (AC g130 CG) (Ne.symm Oj)
           replace ow:=(ow.kn g130).offR g131 (AV Ts)
           replace HG:=AD (AA HG g130) g131 AAm
           replace Oh:=h131
           refine AE ?_
           refine k128 _ _ ?_
           refine DZ (AH5.st w131) (by kernel_rfl) 6 [(84,Sp.is (pk Eh 3)),(85,Sp.is (.slice wo j wc)),(86,Sp.is (AP ck)),(87,Sp.is (AP ky.x)),(88,Sp.is (AP ((NC ck ky.x)))),(89,Sp.lit1 w131.heap.size 23 (bv (NC ck ky.x)))] rfl (by kernel_rfl) (by kernel_rfl) (by kernel_rfl) [] (by kernel_rfl)
            ⟨yf r6 (fun _=>by kernel_rfl),yp (i:=3) r6 (M4 (.slice wo j wc) rfl) Ai rfl rfl,yl r6 (CD ck hck.1) CG,yl r6 (CD ky.x ky.h.1) Oh,Ae [AP ck,AP ky.x] Tryz.func56 (by kernel_rfl) rq4 ⟨(oy rfl rfl),(oy rfl rfl),ALu⟩ (Au fun W g=>OZ ck ky.x hck ky.h W),Qn rfl rfl trivial (Nat.le_refl _) rfl (fun W hw v h=>match v,h with|_,⟨rfl,_⟩=>⟨bv (NC ck ky.x),AC7 (Nl hck ky.h) W,fun w' _ hh=>⟨_,rfl,hw.size,hh⟩⟩),ALu⟩ trivial
            [] (by kernel_rfl) trivial ⟨.inl rfl,.inl rfl,.inl rfl,.inl rfl,.inl rfl,.inl rfl,ALu⟩ (by kernel_rfl) fun a132 w132 g132 st132 nd132=>?_
           obtain⟨hn132,hd132,e132_84,e132_85,e132_86,e132_87,e132_88,e132_89,e132_21,e132_82,e132_83,e132_81,e132_80,e132_78,e132_79,e132_76,e132_77,e132_19,e132_75,e132_73,e132_74,e132_54,e132_53,e132_14,e132_51,e132_52,e132_41,e132_42,e132_43,e132_13,e132_40,e132_39,e132_12,e132_23,e132_24,e132_25,e132_26,e132_27,e132_28,e132_29,e132_30,e132_31,e132_32,e132_22,e132_11,e132_10,e132_9,e132_5,e132_0,e132_1,e132_2,e132_3,e132_4,-⟩:=st132
           obtain⟨V,e132_89q,geV,HV⟩:=e132_89
           have AJc:V≠Vs:=Nat.ne_of_gt (Nat.lt_of_lt_of_le (Array.getElem?_eq_some_iff.1 Bb).1 geV)
           have AJd:V≠Vt:=Nat.ne_of_gt (Nat.lt_of_lt_of_le (Array.getElem?_eq_some_iff.1 Bh).1 geV)
           have AJC:V≠I9:=Nat.ne_of_gt (Nat.lt_of_lt_of_le (Array.getElem?_eq_some_iff.1 Ak).1 geV)
           have AJD:V≠JB:=Nat.ne_of_gt (Nat.lt_of_lt_of_le (Array.getElem?_eq_some_iff.1 An).1 geV)
           have Yk:V≠Eh:=Nat.ne_of_gt (Nat.lt_of_lt_of_le (Array.getElem?_eq_some_iff.1 Ai).1 geV)
           have AH6:V≠Sa:=Nat.ne_of_gt (Nat.lt_of_lt_of_le (Array.getElem?_eq_some_iff.1 CG).1 geV)
           have AHP:V≠AHO:=Nat.ne_of_gt (Nat.lt_of_lt_of_le (Array.getElem?_eq_some_iff.1 Oh).1 geV)
           have lo_V:w.heap.size≤V:=Nat.le_trans HG.size geV
           have ap_ow_V:=Ly (Own.ltS ow) geV
           replace Bb:=AC g132 Bb
           replace Bh:=AC g132 Bh
           replace Ak:=AC g132 Ak
           replace An:=AC g132 An
           replace Ai:=AC g132 Ai
           replace CG:=AC g132 CG
           replace hr:=((hr.kn g130).offR g131 (AV To)).kn g132
           replace ho:=((ho.kn g130).offR g131 (AV Tp)).kn g132
           replace oc:=((oc.kn g130).offR g131 (AV Tq)).kn g132
           replace op:=((op.kn g130).offR g131 (AV Tr)).kn g132
           replace okk:=((okk.kn g130).offR g131 (AV Sf)).kn g132
           replace ow:=ow.kn g132
           replace HG:=AA HG g132
           have AKP:Sv 104 [{ target:=.fn (.func 49) #[pt I9,pt JB],args:=#[] }] [(21,_),(82,_),(83,_),(81,_),(80,_),(78,_),(79,_),(76,_),(77,_),(19,_),(75,_),(73,_),(74,_),(54,_),(53,_),(14,_),(51,_),(52,_),(41,_),(42,_),(43,_),(13,_),(40,_),(39,_),(12,_),(23,_),(24,_),(25,_),(26,_),(27,_),(28,_),(29,_),(30,_),(31,_),(32,_),(22,_),(11,_),(10,_),(9,_),(5,_),(0,_),(1,_),(2,_),(3,_),(4,_),(85,_),(89,_)] a132:=⟨hn132,hd132,e132_21,e132_82,e132_83,e132_81,e132_80,e132_78,e132_79,e132_76,e132_77,e132_19,e132_75,e132_73,e132_74,e132_54,e132_53,e132_14,e132_51,e132_52,e132_41,e132_42,e132_43,e132_13,e132_40,e132_39,e132_12,e132_23,e132_24,e132_25,e132_26,e132_27,e132_28,e132_29,e132_30,e132_31,e132_32,e132_22,e132_11,e132_10,e132_9,e132_5,e132_0,e132_1,e132_2,e132_3,e132_4,e132_85,e132_89q,ALu⟩
           refine NZ dsT AKP rfl rfl rfl rfl rfl rfl rfl rfl ow (Ms HV (Nl hck ky.h)) (Hl _) (by omega) fun a133 ao133 cap133 w133 owx133 Cq AKQ=>?_
           have Sg:=LV Cq.2 Ku Bb
           have Sh:=LV Cq.2 Kv Bh
           have Qe:=LV Cq.2 Hw Ak
           have Qf:=LV Cq.2 Hx An
           have KM:=LV Cq.2 FV Ai
           have Pi:=LV Cq.2 Ie CG
           have WM:=LY Cq.2 ap_hr_ow (hr.lt)
           have WN:=LY Cq.2 ap_ho_ow (ho.lt)
           have Ok:=LY Cq.2 ap_oc_ow (Own.ltS oc)
           have Ol:=LY Cq.2 ap_op_ow (Own.ltS op)
           have NE:=LY Cq.2 ap_okk_ow (Own.ltS okk)
           have ap_owx133_oc:=AET Ok
           have ap_owx133_op:=AET Ol
           have ap_owx133_okk:=AET NE
           have ADH:=AAD Cq.2 lo_ow HG
           replace Ai:=AF Cq.1 Ai (fun e=>FV _ e.symm rfl)
           rw[AFH hck hjk hx_ky] at owx133
           refine AI AKQ 1 [(91,pk Eh 3)]
            ⟨yf r6 (fun _=>by kernel_rfl),ALu⟩ fun a134 w134 g134 AH7=>?_
           refine NB (L:=[[.int .i64 ad],[.slice ao29 ds.length cap29],[.int .i64 1],[.slice wo j wc],[.slice none 0 0],bv AQ]) (i:=3) AH7 r7 (M4 (.slice ao133 (j+1) cap133) rfl) (AC g134 Ai) rfl rfl rfl fun w135 g135 h135=>?_
           replace Bb:=Al g134 g135 (AF Cq.1 Bb (fun e=>Ku _ e.symm rfl)) (Ne.symm EJ)
           replace Bh:=Al g134 g135 (AF Cq.1 Bh (fun e=>Kv _ e.symm rfl)) (Ne.symm EK)
           replace Ak:=Al g134 g135 (AF Cq.1 Ak (fun e=>Hw _ e.symm rfl)) (Ne.symm CM)
           replace An:=Al g134 g135 (AF Cq.1 An (fun e=>Hx _ e.symm rfl)) (Ne.symm CN)
           replace CG:=Al g134 g135 (AF Cq.1 CG (fun e=>Ie _ e.symm rfl)) EP
           replace HV:=Al g134 g135 (AF Cq.1 HV (fun e=>ap_ow_V _ e.symm rfl)) Yk
           replace hr:=((hr.offR Cq.1 (fun k hk e=>ap_hr_ow k hk (e))).kn g134).offR g135 (AV FT)
           replace ho:=((ho.offR Cq.1 (fun k hk e=>ap_ho_ow k hk (e))).kn g134).offR g135 (AV FU)
           replace oc:=((oc.offR Cq.1 (fun k hk e=>ap_oc_ow k hk (e))).kn g134).offR g135 (AV D1)
           replace op:=((op.offR Cq.1 (fun k hk e=>ap_op_ow k hk (e))).kn g134).offR g135 (AV Ei)
           replace okk:=((okk.offR Cq.1 (fun k hk e=>ap_okk_ow k hk (e))).kn g134).offR g135 (AV DH)
           replace HG:=AD (AA (Bp HG Cq.1 fun k e=>lo_ow k (e)) g134) g135 F4
           have AKR:Sv _ _ [_,_,_,_,_,_,_,_,_,_,_,_,_,_,_,_,_,_,_,_,_,_,_,_,_,_,_,_,_,_,_,_,_,_,_,_,_,_,_,_,_,_,_,_,_] _:=AH7.dl [91,90,85,89]
           refine AE ?_
           refine y127 _ _ ?_
           refine k126 _ _ ?_
           refine ALn ?_
           refine AI AKR 1 [(92,.int .i64 (((j+1:Nat):Int)))]
            ⟨CQ r6 (fun _=>DV (by rw[BG (by omega) (by omega)];omega)),ALu⟩ fun a137 w137 g137 AKS=>?_
           refine AI (AKS.dl [80]) 1 [(80,.int .i64 (((j+1:Nat):Int)))]
            ⟨ym r5,ALu⟩ fun a138 w138 g138 Ch=>?_
           have Jl:=AA g137 g138
           refine AE ?_
           replace Bb:=AC Jl Bb
           replace Bh:=AC Jl Bh
           replace Ak:=AC Jl Ak
           replace An:=AC Jl An
           replace Ai:=AC Jl h135
           replace CG:=AC Jl CG
           replace HV:=AC Jl HV
           replace hr:=hr.kn Jl
           replace ho:=ho.kn Jl
           replace oc:=oc.kn Jl
           replace op:=op.kn Jl
           replace okk:=okk.kn Jl
           replace owx133:=((owx133.kn g134).offR g135 (AV KM)).kn Jl
           replace HG:=AA HG Jl
           exact⟨⟨j+1,ao133,cap133,by omega,⟨Ch.1,Ch.2.1,Ch.2.2.1,(AH Ch).1,(AH Ch).2.1,(AH Ch).2.2.1,(AH Ch).2.2.2.1,(AH Ch).2.2.2.2.1,(AH Ch).2.2.2.2.2.1,(AH Ch).2.2.2.2.2.2.1,(AH Ch).2.2.2.2.2.2.2.1,(AH (AH Ch)).1,(AH (AH Ch)).2.1,(AH (AH Ch)).2.2.1,(AH (AH Ch)).2.2.2.1,(AH (AH Ch)).2.2.2.2.1,(AH (AH Ch)).2.2.2.2.2.1,(AH (AH Ch)).2.2.2.2.2.2.1,(AH (AH Ch)).2.2.2.2.2.2.2.1,(AH (AH (AH Ch))).1,(AH (AH (AH Ch))).2.1,(AH (AH (AH Ch))).2.2.1,(AH (AH (AH Ch))).2.2.2.1,(AH (AH (AH Ch))).2.2.2.2.1,(AH (AH (AH Ch))).2.2.2.2.2.1,(AH (AH (AH Ch))).2.2.2.2.2.2.1,(AH (AH (AH Ch))).2.2.2.2.2.2.2.1,(AH (AH (AH (AH Ch)))).1,(AH (AH (AH (AH Ch)))).2.1,(AH (AH (AH (AH Ch)))).2.2.1,(AH (AH (AH (AH Ch)))).2.2.2.1,(AH (AH (AH (AH Ch)))).2.2.2.2.1,(AH (AH (AH (AH Ch)))).2.2.2.2.2.1,(AH (AH (AH (AH Ch)))).2.2.2.2.2.2.1,(AH (AH (AH (AH Ch)))).2.2.2.2.2.2.2.1,(AH (AH (AH (AH (AH Ch))))).1,(AH (AH (AH (AH (AH Ch))))).2.1,(AH (AH (AH (AH (AH Ch))))).2.2.1,(AH (AH (AH (AH (AH Ch))))).2.2.2.1,(AH (AH (AH (AH (AH Ch))))).2.2.2.2.1,(AH (AH (AH (AH (AH Ch))))).2.2.2.2.2.1,(AH (AH (AH (AH (AH Ch))))).2.2.2.2.2.2.1,(AH (AH (AH (AH (AH Ch))))).2.2.2.2.2.2.2.1,ALu⟩,HG,Bb,Bh,Ak,An,Ai,CG,hr,ho,oc,op,okk,owx133,Sg,Sh,Qe,Qf,KM,Pi,WM,WN,Ok,ap_owx133_oc,Ol,ap_owx133_op,NE,ap_owx133_okk,ADH⟩,by rw[show _=_ from Ch.2.2.1,show _=_ from AFO.2.2.1];simp[intOf];omega⟩
         · have hwr:(wrL ck hck kl j).map DD.x=kl.map fun z=>NC ck z.x:=AHK (by omega)
           refine ALn ?_
           refine AI AFO 1 [(81,.bool false)]
            ⟨Hc r7 (fun _=>Bv (by simp;omega)),ALu⟩ fun a139 w139 g139 AH8=>?_
           refine AE ?_
           refine k123 _ _ ?_
           refine ALo fun K140 k140=>?_
           refine Az AH8 rfl rfl ?_
           refine wp_exit ?_
           repeat refine CW ?_
           refine x121 _ _ ?_
           refine k99 _ _ ?_
           refine ALo fun K141 k141=>?_
           refine ALn ?_
           refine AI AH8 2 [(93,.slice ao36 ((B6 x)).length cap36),(94,AP ck)]
            ⟨ym r5,yl r6 (CD ck hck.1) (AC g139 CG),ALu⟩ fun a142 w142 g142 AKT=>?_
           have Om:=AA g139 g142
           replace Ak:=AC Om Ak
           replace An:=AC Om An
           replace Ai:=AC Om Ai
           replace op:=op.kn Om
           replace HG:=AA HG Om
           refine Bu AKT Tryz.func57 (by kernel_rfl) r6 (Uk (Kq (B6 x) (Je x) (by have:=Ip x;omega) _ _ ck hck _ (Own.sb op))) fun a143 v143 w143 hR143 AKU=>?_
           obtain⟨ao143,cap143,rfl,_⟩:=(Sl.of_own hR143.1).shape
           obtain⟨ow143,fr143⟩:=hR143
           replace fr143:=En fr143
           have oy_:=ow143
           clear ow143
           have g143:=fr143.1
           replace fr143:=fr143.2
           have Kr:=CK fr143 Ak
           have Ks:=CK fr143 An
           have Ff:=CK fr143 Ai
           have lo_oy_:=LO HG fr143
           replace Ai:=AC g143 Ai
           refine AI AKU 1 [(96,pk Eh 4)]
            ⟨yf r6 (fun _=>by kernel_rfl),ALu⟩ fun a144 w144 g144 AH9=>?_
           refine NB (L:=[[.int .i64 ad],[.slice ao29 ds.length cap29],[.int .i64 1],[.slice wo j wc],[.slice none 0 0],bv AQ]) (i:=4) AH9 r7 (IR (.slice ao143 ((Jv (B6 x) ck)).length cap143) rfl) (AC g144 Ai) rfl rfl rfl fun w145 g145 h145=>?_
           replace CG:=Al g144 g145 (AC g143 (AC Om CG)) EP
           replace Ai:=h145
           have AKV:Sv _ _ [_,_,_,_,_,_,_,_,_,_,_,_,_,_,_,_,_,_,_,_,_,_,_,_,_,_,_,_,_,_,_,_,_,_,_,_,_,_,_,_,_,_] _:=AH9.dl [96,95,93,94]
           refine AE ?_
           refine k141 _ _ ?_
           refine ALo fun K147 k147=>?_
           refine ALn ?_
           refine AI AKV 4 [(97,AP ck),(98,.int .i64 ad),(99,pk Eh 4),(100,.slice ao143 ((Jv (B6 x) ck)).length cap143)]
            ⟨yl r6 (CD ck hck.1) CG,ym r5,yf r6 (fun _=>by kernel_rfl),yp (i:=4) r6 (IR (.slice ao143 ((Jv (B6 x) ck)).length cap143) rfl) Ai rfl rfl,ALu⟩ fun a148 w148 g148 AKW=>?_
           replace oy_:=((oy_.kn g144).offR g145 (AV Ff)).kn g148
           refine Bu AKW Tryz.func58 (by kernel_rfl) r6 (QV (Hj ck hck ad hia (Jv (B6 x) ck) (SE _ (Je x)) (by have:=Ip x;rw[Kp];omega) _ _ _ (Own.sb oy_))) fun a149 v149 w149 hR149 AKX=>?_
           obtain⟨rfl,g149⟩:=hR149
           replace Ai:=AC g149 (AC g148 Ai)
           have AKY:Sv _ _ [_,_,_,_,_,_,_,_,_,_,_,_,_,_,_,_,_,_,_,_,_,_,_,_,_,_,_,_,_,_,_,_,_,_,_,_,_,_,_,_,_,_,_] _:=AKX.dl [97,98,99,100]
           refine AI AKY 1 [(102,pk Eh 5)]
            ⟨yf r6 (fun _=>by kernel_rfl),ALu⟩ fun a151 w151 g151 AIA=>?_
           refine NB (L:=[[.int .i64 ad],[.slice ao29 ds.length cap29],[.int .i64 1],[.slice wo j wc],[.slice ao143 ((Jv (B6 x) ck)).length cap143],bv AQ]) (i:=5) AIA r7 (CD ((Vg ck ad (Jv (B6 x) ck))) (Ef _ _ _).1) (AC g151 Ai) rfl rfl (ABX AO (Ef _ _ _)) fun w152 g152 h152=>?_
           replace Ak:=Al g151 g152 (AC g149 (AC g148 (Al g144 g145 (AC g143 Ak) (Ne.symm CM)))) (Ne.symm CM)
           replace Ai:=h152
           refine AE ?_
           refine k147 _ _ ?_
           refine ALo fun K153 k153=>?_
           refine ALn ?_
           refine AI AIA 1 [(103,Bw ad (.slice ao29 ds.length cap29) 1 (.slice wo j wc) (.slice ao143 ((Jv (B6 x) ck)).length cap143) ((Vg ck ad (Jv (B6 x) ck))))]
            ⟨yl r6 (Dz _ _ (Ef _ _ _) (.slice ao29 ds.length cap29) (.slice wo j wc) (.slice ao143 ((Jv (B6 x) ck)).length cap143) rfl rfl rfl) Ai,ALu⟩ fun a154 w154 g154 ABs=>?_
           refine As ABs r7 (Dz _ _ (Ef _ _ _) (.slice ao29 ds.length cap29) (.slice wo j wc) (.slice ao143 ((Jv (B6 x) ck)).length cap143) rfl rfl rfl) (AC g154 Ak) (FS AO (Ef _ _ _)) fun w155 g155 h155=>?_
           replace An:=Al g154 g155 (Al g151 g152 (AC g149 (AC g148 (Al g144 g145 (AC g143 An) (Ne.symm CN)))) (Ne.symm CN)) B9
           refine As ABs r7 (EU 0) An rfl fun w156 g156 h156=>?_
           replace Ak:=AY g156 h155 (Ne.symm B9)
           replace oc:=((((((((((oc.kn Om).kn g143).kn g144).offR g145 (AV D1)).kn g148).kn g149).kn g151).offR g152 (AV D1)).kn g154).offR g155 (AV Jf)).offR g156 (AV Jg)
           replace op:=(((((((((op.kn g143).kn g144).offR g145 (AV Ei)).kn g148).kn g149).kn g151).offR g152 (AV Ei)).kn g154).offR g155 (AV Jh)).offR g156 (AV Ji)
           replace okk:=((((((((((okk.kn Om).kn g143).kn g144).offR g145 (AV DH)).kn g148).kn g149).kn g151).offR g152 (AV DH)).kn g154).offR g155 (AV Ej)).offR g156 (AV Ek)
           replace ow:=((((((((((ow.kn Om).kn g143).kn g144).offR g145 (AV FV)).kn g148).kn g149).kn g151).offR g152 (AV FV)).kn g154).offR g155 (AV Hw)).offR g156 (AV Hx)
           replace oy_:=(((((oy_.kn g149).kn g151).offR g152 (AV Ff)).kn g154).offR g155 (AV Kr)).offR g156 (AV Ks)
           replace HG:=AD (AD (AA (AD (AA (AA (AA (AD (AA (AA HG g143) g144) g145 F4) g148) g149) g151) g152 F4) g154) g155 JA) g156 JC
           replace An:=h156
           refine AE ?_
           refine k153 _ _ ?_
           refine ALr ?_
           repeat refine AL ?_
           refine BU (fn:=Tryz.f20) ABs (Bj (p:=10) (q:=11) Tryz.results20 ABs rfl rfl rfl rfl (Dz _ _ (Ef _ _ _) (.slice ao29 ds.length cap29) (.slice wo j wc) (.slice ao143 ((Jv (B6 x) ck)).length cap143) rfl rfl rfl) (EU 0) Ak An) (Bz Tryz.func49 (by kernel_rfl) rfl _ _) (Eg _ _ _) ?_
           exact SRes.mk (own:=ds) (wr:=(wrL ck hck kl j)) (Ev hh hv hne hK2 hkm hcke) rfl (AHL (by omega)) rfl hown (hwr.trans (AC8 kl ck)) oc ow oy_ lo_oc lo_ow lo_oy_ ap_oc_ow (Ef _ _ _) (SE _ (Je x)) HG rfl
end Go.Proofs.YtbfjfnbcmojpiaaGreat
