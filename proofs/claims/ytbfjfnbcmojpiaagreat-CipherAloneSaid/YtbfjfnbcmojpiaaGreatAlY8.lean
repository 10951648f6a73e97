import Derived.Test.YtbfjfnbcmojpiaaGreatAlY7
set_option linter.unusedSimpArgs false
set_option linter.unusedVariables false
set_option maxRecDepth 100000
set_option maxHeartbeats 4000000
namespace Go.Proofs.YtbfjfnbcmojpiaaGreat
open Go.RowKit Go.Shelf
theorem EY (p q:Value) (w:World):CallsD Tryz.prog 49 #[p,q] .returning w fun e u' w'=>e=.returned (.tuple #[])∧u'=.returning∧w'=w:=by
 refine callsD_of_wpS Tryz.func49 rfl fun c₀ cs hu=>?_
 apply wpS_seq
 apply wpS_region
 simp[wpOpsS,go_sem,recoverD,hu,Tryz.ntmps49,Exit.thenS]
 refine wpS_cond (t:=false) (by simp[Act.eval,Array.replicate]) ?_
 simp only[Bool.false_eq_true,if_false]
 refine wpS_of_wp (AL3 ?_)
 cases c₀
 simp_all [bodyPostS,results,Tryz.results49]
theorem Dr (p q:Value) (w:World):CallsD Tryz.prog 60 #[p,q] .returning w fun e u' w'=>e=.returned (.tuple #[])∧u'=.returning∧w'=w:=by
 refine callsD_of_wpS Tryz.func60 rfl fun c₀ cs hu=>?_
 apply wpS_seq
 apply wpS_region
 simp[wpOpsS,go_sem,recoverD,hu,Tryz.ntmps60,Exit.thenS]
 refine wpS_cond (t:=false) (by simp[Act.eval,Array.replicate]) ?_
 simp only[Bool.false_eq_true,if_false]
 refine wpS_of_wp (AL3 ?_)
 cases c₀
 simp_all [bodyPostS,results,Tryz.results60]
def SRes (w w':World) (r:Sd×Int) (e:Ending):Prop:=
 ∃(own wr:List DD) (ao wo bo:Option Addr) (ac wc bc:Nat),e=.returned (.tuple #[B9 r.1.addr (.slice ao own.length ac) r.1.joint (.slice wo wr.length wc) (.slice bo r.1.body.length bc) r.1.tag,.int .i64 r.2])∧own.map DD.x=r.1.own∧wr.map DD.x=r.1.wr ∧
  Own w' 23 32 (.slice ao own.length ac) own.length (own.flatMap LM)∧Own w' 23 32 (.slice wo wr.length wc) wr.length (wr.flatMap LM)∧Own w' 5 1 (.slice bo r.1.body.length bc) r.1.body.length (bv r.1.body) ∧
  (∀k,Bk (.slice ao own.length ac) k→w.heap.size≤k)∧(∀k,Bk (.slice wo wr.length wc) k→w.heap.size≤k)∧(∀k,Bk (.slice bo r.1.body.length bc) k→w.heap.size≤k)∧(∀k,Bk (.slice ao own.length ac) k→¬Bk (.slice wo wr.length wc) k)∧Dg r.1.tag∧By r.1.body∧w.grownBy w' none
theorem SRes.mk {w w':World} {r:Sd×Int} {s:Sd} {er:Int} {own wr:List DD} {ao wo bo:Option Addr} {ac wc bc n m l:Nat} (hr:r=(s,er)) (hn:own.length=n) (hm:wr.length=m) (hl:s.body.length=l) (h1:own.map DD.x=s.own) (h2:wr.map DD.x=s.wr)
  (h3:Own w' 23 32 (.slice ao n ac) n (own.flatMap LM)) (h4:Own w' 23 32 (.slice wo m wc) m (wr.flatMap LM)) (h5:Own w' 5 1 (.slice bo l bc) l (bv s.body)) (f1:∀k,Bk (.slice ao n ac) k→w.heap.size≤k) (f2:∀k,Bk (.slice wo m wc) k→w.heap.size≤k) (f3:∀k,Bk (.slice bo l bc) k→w.heap.size≤k) (f4:∀k,Bk (.slice ao n ac) k→¬Bk (.slice wo m wc) k)
  (ht:Dg s.tag) (hb:By s.body) (g:w.grownBy w' none) {v:Value} (hv:v=B9 s.addr (.slice ao n ac) s.joint (.slice wo m wc) (.slice bo l bc) s.tag):SRes w w' r (.returned (.tuple #[v,.int .i64 er])):=by
 subst hr hn hm hl hv
 exact⟨own,wr,ao,wo,bo,ac,wc,bc,rfl,h1,h2,h3,h4,h5,f1,f2,f3,f4,ht,hb,g⟩
theorem SRes.zero {w w':World} {r:Sd×Int} {er:Int} (hr:r=(Sd.zero,er)) (g:w.grownBy w' none):SRes w w' r (.returned (.tuple #[B9 0 (.slice none 0 0) 0 (.slice none 0 0) (.slice none 0 0) AR,.int .i64 er])):=
 SRes.mk (own:=[]) (wr:=[]) (ao:=none) (wo:=none) (bo:=none) (ac:=0) (wc:=0) (bc:=0) hr rfl rfl rfl rfl rfl (Own.nil _ _ _) (Own.nil _ _ _) (Own.nil _ _ _) (fun k hk=>by simp[Bk,Value.ownBlock] at hk) (fun k hk=>by simp[Bk,Value.ownBlock] at hk) (fun k hk=>by simp[Bk,Value.ownBlock] at hk) (fun k hk=>by simp[Bk,Value.ownBlock] at hk) AO (fun b hb=>by simp[Sd.zero] at hb) g rfl
theorem OP {P:List VP} {own:List (List Nat)} {joint a:Int} {x:V} (h:hd own joint a=false∨CK P=false):Fm P own joint a x=(Sd.zero,1):=by
 unfold Fm
 rcases h with h|h<;>simp[h]
theorem Jb {P:List VP} {joint a:Int} {x:V} (h1:hd [] joint a=true) (h2:CK P=true):Fm P [] joint a x=(⟨a,[],joint,[],Bq x,tgC a (Bq x)⟩,0):=by
 unfold Fm
 simp[h1,h2]
theorem AC3 {P:List VP} {own:List (List Nat)} {joint a:Int} {x:V} {e:Int} (h1:hd own joint a=true) (h2:CK P=true) (h3:own≠[]) (h4:(Ck P a own).2=e) (h5:e≠0):Fm P own joint a x=(Sd.zero,e):=by
 unfold Fm
 simp[h1,h2,h3,h4,h5]
theorem Fa {P:List VP} {own:List (List Nat)} {joint a:Int} {x:V} {K:List (List Nat)} {c:List Nat} (h1:hd own joint a=true) (h2:CK P=true) (h3:own≠[]) (h4:(Ck P a own).2=0) (h5:K=(Ck P a own).1) (h6:Wp (decide (joint=1)) K=c) :
  Fm P own joint a x=(⟨a,own,joint,if joint=1 then K.map (Mr c) else [],Ja (Bq x) c,Wq c a (Ja (Bq x) c)⟩,0):=by
 subst h5
 subst h6
 unfold Fm
 simp[h1,h2,h3,h4]
theorem LR {P:List VP} {a:Int}:∀{own:List (List Nat)},(∀j,j<own.length→(Co P (Ls own j) a).2=0)→(Ck P a own).1=own.map (fun z=>(Co P z a).1)∧(Ck P a own).2=0
 | [],_=>⟨rfl,rfl⟩
 | o::l,h=>by
  have h0:(Co P o a).2=0:=h 0 (by simp)
  obtain⟨h1,h2⟩:=LR (own:=l) fun j hj=>h (j+1) (by simpa using hj)
  unfold Ck
  rw[if_pos h0]
  exact⟨by rw[h1];rfl,h2⟩
theorem Lw {P:List VP} {a:Int}:∀{own:List (List Nat)} {i:Nat},i<own.length→(∀j,j<i→(Co P (Ls own j) a).2=0)→(Co P (Ls own i) a).2≠0→(Ck P a own).2=(Co P (Ls own i) a).2
 | [],i,hi,_,_=>by simp at hi
 | o::l,0,_,_,h=>by
  have h0:(Co P o a).2≠0:=h
  unfold Ck
  rw[if_neg h0]
  rfl
 | o::l,i+1,hi,hj,h=>by
  have h0:(Co P o a).2=0:=hj 0 (by omega)
  have:=Lw (own:=l) (i:=i) (by simpa using hi) (fun j hjj=>hj (j+1) (by omega)) h
  unfold Ck
  rw[if_pos h0]
  exact this
theorem Uj {P:List VP} {a:Int} {own:List (List Nat)} {i:Nat} {kl:List DD} {y:List Nat} {kx:List Nat×Int} (h:kl.map DD.x=(own.take i).map fun z=>(Co P z a).1) (hi:i<own.length) (hla:Ls own i=y) (hkx:Co P y a=kx) {hkd:Dg kx.1}:(kl++[(⟨kx.1,hkd⟩:DD)]).map DD.x=(own.take (i+1)).map fun z=>(Co P z a).1:=by
 rw[List.take_add_one,List.getElem?_eq_getElem hi,List.map_append,List.map_append,h]
 rw[AAX hi] at hla
 simp[hla,hkx]
theorem Vn (kl:List DD) (d:DD):kl.flatMap LM++bv d.x=(kl++[d]).flatMap LM:=by rw[List.flatMap_append];simp[LM]
theorem Lx {w:World} {B:Nat} {d:List Nat} {t:TypeId} {fr:Nat×Nat} (h:w.heap[B]?=some (.cells (bv d).toArray t fr)) (hd:Dg d):Sl w 32 (.slice (some ⟨B,0,none⟩) 1 1) 1 (bv d):=by
 refine⟨by rw[AI,hd.1],_,_,rfl,Nat.le_refl _,by decide,fun h=>(by cases h),fun ad had=>?_⟩
 obtain rfl:=Option.some.inj had
 refine⟨fun _=>rfl,fun j u hu=>?_⟩
 have:=Ac h j u hu
 simpa using this
theorem AC4 {d:List Nat} (hd:Dg d) (W:World):(Instr.buildSlice 28 1 #[(0,AP d)]).run Tryz.prog W=.ok (.slice (some ⟨W.heap.size,0,none⟩) 1 1) (W.alloc (.cells (bv d).toArray 23)):=by
 obtain⟨x0,x1,x2,x3,x4,x5,x6,x7,x8,x9,x10,x11,x12,x13,x14,x15,x16,x17,x18,x19,x20,x21,x22,x23,x24,x25,x26,x27,x28,x29,x30,x31,rfl⟩:=II _ hd.1
 kernel_rfl
theorem Mt {c y:List Nat} (hc:Dg c) (hy:Dg y):Dg (Mr c y):=AE1 hc (BR 283 y)
def wrL (c:List Nat) (hc:Dg c) (kl:List DD) (j:Nat):List DD:=(kl.take j).map fun z=>⟨Mr c z.x,Mt hc z.h⟩
theorem AFC {c:List Nat} (hc:Dg c) {kl:List DD} {j:Nat} {z:DD} (hj:j<kl.length) (hz:kl[j]=z):(wrL c hc kl j).flatMap LM++bv (Mr c z.x)=(wrL c hc kl (j+1)).flatMap LM:=by
 unfold wrL
 rw[List.take_add_one,List.getElem?_eq_getElem hj,hz,List.map_append,List.flatMap_append]
 simp[LM]
theorem AHK {c:List Nat} {hc:Dg c} {kl:List DD} {j:Nat} (hj:kl.length≤j):(wrL c hc kl j).map DD.x=kl.map fun z=>Mr c z.x:=by
 unfold wrL
 rw[List.take_of_length_le hj,List.map_map]
 rfl
theorem AHL {c:List Nat} {hc:Dg c} {kl:List DD} {j:Nat} (hj:j≤kl.length):(wrL c hc kl j).length=j:=by
 unfold wrL
 rw[List.length_map,List.length_take]
 omega
theorem AFD {w:World} {kl:List DD} {n:Nat} {ko:Option Addr} {kc:Nat} {joint:Int} {c:List Nat} (hn:kl.length=n) (hr:SlB w 32 (.slice ko n kc) n (kl.flatMap LM)) (hl:n≤1000) (hc:Wp (decide (joint=1)) (kl.map DD.x)=c):Calls Tryz.prog 55 #[.int .i64 joint,.slice ko n kc] w fun e w'=>e=.returned (AP c)∧w.grownBy w' none:=by
 subst hn hc
 exact ACz joint kl ko kc w hr hl
theorem RdK.noks2 {w:World} {v:Value} {ks:List VK} (h:RdK w v ks):∀i,i<(ks.map VK.p).length→∀n∈tr (ks.map VK.p) i,Nok n:=fun i hi n hn=>by
 have hi':i<ks.length:=by simpa using hi
 rw[VL hi'] at hn
 exact(h.2 _ (List.getElem_mem hi')).2.1 n hn
theorem RZ {P:List VP} {o:List Nat} {a:Int} (h:∀i,i<P.length→∀n∈tr P i,Nok n):Dg (Co P o a).1:=by
 unfold Co
 split
 · split
   · rename_i hf
     exact Lh (h _ (Jl hf).1) a
   · exact AO
 · exact AO
theorem AFE {w:World} {ks:List VK} {vo:Option Addr} {vc:Nat} {sa po o:List Nat} {P:List VP} {a:Int} {q:List Nat×Int} (hsa:Dg sa) (hpo:Dg po) (ho:Dg o) (hk:RdK w (.slice vo ks.length vc) ks) (hm:ks.map VK.p=P) (hres:Co P o a=q) :
 Calls Tryz.prog 32 #[Am sa po (.slice vo ks.length vc),AP o,.int .i64 a] w fun e w'=>e=.returned (.tuple #[AP q.1,.int .i64 q.2])∧w.grownBy w' none:=AH6 hsa hpo ho hk hm hres
theorem QJ {w:World} {ds:List DD} {own:List (List Nat)} {ao:Option Addr} {cap:Nat} {joint addr:Int} {b:Bool} (hr:RdD w (.slice ao ds.length cap) ds) (hown:ds.map DD.x=own) (hb:hd own joint addr=b):Calls Tryz.prog 50 #[.slice ao ds.length cap,.int .i64 joint,.int .i64 addr] w fun e w'=>e=.returned (.bool b)∧w.grownBy w' none:=QH hr (hown▸hb)
theorem I2 (x:V):By (Bq x):=fun b hb=>AF5 _ b hb
theorem AC5 (kl:List DD) (c:List Nat):(kl.map fun z=>Mr c z.x)=(kl.map DD.x).map (Mr c):=by rw[List.map_map];rfl
theorem AC6 (ks:List VK) (vo:Option Addr) (vc_:Nat) (sa po:List Nat) (hsa:Dg sa) (hpo:Dg po) (ds:List DD) (ao:Option Addr) (ac:Nat) (joint ad:Int) (x:V) (w:World) (hr:RdK w (.slice vo ks.length vc_) ks) (ho:RdD w (.slice ao ds.length ac) ds) (hdl:ds.length≤1000) :
   Calls Tryz.prog 20 #[Am sa po (.slice vo ks.length vc_),.slice ao ds.length ac,.int .i64 joint,.int .i64 ad,CH x] w fun e w'=>SRes w w' (Fm (ks.map VK.p) (ds.map DD.x) joint ad x) e:=by
 obtain⟨P,hP⟩:∃P,ks.map VK.p=P:=⟨_,rfl⟩
 obtain⟨own,hown⟩:∃own,ds.map DD.x=own:=⟨_,rfl⟩
 have hownl:own.length=ds.length:=by rw[←hown,List.length_map]
 have hnok:=hr.noks2
 rw[hP] at hnok
 rw[hP,hown]
 refine Dm Tryz.func20 rfl Tryz.ntmps20 rfl fun a0 sv0=>?_
 have HG:=World.grownBy.refl w none
 replace sv0:Sv 104 [] [(0,Am sa po (.slice vo ks.length vc_)),(1,.slice ao ds.length ac),(2,.int .i64 joint),(3,.int .i64 ad),(4,CH x)] a0:=sv0
 refine ALz fun K1 k1=>?_
 refine ALy ?_
 refine Bj sv0 r6 (Bb hsa hpo (.slice vo ks.length vc_) rfl) fun a2 w2 Vo AK2 g2 z2 BQ sv2=>?_
 refine Bj sv2 r6 (En x) fun a3 w3 Vp AK3 g3 z3 BV sv3=>?_
 replace BQ:=AC g3 BQ
 replace hr:=(hr.kn g2).kn g3
 replace ho:=(ho.kn g2).kn g3
 replace HG:=AA (AA HG g2) g3
 refine Ar (T:=31) (Z:=([[.int .i64 0],[.slice none 0 0],[.int .i64 0],[.slice none 0 0],[.slice none 0 0],bv AR].flatten)) sv3 rfl rfl rfl (fun a w=>by kernel_rfl) fun a4 w4 Ib LS g4 z4 Ai sv4=>?_
 have Ej:=An BQ LS
 have Ek:=An BV LS
 have Ic:=Bt HG LS
 have Fo:=Au (hr.lt) LS
 have Fp:=Au (ho.lt) LS
 replace BQ:=AC g4 BQ
 replace BV:=AC g4 BV
 replace hr:=hr.kn g4
 replace ho:=ho.kn g4
 replace HG:=AA HG g4
 refine Ar (T:=38) (Z:=[.int .i64 0]) sv4 rfl rfl rfl (fun a w=>by kernel_rfl) fun a5 w5 Ie Jc g5 z5 Al sv5=>?_
 have El:=An BQ Jc
 have Em:=An BV Jc
 have Bw:=An Ai Jc
 have Ig:=Bt HG Jc
 have Fq:=Au (hr.lt) Jc
 have Fs:=Au (ho.lt) Jc
 replace BQ:=AC g5 BQ
 replace BV:=AC g5 BV
 replace Ai:=AC g5 Ai
 replace hr:=hr.kn g5
 replace ho:=ho.kn g5
 replace HG:=AA HG g5
 refine AE ?_
 refine k1 _ _ ?_
 refine ALz fun K6 k6=>?_
 refine ALy ?_
 refine Fl sv5 rfl rfl rfl rfl rfl rfl fun a7 sv7=>?_
 refine Ef sv7 rfl (dd:={ target:=.fn (.func 49) #[pt Ib,pt Ie],args:=#[] }) rfl (by have e1:=sv7.ev (x:=.tmp 22) rfl rfl;simp[execOp,resolve,Deferred.ofValue,e1];try rfl) fun a8 sv8=>?_
 refine AE ?_
 refine k6 _ _ ?_
 refine ALz fun K9 k9=>?_
 refine ALz fun K10 k10=>?_
 rcases(show(hd own joint ad=false∧CK P=false)∨(hd own joint ad=false∧CK P=true)∨(hd own joint ad=true∧CK P=false)∨(hd own joint ad=true∧CK P=true) by cases hd own joint ad<;>cases CK P<;>simp) with ⟨hh,hv⟩|⟨hh,hv⟩|⟨hh,hv⟩|⟨hh,hv⟩
 · refine ALy ?_
   refine AJ sv8 10 [(23,.slice ao ds.length ac),(24,.int .i64 joint),(25,.int .i64 ad),(26,.bool false),(27,.bool true),(28,.bool true),(29,undef),(30,undef),(31,undef),(32,.bool true)]
     ⟨ym r5,ym r5,ym r5,Ae [.slice ao ds.length ac,.int .i64 joint,.int .i64 ad] Tryz.func50 (by kernel_rfl) rq4 ⟨(oy rfl rfl),(oy rfl rfl),(oy rfl rfl),AL5⟩ (Ap fun W g=>QJ (ho.kn g) hown hh),DG r6 (fun _=>Bf),ym r5,AZ r6,AZ r6,AZ r6,CL r7,AL5⟩ fun a11 w11 g11 Cc=>?_
   refine AE ?_
   refine k10 _ _ ?_
   refine Aw Cc rfl rfl ?_
   refine ALz fun K12 k12=>?_
   refine ALy ?_
   replace Ai:=AC g11 Ai
   refine AJ Cc 1 [(33,B9 0 (.slice none 0 0) 0 (.slice none 0 0) (.slice none 0 0) AR)]
     ⟨BU (vs:=[]) rfl rfl trivial trivial (fun _=>AHF _) (fun _=>rfl),AL5⟩ fun a13 w13 g13 Dy=>?_
   refine Ao Dy r7 (EJ _ _ AO (.slice none 0 0) (.slice none 0 0) (.slice none 0 0) rfl rfl rfl) (AC g13 Ai) (FL AO AO) fun w14 g14 h14=>?_
   replace Al:=Aj g13 g14 (AC g11 Al) Bw
   refine Ao Dy r7 (EH 1) Al rfl fun w15 g15 h15=>?_
   replace BQ:=AX g15 (Aj g13 g14 (AC g11 BQ) (Ne.symm Ej)) (Ne.symm El)
   replace BV:=AX g15 (Aj g13 g14 (AC g11 BV) (Ne.symm Ek)) (Ne.symm Em)
   replace Ai:=AX g15 h14 (Ne.symm Bw)
   replace hr:=(((hr.kn g11).kn g13).offR g14 (AU Fo)).offR g15 (AU Fq)
   replace ho:=(((ho.kn g11).kn g13).offR g14 (AU Fp)).offR g15 (AU Fs)
   replace HG:=AD (AD (AA (AA HG g11) g13) g14 Ic) g15 Ig
   replace Al:=h15
   refine AE ?_
   refine k12 _ _ ?_
   refine AL2 ?_
   repeat refine AL ?_
   refine BK (fn:=Tryz.f20) Dy (Ba (p:=10) (q:=11) Tryz.results20 Dy rfl rfl rfl rfl (EJ _ _ AO (.slice none 0 0) (.slice none 0 0) (.slice none 0 0) rfl rfl rfl) (EH 1) Ai Al) (Bn Tryz.func49 (by kernel_rfl) rfl _ _) (EY _ _ _) ?_
   exact SRes.zero (OP (.inl hh)) HG
 · refine ALy ?_
   refine AJ sv8 10 [(23,.slice ao ds.length ac),(24,.int .i64 joint),(25,.int .i64 ad),(26,.bool false),(27,.bool true),(28,.bool true),(29,undef),(30,undef),(31,undef),(32,.bool true)]
     ⟨ym r5,ym r5,ym r5,Ae [.slice ao ds.length ac,.int .i64 joint,.int .i64 ad] Tryz.func50 (by kernel_rfl) rq4 ⟨(oy rfl rfl),(oy rfl rfl),(oy rfl rfl),AL5⟩ (Ap fun W g=>QJ (ho.kn g) hown hh),DG r6 (fun _=>Bf),ym r5,AZ r6,AZ r6,AZ r6,CL r7,AL5⟩ fun a16 w16 g16 DJ=>?_
   refine AE ?_
   refine k10 _ _ ?_
   refine Aw DJ rfl rfl ?_
   refine ALz fun K17 k17=>?_
   refine ALy ?_
   replace Ai:=AC g16 Ai
   refine AJ DJ 1 [(33,B9 0 (.slice none 0 0) 0 (.slice none 0 0) (.slice none 0 0) AR)]
     ⟨BU (vs:=[]) rfl rfl trivial trivial (fun _=>AHF _) (fun _=>rfl),AL5⟩ fun a18 w18 g18 CZ=>?_
   refine Ao CZ r7 (EJ _ _ AO (.slice none 0 0) (.slice none 0 0) (.slice none 0 0) rfl rfl rfl) (AC g18 Ai) (FL AO AO) fun w19 g19 h19=>?_
   replace Al:=Aj g18 g19 (AC g16 Al) Bw
   refine Ao CZ r7 (EH 1) Al rfl fun w20 g20 h20=>?_
   replace BQ:=AX g20 (Aj g18 g19 (AC g16 BQ) (Ne.symm Ej)) (Ne.symm El)
   replace BV:=AX g20 (Aj g18 g19 (AC g16 BV) (Ne.symm Ek)) (Ne.symm Em)
   replace Ai:=AX g20 h19 (Ne.symm Bw)
   replace hr:=(((hr.kn g16).kn g18).offR g19 (AU Fo)).offR g20 (AU Fq)
   replace ho:=(((ho.kn g16).kn g18).offR g19 (AU Fp)).offR g20 (AU Fs)
   replace HG:=AD (AD (AA (AA HG g16) g18) g19 Ic) g20 Ig
   replace Al:=h20
   refine AE ?_
   refine k17 _ _ ?_
   refine AL2 ?_
   repeat refine AL ?_
   refine BK (fn:=Tryz.f20) CZ (Ba (p:=10) (q:=11) Tryz.results20 CZ rfl rfl rfl rfl (EJ _ _ AO (.slice none 0 0) (.slice none 0 0) (.slice none 0 0) rfl rfl rfl) (EH 1) Ai Al) (Bn Tryz.func49 (by kernel_rfl) rfl _ _) (EY _ _ _) ?_
   exact SRes.zero (OP (.inl hh)) HG
 · refine ALy ?_
   refine AJ sv8 10 [(23,.slice ao ds.length ac),(24,.int .i64 joint),(25,.int .i64 ad),(26,.bool true),(27,.bool false),(28,.bool false),(29,Am sa po (.slice vo ks.length vc_)),(30,.bool false),(31,.bool true),(32,.bool true)]
     ⟨ym r5,ym r5,ym r5,Ae [.slice ao ds.length ac,.int .i64 joint,.int .i64 ad] Tryz.func50 (by kernel_rfl) rq4 ⟨(oy rfl rfl),(oy rfl rfl),(oy rfl rfl),AL5⟩ (Ap fun W g=>QJ (ho.kn g) hown hh),DG r6 (fun _=>Bf),ym r5,Aq rq9 (fun _ g=>Ab (Bb hsa hpo (.slice vo ks.length vc_) rfl) (Ac (AF g BQ (by simp)))),B7 [Am sa po (.slice vo ks.length vc_)] Tryz.func51 (by kernel_rfl) r7 ⟨(oy rfl rfl),AL5⟩ (Ap fun W g=>NN hsa hpo (hr.kn g) hP hv),Ha rfl rfl (gy rfl rfl rfl) (oy rfl rfl) (fun _=>Bf) (fun _=>rfl),A2 rq9,AL5⟩ fun a21 w21 g21 Di=>?_
   refine AE ?_
   refine k10 _ _ ?_
   refine Aw Di rfl rfl ?_
   refine ALz fun K22 k22=>?_
   refine ALy ?_
   replace Ai:=AC g21 Ai
   refine AJ Di 1 [(33,B9 0 (.slice none 0 0) 0 (.slice none 0 0) (.slice none 0 0) AR)]
     ⟨BU (vs:=[]) rfl rfl trivial trivial (fun _=>AHF _) (fun _=>rfl),AL5⟩ fun a23 w23 g23 Cw=>?_
   refine Ao Cw r7 (EJ _ _ AO (.slice none 0 0) (.slice none 0 0) (.slice none 0 0) rfl rfl rfl) (AC g23 Ai) (FL AO AO) fun w24 g24 h24=>?_
   replace Al:=Aj g23 g24 (AC g21 Al) Bw
   refine Ao Cw r7 (EH 1) Al rfl fun w25 g25 h25=>?_
   replace BQ:=AX g25 (Aj g23 g24 (AC g21 BQ) (Ne.symm Ej)) (Ne.symm El)
   replace BV:=AX g25 (Aj g23 g24 (AC g21 BV) (Ne.symm Ek)) (Ne.symm Em)
   replace Ai:=AX g25 h24 (Ne.symm Bw)
   replace hr:=(((hr.kn g21).kn g23).offR g24 (AU Fo)).offR g25 (AU Fq)
   replace ho:=(((ho.kn g21).kn g23).offR g24 (AU Fp)).offR g25 (AU Fs)
   replace HG:=AD (AD (AA (AA HG g21) g23) g24 Ic) g25 Ig
   replace Al:=h25
   refine AE ?_
   refine k22 _ _ ?_
   refine AL2 ?_
   repeat refine AL ?_
   refine BK (fn:=Tryz.f20) Cw (Ba (p:=10) (q:=11) Tryz.results20 Cw rfl rfl rfl rfl (EJ _ _ AO (.slice none 0 0) (.slice none 0 0) (.slice none 0 0) rfl rfl rfl) (EH 1) Ai Al) (Bn Tryz.func49 (by kernel_rfl) rfl _ _) (EY _ _ _) ?_
   exact SRes.zero (OP (.inr hv)) HG
 · obtain⟨haa,hjj,hol,hasc⟩:=ABi hh
   have hia:QQ ad:=⟨by omega,by omega⟩
   refine ALy ?_
   refine AJ sv8 10 [(23,.slice ao ds.length ac),(24,.int .i64 joint),(25,.int .i64 ad),(26,.bool true),(27,.bool false),(28,.bool false),(29,Am sa po (.slice vo ks.length vc_)),(30,.bool true),(31,.bool false),(32,.bool false)]
     ⟨ym r5,ym r5,ym r5,Ae [.slice ao ds.length ac,.int .i64 joint,.int .i64 ad] Tryz.func50 (by kernel_rfl) rq4 ⟨(oy rfl rfl),(oy rfl rfl),(oy rfl rfl),AL5⟩ (Ap fun W g=>QJ (ho.kn g) hown hh),DG r6 (fun _=>Bf),ym r5,Aq rq9 (fun _ g=>Ab (Bb hsa hpo (.slice vo ks.length vc_) rfl) (Ac (AF g BQ (by simp)))),B7 [Am sa po (.slice vo ks.length vc_)] Tryz.func51 (by kernel_rfl) r7 ⟨(oy rfl rfl),AL5⟩ (Ap fun W g=>NN hsa hpo (hr.kn g) hP hv),Ha rfl rfl (gy rfl rfl rfl) (oy rfl rfl) (fun _=>Bf) (fun _=>rfl),A2 rq9,AL5⟩ fun a26 w26 g26 Cr=>?_
   refine AE ?_
   refine k10 _ _ ?_
   refine A1 Cr rfl rfl ?_
   refine AL3 ?_
   refine k9 _ _ ?_
   refine ALz fun K27 k27=>?_
   refine ALy ?_
   refine AJ Cr 2 [(34,.int .i64 ad),(35,.slice ao ds.length ac)]
     ⟨ym r5,ym r5,AL5⟩ fun a28 w28 g28 Js=>?_
   have Mi:=AA g26 g28
   replace Ai:=AC Mi Ai
   replace Al:=AC Mi Al
   replace ho:=ho.kn Mi
   replace HG:=AA HG Mi
   refine Bh Js Tryz.func52 (by kernel_rfl) r6 (AJJ (by omega) ho) fun a29 v29 w29 hR29 Cf=>?_
   obtain⟨ao29,cap29,rfl,g29,oc,fr29⟩:=hR29
   have I3:=CJ fr29 Ai
   have I6:=CJ fr29 Al
   have lo_oc:=KP HG fr29
   refine AJ Cf 2 [(37,.int .i64 joint),(38,B9 ad (.slice ao29 ds.length cap29) joint (.slice none 0 0) (.slice none 0 0) AR)]
     ⟨ym r5,BU (vs:=[.int .i64 ad,.slice ao29 ds.length cap29,.int .i64 joint]) rfl rfl trivial ⟨(oy rfl rfl),(oy rfl rfl),(oy rfl rfl),AL5⟩ (fun _=>ALJ _ _ _ _ _ _) (fun _=>rfl),AL5⟩ fun a30 w30 g30 E4=>?_
   replace BQ:=AC g30 (AC g29 (AC Mi BQ))
   replace BV:=AC g30 (AC g29 (AC Mi BV))
   replace Ai:=AC g30 (AC g29 Ai)
   replace Al:=AC g30 (AC g29 Al)
   replace hr:=((hr.kn Mi).kn g29).kn g30
   replace ho:=(ho.kn g29).kn g30
   replace oc:=oc.kn g30
   replace HG:=AA (AA HG g29) g30
   refine Ar (T:=31) (Z:=([[.int .i64 0],[.slice none 0 0],[.int .i64 0],[.slice none 0 0],[.slice none 0 0],bv AR].flatten)) E4 rfl rfl rfl (fun a w=>by kernel_rfl) fun a31 w31 EZ Ft g31 z31 Ag He=>?_
   have D9:=An BQ Ft
   have EA:=An BV Ft
   have CC:=An Ai Ft
   have CD:=An Al Ft
   have Fu:=Bt HG Ft
   have FM:=Au (hr.lt) Ft
   have FN:=Au (ho.lt) Ft
   have Ds:=Au (Own.ltS oc) Ft
   refine Ao He r7 (EJ _ _ AO (.slice ao29 ds.length cap29) (.slice none 0 0) (.slice none 0 0) rfl rfl rfl) Ag (FL AO AO) fun w32 g32 h32=>?_
   replace BV:=AX g32 (AC g31 BV) (Ne.symm EA)
   have JU:Sv _ _ [_,_,_,_,_,_,_,_,_,_,_,_,_,_,_,_,_,_,_,_,_] _:=He.dl [37,38,36,34,35]
   refine AE ?_
   refine k27 _ _ ?_
   refine ALz fun K34 k34=>?_
   refine ALy ?_
   refine AJ JU 1 [(39,CH x)]
     ⟨yl r6 (En x) BV,AL5⟩ fun a35 w35 g35 Ki=>?_
   replace Ai:=AC g35 (AX g32 (AC g31 Ai) (Ne.symm CC))
   replace Al:=AC g35 (AX g32 (AC g31 Al) (Ne.symm CD))
   replace Ag:=AC g35 h32
   replace HG:=AA (AD (AA HG g31) g32 Fu) g35
   refine Bh Ki Tryz.func53 (by kernel_rfl) r6 (Uh (AAc x _)) fun a36 v36 w36 hR36 Fw=>?_
   obtain⟨ao36,cap36,rfl,_⟩:=(Sl.of_own hR36.1).shape
   obtain⟨ow36,fr36⟩:=hR36
   replace fr36:=D1 fr36
   have op:=ow36
   clear ow36
   have g36:=fr36.1
   replace fr36:=fr36.2
   have I7:=CJ fr36 Ai
   have I8:=CJ fr36 Al
   have Ea:=CJ fr36 Ag
   have lo_op:=KP HG fr36
   replace BQ:=AC g36 (AC g35 (AX g32 (AC g31 BQ) (Ne.symm D9)))
   replace BV:=AC g36 (AC g35 BV)
   replace Ai:=AC g36 Ai
   replace Al:=AC g36 Al
   replace Ag:=AC g36 Ag
   replace hr:=(((hr.kn g31).offR g32 (AU FM)).kn g35).kn g36
   replace ho:=(((ho.kn g31).offR g32 (AU FN)).kn g35).kn g36
   replace oc:=(((oc.kn g31).offR g32 (AU Ds)).kn g35).kn g36
   replace HG:=AA HG g36
   refine AY (v:=.slice ao36 ((Bq x)).length cap36) Fw r6 fun a37 IR=>?_
   refine AE ?_
   refine k34 _ _ ?_
   refine ALz fun K38 k38=>?_
   refine ALz fun K39 k39=>?_
   rcases Nat.eq_zero_or_pos ds.length with hz|hz
   · obtain rfl:own=[]:=List.eq_nil_of_length_eq_zero (by omega)
     refine ALy ?_
     refine AJ IR 3 [(41,.slice ao ds.length ac),(42,.int .i64 ((ds.length:Nat))),(43,.bool true)]
       ⟨ym r5,Bv (Tryz.underlying28) rfl rfl trivial (oy rfl rfl) (fun _=>rfl),Cz r6 (fun _=>CV (PT (by omega))),AL5⟩ fun a40 w40 g40 Kj=>?_
     refine AE ?_
     refine k39 _ _ ?_
     refine Aw Kj rfl rfl ?_
     refine ALz fun K41 k41=>?_
     refine ALy ?_
     refine AJ Kj 2 [(44,.slice ao36 ((Bq x)).length cap36),(45,pk EZ 4)]
       ⟨ym r5,yf r6 (fun _=>by kernel_rfl),AL5⟩ fun a42 w42 g42 Hl=>?_
     have Pe:=AA g40 g42
     refine JT (L:=[[.int .i64 ad],[.slice ao29 ds.length cap29],[.int .i64 joint],[.slice none 0 0],[.slice none 0 0],bv AR]) (i:=4) Hl r7 (Ho (.slice ao36 ((Bq x)).length cap36) rfl) (AC Pe Ag) rfl rfl rfl fun w43 g43 h43=>?_
     refine AE ?_
     refine k41 _ _ ?_
     refine ALz fun K44 k44=>?_
     refine ALy ?_
     refine AJ Hl 2 [(46,.int .i64 ad),(47,.slice ao36 ((Bq x)).length cap36)]
       ⟨ym r5,ym r5,AL5⟩ fun a45 w45 g45 Ev=>?_
     replace op:=((op.kn Pe).offR g43 (AU Ea)).kn g45
     refine Bh Ev Tryz.func54 (by kernel_rfl) r6 (OM (JJ ad hia (Bq x) (I2 x) (by have:=IE x;omega) _ _ _ (Own.sb op))) fun a46 v46 w46 hR46 Ju=>?_
     obtain⟨rfl,g46⟩:=hR46
     replace Ag:=AC g46 (AC g45 h43)
     refine AJ Ju 1 [(49,pk EZ 5)]
       ⟨yf r6 (fun _=>by kernel_rfl),AL5⟩ fun a47 w47 g47 LG=>?_
     refine JT (L:=[[.int .i64 ad],[.slice ao29 ds.length cap29],[.int .i64 joint],[.slice none 0 0],[.slice ao36 ((Bq x)).length cap36],bv AR]) (i:=5) LG r7 (B6 ((tgC ad (Bq x))) (Hm ad (Bq x)).1) (AC g47 Ag) rfl rfl (ABR AO (Hm ad (Bq x))) fun w48 g48 h48=>?_
     replace Ai:=Aj g47 g48 (AC g46 (AC g45 (Aj Pe g43 Ai (Ne.symm CC)))) (Ne.symm CC)
     replace Ag:=h48
     have JH:Sv _ _ [_,_,_,_,_,_,_,_,_,_,_,_,_,_,_,_,_,_,_,_,_,_,_,_,_,_,_,_,_] _:=LG.dl [49,48,46,47]
     refine AE ?_
     refine k44 _ _ ?_
     refine ALz fun K50 k50=>?_
     refine ALy ?_
     refine AJ JH 1 [(50,B9 ad (.slice ao29 ds.length cap29) joint (.slice none 0 0) (.slice ao36 ((Bq x)).length cap36) ((tgC ad (Bq x))))]
       ⟨yl r6 (EJ _ _ (Hm ad (Bq x)) (.slice ao29 ds.length cap29) (.slice none 0 0) (.slice ao36 ((Bq x)).length cap36) rfl rfl rfl) Ag,AL5⟩ fun a51 w51 g51 EI=>?_
     refine Ao EI r7 (EJ _ _ (Hm ad (Bq x)) (.slice ao29 ds.length cap29) (.slice none 0 0) (.slice ao36 ((Bq x)).length cap36) rfl rfl rfl) (AC g51 Ai) (FL AO (Hm ad (Bq x))) fun w52 g52 h52=>?_
     replace Al:=Aj g51 g52 (Aj g47 g48 (AC g46 (AC g45 (Aj Pe g43 Al (Ne.symm CD)))) (Ne.symm CD)) Bw
     refine Ao EI r7 (EH 0) Al rfl fun w53 g53 h53=>?_
     replace BQ:=AX g53 (Aj g51 g52 (Aj g47 g48 (AC g46 (AC g45 (Aj Pe g43 BQ (Ne.symm D9)))) (Ne.symm D9)) (Ne.symm Ej)) (Ne.symm El)
     replace BV:=AX g53 (Aj g51 g52 (Aj g47 g48 (AC g46 (AC g45 (Aj Pe g43 BV (Ne.symm EA)))) (Ne.symm EA)) (Ne.symm Ek)) (Ne.symm Em)
     replace Ai:=AX g53 h52 (Ne.symm Bw)
     replace Ag:=AX g53 (Aj g51 g52 Ag CC) CD
     replace hr:=((((((((hr.kn Pe).offR g43 (AU FM)).kn g45).kn g46).kn g47).offR g48 (AU FM)).kn g51).offR g52 (AU Fo)).offR g53 (AU Fq)
     replace ho:=((((((((ho.kn Pe).offR g43 (AU FN)).kn g45).kn g46).kn g47).offR g48 (AU FN)).kn g51).offR g52 (AU Fp)).offR g53 (AU Fs)
     replace oc:=((((((((oc.kn Pe).offR g43 (AU Ds)).kn g45).kn g46).kn g47).offR g48 (AU Ds)).kn g51).offR g52 (AU I3)).offR g53 (AU I6)
     replace op:=(((((op.kn g46).kn g47).offR g48 (AU Ea)).kn g51).offR g52 (AU I7)).offR g53 (AU I8)
     replace HG:=AD (AD (AA (AD (AA (AA (AA (AD (AA HG Pe) g43 Fu) g45) g46) g47) g48 Fu) g51) g52 Ic) g53 Ig
     replace Al:=h53
     refine AE ?_
     refine k50 _ _ ?_
     refine AL2 ?_
     repeat refine AL ?_
     refine BK (fn:=Tryz.f20) EI (Ba (p:=10) (q:=11) Tryz.results20 EI rfl rfl rfl rfl (EJ _ _ (Hm ad (Bq x)) (.slice ao29 ds.length cap29) (.slice none 0 0) (.slice ao36 ((Bq x)).length cap36) rfl rfl rfl) (EH 0) Ai Al) (Bn Tryz.func49 (by kernel_rfl) rfl _ _) (EY _ _ _) ?_
     exact SRes.mk (own:=ds) (wr:=[]) (Jb hh hv) rfl rfl rfl hown rfl oc (Own.nil _ _ _) op lo_oc (fun k hk=>by simp[Bk,Value.ownBlock] at hk) lo_op (fun k _ hk=>by simp[Bk,Value.ownBlock] at hk) (Hm _ _) (I2 x) HG rfl
   · have hne:own≠[]:=fun h=>by rw[h] at hownl;simp at hownl;omega
     refine ALy ?_
     refine AJ IR 3 [(41,.slice ao ds.length ac),(42,.int .i64 ((ds.length:Nat))),(43,.bool false)]
       ⟨ym r5,Bv (Tryz.underlying28) rfl rfl trivial (oy rfl rfl) (fun _=>rfl),Cz r6 (fun _=>CV (Mc (by omega))),AL5⟩ fun a54 w54 g54 MC=>?_
     refine AE ?_
     refine k39 _ _ ?_
     refine A1 MC rfl rfl ?_
     refine AL3 ?_
     refine k38 _ _ ?_
     refine ALz fun K55 k55=>?_
     refine ALy ?_
     refine AY (v:=.slice none 0 0) MC r6 fun a56 Pd=>?_
     refine AE ?_
     refine k55 _ _ ?_
     refine ALz fun K57 k57=>?_
     refine ALz fun K58 k58=>?_
     refine ALy ?_
     refine AJ Pd 3 [(51,.slice ao ds.length ac),(52,.int .i64 ((ds.length:Nat))),(53,.int .i64 0)]
       ⟨ym r5,Bv (Tryz.underlying28) rfl rfl trivial (oy rfl rfl) (fun _=>rfl),E0 (.inl rfl) rfl trivial (fun _=>rfl),AL5⟩ fun a59 w59 g59 Ew=>?_
     have NM:=AA g54 g59
     refine AE ?_
     refine k58 _ _ ?_
     refine BM fun Q60 x60 y60 rt60 o60=>?_
     replace BQ:=AC NM BQ
     replace BV:=AC NM BV
     replace Ai:=AC NM Ai
     replace Al:=AC NM Al
     replace Ag:=AC NM Ag
     replace hr:=hr.kn NM
     replace ho:=ho.kn NM
     replace oc:=oc.kn NM
     replace op:=op.kn NM
     replace HG:=AA HG NM
     have okk:=Own.nil w59 23 32
     have I9:=KZ Vo
     have JA:=KZ Vp
     have Eb:=KZ Ib
     have Ec:=KZ Ie
     have C9:=KZ EZ
     have ap_hr_okk:=Kg (Mh (.slice vo ks.length vc_) ks)
     have ap_ho_okk:=Kg (Bk (.slice ao ds.length ac))
     have ap_oc_okk:=Kg (Bk (.slice ao29 ds.length cap29))
     have ap_okk_oc:=AER (Bk (.slice ao29 ds.length cap29))
     have ap_op_okk:=Kg (Bk (.slice ao36 ((Bq x)).length cap36))
     have ap_okk_op:=AER (Bk (.slice ao36 ((Bq x)).length cap36))
     have lo_okk:=ACa w
     refine wp_loop (fun a w'=>∃(i:Nat) (ko:Option Addr) (kc:Nat) (kl:List DD),(i≤ds.length)∧(kl.map DD.x=(own.take i).map fun z=>(Co P z ad).1)∧(∀j,j<i→(Co P (Ls own j) ad).2=0)∧Sv 104 [{ target:=.fn (.func 49) #[pt Ib,pt Ie],args:=#[] }] [(53,.int .i64 ((i:Int))),(14,.slice ko i kc),(51,.slice ao ds.length ac),(52,.int .i64 ((ds.length:Nat))),(41,.slice ao ds.length ac),(42,.int .i64 ((ds.length:Nat))),(43,.bool false),(13,.slice ao36 ((Bq x)).length cap36),(40,.slice ao36 ((Bq x)).length cap36),(39,CH x),(12,pt EZ),(23,.slice ao ds.length ac),(24,.int .i64 joint),(25,.int .i64 ad),(26,.bool true),(27,.bool false),(28,.bool false),(29,Am sa po (.slice vo ks.length vc_)),(30,.bool true),(31,.bool false),(32,.bool false),(22,.func (.func 49) #[] #[pt Ib,pt Ie]),(11,pt Ie),(10,pt Ib),(9,pt Vp),(5,pt Vo),(0,Am sa po (.slice vo ks.length vc_)),(1,.slice ao ds.length ac),(2,.int .i64 joint),(3,.int .i64 ad),(4,CH x)] a∧w.grownBy w' none∧w'.heap[Vo]?=some (.cells ([bv sa,bv po,[.slice vo ks.length vc_]].flatten).toArray 36 (0,0))∧w'.heap[Vp]?=some (.cells (vc x).toArray 25 (0,0))∧w'.heap[Ib]?=some (.cells (([[.int .i64 0],[.slice none 0 0],[.int .i64 0],[.slice none 0 0],[.slice none 0 0],bv AR].flatten)).toArray 31 (0,0))∧w'.heap[Ie]?=some (.cells ([.int .i64 0]).toArray 38 (0,0))∧w'.heap[EZ]?=some (.cells ([[.int .i64 ad],[.slice ao29 ds.length cap29],[.int .i64 joint],[.slice none 0 0],[.slice none 0 0],bv AR].flatten).toArray 31 (0,0))∧RdK w' (.slice vo ks.length vc_) ks∧RdD w' (.slice ao ds.length ac) ds∧Own w' 23 32 (.slice ao29 ds.length cap29) ds.length (ds.flatMap LM)∧Own w' 5 1 (.slice ao36 ((Bq x)).length cap36) (((Bq x)).length) (bv ((Bq x)))∧Own w' 23 32 (.slice ko i kc) i (kl.flatMap LM)∧(∀k,Bk (.slice ko i kc) k→k≠Vo)∧(∀k,Bk (.slice ko i kc) k→k≠Vp)∧(∀k,Bk (.slice ko i kc) k→k≠Ib)∧(∀k,Bk (.slice ko i kc) k→k≠Ie)∧(∀k,Bk (.slice ko i kc) k→k≠EZ)∧(∀k,Mh (.slice vo ks.length vc_) ks k→¬Bk (.slice ko i kc) k)∧(∀k,Bk (.slice ao ds.length ac) k→¬Bk (.slice ko i kc) k)∧(∀k,Bk (.slice ao29 ds.length cap29) k→¬Bk (.slice ko i kc) k)∧(∀k,Bk (.slice ko i kc) k→¬Bk (.slice ao29 ds.length cap29) k)∧(∀k,Bk (.slice ao36 ((Bq x)).length cap36) k→¬Bk (.slice ko i kc) k)∧(∀k,Bk (.slice ko i kc) k→¬Bk (.slice ao36 ((Bq x)).length cap36) k)∧(∀k,Bk (.slice ko i kc) k→w.heap.size≤k)) (fun a _=>(ds.length-intOf (a.tmps.getD 53 undef)).toNat) ⟨0,none,0,[],Nat.zero_le _,rfl,fun j hj=>by omega,⟨Ew.1,Ew.2.1,Ew.2.2.2.2.1,Ew.2.2.2.2.2.1,Ew.2.2.1,Ew.2.2.2.1,Ew.2.2.2.2.2.2.1,Ew.2.2.2.2.2.2.2.1,(AG Ew).1,(AG Ew).2.1,(AG Ew).2.2.1,(AG Ew).2.2.2.1,(AG Ew).2.2.2.2.1,(AG Ew).2.2.2.2.2.1,(AG Ew).2.2.2.2.2.2.1,(AG Ew).2.2.2.2.2.2.2.1,(AG (AG Ew)).1,(AG (AG Ew)).2.1,(AG (AG Ew)).2.2.1,(AG (AG Ew)).2.2.2.1,(AG (AG Ew)).2.2.2.2.1,(AG (AG Ew)).2.2.2.2.2.1,(AG (AG Ew)).2.2.2.2.2.2.1,(AG (AG Ew)).2.2.2.2.2.2.2.1,(AG (AG (AG Ew))).1,(AG (AG (AG Ew))).2.1,(AG (AG (AG Ew))).2.2.1,(AG (AG (AG Ew))).2.2.2.1,(AG (AG (AG Ew))).2.2.2.2.1,(AG (AG (AG Ew))).2.2.2.2.2.1,(AG (AG (AG Ew))).2.2.2.2.2.2.1,(AG (AG (AG Ew))).2.2.2.2.2.2.2.1,(AG (AG (AG (AG Ew)))).1,AL5⟩,HG,BQ,BV,Ai,Al,Ag,hr,ho,oc,op,okk,I9,JA,Eb,Ec,C9,ap_hr_okk,ap_ho_okk,ap_oc_okk,ap_okk_oc,ap_op_okk,ap_okk_op,lo_okk⟩ fun a61 w61 hI61=>?_
     clear BQ
     clear BV
     clear Ai
     clear Al
     clear Ag
     clear hr
     clear ho
     clear oc
     clear op
     clear okk
     clear HG
     obtain⟨i,ko,kc,kl,hin,hkl,hok,NK,HG,BQ,BV,Ai,Al,Ag,hr,ho,oc,op,okk,I9,JA,Eb,Ec,C9,ap_hr_okk,ap_ho_okk,ap_oc_okk,ap_okk_oc,ap_op_okk,ap_okk_op,lo_okk⟩:=hI61
     refine ALz fun K62 k62=>?_
     by_cases hi:i<ds.length
     · obtain⟨y,hx_y⟩:∃zx,ds[i]'hi=zx:=⟨_,rfl⟩
       have hla:Ls own i=y.x:=by rw[←hown,Lu hi,hx_y]
       obtain⟨kx,hkx⟩:∃q,Co P y.x ad=q:=⟨_,rfl⟩
       have hkd:Dg kx.1:=hkx▸RZ hnok
       refine ALy ?_
       refine AJ NK 1 [(54,.bool true)]
         ⟨Il r7 (fun _=>Bo (by simp;omega)),AL5⟩ fun a63 w63 g63 AC7=>?_
       refine AE ?_
       refine k62 _ _ ?_
       refine ALz fun K64 k64=>?_
       refine Aw AC7 rfl rfl ?_
       refine AL3 ?_
       refine k64 _ _ ?_
       refine ALz fun K65 k65=>?_
       refine BM fun Q66 x66 y66 rt66 o66=>?_
       refine ALz fun K67 k67=>?_
       refine ALy ?_
       replace ho:=ho.kn g63
       refine AJ AC7 2 [(55,pk ((bO ao)) (oO ao+i*32)),(56,AP y.x)]
         ⟨BA rq8 (fun w=>CU Tryz.underlying28 (by kernel_rfl) (ho.1) (by omega) (rfl) w),Bu r6 (fun _ g=>Ab (B6 y.x y.h.1) (by have:=DU (ho.kn g).1 GF hi (by decide);rw[hx_y] at this;exact this)),AL5⟩ fun a68 w68 g68 NX=>?_
       replace BQ:=AC g68 (AC g63 BQ)
       replace BV:=AC g68 (AC g63 BV)
       replace Ai:=AC g68 (AC g63 Ai)
       replace Al:=AC g68 (AC g63 Al)
       replace Ag:=AC g68 (AC g63 Ag)
       replace hr:=(hr.kn g63).kn g68
       replace ho:=ho.kn g68
       replace oc:=(oc.kn g63).kn g68
       replace op:=(op.kn g63).kn g68
       replace okk:=(okk.kn g63).kn g68
       replace HG:=AA (AA HG g63) g68
       refine Ar (T:=23) (Z:=(bv AR)) NX rfl rfl rfl (fun a w=>by kernel_rfl) fun a69 w69 ALL EB g69 z69 Vq AKU=>?_
       have Ra:=An BQ EB
       have Rb:=An BV EB
       have Pf:=An Ai EB
       have Pg:=An Al EB
       have OQ:=An Ag EB
       have AC8:=Bt HG EB
       have Vr:=Au (hr.lt) EB
       have Vs:=Au (ho.lt) EB
       have Vt:=Au (Own.ltS oc) EB
       have Vu:=Au (Own.ltS op) EB
       have TM:=Au (Own.ltS okk) EB
       refine Ao AKU r7 (B6 y.x y.h.1) Vq (GR y.h) fun w70 g70 h70=>?_
       replace BQ:=AX g70 (AC g69 BQ) (Ne.symm Ra)
       replace hr:=(hr.kn g69).offR g70 (AU Vr)
       replace Vq:=h70
       refine AE ?_
       refine k67 _ _ ?_
       refine ALz fun K71 k71=>?_
       refine ALy ?_
       refine AJ AKU 7 [(58,Am sa po (.slice vo ks.length vc_)),(59,AP y.x),(60,.int .i64 ad),(61,.tuple #[AP kx.1,.int .i64 kx.2]),(57,.tuple #[AP kx.1,.int .i64 kx.2]),(62,AP kx.1),(63,.int .i64 kx.2)]
         ⟨yl r6 (Bb hsa hpo (.slice vo ks.length vc_) rfl) BQ,yl r6 (B6 y.x y.h.1) Vq,ym r5,Ae [Am sa po (.slice vo ks.length vc_),AP y.x,.int .i64 ad] Tryz.func32 (by kernel_rfl) rq4 ⟨(oy rfl rfl),(oy rfl rfl),(oy rfl rfl),AL5⟩ (Ap fun W g=>AFE hsa hpo y.h (hr.kn g) hP hkx),ym r5,BF rq4 (fun _ _ h=>⟨_,_,h,rfl,rfl⟩),BF rq4 (fun _ _ h=>⟨_,_,h,rfl,rfl⟩),AL5⟩ fun a72 w72 g72 AC9=>?_
       replace BQ:=AC g72 BQ
       replace BV:=AC g72 (AX g70 (AC g69 BV) (Ne.symm Rb))
       replace Ai:=AC g72 (AX g70 (AC g69 Ai) (Ne.symm Pf))
       replace Al:=AC g72 (AX g70 (AC g69 Al) (Ne.symm Pg))
       replace Ag:=AC g72 (AX g70 (AC g69 Ag) (Ne.symm OQ))
       replace hr:=hr.kn g72
       replace ho:=((ho.kn g69).offR g70 (AU Vs)).kn g72
       replace oc:=((oc.kn g69).offR g70 (AU Vt)).kn g72
       replace op:=((op.kn g69).offR g70 (AU Vu)).kn g72
       replace okk:=((okk.kn g69).offR g70 (AU TM)).kn g72
       replace HG:=AA (AD (AA HG g69) g70 AC8) g72
       refine Ar (T:=23) (Z:=(bv AR)) AC9 rfl rfl rfl (fun a w=>by kernel_rfl) fun a73 w73 ALM EC g73 z73 Vv CW=>?_
       have Rc:=An BQ EC
       have Rd:=An BV EC
       have Ph:=An Ai EC
       have Pi:=An Al EC
       have OT:=An Ag EC
       have ADA:=Bt HG EC
       have Vw:=Au (hr.lt) EC
       have Vx:=Au (ho.lt) EC
       have Vy:=Au (Own.ltS oc) EC
       have Vz:=Au (Own.ltS op) EC
       have TO:=Au (Own.ltS okk) EC
       refine Ao CW r7 (B6 kx.1 hkd.1) Vv (GR hkd) fun w74 g74 h74=>?_
       replace BQ:=AX g74 (AC g73 BQ) (Ne.symm Rc)
       replace BV:=AX g74 (AC g73 BV) (Ne.symm Rd)
       replace Ai:=AX g74 (AC g73 Ai) (Ne.symm Ph)
       replace Al:=AX g74 (AC g73 Al) (Ne.symm Pi)
       replace Ag:=AX g74 (AC g73 Ag) (Ne.symm OT)
       replace hr:=(hr.kn g73).offR g74 (AU Vw)
       replace ho:=(ho.kn g73).offR g74 (AU Vx)
       replace oc:=(oc.kn g73).offR g74 (AU Vy)
       replace op:=(op.kn g73).offR g74 (AU Vz)
       replace okk:=(okk.kn g73).offR g74 (AU TO)
       replace HG:=AD (AA HG g73) g74 ADA
       replace Vv:=h74
       refine AY (v:=.int .i64 kx.2) CW r6 fun a75 AJK=>?_
       have ADB:Sv _ _ [_,_,_,_,_,_,_,_,_,_,_,_,_,_,_,_,_,_,_,_,_,_,_,_,_,_,_,_,_,_,_,_,_,_,_,_,_] _:=AJK.dl [58,59,60,61,57,62,63]
       refine AE ?_
       refine k71 _ _ ?_
       refine ALz fun K77 k77=>?_
       refine ALz fun K78 k78=>?_
       by_cases he:kx.2=0
       · have hkl1:=Uj hkl (by omega) hla hkx (hkd:=hkd)
         have hok1:∀j,j<i+1→(Co P (Ls own j) ad).2=0:=fun j hj=>if e:j=i then (by rw[e,hla,hkx];exact he) else hok j (by omega)
         refine ALy ?_
         refine AJ ADB 2 [(64,.int .i64 kx.2),(65,.bool false)]
           ⟨ym r5,Cz r6 (fun _=>Dj (by simpa using he)),AL5⟩ fun a79 w79 g79 OU=>?_
         refine AE ?_
         refine k78 _ _ ?_
         refine A1 OU rfl rfl ?_
         refine AL3 ?_
         refine k77 _ _ ?_
         refine ALy ?_
         refine AJ OU 2 [(68,.slice ko i kc),(69,AP kx.1)]
           ⟨ym r5,yl r6 (B6 kx.1 hkd.1) (AC g79 Vv),AL5⟩ fun a80 w80 g80 ALN=>?_
         have Re:=AA g79 g80
         refine NS (cs:=bv kx.1) (e:=23) ALN rfl rfl rfl rfl rfl rfl (AC4 hkd) fun a81 w81 ALO AJj g81 z81 AHM AJL=>?_
         replace BQ:=AC g81 (AC Re BQ)
         replace BV:=AC g81 (AC Re BV)
         replace Ai:=AC g81 (AC Re Ai)
         replace Al:=AC g81 (AC Re Al)
         replace Ag:=AC g81 (AC Re Ag)
         replace hr:=(hr.kn Re).kn g81
         replace ho:=(ho.kn Re).kn g81
         replace oc:=(oc.kn Re).kn g81
         replace op:=(op.kn Re).kn g81
         replace okk:=(okk.kn Re).kn g81
         replace HG:=AA (AA HG Re) g81
         refine Mg dsT AJL rfl rfl rfl rfl rfl rfl rfl rfl okk (Lx AHM hkd) (Gz _) (by omega) fun a82 ao82 cap82 w82 owx82 Cj WA=>?_
         have TP:=KX Cj.2 I9 BQ
         have TQ:=KX Cj.2 JA BV
         have Rf:=KX Cj.2 Eb Ai
         have Rg:=KX Cj.2 Ec Al
         have Pj:=KX Cj.2 C9 Ag
         have Yg:=KY Cj.2 ap_hr_okk (hr.lt)
         have Yh:=KY Cj.2 ap_ho_okk (ho.lt)
         have PD:=KY Cj.2 ap_oc_okk (Own.ltS oc)
         have PE:=KY Cj.2 ap_op_okk (Own.ltS op)
         have ap_owx82_oc:=AEQ PD
         have ap_owx82_op:=AEQ PE
         have AFF:=Zz Cj.2 lo_okk HG
         replace BQ:=AF Cj.1 BQ (fun e=>I9 _ e.symm rfl)
         replace BV:=AF Cj.1 BV (fun e=>JA _ e.symm rfl)
         replace Ai:=AF Cj.1 Ai (fun e=>Eb _ e.symm rfl)
         replace Al:=AF Cj.1 Al (fun e=>Ec _ e.symm rfl)
         replace Ag:=AF Cj.1 Ag (fun e=>C9 _ e.symm rfl)
         replace hr:=hr.offR Cj.1 (fun k hk e=>ap_hr_okk k hk (e))
         replace ho:=ho.offR Cj.1 (fun k hk e=>ap_ho_okk k hk (e))
         replace oc:=oc.offR Cj.1 (fun k hk e=>ap_oc_okk k hk (e))
         replace op:=op.offR Cj.1 (fun k hk e=>ap_op_okk k hk (e))
         replace HG:=Bi HG Cj.1 fun k e=>lo_okk k (e)
         rw[Vn kl ⟨kx.1,hkd⟩] at owx82
         refine AY (v:=.slice ao82 (i+1) cap82) WA r6 fun a83 AHN=>?_
         have ADC:Sv _ _ [_,_,_,_,_,_,_,_,_,_,_,_,_,_,_,_,_,_,_,_,_,_,_,_,_,_,_,_,_,_,_,_,_,_,_,_,_,_,_] _:=AHN.dl [71,70,68,69]
         refine AE ?_
         refine y66 _ _ ?_
         refine k65 _ _ ?_
         refine ALy ?_
         refine AJ ADC 1 [(72,.int .i64 (((i+1:Nat):Int)))]
           ⟨Cz r6 (fun _=>Dk (by rw[BG (by omega) (by omega)];omega)),AL5⟩ fun a85 w85 g85 AJM=>?_
         refine AJ (AJM.dl [53]) 1 [(53,.int .i64 (((i+1:Nat):Int)))]
           ⟨ym r5,AL5⟩ fun a86 w86 g86 Eo=>?_
         have Rh:=AA g85 g86
         refine AE ?_
         replace BQ:=AC Rh BQ
         replace BV:=AC Rh BV
         replace Ai:=AC Rh Ai
         replace Al:=AC Rh Al
         replace Ag:=AC Rh Ag
         replace hr:=hr.kn Rh
         replace ho:=ho.kn Rh
         replace oc:=oc.kn Rh
         replace op:=op.kn Rh
         replace owx82:=owx82.kn Rh
         replace HG:=AA HG Rh
         exact⟨⟨i+1,ao82,cap82,(kl++[⟨kx.1,hkd⟩]),by omega,hkl1,hok1,⟨Eo.1,Eo.2.1,Eo.2.2.1,Eo.2.2.2.2.1,(AG Eo).2.2.2.2.2.1,(AG Eo).2.2.2.2.2.2.1,(AG Eo).2.2.2.2.2.2.2.1,(AG (AG Eo)).1,(AG (AG Eo)).2.1,(AG (AG Eo)).2.2.1,(AG (AG Eo)).2.2.2.1,(AG (AG Eo)).2.2.2.2.1,(AG (AG Eo)).2.2.2.2.2.1,(AG (AG Eo)).2.2.2.2.2.2.1,(AG (AG Eo)).2.2.2.2.2.2.2.1,(AG (AG (AG Eo))).1,(AG (AG (AG Eo))).2.1,(AG (AG (AG Eo))).2.2.1,(AG (AG (AG Eo))).2.2.2.1,(AG (AG (AG Eo))).2.2.2.2.1,(AG (AG (AG Eo))).2.2.2.2.2.1,(AG (AG (AG Eo))).2.2.2.2.2.2.1,(AG (AG (AG Eo))).2.2.2.2.2.2.2.1,(AG (AG (AG (AG Eo)))).1,(AG (AG (AG (AG Eo)))).2.1,(AG (AG (AG (AG Eo)))).2.2.1,(AG (AG (AG (AG Eo)))).2.2.2.1,(AG (AG (AG (AG Eo)))).2.2.2.2.1,(AG (AG (AG (AG Eo)))).2.2.2.2.2.1,(AG (AG (AG (AG Eo)))).2.2.2.2.2.2.1,(AG (AG (AG (AG Eo)))).2.2.2.2.2.2.2.1,(AG (AG (AG (AG (AG Eo))))).1,(AG (AG (AG (AG (AG Eo))))).2.1,AL5⟩,HG,BQ,BV,Ai,Al,Ag,hr,ho,oc,op,owx82,TP,TQ,Rf,Rg,Pj,Yg,Yh,PD,ap_owx82_oc,PE,ap_owx82_op,AFF⟩,by rw[show _=_ from Eo.2.2.1,show _=_ from NK.2.2.1];simp[intOf];omega⟩
       · have hke:=Lw (P:=P) (a:=ad) (own:=own) (i:=i) (by omega) hok (by rw[hla,hkx];exact he)
         rw[hla,hkx] at hke
         refine ALy ?_
         refine AJ ADB 2 [(64,.int .i64 kx.2),(65,.bool true)]
           ⟨ym r5,Cz r6 (fun _=>Dj (by simpa using he)),AL5⟩ fun a87 w87 g87 AKV=>?_
         refine AE ?_
         refine k78 _ _ ?_
         refine Aw AKV rfl rfl ?_
         refine ALz fun K88 k88=>?_
         refine ALy ?_
         replace Ai:=AC g87 Ai
         refine AJ AKV 2 [(66,B9 0 (.slice none 0 0) 0 (.slice none 0 0) (.slice none 0 0) AR),(67,.int .i64 kx.2)]
           ⟨BU (vs:=[]) rfl rfl trivial trivial (fun _=>AHF _) (fun _=>rfl),ym r5,AL5⟩ fun a89 w89 g89 AHO=>?_
         refine Ao AHO r7 (EJ _ _ AO (.slice none 0 0) (.slice none 0 0) (.slice none 0 0) rfl rfl rfl) (AC g89 Ai) (FL AO AO) fun w90 g90 h90=>?_
         replace Al:=Aj g89 g90 (AC g87 Al) Bw
         refine Ao AHO r7 (EH kx.2) Al rfl fun w91 g91 h91=>?_
         replace BQ:=AX g91 (Aj g89 g90 (AC g87 BQ) (Ne.symm Ej)) (Ne.symm El)
         replace BV:=AX g91 (Aj g89 g90 (AC g87 BV) (Ne.symm Ek)) (Ne.symm Em)
         replace Ai:=AX g91 h90 (Ne.symm Bw)
         replace Ag:=AX g91 (Aj g89 g90 (AC g87 Ag) CC) CD
         replace hr:=(((hr.kn g87).kn g89).offR g90 (AU Fo)).offR g91 (AU Fq)
         replace ho:=(((ho.kn g87).kn g89).offR g90 (AU Fp)).offR g91 (AU Fs)
         replace oc:=(((oc.kn g87).kn g89).offR g90 (AU I3)).offR g91 (AU I6)
         replace op:=(((op.kn g87).kn g89).offR g90 (AU I7)).offR g91 (AU I8)
         replace okk:=(((okk.kn g87).kn g89).offR g90 (AU Eb)).offR g91 (AU Ec)
         replace HG:=AD (AD (AA (AA HG g87) g89) g90 Ic) g91 Ig
         replace Al:=h91
         refine AE ?_
         refine k88 _ _ ?_
         refine AL2 ?_
         repeat refine AL ?_
         refine rt66 _ _ ?_
         repeat refine AL ?_
         refine rt60 _ _ ?_
         repeat refine AL ?_
         refine BK (fn:=Tryz.f20) AHO (Ba (p:=10) (q:=11) Tryz.results20 AHO rfl rfl rfl rfl (EJ _ _ AO (.slice none 0 0) (.slice none 0 0) (.slice none 0 0) rfl rfl rfl) (EH kx.2) Ai Al) (Bn Tryz.func49 (by kernel_rfl) rfl _ _) (EY _ _ _) ?_
         exact SRes.zero (AC3 hh hv hne hke he) HG
     · obtain⟨hK1,hK2⟩:=LR (P:=P) (a:=ad) (own:=own) fun j hj=>hok j (by omega)
       have hkm:kl.map DD.x=(Ck P ad own).1:=by rw[hK1,hkl,List.take_of_length_le (by omega)]
       refine ALy ?_
       refine AJ NK 1 [(54,.bool false)]
         ⟨Il r7 (fun _=>Bo (by simp;omega)),AL5⟩ fun a92 w92 g92 AFG=>?_
       refine AE ?_
       refine k62 _ _ ?_
       refine ALz fun K93 k93=>?_
       refine A1 AFG rfl rfl ?_
       refine wp_exit ?_
       repeat refine CY ?_
       refine x60 _ _ ?_
       refine k57 _ _ ?_
       refine ALz fun K94 k94=>?_
       have hkll:kl.length=i:=by have:=congrArg List.length hkl;simpa using this.trans (by rw[List.length_map,List.length_take];omega)
       obtain⟨ck,hcke⟩:∃c,Wp (decide (joint=1)) (kl.map DD.x)=c:=⟨_,rfl⟩
       have hck:Dg ck:=hcke▸ON _ _
       refine ALy ?_
       refine AJ AFG 2 [(73,.int .i64 joint),(74,.slice ko i kc)]
         ⟨ym r5,ym r5,AL5⟩ fun a95 w95 g95 ALP=>?_
       replace okk:=(okk.kn g92).kn g95
       refine Bh ALP Tryz.func55 (by kernel_rfl) r6 (OM (AFD hkll (Own.sb okk) (by omega) hcke)) fun a96 v96 w96 hR96 AHP=>?_
       obtain⟨rfl,g96⟩:=hR96
       replace BQ:=AC g96 (AC g95 (AC g92 BQ))
       replace BV:=AC g96 (AC g95 (AC g92 BV))
       replace Ai:=AC g96 (AC g95 (AC g92 Ai))
       replace Al:=AC g96 (AC g95 (AC g92 Al))
       replace Ag:=AC g96 (AC g95 (AC g92 Ag))
       replace hr:=((hr.kn g92).kn g95).kn g96
       replace ho:=((ho.kn g92).kn g95).kn g96
       replace oc:=((oc.kn g92).kn g95).kn g96
       replace op:=((op.kn g92).kn g95).kn g96
       replace okk:=okk.kn g96
       replace HG:=AA (AA (AA HG g92) g95) g96
       refine Ar (T:=23) (Z:=(bv AR)) AHP rfl rfl rfl (fun a w=>by kernel_rfl) fun a97 w97 Ri ED g97 z97 CA AFH=>?_
       have Rj:=An BQ ED
       have Rk:=An BV ED
       have KR:=An Ai ED
       have KS:=An Al ED
       have EE:=An Ag ED
       have ADD:=Bt HG ED
       have WC:=Au (hr.lt) ED
       have WD:=Au (ho.lt) ED
       have WE:=Au (Own.ltS oc) ED
       have WG:=Au (Own.ltS op) ED
       have TR:=Au (Own.ltS okk) ED
       refine Ao AFH r7 (B6 ck hck.1) CA (GR hck) fun w98 g98 h98=>?_
       replace BQ:=AX g98 (AC g97 BQ) (Ne.symm Rj)
       replace BV:=AX g98 (AC g97 BV) (Ne.symm Rk)
       replace Ai:=AX g98 (AC g97 Ai) (Ne.symm KR)
       replace Al:=AX g98 (AC g97 Al) (Ne.symm KS)
       replace Ag:=AX g98 (AC g97 Ag) (Ne.symm EE)
       replace hr:=(hr.kn g97).offR g98 (AU WC)
       replace ho:=(ho.kn g97).offR g98 (AU WD)
       replace oc:=(oc.kn g97).offR g98 (AU WE)
       replace op:=(op.kn g97).offR g98 (AU WG)
       replace okk:=(okk.kn g97).offR g98 (AU TR)
       replace HG:=AD (AA HG g97) g98 ADD
       replace CA:=h98
       refine AE ?_
       refine k94 _ _ ?_
       refine ALz fun K99 k99=>?_
       refine ALz fun K100 k100=>?_
       rcases hjj with rfl|rfl
       · refine ALy ?_
         refine AJ AFH 2 [(76,.int .i64 0),(77,.bool false)]
           ⟨ym r5,Cz r6 (fun _=>CV rfl),AL5⟩ fun a101 w101 g101 ABj=>?_
         refine AE ?_
         refine k100 _ _ ?_
         refine A1 ABj rfl rfl ?_
         refine AL3 ?_
         refine k99 _ _ ?_
         refine ALz fun K102 k102=>?_
         refine ALy ?_
         refine AJ ABj 2 [(93,.slice ao36 ((Bq x)).length cap36),(94,AP ck)]
           ⟨ym r5,yl r6 (B6 ck hck.1) (AC g101 CA),AL5⟩ fun a103 w103 g103 ABk=>?_
         have KT:=AA g101 g103
         replace Ai:=AC KT Ai
         replace Al:=AC KT Al
         replace Ag:=AC KT Ag
         replace op:=op.kn KT
         replace HG:=AA HG KT
         refine Bh ABk Tryz.func57 (by kernel_rfl) r6 (Uh (J5 (Bq x) (I2 x) (by have:=IE x;omega) _ _ ck hck _ (Own.sb op))) fun a104 v104 w104 hR104 AFI=>?_
         obtain⟨ao104,cap104,rfl,_⟩:=(Sl.of_own hR104.1).shape
         obtain⟨ow104,fr104⟩:=hR104
         replace fr104:=D1 fr104
         have oy_:=ow104
         clear ow104
         have g104:=fr104.1
         replace fr104:=fr104.2
         have J8:=CJ fr104 Ai
         have J9:=CJ fr104 Al
         have Fb:=CJ fr104 Ag
         have lo_oy_:=KP HG fr104
         replace Ag:=AC g104 Ag
         refine AJ AFI 1 [(96,pk EZ 4)]
           ⟨yf r6 (fun _=>by kernel_rfl),AL5⟩ fun a105 w105 g105 ABl=>?_
         refine JT (L:=[[.int .i64 ad],[.slice ao29 ds.length cap29],[.int .i64 0],[.slice none 0 0],[.slice none 0 0],bv AR]) (i:=4) ABl r7 (Ho (.slice ao104 ((Ja (Bq x) ck)).length cap104) rfl) (AC g105 Ag) rfl rfl rfl fun w106 g106 h106=>?_
         replace CA:=Aj g105 g106 (AC g104 (AC KT CA)) EE
         replace Ag:=h106
         have AFJ:Sv _ _ [_,_,_,_,_,_,_,_,_,_,_,_,_,_,_,_,_,_,_,_,_,_,_,_,_,_,_,_,_,_,_,_,_,_,_,_,_,_] _:=ABl.dl [96,95,93,94]
         refine AE ?_
         refine k102 _ _ ?_
         refine ALz fun K108 k108=>?_
         refine ALy ?_
         refine AJ AFJ 4 [(97,AP ck),(98,.int .i64 ad),(99,pk EZ 4),(100,.slice ao104 ((Ja (Bq x) ck)).length cap104)]
           ⟨yl r6 (B6 ck hck.1) CA,ym r5,yf r6 (fun _=>by kernel_rfl),yp (i:=4) r6 (Ho (.slice ao104 ((Ja (Bq x) ck)).length cap104) rfl) Ag rfl rfl,AL5⟩ fun a109 w109 g109 AFK=>?_
         replace oy_:=((oy_.kn g105).offR g106 (AU Fb)).kn g109
         refine Bh AFK Tryz.func58 (by kernel_rfl) r6 (OM (Gv ck hck ad hia (Ja (Bq x) ck) (RU _ (I2 x)) (by have:=IE x;rw[J4];omega) _ _ _ (Own.sb oy_))) fun a110 v110 w110 hR110 Ih=>?_
         obtain⟨rfl,g110⟩:=hR110
         replace Ag:=AC g110 (AC g109 Ag)
         have ABm:Sv _ _ [_,_,_,_,_,_,_,_,_,_,_,_,_,_,_,_,_,_,_,_,_,_,_,_,_,_,_,_,_,_,_,_,_,_,_,_,_,_,_] _:=Ih.dl [97,98,99,100]
         refine AJ ABm 1 [(102,pk EZ 5)]
           ⟨yf r6 (fun _=>by kernel_rfl),AL5⟩ fun a112 w112 g112 AIA=>?_
         refine JT (L:=[[.int .i64 ad],[.slice ao29 ds.length cap29],[.int .i64 0],[.slice none 0 0],[.slice ao104 ((Ja (Bq x) ck)).length cap104],bv AR]) (i:=5) AIA r7 (B6 ((Wq ck ad (Ja (Bq x) ck))) (EX _ _ _).1) (AC g112 Ag) rfl rfl (ABR AO (EX _ _ _)) fun w113 g113 h113=>?_
         replace Ai:=Aj g112 g113 (AC g110 (AC g109 (Aj g105 g106 (AC g104 Ai) (Ne.symm CC)))) (Ne.symm CC)
         replace Ag:=h113
         refine AE ?_
         refine k108 _ _ ?_
         refine ALz fun K114 k114=>?_
         refine ALy ?_
         refine AJ AIA 1 [(103,B9 ad (.slice ao29 ds.length cap29) 0 (.slice none 0 0) (.slice ao104 ((Ja (Bq x) ck)).length cap104) ((Wq ck ad (Ja (Bq x) ck))))]
           ⟨yl r6 (EJ _ _ (EX _ _ _) (.slice ao29 ds.length cap29) (.slice none 0 0) (.slice ao104 ((Ja (Bq x) ck)).length cap104) rfl rfl rfl) Ag,AL5⟩ fun a115 w115 g115 Rl=>?_
         refine Ao Rl r7 (EJ _ _ (EX _ _ _) (.slice ao29 ds.length cap29) (.slice none 0 0) (.slice ao104 ((Ja (Bq x) ck)).length cap104) rfl rfl rfl) (AC g115 Ai) (FL AO (EX _ _ _)) fun w116 g116 h116=>?_
         replace Al:=Aj g115 g116 (Aj g112 g113 (AC g110 (AC g109 (Aj g105 g106 (AC g104 Al) (Ne.symm CD)))) (Ne.symm CD)) Bw
         refine Ao Rl r7 (EH 0) Al rfl fun w117 g117 h117=>?_
         replace BQ:=AX g117 (Aj g115 g116 (Aj g112 g113 (AC g110 (AC g109 (Aj g105 g106 (AC g104 (AC KT BQ)) (Ne.symm D9)))) (Ne.symm D9)) (Ne.symm Ej)) (Ne.symm El)
         replace BV:=AX g117 (Aj g115 g116 (Aj g112 g113 (AC g110 (AC g109 (Aj g105 g106 (AC g104 (AC KT BV)) (Ne.symm EA)))) (Ne.symm EA)) (Ne.symm Ek)) (Ne.symm Em)
         replace Ai:=AX g117 h116 (Ne.symm Bw)
         replace Ag:=AX g117 (Aj g115 g116 Ag CC) CD
         replace CA:=AX g117 (Aj g115 g116 (Aj g112 g113 (AC g110 (AC g109 CA)) EE) KR) KS
         replace hr:=((((((((((hr.kn KT).kn g104).kn g105).offR g106 (AU FM)).kn g109).kn g110).kn g112).offR g113 (AU FM)).kn g115).offR g116 (AU Fo)).offR g117 (AU Fq)
         replace ho:=((((((((((ho.kn KT).kn g104).kn g105).offR g106 (AU FN)).kn g109).kn g110).kn g112).offR g113 (AU FN)).kn g115).offR g116 (AU Fp)).offR g117 (AU Fs)
         replace oc:=((((((((((oc.kn KT).kn g104).kn g105).offR g106 (AU Ds)).kn g109).kn g110).kn g112).offR g113 (AU Ds)).kn g115).offR g116 (AU I3)).offR g117 (AU I6)
         replace op:=(((((((((op.kn g104).kn g105).offR g106 (AU Ea)).kn g109).kn g110).kn g112).offR g113 (AU Ea)).kn g115).offR g116 (AU I7)).offR g117 (AU I8)
         replace okk:=((((((((((okk.kn KT).kn g104).kn g105).offR g106 (AU C9)).kn g109).kn g110).kn g112).offR g113 (AU C9)).kn g115).offR g116 (AU Eb)).offR g117 (AU Ec)
         replace oy_:=(((((oy_.kn g110).kn g112).offR g113 (AU Fb)).kn g115).offR g116 (AU J8)).offR g117 (AU J9)
         replace HG:=AD (AD (AA (AD (AA (AA (AA (AD (AA (AA HG g104) g105) g106 Fu) g109) g110) g112) g113 Fu) g115) g116 Ic) g117 Ig
         replace Al:=h117
         refine AE ?_
         refine k114 _ _ ?_
         refine AL2 ?_
         repeat refine AL ?_
         refine BK (fn:=Tryz.f20) Rl (Ba (p:=10) (q:=11) Tryz.results20 Rl rfl rfl rfl rfl (EJ _ _ (EX _ _ _) (.slice ao29 ds.length cap29) (.slice none 0 0) (.slice ao104 ((Ja (Bq x) ck)).length cap104) rfl rfl rfl) (EH 0) Ai Al) (Bn Tryz.func49 (by kernel_rfl) rfl _ _) (EY _ _ _) ?_
         exact SRes.mk (own:=ds) (wr:=[]) (Fa hh hv hne hK2 hkm hcke) rfl rfl rfl hown rfl oc (Own.nil _ _ _) oy_ lo_oc (fun k hk=>by simp[Bk,Value.ownBlock] at hk) lo_oy_ (fun k _ hk=>by simp[Bk,Value.ownBlock] at hk) (EX _ _ _) (RU _ (I2 x)) HG rfl
       · refine ALy ?_
         refine AJ AFH 2 [(76,.int .i64 1),(77,.bool true)]
           ⟨ym r5,Cz r6 (fun _=>CV rfl),AL5⟩ fun a118 w118 g118 AIB=>?_
         refine AE ?_
         refine k100 _ _ ?_
         refine Aw AIB rfl rfl ?_
         refine ALz fun K119 k119=>?_
         refine ALy ?_
         refine AJ AIB 3 [(78,.slice ko i kc),(79,.int .i64 ((i:Nat))),(80,.int .i64 0)]
           ⟨ym r5,Bv (Tryz.underlying28) rfl rfl trivial (oy rfl rfl) (fun _=>rfl),E0 (.inl rfl) rfl trivial (fun _=>rfl),AL5⟩ fun a120 w120 g120 Ch=>?_
         have KU:=AA g118 g120
         refine AE ?_
         refine k119 _ _ ?_
         refine BM fun Q121 x121 y121 rt121 o121=>?_
         replace BQ:=AC KU BQ
         replace BV:=AC KU BV
         replace Ai:=AC KU Ai
         replace Al:=AC KU Al
         replace Ag:=AC KU Ag
         replace CA:=AC KU CA
         replace hr:=hr.kn KU
         replace ho:=ho.kn KU
         replace oc:=oc.kn KU
         replace op:=op.kn KU
         replace okk:=okk.kn KU
         replace HG:=AA HG KU
         have ow:=Own.nil w120 23 32
         have KD:=KZ Vo
         have KE:=KZ Vp
         have Hg:=KZ Ib
         have Hh:=KZ Ie
         have FO:=KZ EZ
         have Hy:=KZ Ri
         have ap_hr_ow:=Kg (Mh (.slice vo ks.length vc_) ks)
         have ap_ho_ow:=Kg (Bk (.slice ao ds.length ac))
         have ap_oc_ow:=Kg (Bk (.slice ao29 ds.length cap29))
         have ap_ow_oc:=AER (Bk (.slice ao29 ds.length cap29))
         have ap_op_ow:=Kg (Bk (.slice ao36 ((Bq x)).length cap36))
         have ap_ow_op:=AER (Bk (.slice ao36 ((Bq x)).length cap36))
         have ap_okk_ow:=Kg (Bk (.slice ko i kc))
         have ap_ow_okk:=AER (Bk (.slice ko i kc))
         have lo_ow:=ACa w
         refine wp_loop (fun a w'=>∃(j:Nat) (wo:Option Addr) (wc:Nat),(j≤i)∧Sv 104 [{ target:=.fn (.func 49) #[pt Ib,pt Ie],args:=#[] }] [(80,.int .i64 ((j:Int))),(78,.slice ko i kc),(79,.int .i64 ((i:Nat))),(76,.int .i64 1),(77,.bool true),(19,pt Ri),(75,AP ck),(73,.int .i64 1),(74,.slice ko i kc),(54,.bool false),(53,.int .i64 ((i:Int))),(14,.slice ko i kc),(51,.slice ao ds.length ac),(52,.int .i64 ((ds.length:Nat))),(41,.slice ao ds.length ac),(42,.int .i64 ((ds.length:Nat))),(43,.bool false),(13,.slice ao36 ((Bq x)).length cap36),(40,.slice ao36 ((Bq x)).length cap36),(39,CH x),(12,pt EZ),(23,.slice ao ds.length ac),(24,.int .i64 1),(25,.int .i64 ad),(26,.bool true),(27,.bool false),(28,.bool false),(29,Am sa po (.slice vo ks.length vc_)),(30,.bool true),(31,.bool false),(32,.bool false),(22,.func (.func 49) #[] #[pt Ib,pt Ie]),(11,pt Ie),(10,pt Ib),(9,pt Vp),(5,pt Vo),(0,Am sa po (.slice vo ks.length vc_)),(1,.slice ao ds.length ac),(2,.int .i64 1),(3,.int .i64 ad),(4,CH x)] a∧w.grownBy w' none∧w'.heap[Vo]?=some (.cells ([bv sa,bv po,[.slice vo ks.length vc_]].flatten).toArray 36 (0,0))∧w'.heap[Vp]?=some (.cells (vc x).toArray 25 (0,0))∧w'.heap[Ib]?=some (.cells (([[.int .i64 0],[.slice none 0 0],[.int .i64 0],[.slice none 0 0],[.slice none 0 0],bv AR].flatten)).toArray 31 (0,0))∧w'.heap[Ie]?=some (.cells ([.int .i64 0]).toArray 38 (0,0))∧w'.heap[EZ]?=some (.cells ([[.int .i64 ad],[.slice ao29 ds.length cap29],[.int .i64 1],[.slice wo j wc],[.slice none 0 0],bv AR].flatten).toArray 31 (0,0))∧w'.heap[Ri]?=some (.cells (bv ck).toArray 23 (0,0))∧RdK w' (.slice vo ks.length vc_) ks∧RdD w' (.slice ao ds.length ac) ds∧Own w' 23 32 (.slice ao29 ds.length cap29) ds.length (ds.flatMap LM)∧Own w' 5 1 (.slice ao36 ((Bq x)).length cap36) (((Bq x)).length) (bv ((Bq x)))∧Own w' 23 32 (.slice ko i kc) i (kl.flatMap LM)∧Own w' 23 32 (.slice wo j wc) j (((wrL ck hck kl j)).flatMap LM)∧(∀k,Bk (.slice wo j wc) k→k≠Vo)∧(∀k,Bk (.slice wo j wc) k→k≠Vp)∧(∀k,Bk (.slice wo j wc) k→k≠Ib)∧(∀k,Bk (.slice wo j wc) k→k≠Ie)∧(∀k,Bk (.slice wo j wc) k→k≠EZ)∧(∀k,Bk (.slice wo j wc) k→k≠Ri)∧(∀k,Mh (.slice vo ks.length vc_) ks k→¬Bk (.slice wo j wc) k)∧(∀k,Bk (.slice ao ds.length ac) k→¬Bk (.slice wo j wc) k)∧(∀k,Bk (.slice ao29 ds.length cap29) k→¬Bk (.slice wo j wc) k)∧(∀k,Bk (.slice wo j wc) k→¬Bk (.slice ao29 ds.length cap29) k)∧(∀k,Bk (.slice ao36 ((Bq x)).length cap36) k→¬Bk (.slice wo j wc) k)∧(∀k,Bk (.slice wo j wc) k→¬Bk (.slice ao36 ((Bq x)).length cap36) k)∧(∀k,Bk (.slice ko i kc) k→¬Bk (.slice wo j wc) k)∧(∀k,Bk (.slice wo j wc) k→¬Bk (.slice ko i kc) k)∧(∀k,Bk (.slice wo j wc) k→w.heap.size≤k)) (fun a _=>(i-intOf (a.tmps.getD 80 undef)).toNat) ⟨0,none,0,Nat.zero_le _,⟨Ch.1,Ch.2.1,Ch.2.2.2.2.1,Ch.2.2.1,Ch.2.2.2.1,Ch.2.2.2.2.2.1,Ch.2.2.2.2.2.2.1,Ch.2.2.2.2.2.2.2.1,(AG Ch).1,(AG Ch).2.1,(AG Ch).2.2.1,(AG Ch).2.2.2.1,(AG Ch).2.2.2.2.1,(AG Ch).2.2.2.2.2.1,(AG Ch).2.2.2.2.2.2.1,(AG Ch).2.2.2.2.2.2.2.1,(AG (AG Ch)).1,(AG (AG Ch)).2.1,(AG (AG Ch)).2.2.1,(AG (AG Ch)).2.2.2.1,(AG (AG Ch)).2.2.2.2.1,(AG (AG Ch)).2.2.2.2.2.1,(AG (AG Ch)).2.2.2.2.2.2.1,(AG (AG Ch)).2.2.2.2.2.2.2.1,(AG (AG (AG Ch))).1,(AG (AG (AG Ch))).2.1,(AG (AG (AG Ch))).2.2.1,(AG (AG (AG Ch))).2.2.2.1,(AG (AG (AG Ch))).2.2.2.2.1,(AG (AG (AG Ch))).2.2.2.2.2.1,(AG (AG (AG Ch))).2.2.2.2.2.2.1,(AG (AG (AG Ch))).2.2.2.2.2.2.2.1,(AG (AG (AG (AG Ch)))).1,(AG (AG (AG (AG Ch)))).2.1,(AG (AG (AG (AG Ch)))).2.2.1,(AG (AG (AG (AG Ch)))).2.2.2.1,(AG (AG (AG (AG Ch)))).2.2.2.2.1,(AG (AG (AG (AG Ch)))).2.2.2.2.2.1,(AG (AG (AG (AG Ch)))).2.2.2.2.2.2.1,(AG (AG (AG (AG Ch)))).2.2.2.2.2.2.2.1,(AG (AG (AG (AG (AG Ch))))).1,(AG (AG (AG (AG (AG Ch))))).2.1,(AG (AG (AG (AG (AG Ch))))).2.2.1,AL5⟩,HG,BQ,BV,Ai,Al,Ag,CA,hr,ho,oc,op,okk,ow,KD,KE,Hg,Hh,FO,Hy,ap_hr_ow,ap_ho_ow,ap_oc_ow,ap_ow_oc,ap_op_ow,ap_ow_op,ap_okk_ow,ap_ow_okk,lo_ow⟩ fun a122 w122 hI122=>?_
         clear BQ
         clear BV
         clear Ai
         clear Al
         clear Ag
         clear CA
         clear hr
         clear ho
         clear oc
         clear op
         clear okk
         clear ow
         clear HG
         obtain⟨j,wo,wc,hjn,AFL,HG,BQ,BV,Ai,Al,Ag,CA,hr,ho,oc,op,okk,ow,KD,KE,Hg,Hh,FO,Hy,ap_hr_ow,ap_ho_ow,ap_oc_ow,ap_ow_oc,ap_op_ow,ap_ow_op,ap_okk_ow,ap_ow_okk,lo_ow⟩:=hI122
         refine ALz fun K123 k123=>?_
         by_cases hjl:j<i
         · have hjk:j<kl.length:=by omega
           obtain⟨ky,hx_ky⟩:∃zx,kl[j]'hjk=zx:=⟨_,rfl⟩
           refine ALy ?_
           refine AJ AFL 1 [(81,.bool true)]
            ⟨Il r7 (fun _=>Bo (by simp;omega)),AL5⟩ fun a124 w124 g124 AIC=>?_
           refine AE ?_
           refine k123 _ _ ?_
           refine ALz fun K125 k125=>?_
           refine Aw AIC rfl rfl ?_
           refine AL3 ?_
           refine k125 _ _ ?_
           refine ALz fun K126 k126=>?_
           refine BM fun Q127 x127 y127 rt127 o127=>?_
           refine ALz fun K128 k128=>?_
           refine ALy ?_
           replace okk:=okk.kn g124
           refine AJ AIC 2 [(82,pk ((bO ko)) (oO ko+j*32)),(83,AP ky.x)]
            ⟨BA rq8 (fun w=>CU Tryz.underlying28 (by kernel_rfl) ((Sl.of_own okk)) (by omega) (rfl) w),Bu r6 (fun _ g=>Ab (B6 ky.x ky.h.1) (by have:=DU (Sl.of_own (okk.kn g)) GF hjk (by decide);rw[hx_ky] at this;exact this)),AL5⟩ fun a129 w129 g129 AKW=>?_
           replace BQ:=AC g129 (AC g124 BQ)
           replace BV:=AC g129 (AC g124 BV)
           replace Ai:=AC g129 (AC g124 Ai)
           replace Al:=AC g129 (AC g124 Al)
           replace Ag:=AC g129 (AC g124 Ag)
           replace CA:=AC g129 (AC g124 CA)
           replace hr:=(hr.kn g124).kn g129
           replace ho:=(ho.kn g124).kn g129
           replace oc:=(oc.kn g124).kn g129
           replace op:=(op.kn g124).kn g129
           replace okk:=okk.kn g129
           replace ow:=(ow.kn g124).kn g129
           replace HG:=AA (AA HG g124) g129
           refine Ar (T:=23) (Z:=(bv AR)) AKW rfl rfl rfl (fun a w=>by kernel_rfl) fun a130 w130 AHQ C6 g130 z130 NY AID=>?_
           have Pk:=An BQ C6
           have Pl:=An BV C6
           have OY:=An Ai C6
           have OZ:=An Al C6
           have NZ:=An Ag C6
           have Na:=An CA C6
           have AAe:=Bt HG C6
           have TS:=Au (hr.lt) C6
           have TU:=Au (ho.lt) C6
           have TV:=Au (Own.ltS oc) C6
           have TW:=Au (Own.ltS op) C6
           have Rm:=Au (Own.ltS okk) C6
           have TX:=Au (Own.ltS ow) C6
           refine Ao AID r7 (B6 ky.x ky.h.1) NY (GR ky.h) fun w131 g131 h131=>?_
           replace BQ:=AX g131 (AC g130 BQ) (Ne.symm Pk)
           replace BV:=AX g131 (AC g130 BV) (Ne.symm Pl)
           replace Ai:=AX g131 (AC g130 Ai) (Ne.symm OY)
           replace Al:=AX g131 (AC g130 Al) (Ne.symm OZ)
           replace Ag:=AX g131 (AC g130 Ag) (Ne.symm NZ)
           replace CA:=AX g131 (AC g130 CA) (Ne.symm Na)
           replace ow:=(ow.kn g130).offR g131 (AU TX)
           replace HG:=AD (AA HG g130) g131 AAe
           replace NY:=h131
           refine AE ?_
           refine k128 _ _ ?_
           refine DW (AID.st w131) (by kernel_rfl) 6 [(84,Sp.is (pk EZ 3)),(85,Sp.is (.slice wo j wc)),(86,Sp.is (AP ck)),(87,Sp.is (AP ky.x)),(88,Sp.is (AP ((Mr ck ky.x)))),(89,Sp.lit1 w131.heap.size 23 (bv (Mr ck ky.x)))] rfl (by kernel_rfl) (by kernel_rfl) (by kernel_rfl) [] (by kernel_rfl)
            ⟨yf r6 (fun _=>by kernel_rfl),yp (i:=3) r6 (J3 (.slice wo j wc) rfl) Ag rfl rfl,yl r6 (B6 ck hck.1) CA,yl r6 (B6 ky.x ky.h.1) NY,Ae [AP ck,AP ky.x] Tryz.func56 (by kernel_rfl) rq4 ⟨(oy rfl rfl),(oy rfl rfl),AL5⟩ (Ap fun W g=>NQ ck ky.x hck ky.h W),QC rfl rfl trivial (Nat.le_refl _) rfl (fun W hw v h=>match v,h with|_,⟨rfl,_⟩=>⟨bv (Mr ck ky.x),AC4 (Mt hck ky.h) W,fun w' _ hh=>⟨_,rfl,hw.size,hh⟩⟩),AL5⟩ trivial
            [] (by kernel_rfl) trivial ⟨.inl rfl,.inl rfl,.inl rfl,.inl rfl,.inl rfl,.inl rfl,AL5⟩ (by kernel_rfl) fun a132 w132 g132 st132 nd132=>?_
           obtain⟨hn132,hd132,e132_84,e132_85,e132_86,e132_87,e132_88,e132_89,e132_21,e132_82,e132_83,e132_81,e132_80,e132_78,e132_79,e132_76,e132_77,e132_19,e132_75,e132_73,e132_74,e132_54,e132_53,e132_14,e132_51,e132_52,e132_41,e132_42,e132_43,e132_13,e132_40,e132_39,e132_12,e132_23,e132_24,e132_25,e132_26,e132_27,e132_28,e132_29,e132_30,e132_31,e132_32,e132_22,e132_11,e132_10,e132_9,e132_5,e132_0,e132_1,e132_2,e132_3,e132_4,-⟩:=st132
           obtain⟨V,e132_89q,geV,HV⟩:=e132_89
           have AJk:V≠Vo:=Nat.ne_of_gt (Nat.lt_of_lt_of_le (Array.getElem?_eq_some_iff.1 BQ).1 geV)
           have AJl:V≠Vp:=Nat.ne_of_gt (Nat.lt_of_lt_of_le (Array.getElem?_eq_some_iff.1 BV).1 geV)
           have AJN:V≠Ib:=Nat.ne_of_gt (Nat.lt_of_lt_of_le (Array.getElem?_eq_some_iff.1 Ai).1 geV)
           have AJO:V≠Ie:=Nat.ne_of_gt (Nat.lt_of_lt_of_le (Array.getElem?_eq_some_iff.1 Al).1 geV)
           have Yi:V≠EZ:=Nat.ne_of_gt (Nat.lt_of_lt_of_le (Array.getElem?_eq_some_iff.1 Ag).1 geV)
           have AIE:V≠Ri:=Nat.ne_of_gt (Nat.lt_of_lt_of_le (Array.getElem?_eq_some_iff.1 CA).1 geV)
           have AHR:V≠AHQ:=Nat.ne_of_gt (Nat.lt_of_lt_of_le (Array.getElem?_eq_some_iff.1 NY).1 geV)
           have lo_V:w.heap.size≤V:=Nat.le_trans HG.size geV
           have ap_ow_V:=Iu (Own.ltS ow) geV
           replace BQ:=AC g132 BQ
           replace BV:=AC g132 BV
           replace Ai:=AC g132 Ai
           replace Al:=AC g132 Al
           replace Ag:=AC g132 Ag
           replace CA:=AC g132 CA
           replace hr:=((hr.kn g130).offR g131 (AU TS)).kn g132
           replace ho:=((ho.kn g130).offR g131 (AU TU)).kn g132
           replace oc:=((oc.kn g130).offR g131 (AU TV)).kn g132
           replace op:=((op.kn g130).offR g131 (AU TW)).kn g132
           replace okk:=((okk.kn g130).offR g131 (AU Rm)).kn g132
           replace ow:=ow.kn g132
           replace HG:=AA HG g132
           have AKX:Sv 104 [{ target:=.fn (.func 49) #[pt Ib,pt Ie],args:=#[] }] [(21,_),(82,_),(83,_),(81,_),(80,_),(78,_),(79,_),(76,_),(77,_),(19,_),(75,_),(73,_),(74,_),(54,_),(53,_),(14,_),(51,_),(52,_),(41,_),(42,_),(43,_),(13,_),(40,_),(39,_),(12,_),(23,_),(24,_),(25,_),(26,_),(27,_),(28,_),(29,_),(30,_),(31,_),(32,_),(22,_),(11,_),(10,_),(9,_),(5,_),(0,_),(1,_),(2,_),(3,_),(4,_),(85,_),(89,_)] a132:=⟨hn132,hd132,e132_21,e132_82,e132_83,e132_81,e132_80,e132_78,e132_79,e132_76,e132_77,e132_19,e132_75,e132_73,e132_74,e132_54,e132_53,e132_14,e132_51,e132_52,e132_41,e132_42,e132_43,e132_13,e132_40,e132_39,e132_12,e132_23,e132_24,e132_25,e132_26,e132_27,e132_28,e132_29,e132_30,e132_31,e132_32,e132_22,e132_11,e132_10,e132_9,e132_5,e132_0,e132_1,e132_2,e132_3,e132_4,e132_85,e132_89q,AL5⟩
           refine Mg dsT AKX rfl rfl rfl rfl rfl rfl rfl rfl ow (Lx HV (Mt hck ky.h)) (Gz _) (by omega) fun a133 ao133 cap133 w133 owx133 Cj AKY=>?_
           have Rn:=KX Cj.2 KD BQ
           have Ro:=KX Cj.2 KE BV
           have Pm:=KX Cj.2 Hg Ai
           have Pn:=KX Cj.2 Hh Al
           have Jd:=KX Cj.2 FO Ag
           have Oa:=KX Cj.2 Hy CA
           have WH:=KY Cj.2 ap_hr_ow (hr.lt)
           have WI:=KY Cj.2 ap_ho_ow (ho.lt)
           have Nb:=KY Cj.2 ap_oc_ow (Own.ltS oc)
           have Nc:=KY Cj.2 ap_op_ow (Own.ltS op)
           have ML:=KY Cj.2 ap_okk_ow (Own.ltS okk)
           have ap_owx133_oc:=AEQ Nb
           have ap_owx133_op:=AEQ Nc
           have ap_owx133_okk:=AEQ ML
           have ADE:=Zz Cj.2 lo_ow HG
           replace Ag:=AF Cj.1 Ag (fun e=>FO _ e.symm rfl)
           rw[AFC hck hjk hx_ky] at owx133
           refine AJ AKY 1 [(91,pk EZ 3)]
            ⟨yf r6 (fun _=>by kernel_rfl),AL5⟩ fun a134 w134 g134 AIF=>?_
           refine JT (L:=[[.int .i64 ad],[.slice ao29 ds.length cap29],[.int .i64 1],[.slice wo j wc],[.slice none 0 0],bv AR]) (i:=3) AIF r7 (J3 (.slice ao133 (j+1) cap133) rfl) (AC g134 Ag) rfl rfl rfl fun w135 g135 h135=>?_
           replace BQ:=Aj g134 g135 (AF Cj.1 BQ (fun e=>KD _ e.symm rfl)) (Ne.symm D9)
           replace BV:=Aj g134 g135 (AF Cj.1 BV (fun e=>KE _ e.symm rfl)) (Ne.symm EA)
           replace Ai:=Aj g134 g135 (AF Cj.1 Ai (fun e=>Hg _ e.symm rfl)) (Ne.symm CC)
           replace Al:=Aj g134 g135 (AF Cj.1 Al (fun e=>Hh _ e.symm rfl)) (Ne.symm CD)
           replace CA:=Aj g134 g135 (AF Cj.1 CA (fun e=>Hy _ e.symm rfl)) EE
           replace HV:=Aj g134 g135 (AF Cj.1 HV (fun e=>ap_ow_V _ e.symm rfl)) Yi
           replace hr:=((hr.offR Cj.1 (fun k hk e=>ap_hr_ow k hk (e))).kn g134).offR g135 (AU FM)
           replace ho:=((ho.offR Cj.1 (fun k hk e=>ap_ho_ow k hk (e))).kn g134).offR g135 (AU FN)
           replace oc:=((oc.offR Cj.1 (fun k hk e=>ap_oc_ow k hk (e))).kn g134).offR g135 (AU Ds)
           replace op:=((op.offR Cj.1 (fun k hk e=>ap_op_ow k hk (e))).kn g134).offR g135 (AU Ea)
           replace okk:=((okk.offR Cj.1 (fun k hk e=>ap_okk_ow k hk (e))).kn g134).offR g135 (AU C9)
           replace HG:=AD (AA (Bi HG Cj.1 fun k e=>lo_ow k (e)) g134) g135 Fu
           have AKZ:Sv _ _ [_,_,_,_,_,_,_,_,_,_,_,_,_,_,_,_,_,_,_,_,_,_,_,_,_,_,_,_,_,_,_,_,_,_,_,_,_,_,_,_,_,_,_,_,_] _:=AIF.dl [91,90,85,89]
           refine AE ?_
           refine y127 _ _ ?_
           refine k126 _ _ ?_
           refine ALy ?_
           refine AJ AKZ 1 [(92,.int .i64 (((j+1:Nat):Int)))]
            ⟨Cz r6 (fun _=>Dk (by rw[BG (by omega) (by omega)];omega)),AL5⟩ fun a137 w137 g137 AKa=>?_
           refine AJ (AKa.dl [80]) 1 [(80,.int .i64 (((j+1:Nat):Int)))]
            ⟨ym r5,AL5⟩ fun a138 w138 g138 Ce=>?_
           have JB:=AA g137 g138
           refine AE ?_
           replace BQ:=AC JB BQ
           replace BV:=AC JB BV
           replace Ai:=AC JB Ai
           replace Al:=AC JB Al
           replace Ag:=AC JB h135
           replace CA:=AC JB CA
           replace HV:=AC JB HV
           replace hr:=hr.kn JB
           replace ho:=ho.kn JB
           replace oc:=oc.kn JB
           replace op:=op.kn JB
           replace okk:=okk.kn JB
           replace owx133:=((owx133.kn g134).offR g135 (AU Jd)).kn JB
           replace HG:=AA HG JB
           exact⟨⟨j+1,ao133,cap133,by omega,⟨Ce.1,Ce.2.1,Ce.2.2.1,(AG Ce).1,(AG Ce).2.1,(AG Ce).2.2.1,(AG Ce).2.2.2.1,(AG Ce).2.2.2.2.1,(AG Ce).2.2.2.2.2.1,(AG Ce).2.2.2.2.2.2.1,(AG Ce).2.2.2.2.2.2.2.1,(AG (AG Ce)).1,(AG (AG Ce)).2.1,(AG (AG Ce)).2.2.1,(AG (AG Ce)).2.2.2.1,(AG (AG Ce)).2.2.2.2.1,(AG (AG Ce)).2.2.2.2.2.1,(AG (AG Ce)).2.2.2.2.2.2.1,(AG (AG Ce)).2.2.2.2.2.2.2.1,(AG (AG (AG Ce))).1,(AG (AG (AG Ce))).2.1,(AG (AG (AG Ce))).2.2.1,(AG (AG (AG Ce))).2.2.2.1,(AG (AG (AG Ce))).2.2.2.2.1,(AG (AG (AG Ce))).2.2.2.2.2.1,(AG (AG (AG Ce))).2.2.2.2.2.2.1,(AG (AG (AG Ce))).2.2.2.2.2.2.2.1,(AG (AG (AG (AG Ce)))).1,(AG (AG (AG (AG Ce)))).2.1,(AG (AG (AG (AG Ce)))).2.2.1,(AG (AG (AG (AG Ce)))).2.2.2.1,(AG (AG (AG (AG Ce)))).2.2.2.2.1,(AG (AG (AG (AG Ce)))).2.2.2.2.2.1,(AG (AG (AG (AG Ce)))).2.2.2.2.2.2.1,(AG (AG (AG (AG Ce)))).2.2.2.2.2.2.2.1,(AG (AG (AG (AG (AG Ce))))).1,(AG (AG (AG (AG (AG Ce))))).2.1,(AG (AG (AG (AG (AG Ce))))).2.2.1,(AG (AG (AG (AG (AG Ce))))).2.2.2.1,(AG (AG (AG (AG (AG Ce))))).2.2.2.2.1,(AG (AG (AG (AG (AG Ce))))).2.2.2.2.2.1,(AG (AG (AG (AG (AG Ce))))).2.2.2.2.2.2.1,(AG (AG (AG (AG (AG Ce))))).2.2.2.2.2.2.2.1,AL5⟩,HG,BQ,BV,Ai,Al,Ag,CA,hr,ho,oc,op,okk,owx133,Rn,Ro,Pm,Pn,Jd,Oa,WH,WI,Nb,ap_owx133_oc,Nc,ap_owx133_op,ML,ap_owx133_okk,ADE⟩,by rw[show _=_ from Ce.2.2.1,show _=_ from AFL.2.2.1];simp[intOf];omega⟩
         · have hwr:(wrL ck hck kl j).map DD.x=kl.map fun z=>Mr ck z.x:=AHK (by omega)
           refine ALy ?_
           refine AJ AFL 1 [(81,.bool false)]
            ⟨Il r7 (fun _=>Bo (by simp;omega)),AL5⟩ fun a139 w139 g139 AIG=>?_
           refine AE ?_
           refine k123 _ _ ?_
           refine ALz fun K140 k140=>?_
           refine A1 AIG rfl rfl ?_
           refine wp_exit ?_
           repeat refine CY ?_
           refine x121 _ _ ?_
           refine k99 _ _ ?_
           refine ALz fun K141 k141=>?_
           refine ALy ?_
           refine AJ AIG 2 [(93,.slice ao36 ((Bq x)).length cap36),(94,AP ck)]
            ⟨ym r5,yl r6 (B6 ck hck.1) (AC g139 CA),AL5⟩ fun a142 w142 g142 AKb=>?_
           have Nf:=AA g139 g142
           replace Ai:=AC Nf Ai
           replace Al:=AC Nf Al
           replace Ag:=AC Nf Ag
           replace op:=op.kn Nf
           replace HG:=AA HG Nf
           refine Bh AKb Tryz.func57 (by kernel_rfl) r6 (Uh (J5 (Bq x) (I2 x) (by have:=IE x;omega) _ _ ck hck _ (Own.sb op))) fun a143 v143 w143 hR143 AKc=>?_
           obtain⟨ao143,cap143,rfl,_⟩:=(Sl.of_own hR143.1).shape
           obtain⟨ow143,fr143⟩:=hR143
           replace fr143:=D1 fr143
           have oy_:=ow143
           clear ow143
           have g143:=fr143.1
           replace fr143:=fr143.2
           have J8:=CJ fr143 Ai
           have J9:=CJ fr143 Al
           have Fb:=CJ fr143 Ag
           have lo_oy_:=KP HG fr143
           replace Ag:=AC g143 Ag
           refine AJ AKc 1 [(96,pk EZ 4)]
            ⟨yf r6 (fun _=>by kernel_rfl),AL5⟩ fun a144 w144 g144 AIH=>?_
           refine JT (L:=[[.int .i64 ad],[.slice ao29 ds.length cap29],[.int .i64 1],[.slice wo j wc],[.slice none 0 0],bv AR]) (i:=4) AIH r7 (Ho (.slice ao143 ((Ja (Bq x) ck)).length cap143) rfl) (AC g144 Ag) rfl rfl rfl fun w145 g145 h145=>?_
           replace CA:=Aj g144 g145 (AC g143 (AC Nf CA)) EE
           replace Ag:=h145
           have AKd:Sv _ _ [_,_,_,_,_,_,_,_,_,_,_,_,_,_,_,_,_,_,_,_,_,_,_,_,_,_,_,_,_,_,_,_,_,_,_,_,_,_,_,_,_,_] _:=AIH.dl [96,95,93,94]
           refine AE ?_
           refine k141 _ _ ?_
           refine ALz fun K147 k147=>?_
           refine ALy ?_
           refine AJ AKd 4 [(97,AP ck),(98,.int .i64 ad),(99,pk EZ 4),(100,.slice ao143 ((Ja (Bq x) ck)).length cap143)]
            ⟨yl r6 (B6 ck hck.1) CA,ym r5,yf r6 (fun _=>by kernel_rfl),yp (i:=4) r6 (Ho (.slice ao143 ((Ja (Bq x) ck)).length cap143) rfl) Ag rfl rfl,AL5⟩ fun a148 w148 g148 AKe=>?_
           replace oy_:=((oy_.kn g144).offR g145 (AU Fb)).kn g148
           refine Bh AKe Tryz.func58 (by kernel_rfl) r6 (OM (Gv ck hck ad hia (Ja (Bq x) ck) (RU _ (I2 x)) (by have:=IE x;rw[J4];omega) _ _ _ (Own.sb oy_))) fun a149 v149 w149 hR149 AKf=>?_
           obtain⟨rfl,g149⟩:=hR149
           replace Ag:=AC g149 (AC g148 Ag)
           have AKg:Sv _ _ [_,_,_,_,_,_,_,_,_,_,_,_,_,_,_,_,_,_,_,_,_,_,_,_,_,_,_,_,_,_,_,_,_,_,_,_,_,_,_,_,_,_,_] _:=AKf.dl [97,98,99,100]
           refine AJ AKg 1 [(102,pk EZ 5)]
            ⟨yf r6 (fun _=>by kernel_rfl),AL5⟩ fun a151 w151 g151 AII=>?_
           refine JT (L:=[[.int .i64 ad],[.slice ao29 ds.length cap29],[.int .i64 1],[.slice wo j wc],[.slice ao143 ((Ja (Bq x) ck)).length cap143],bv AR]) (i:=5) AII r7 (B6 ((Wq ck ad (Ja (Bq x) ck))) (EX _ _ _).1) (AC g151 Ag) rfl rfl (ABR AO (EX _ _ _)) fun w152 g152 h152=>?_
           replace Ai:=Aj g151 g152 (AC g149 (AC g148 (Aj g144 g145 (AC g143 Ai) (Ne.symm CC)))) (Ne.symm CC)
           replace Ag:=h152
           refine AE ?_
           refine k147 _ _ ?_
           refine ALz fun K153 k153=>?_
           refine ALy ?_
           refine AJ AII 1 [(103,B9 ad (.slice ao29 ds.length cap29) 1 (.slice wo j wc) (.slice ao143 ((Ja (Bq x) ck)).length cap143) ((Wq ck ad (Ja (Bq x) ck))))]
            ⟨yl r6 (EJ _ _ (EX _ _ _) (.slice ao29 ds.length cap29) (.slice wo j wc) (.slice ao143 ((Ja (Bq x) ck)).length cap143) rfl rfl rfl) Ag,AL5⟩ fun a154 w154 g154 ABn=>?_
           refine Ao ABn r7 (EJ _ _ (EX _ _ _) (.slice ao29 ds.length cap29) (.slice wo j wc) (.slice ao143 ((Ja (Bq x) ck)).length cap143) rfl rfl rfl) (AC g154 Ai) (FL AO (EX _ _ _)) fun w155 g155 h155=>?_
           replace Al:=Aj g154 g155 (Aj g151 g152 (AC g149 (AC g148 (Aj g144 g145 (AC g143 Al) (Ne.symm CD)))) (Ne.symm CD)) Bw
           refine Ao ABn r7 (EH 0) Al rfl fun w156 g156 h156=>?_
           replace Ai:=AX g156 h155 (Ne.symm Bw)
           replace oc:=((((((((((oc.kn Nf).kn g143).kn g144).offR g145 (AU Ds)).kn g148).kn g149).kn g151).offR g152 (AU Ds)).kn g154).offR g155 (AU I3)).offR g156 (AU I6)
           replace op:=(((((((((op.kn g143).kn g144).offR g145 (AU Ea)).kn g148).kn g149).kn g151).offR g152 (AU Ea)).kn g154).offR g155 (AU I7)).offR g156 (AU I8)
           replace okk:=((((((((((okk.kn Nf).kn g143).kn g144).offR g145 (AU C9)).kn g148).kn g149).kn g151).offR g152 (AU C9)).kn g154).offR g155 (AU Eb)).offR g156 (AU Ec)
           replace ow:=((((((((((ow.kn Nf).kn g143).kn g144).offR g145 (AU FO)).kn g148).kn g149).kn g151).offR g152 (AU FO)).kn g154).offR g155 (AU Hg)).offR g156 (AU Hh)
           replace oy_:=(((((oy_.kn g149).kn g151).offR g152 (AU Fb)).kn g154).offR g155 (AU J8)).offR g156 (AU J9)
           replace HG:=AD (AD (AA (AD (AA (AA (AA (AD (AA (AA HG g143) g144) g145 Fu) g148) g149) g151) g152 Fu) g154) g155 Ic) g156 Ig
           replace Al:=h156
           refine AE ?_
           refine k153 _ _ ?_
           refine AL2 ?_
           repeat refine AL ?_
           refine BK (fn:=Tryz.f20) ABn (Ba (p:=10) (q:=11) Tryz.results20 ABn rfl rfl rfl rfl (EJ _ _ (EX _ _ _) (.slice ao29 ds.length cap29) (.slice wo j wc) (.slice ao143 ((Ja (Bq x) ck)).length cap143) rfl rfl rfl) (EH 0) Ai Al) (Bn Tryz.func49 (by kernel_rfl) rfl _ _) (EY _ _ _) ?_
           exact SRes.mk (own:=ds) (wr:=(wrL ck hck kl j)) (Fa hh hv hne hK2 hkm hcke) rfl (AHL (by omega)) rfl hown (hwr.trans (AC5 kl ck)) oc ow oy_ lo_oc lo_ow lo_oy_ ap_oc_ow (EX _ _ _) (RU _ (I2 x)) HG rfl
end Go.Proofs.YtbfjfnbcmojpiaaGreat
