import Derived.Test.YtbfjfnbcmojpiaaGreatOtY7
set_option linter.unusedSimpArgs false
set_option linter.unusedVariables false
set_option maxRecDepth 100000
set_option maxHeartbeats 4000000
namespace Go.Proofs.YtbfjfnbcmojpiaaGreat
open Go.RowKit Go.Shelf
theorem EZ (p q:Value) (w:World):CallsD Tryz.prog 49 #[p,q] .returning w fun e u' w'=>e=.returned (.tuple #[])∧u'=.returning∧w'=w:=by
 refine callsD_of_wpS Tryz.func49 rfl fun c₀ cs hu=>?_
 apply wpS_seq
 apply wpS_region
 simp[wpOpsS,go_sem,recoverD,hu,Tryz.ntmps49,Exit.thenS]
 refine wpS_cond (t:=false) (by simp[Act.eval,Array.replicate]) ?_
 simp only[Bool.false_eq_true,if_false]
 refine wpS_of_wp (ALp ?_)
 cases c₀
 simp_all [bodyPostS,results,Tryz.results49]
theorem Du (p q:Value) (w:World):CallsD Tryz.prog 60 #[p,q] .returning w fun e u' w'=>e=.returned (.tuple #[])∧u'=.returning∧w'=w:=by
 refine callsD_of_wpS Tryz.func60 rfl fun c₀ cs hu=>?_
 apply wpS_seq
 apply wpS_region
 simp[wpOpsS,go_sem,recoverD,hu,Tryz.ntmps60,Exit.thenS]
 refine wpS_cond (t:=false) (by simp[Act.eval,Array.replicate]) ?_
 simp only[Bool.false_eq_true,if_false]
 refine wpS_of_wp (ALp ?_)
 cases c₀
 simp_all [bodyPostS,results,Tryz.results60]
def SRes (w w':World) (r:Sd×Int) (e:Ending):Prop:=
 ∃(own wr:List DD) (ao wo bo:Option Addr) (ac wc bc:Nat),e=.returned (.tuple #[Ce r.1.addr (.slice ao own.length ac) r.1.joint (.slice wo wr.length wc) (.slice bo r.1.body.length bc) r.1.tag,.int .i64 r.2])∧own.map DD.x=r.1.own∧wr.map DD.x=r.1.wr ∧
  Own w' 23 32 (.slice ao own.length ac) own.length (own.flatMap Lf)∧Own w' 23 32 (.slice wo wr.length wc) wr.length (wr.flatMap Lf)∧Own w' 5 1 (.slice bo r.1.body.length bc) r.1.body.length (bv r.1.body) ∧
  (∀k,Bi (.slice ao own.length ac) k→w.heap.size≤k)∧(∀k,Bi (.slice wo wr.length wc) k→w.heap.size≤k)∧(∀k,Bi (.slice bo r.1.body.length bc) k→w.heap.size≤k)∧(∀k,Bi (.slice ao own.length ac) k→¬Bi (.slice wo wr.length wc) k)∧Dg r.1.tag∧By r.1.body∧w.grownBy w' none
theorem SRes.mk {w w':World} {r:Sd×Int} {s:Sd} {er:Int} {own wr:List DD} {ao wo bo:Option Addr} {ac wc bc n m l:Nat} (hr:r=(s,er)) (hn:own.length=n) (hm:wr.length=m) (hl:s.body.length=l) (h1:own.map DD.x=s.own) (h2:wr.map DD.x=s.wr)
  (h3:Own w' 23 32 (.slice ao n ac) n (own.flatMap Lf)) (h4:Own w' 23 32 (.slice wo m wc) m (wr.flatMap Lf)) (h5:Own w' 5 1 (.slice bo l bc) l (bv s.body)) (f1:∀k,Bi (.slice ao n ac) k→w.heap.size≤k) (f2:∀k,Bi (.slice wo m wc) k→w.heap.size≤k) (f3:∀k,Bi (.slice bo l bc) k→w.heap.size≤k) (f4:∀k,Bi (.slice ao n ac) k→¬Bi (.slice wo m wc) k)
  (ht:Dg s.tag) (hb:By s.body) (g:w.grownBy w' none) {v:Value} (hv:v=Ce s.addr (.slice ao n ac) s.joint (.slice wo m wc) (.slice bo l bc) s.tag):SRes w w' r (.returned (.tuple #[v,.int .i64 er])):=by
 subst hr hn hm hl hv
 exact⟨own,wr,ao,wo,bo,ac,wc,bc,rfl,h1,h2,h3,h4,h5,f1,f2,f3,f4,ht,hb,g⟩
theorem SRes.zero {w w':World} {r:Sd×Int} {er:Int} (hr:r=(Sd.zero,er)) (g:w.grownBy w' none):SRes w w' r (.returned (.tuple #[Ce 0 (.slice none 0 0) 0 (.slice none 0 0) (.slice none 0 0) AS,.int .i64 er])):=
 SRes.mk (own:=[]) (wr:=[]) (ao:=none) (wo:=none) (bo:=none) (ac:=0) (wc:=0) (bc:=0) hr rfl rfl rfl rfl rfl (Own.nil _ _ _) (Own.nil _ _ _) (Own.nil _ _ _) (fun k hk=>by simp[Bi,Value.ownBlock] at hk) (fun k hk=>by simp[Bi,Value.ownBlock] at hk) (fun k hk=>by simp[Bi,Value.ownBlock] at hk) (fun k hk=>by simp[Bi,Value.ownBlock] at hk) AN (fun b hb=>by simp[Sd.zero] at hb) g rfl
theorem On {P:List VP} {own:List (List Nat)} {joint a:Int} {x:V} (h:hd own joint a=false∨CI P=false):E9 P own joint a x=(Sd.zero,1):=by
 unfold E9
 rcases h with h|h<;>simp[h]
theorem Jw {P:List VP} {joint a:Int} {x:V} (h1:hd [] joint a=true) (h2:CI P=true):E9 P [] joint a x=(⟨a,[],joint,[],Bt x,tgC a (Bt x)⟩,0):=by
 unfold E9
 simp[h1,h2]
theorem ACt {P:List VP} {own:List (List Nat)} {joint a:Int} {x:V} {e:Int} (h1:hd own joint a=true) (h2:CI P=true) (h3:own≠[]) (h4:(Cg P a own).2=e) (h5:e≠0):E9 P own joint a x=(Sd.zero,e):=by
 unfold E9
 simp[h1,h2,h3,h4,h5]
theorem Fb {P:List VP} {own:List (List Nat)} {joint a:Int} {x:V} {K:List (List Nat)} {c:List Nat} (h1:hd own joint a=true) (h2:CI P=true) (h3:own≠[]) (h4:(Cg P a own).2=0) (h5:K=(Cg P a own).1) (h6:U5 (decide (joint=1)) K=c) :
  E9 P own joint a x=(⟨a,own,joint,if joint=1 then K.map (Md c) else [],Jb (Bt x) c,U6 c a (Jb (Bt x) c)⟩,0):=by
 subst h5
 subst h6
 unfold E9
 simp[h1,h2,h3,h4]
theorem Iq {P:List VP} {a:Int}:∀{own:List (List Nat)},(∀j,j<own.length→(Cb P (IK own j) a).2=0)→(Cg P a own).1=own.map (fun z=>(Cb P z a).1)∧(Cg P a own).2=0
 | [],_=>⟨rfl,rfl⟩
 | o::l,h=>by
  have h0:(Cb P o a).2=0:=h 0 (by simp)
  obtain⟨h1,h2⟩:=Iq (own:=l) fun j hj=>h (j+1) (by simpa using hj)
  unfold Cg
  rw[if_pos h0]
  exact⟨by rw[h1];rfl,h2⟩
theorem Oo {P:List VP} {a:Int}:∀{own:List (List Nat)} {i:Nat},i<own.length→(∀j,j<i→(Cb P (IK own j) a).2=0)→(Cb P (IK own i) a).2≠0→(Cg P a own).2=(Cb P (IK own i) a).2
 | [],i,hi,_,_=>by simp at hi
 | o::l,0,_,_,h=>by
  have h0:(Cb P o a).2≠0:=h
  unfold Cg
  rw[if_neg h0]
  rfl
 | o::l,i+1,hi,hj,h=>by
  have h0:(Cb P o a).2=0:=hj 0 (by omega)
  have:=Oo (own:=l) (i:=i) (by simpa using hi) (fun j hjj=>hj (j+1) (by omega)) h
  unfold Cg
  rw[if_pos h0]
  exact this
theorem UM {P:List VP} {a:Int} {own:List (List Nat)} {i:Nat} {kl:List DD} {y:List Nat} {kx:List Nat×Int} (h:kl.map DD.x=(own.take i).map fun z=>(Cb P z a).1) (hi:i<own.length) (hla:IK own i=y) (hkx:Cb P y a=kx) {hkd:Dg kx.1}:(kl++[(⟨kx.1,hkd⟩:DD)]).map DD.x=(own.take (i+1)).map fun z=>(Cb P z a).1:=by
 rw[List.take_add_one,List.getElem?_eq_getElem hi,List.map_append,List.map_append,h]
 rw[Ol hi] at hla
 simp[hla,hkx]
theorem VO (kl:List DD) (d:DD):kl.flatMap Lf++bv d.x=(kl++[d]).flatMap Lf:=by rw[List.flatMap_append];simp[Lf]
theorem MI {w:World} {B:Nat} {d:List Nat} {t:TypeId} {fr:Nat×Nat} (h:w.heap[B]?=some (.cells (bv d).toArray t fr)) (hd:Dg d):Sl w 32 (.slice (some ⟨B,0,none⟩) 1 1) 1 (bv d):=by
 refine⟨by rw[AI,hd.1],_,_,rfl,Nat.le_refl _,by decide,fun h=>(by cases h),fun ad had=>?_⟩
 obtain rfl:=Option.some.inj had
 refine⟨fun _=>rfl,fun j u hu=>?_⟩
 have:=Ai h j u hu
 simpa using this
theorem ACu {d:List Nat} (hd:Dg d) (W:World):(Instr.buildSlice 28 1 #[(0,AR d)]).run Tryz.prog W=.ok (.slice (some ⟨W.heap.size,0,none⟩) 1 1) (W.alloc (.cells (bv d).toArray 23)):=by
 obtain⟨x0,x1,x2,x3,x4,x5,x6,x7,x8,x9,x10,x11,x12,x13,x14,x15,x16,x17,x18,x19,x20,x21,x22,x23,x24,x25,x26,x27,x28,x29,x30,x31,rfl⟩:=IW _ hd.1
 kernel_rfl
theorem M5 {c y:List Nat} (hc:Dg c) (hy:Dg y):Dg (Md c y):=AEs hc (Bb 283 y)
def wrL (c:List Nat) (hc:Dg c) (kl:List DD) (j:Nat):List DD:=(kl.take j).map fun z=>⟨Md c z.x,M5 hc z.h⟩
theorem AE3 {c:List Nat} (hc:Dg c) {kl:List DD} {j:Nat} {z:DD} (hj:j<kl.length) (hz:kl[j]=z):(wrL c hc kl j).flatMap Lf++bv (Md c z.x)=(wrL c hc kl (j+1)).flatMap Lf:=by
 unfold wrL
 rw[List.take_add_one,List.getElem?_eq_getElem hj,hz,List.map_append,List.flatMap_append]
 simp[Lf]
theorem AG5 {c:List Nat} {hc:Dg c} {kl:List DD} {j:Nat} (hj:kl.length≤j):(wrL c hc kl j).map DD.x=kl.map fun z=>Md c z.x:=by
 unfold wrL
 rw[List.take_of_length_le hj,List.map_map]
 rfl
theorem AG6 {c:List Nat} {hc:Dg c} {kl:List DD} {j:Nat} (hj:j≤kl.length):(wrL c hc kl j).length=j:=by
 unfold wrL
 rw[List.length_map,List.length_take]
 omega
theorem AE4 {w:World} {kl:List DD} {n:Nat} {ko:Option Addr} {kc:Nat} {joint:Int} {c:List Nat} (hn:kl.length=n) (hr:SlB w 32 (.slice ko n kc) n (kl.flatMap Lf)) (hl:n≤1000) (hc:U5 (decide (joint=1)) (kl.map DD.x)=c):Calls Tryz.prog 55 #[.int .i64 joint,.slice ko n kc] w fun e w'=>e=.returned (AR c)∧w.grownBy w' none:=by
 subst hn hc
 exact ACp joint kl ko kc w hr hl
theorem RdK.noks2 {w:World} {v:Value} {ks:List VK} (h:RdK w v ks):∀i,i<(ks.map VK.p).length→∀n∈tr (ks.map VK.p) i,Nok n:=fun i hi n hn=>by
 have hi':i<ks.length:=by simpa using hi
 rw[RB hi'] at hn
 exact(h.2 _ (List.getElem_mem hi')).2.1 n hn
theorem Ri {P:List VP} {o:List Nat} {a:Int} (h:∀i,i<P.length→∀n∈tr P i,Nok n):Dg (Cb P o a).1:=by
 unfold Cb
 split
 · split
   · rename_i hf
     exact L3 (h _ (Ia hf).1) a
   · exact AN
 · exact AN
theorem AE5 {w:World} {ks:List VK} {vo:Option Addr} {vc:Nat} {sa po o:List Nat} {P:List VP} {a:Int} {q:List Nat×Int} (hsa:Dg sa) (hpo:Dg po) (ho:Dg o) (hk:RdK w (.slice vo ks.length vc) ks) (hm:ks.map VK.p=P) (hres:Cb P o a=q) :
 Calls Tryz.prog 32 #[Ao sa po (.slice vo ks.length vc),AR o,.int .i64 a] w fun e w'=>e=.returned (.tuple #[AR q.1,.int .i64 q.2])∧w.grownBy w' none:=AJx hsa hpo ho hk hm hres
theorem QQ {w:World} {ds:List DD} {own:List (List Nat)} {ao:Option Addr} {cap:Nat} {joint addr:Int} {b:Bool} (hr:RdD w (.slice ao ds.length cap) ds) (hown:ds.map DD.x=own) (hb:hd own joint addr=b):Calls Tryz.prog 50 #[.slice ao ds.length cap,.int .i64 joint,.int .i64 addr] w fun e w'=>e=.returned (.bool b)∧w.grownBy w' none:=QO hr (hown▸hb)
theorem JN (x:V):By (Bt x):=fun b hb=>AFr _ b hb
theorem ACv (kl:List DD) (c:List Nat):(kl.map fun z=>Md c z.x)=(kl.map DD.x).map (Md c):=by rw[List.map_map];rfl
theorem ACw (ks:List VK) (vo:Option Addr) (vc_:Nat) (sa po:List Nat) (hsa:Dg sa) (hpo:Dg po) (ds:List DD) (ao:Option Addr) (ac:Nat) (joint ad:Int) (x:V) (w:World) (hr:RdK w (.slice vo ks.length vc_) ks) (ho:RdD w (.slice ao ds.length ac) ds) (hdl:ds.length≤1000) :
   Calls Tryz.prog 20 #[Ao sa po (.slice vo ks.length vc_),.slice ao ds.length ac,.int .i64 joint,.int .i64 ad,CE x] w fun e w'=>SRes w w' (E9 (ks.map VK.p) (ds.map DD.x) joint ad x) e:=by
 obtain⟨P,hP⟩:∃P,ks.map VK.p=P:=⟨_,rfl⟩
 obtain⟨own,hown⟩:∃own,ds.map DD.x=own:=⟨_,rfl⟩
 have hownl:own.length=ds.length:=by rw[←hown,List.length_map]
 have hnok:=hr.noks2
 rw[hP] at hnok
 rw[hP,hown]
 refine Dn Tryz.func20 rfl Tryz.ntmps20 rfl fun a0 sv0=>?_
 have HG:=World.grownBy.refl w none
 replace sv0:Sv 104 [] [(0,Ao sa po (.slice vo ks.length vc_)),(1,.slice ao ds.length ac),(2,.int .i64 joint),(3,.int .i64 ad),(4,CE x)] a0:=sv0
 refine ALl fun K1 k1=>?_
 refine ALk ?_
 refine Bm sv0 r6 (BR hsa hpo (.slice vo ks.length vc_) rfl) fun a2 w2 VQ AKo g2 z2 BX sv2=>?_
 refine Bm sv2 r6 (EP x) fun a3 w3 VR AKp g3 z3 Bd sv3=>?_
 replace BX:=AC g3 BX
 replace hr:=(hr.kn g2).kn g3
 replace ho:=(ho.kn g2).kn g3
 replace HG:=AA (AA HG g2) g3
 refine Ax (T:=31) (Z:=([[.int .i64 0],[.slice none 0 0],[.int .i64 0],[.slice none 0 0],[.slice none 0 0],bv AS].flatten)) sv3 rfl rfl rfl (fun a w=>by kernel_rfl) fun a4 w4 Ir Lk g4 z4 Aj sv4=>?_
 have Em:=Au BX Lk
 have En:=Au Bd Lk
 have Is:=B7 HG Lk
 have Fo:=A2 (hr.lt) Lk
 have Fp:=A2 (ho.lt) Lk
 replace BX:=AC g4 BX
 replace Bd:=AC g4 Bd
 replace hr:=hr.kn g4
 replace ho:=ho.kn g4
 replace HG:=AA HG g4
 refine Ax (T:=38) (Z:=[.int .i64 0]) sv4 rfl rfl rfl (fun a w=>by kernel_rfl) fun a5 w5 It Jy g5 z5 An sv5=>?_
 have Eo:=Au BX Jy
 have Ep:=Au Bd Jy
 have B6:=Au Aj Jy
 have Iu:=B7 HG Jy
 have Fq:=A2 (hr.lt) Jy
 have Fs:=A2 (ho.lt) Jy
 replace BX:=AC g5 BX
 replace Bd:=AC g5 Bd
 replace Aj:=AC g5 Aj
 replace hr:=hr.kn g5
 replace ho:=ho.kn g5
 replace HG:=AA HG g5
 refine AE ?_
 refine k1 _ _ ?_
 refine ALl fun K6 k6=>?_
 refine ALk ?_
 refine E2 sv5 rfl rfl rfl rfl rfl rfl fun a7 sv7=>?_
 refine Ei sv7 rfl (dd:={ target:=.fn (.func 49) #[pt Ir,pt It],args:=#[] }) rfl (by have e1:=sv7.ev (x:=.tmp 22) rfl rfl;simp[execOp,resolve,Deferred.ofValue,e1];try rfl) fun a8 sv8=>?_
 refine AE ?_
 refine k6 _ _ ?_
 refine ALl fun K9 k9=>?_
 refine ALl fun K10 k10=>?_
 rcases(show(hd own joint ad=false∧CI P=false)∨(hd own joint ad=false∧CI P=true)∨(hd own joint ad=true∧CI P=false)∨(hd own joint ad=true∧CI P=true) by cases hd own joint ad<;>cases CI P<;>simp) with ⟨hh,hv⟩|⟨hh,hv⟩|⟨hh,hv⟩|⟨hh,hv⟩
 · refine ALk ?_
   refine AK sv8 10 [(23,.slice ao ds.length ac),(24,.int .i64 joint),(25,.int .i64 ad),(26,.bool false),(27,.bool true),(28,.bool true),(29,undef),(30,undef),(31,undef),(32,.bool true)]
     ⟨ym r5,ym r5,ym r5,Ad [.slice ao ds.length ac,.int .i64 joint,.int .i64 ad] Tryz.func50 (by kernel_rfl) rq4 ⟨(oy rfl rfl),(oy rfl rfl),(oy rfl rfl),ALr⟩ (As fun W g=>QQ (ho.kn g) hown hh),Cu r6 (fun _=>Bc),ym r5,Ab r6,Ab r6,Ab r6,CK r7,ALr⟩ fun a11 w11 g11 CY=>?_
   refine AE ?_
   refine k10 _ _ ?_
   refine Ar CY rfl rfl ?_
   refine ALl fun K12 k12=>?_
   refine ALk ?_
   replace Aj:=AC g11 Aj
   refine AK CY 1 [(33,Ce 0 (.slice none 0 0) 0 (.slice none 0 0) (.slice none 0 0) AS)]
     ⟨BV (vs:=[]) rfl rfl trivial trivial (fun _=>AG0 _) (fun _=>rfl),ALr⟩ fun a13 w13 g13 Dh=>?_
   refine Ap Dh r7 (FL _ _ AN (.slice none 0 0) (.slice none 0 0) (.slice none 0 0) rfl rfl rfl) (AC g13 Aj) (Fg AN AN) fun w14 g14 h14=>?_
   replace An:=Ah g13 g14 (AC g11 An) B6
   refine Ap Dh r7 (Dy 1) An rfl fun w15 g15 h15=>?_
   replace BX:=AX g15 (Ah g13 g14 (AC g11 BX) (Ne.symm Em)) (Ne.symm Eo)
   replace Bd:=AX g15 (Ah g13 g14 (AC g11 Bd) (Ne.symm En)) (Ne.symm Ep)
   replace Aj:=AX g15 h14 (Ne.symm B6)
   replace hr:=(((hr.kn g11).kn g13).offR g14 (AU Fo)).offR g15 (AU Fq)
   replace ho:=(((ho.kn g11).kn g13).offR g14 (AU Fp)).offR g15 (AU Fs)
   replace HG:=AD (AD (AA (AA HG g11) g13) g14 Is) g15 Iu
   replace An:=h15
   refine AE ?_
   refine k12 _ _ ?_
   refine ALo ?_
   repeat refine AM ?_
   refine BK (fn:=Tryz.f20) Dh (BU (p:=10) (q:=11) Tryz.results20 Dh rfl rfl rfl rfl (FL _ _ AN (.slice none 0 0) (.slice none 0 0) (.slice none 0 0) rfl rfl rfl) (Dy 1) Aj An) (Bp Tryz.func49 (by kernel_rfl) rfl _ _) (EZ _ _ _) ?_
   exact SRes.zero (On (.inl hh)) HG
 · refine ALk ?_
   refine AK sv8 10 [(23,.slice ao ds.length ac),(24,.int .i64 joint),(25,.int .i64 ad),(26,.bool false),(27,.bool true),(28,.bool true),(29,undef),(30,undef),(31,undef),(32,.bool true)]
     ⟨ym r5,ym r5,ym r5,Ad [.slice ao ds.length ac,.int .i64 joint,.int .i64 ad] Tryz.func50 (by kernel_rfl) rq4 ⟨(oy rfl rfl),(oy rfl rfl),(oy rfl rfl),ALr⟩ (As fun W g=>QQ (ho.kn g) hown hh),Cu r6 (fun _=>Bc),ym r5,Ab r6,Ab r6,Ab r6,CK r7,ALr⟩ fun a16 w16 g16 Cp=>?_
   refine AE ?_
   refine k10 _ _ ?_
   refine Ar Cp rfl rfl ?_
   refine ALl fun K17 k17=>?_
   refine ALk ?_
   replace Aj:=AC g16 Aj
   refine AK Cp 1 [(33,Ce 0 (.slice none 0 0) 0 (.slice none 0 0) (.slice none 0 0) AS)]
     ⟨BV (vs:=[]) rfl rfl trivial trivial (fun _=>AG0 _) (fun _=>rfl),ALr⟩ fun a18 w18 g18 Ca=>?_
   refine Ap Ca r7 (FL _ _ AN (.slice none 0 0) (.slice none 0 0) (.slice none 0 0) rfl rfl rfl) (AC g18 Aj) (Fg AN AN) fun w19 g19 h19=>?_
   replace An:=Ah g18 g19 (AC g16 An) B6
   refine Ap Ca r7 (Dy 1) An rfl fun w20 g20 h20=>?_
   replace BX:=AX g20 (Ah g18 g19 (AC g16 BX) (Ne.symm Em)) (Ne.symm Eo)
   replace Bd:=AX g20 (Ah g18 g19 (AC g16 Bd) (Ne.symm En)) (Ne.symm Ep)
   replace Aj:=AX g20 h19 (Ne.symm B6)
   replace hr:=(((hr.kn g16).kn g18).offR g19 (AU Fo)).offR g20 (AU Fq)
   replace ho:=(((ho.kn g16).kn g18).offR g19 (AU Fp)).offR g20 (AU Fs)
   replace HG:=AD (AD (AA (AA HG g16) g18) g19 Is) g20 Iu
   replace An:=h20
   refine AE ?_
   refine k17 _ _ ?_
   refine ALo ?_
   repeat refine AM ?_
   refine BK (fn:=Tryz.f20) Ca (BU (p:=10) (q:=11) Tryz.results20 Ca rfl rfl rfl rfl (FL _ _ AN (.slice none 0 0) (.slice none 0 0) (.slice none 0 0) rfl rfl rfl) (Dy 1) Aj An) (Bp Tryz.func49 (by kernel_rfl) rfl _ _) (EZ _ _ _) ?_
   exact SRes.zero (On (.inl hh)) HG
 · refine ALk ?_
   refine AK sv8 10 [(23,.slice ao ds.length ac),(24,.int .i64 joint),(25,.int .i64 ad),(26,.bool true),(27,.bool false),(28,.bool false),(29,Ao sa po (.slice vo ks.length vc_)),(30,.bool false),(31,.bool true),(32,.bool true)]
     ⟨ym r5,ym r5,ym r5,Ad [.slice ao ds.length ac,.int .i64 joint,.int .i64 ad] Tryz.func50 (by kernel_rfl) rq4 ⟨(oy rfl rfl),(oy rfl rfl),(oy rfl rfl),ALr⟩ (As fun W g=>QQ (ho.kn g) hown hh),Cu r6 (fun _=>Bc),ym r5,A9 rq9 (fun _ g=>Ae (BR hsa hpo (.slice vo ks.length vc_) rfl) (Ai (AF g BX (by simp)))),CL [Ao sa po (.slice vo ks.length vc_)] Tryz.func51 (by kernel_rfl) r7 ⟨(oy rfl rfl),ALr⟩ (As fun W g=>Nb hsa hpo (hr.kn g) hP hv),Ib rfl rfl (gy rfl rfl rfl) (oy rfl rfl) (fun _=>Bc) (fun _=>rfl),BC rq9,ALr⟩ fun a21 w21 g21 Db=>?_
   refine AE ?_
   refine k10 _ _ ?_
   refine Ar Db rfl rfl ?_
   refine ALl fun K22 k22=>?_
   refine ALk ?_
   replace Aj:=AC g21 Aj
   refine AK Db 1 [(33,Ce 0 (.slice none 0 0) 0 (.slice none 0 0) (.slice none 0 0) AS)]
     ⟨BV (vs:=[]) rfl rfl trivial trivial (fun _=>AG0 _) (fun _=>rfl),ALr⟩ fun a23 w23 g23 Cy=>?_
   refine Ap Cy r7 (FL _ _ AN (.slice none 0 0) (.slice none 0 0) (.slice none 0 0) rfl rfl rfl) (AC g23 Aj) (Fg AN AN) fun w24 g24 h24=>?_
   replace An:=Ah g23 g24 (AC g21 An) B6
   refine Ap Cy r7 (Dy 1) An rfl fun w25 g25 h25=>?_
   replace BX:=AX g25 (Ah g23 g24 (AC g21 BX) (Ne.symm Em)) (Ne.symm Eo)
   replace Bd:=AX g25 (Ah g23 g24 (AC g21 Bd) (Ne.symm En)) (Ne.symm Ep)
   replace Aj:=AX g25 h24 (Ne.symm B6)
   replace hr:=(((hr.kn g21).kn g23).offR g24 (AU Fo)).offR g25 (AU Fq)
   replace ho:=(((ho.kn g21).kn g23).offR g24 (AU Fp)).offR g25 (AU Fs)
   replace HG:=AD (AD (AA (AA HG g21) g23) g24 Is) g25 Iu
   replace An:=h25
   refine AE ?_
   refine k22 _ _ ?_
   refine ALo ?_
   repeat refine AM ?_
   refine BK (fn:=Tryz.f20) Cy (BU (p:=10) (q:=11) Tryz.results20 Cy rfl rfl rfl rfl (FL _ _ AN (.slice none 0 0) (.slice none 0 0) (.slice none 0 0) rfl rfl rfl) (Dy 1) Aj An) (Bp Tryz.func49 (by kernel_rfl) rfl _ _) (EZ _ _ _) ?_
   exact SRes.zero (On (.inr hv)) HG
 · obtain⟨haa,hjj,hol,hasc⟩:=ABU hh
   have hia:Qa ad:=⟨by omega,by omega⟩
   refine ALk ?_
   refine AK sv8 10 [(23,.slice ao ds.length ac),(24,.int .i64 joint),(25,.int .i64 ad),(26,.bool true),(27,.bool false),(28,.bool false),(29,Ao sa po (.slice vo ks.length vc_)),(30,.bool true),(31,.bool false),(32,.bool false)]
     ⟨ym r5,ym r5,ym r5,Ad [.slice ao ds.length ac,.int .i64 joint,.int .i64 ad] Tryz.func50 (by kernel_rfl) rq4 ⟨(oy rfl rfl),(oy rfl rfl),(oy rfl rfl),ALr⟩ (As fun W g=>QQ (ho.kn g) hown hh),Cu r6 (fun _=>Bc),ym r5,A9 rq9 (fun _ g=>Ae (BR hsa hpo (.slice vo ks.length vc_) rfl) (Ai (AF g BX (by simp)))),CL [Ao sa po (.slice vo ks.length vc_)] Tryz.func51 (by kernel_rfl) r7 ⟨(oy rfl rfl),ALr⟩ (As fun W g=>Nb hsa hpo (hr.kn g) hP hv),Ib rfl rfl (gy rfl rfl rfl) (oy rfl rfl) (fun _=>Bc) (fun _=>rfl),BC rq9,ALr⟩ fun a26 w26 g26 Co=>?_
   refine AE ?_
   refine k10 _ _ ?_
   refine Av Co rfl rfl ?_
   refine ALp ?_
   refine k9 _ _ ?_
   refine ALl fun K27 k27=>?_
   refine ALk ?_
   refine AK Co 2 [(34,.int .i64 ad),(35,.slice ao ds.length ac)]
     ⟨ym r5,ym r5,ALr⟩ fun a28 w28 g28 LU=>?_
   have Mz:=AA g26 g28
   replace Aj:=AC Mz Aj
   replace An:=AC Mz An
   replace ho:=ho.kn Mz
   replace HG:=AA HG Mz
   refine Bo LU Tryz.func52 (by kernel_rfl) r6 (AIy (by omega) ho) fun a29 v29 w29 hR29 Cc=>?_
   obtain⟨ao29,cap29,rfl,g29,oc,fr29⟩:=hR29
   have JO:=CA fr29 Aj
   have JP:=CA fr29 An
   have lo_oc:=Jp HG fr29
   refine AK Cc 2 [(37,.int .i64 joint),(38,Ce ad (.slice ao29 ds.length cap29) joint (.slice none 0 0) (.slice none 0 0) AS)]
     ⟨ym r5,BV (vs:=[.int .i64 ad,.slice ao29 ds.length cap29,.int .i64 joint]) rfl rfl trivial ⟨(oy rfl rfl),(oy rfl rfl),(oy rfl rfl),ALr⟩ (fun _=>AK4 _ _ _ _ _ _) (fun _=>rfl),ALr⟩ fun a30 w30 g30 Es=>?_
   replace BX:=AC g30 (AC g29 (AC Mz BX))
   replace Bd:=AC g30 (AC g29 (AC Mz Bd))
   replace Aj:=AC g30 (AC g29 Aj)
   replace An:=AC g30 (AC g29 An)
   replace hr:=((hr.kn Mz).kn g29).kn g30
   replace ho:=(ho.kn g29).kn g30
   replace oc:=oc.kn g30
   replace HG:=AA (AA HG g29) g30
   refine Ax (T:=31) (Z:=([[.int .i64 0],[.slice none 0 0],[.int .i64 0],[.slice none 0 0],[.slice none 0 0],bv AS].flatten)) Es rfl rfl rfl (fun a w=>by kernel_rfl) fun a31 w31 Ea Ft g31 z31 Af GO=>?_
   have EH:=Au BX Ft
   have EI:=Au Bd Ft
   have CM:=Au Aj Ft
   have CN:=Au An Ft
   have Fu:=B7 HG Ft
   have FM:=A2 (hr.lt) Ft
   have FN:=A2 (ho.lt) Ft
   have Dv:=A2 (Own.ltS oc) Ft
   refine Ap GO r7 (FL _ _ AN (.slice ao29 ds.length cap29) (.slice none 0 0) (.slice none 0 0) rfl rfl rfl) Af (Fg AN AN) fun w32 g32 h32=>?_
   replace Bd:=AX g32 (AC g31 Bd) (Ne.symm EI)
   have Ku:Sv _ _ [_,_,_,_,_,_,_,_,_,_,_,_,_,_,_,_,_,_,_,_,_] _:=GO.dl [37,38,36,34,35]
   refine AE ?_
   refine k27 _ _ ?_
   refine ALl fun K34 k34=>?_
   refine ALk ?_
   refine AK Ku 1 [(39,CE x)]
     ⟨yl r6 (EP x) Bd,ALr⟩ fun a35 w35 g35 Jr=>?_
   replace Aj:=AC g35 (AX g32 (AC g31 Aj) (Ne.symm CM))
   replace An:=AC g35 (AX g32 (AC g31 An) (Ne.symm CN))
   replace Af:=AC g35 h32
   replace HG:=AA (AD (AA HG g31) g32 Fu) g35
   refine Bo Jr Tryz.func53 (by kernel_rfl) r6 (UK (AAQ x _)) fun a36 v36 w36 hR36 FS=>?_
   obtain⟨ao36,cap36,rfl,_⟩:=(Sl.of_own hR36.1).shape
   obtain⟨ow36,fr36⟩:=hR36
   replace fr36:=Ef fr36
   have op:=ow36
   clear ow36
   have g36:=fr36.1
   replace fr36:=fr36.2
   have JQ:=CA fr36 Aj
   have JR:=CA fr36 An
   have Eb:=CA fr36 Af
   have lo_op:=Jp HG fr36
   replace BX:=AC g36 (AC g35 (AX g32 (AC g31 BX) (Ne.symm EH)))
   replace Bd:=AC g36 (AC g35 Bd)
   replace Aj:=AC g36 Aj
   replace An:=AC g36 An
   replace Af:=AC g36 Af
   replace hr:=(((hr.kn g31).offR g32 (AU FM)).kn g35).kn g36
   replace ho:=(((ho.kn g31).offR g32 (AU FN)).kn g35).kn g36
   replace oc:=(((oc.kn g31).offR g32 (AU Dv)).kn g35).kn g36
   replace HG:=AA HG g36
   refine Aa (v:=.slice ao36 ((Bt x)).length cap36) FS r6 fun a37 IG=>?_
   refine AE ?_
   refine k34 _ _ ?_
   refine ALl fun K38 k38=>?_
   refine ALl fun K39 k39=>?_
   rcases Nat.eq_zero_or_pos ds.length with hz|hz
   · obtain rfl:own=[]:=List.eq_nil_of_length_eq_zero (by omega)
     refine ALk ?_
     refine AK IG 3 [(41,.slice ao ds.length ac),(42,.int .i64 ((ds.length:Nat))),(43,.bool true)]
       ⟨ym r5,Bv (Tryz.underlying28) rfl rfl trivial (oy rfl rfl) (fun _=>rfl),Cq r6 (fun _=>CQ (Pf (by omega))),ALr⟩ fun a40 w40 g40 I3=>?_
     refine AE ?_
     refine k39 _ _ ?_
     refine Ar I3 rfl rfl ?_
     refine ALl fun K41 k41=>?_
     refine ALk ?_
     refine AK I3 2 [(44,.slice ao36 ((Bt x)).length cap36),(45,pk Ea 4)]
       ⟨ym r5,yf r6 (fun _=>by kernel_rfl),ALr⟩ fun a42 w42 g42 GR=>?_
     have Pp:=AA g40 g42
     refine LP (L:=[[.int .i64 ad],[.slice ao29 ds.length cap29],[.int .i64 joint],[.slice none 0 0],[.slice none 0 0],bv AS]) (i:=4) GR r7 (Hu (.slice ao36 ((Bt x)).length cap36) rfl) (AC Pp Af) rfl rfl rfl fun w43 g43 h43=>?_
     refine AE ?_
     refine k41 _ _ ?_
     refine ALl fun K44 k44=>?_
     refine ALk ?_
     refine AK GR 2 [(46,.int .i64 ad),(47,.slice ao36 ((Bt x)).length cap36)]
       ⟨ym r5,ym r5,ALr⟩ fun a45 w45 g45 FT=>?_
     replace op:=((op.kn Pp).offR g43 (AU Eb)).kn g45
     refine Bo FT Tryz.func54 (by kernel_rfl) r6 (Rb (Jc ad hia (Bt x) (JN x) (by have:=IT x;omega) _ _ _ (Own.sb op))) fun a46 v46 w46 hR46 IH=>?_
     obtain⟨rfl,g46⟩:=hR46
     replace Af:=AC g46 (AC g45 h43)
     refine AK IH 1 [(49,pk Ea 5)]
       ⟨yf r6 (fun _=>by kernel_rfl),ALr⟩ fun a47 w47 g47 MV=>?_
     refine LP (L:=[[.int .i64 ad],[.slice ao29 ds.length cap29],[.int .i64 joint],[.slice none 0 0],[.slice ao36 ((Bt x)).length cap36],bv AS]) (i:=5) MV r7 (CB ((tgC ad (Bt x))) (Hr ad (Bt x)).1) (AC g47 Af) rfl rfl (ABE AN (Hr ad (Bt x))) fun w48 g48 h48=>?_
     replace Aj:=Ah g47 g48 (AC g46 (AC g45 (Ah Pp g43 Aj (Ne.symm CM)))) (Ne.symm CM)
     replace Af:=h48
     have KF:Sv _ _ [_,_,_,_,_,_,_,_,_,_,_,_,_,_,_,_,_,_,_,_,_,_,_,_,_,_,_,_,_] _:=MV.dl [49,48,46,47]
     refine AE ?_
     refine k44 _ _ ?_
     refine ALl fun K50 k50=>?_
     refine ALk ?_
     refine AK KF 1 [(50,Ce ad (.slice ao29 ds.length cap29) joint (.slice none 0 0) (.slice ao36 ((Bt x)).length cap36) ((tgC ad (Bt x))))]
       ⟨yl r6 (FL _ _ (Hr ad (Bt x)) (.slice ao29 ds.length cap29) (.slice none 0 0) (.slice ao36 ((Bt x)).length cap36) rfl rfl rfl) Af,ALr⟩ fun a51 w51 g51 EE=>?_
     refine Ap EE r7 (FL _ _ (Hr ad (Bt x)) (.slice ao29 ds.length cap29) (.slice none 0 0) (.slice ao36 ((Bt x)).length cap36) rfl rfl rfl) (AC g51 Aj) (Fg AN (Hr ad (Bt x))) fun w52 g52 h52=>?_
     replace An:=Ah g51 g52 (Ah g47 g48 (AC g46 (AC g45 (Ah Pp g43 An (Ne.symm CN)))) (Ne.symm CN)) B6
     refine Ap EE r7 (Dy 0) An rfl fun w53 g53 h53=>?_
     replace BX:=AX g53 (Ah g51 g52 (Ah g47 g48 (AC g46 (AC g45 (Ah Pp g43 BX (Ne.symm EH)))) (Ne.symm EH)) (Ne.symm Em)) (Ne.symm Eo)
     replace Bd:=AX g53 (Ah g51 g52 (Ah g47 g48 (AC g46 (AC g45 (Ah Pp g43 Bd (Ne.symm EI)))) (Ne.symm EI)) (Ne.symm En)) (Ne.symm Ep)
     replace Aj:=AX g53 h52 (Ne.symm B6)
     replace Af:=AX g53 (Ah g51 g52 Af CM) CN
     replace hr:=((((((((hr.kn Pp).offR g43 (AU FM)).kn g45).kn g46).kn g47).offR g48 (AU FM)).kn g51).offR g52 (AU Fo)).offR g53 (AU Fq)
     replace ho:=((((((((ho.kn Pp).offR g43 (AU FN)).kn g45).kn g46).kn g47).offR g48 (AU FN)).kn g51).offR g52 (AU Fp)).offR g53 (AU Fs)
     replace oc:=((((((((oc.kn Pp).offR g43 (AU Dv)).kn g45).kn g46).kn g47).offR g48 (AU Dv)).kn g51).offR g52 (AU JO)).offR g53 (AU JP)
     replace op:=(((((op.kn g46).kn g47).offR g48 (AU Eb)).kn g51).offR g52 (AU JQ)).offR g53 (AU JR)
     replace HG:=AD (AD (AA (AD (AA (AA (AA (AD (AA HG Pp) g43 Fu) g45) g46) g47) g48 Fu) g51) g52 Is) g53 Iu
     replace An:=h53
     refine AE ?_
     refine k50 _ _ ?_
     refine ALo ?_
     repeat refine AM ?_
     refine BK (fn:=Tryz.f20) EE (BU (p:=10) (q:=11) Tryz.results20 EE rfl rfl rfl rfl (FL _ _ (Hr ad (Bt x)) (.slice ao29 ds.length cap29) (.slice none 0 0) (.slice ao36 ((Bt x)).length cap36) rfl rfl rfl) (Dy 0) Aj An) (Bp Tryz.func49 (by kernel_rfl) rfl _ _) (EZ _ _ _) ?_
     exact SRes.mk (own:=ds) (wr:=[]) (Jw hh hv) rfl rfl rfl hown rfl oc (Own.nil _ _ _) op lo_oc (fun k hk=>by simp[Bi,Value.ownBlock] at hk) lo_op (fun k _ hk=>by simp[Bi,Value.ownBlock] at hk) (Hr _ _) (JN x) HG rfl
   · have hne:own≠[]:=fun h=>by rw[h] at hownl;simp at hownl;omega
     refine ALk ?_
     refine AK IG 3 [(41,.slice ao ds.length ac),(42,.int .i64 ((ds.length:Nat))),(43,.bool false)]
       ⟨ym r5,Bv (Tryz.underlying28) rfl rfl trivial (oy rfl rfl) (fun _=>rfl),Cq r6 (fun _=>CQ (Mt (by omega))),ALr⟩ fun a54 w54 g54 E8=>?_
     refine AE ?_
     refine k39 _ _ ?_
     refine Av E8 rfl rfl ?_
     refine ALp ?_
     refine k38 _ _ ?_
     refine ALl fun K55 k55=>?_
     refine ALk ?_
     refine Aa (v:=.slice none 0 0) E8 r6 fun a56 FU=>?_
     refine AE ?_
     refine k55 _ _ ?_
     refine ALl fun K57 k57=>?_
     refine ALl fun K58 k58=>?_
     refine ALk ?_
     refine AK FU 3 [(51,.slice ao ds.length ac),(52,.int .i64 ((ds.length:Nat))),(53,.int .i64 0)]
       ⟨ym r5,Bv (Tryz.underlying28) rfl rfl trivial (oy rfl rfl) (fun _=>rfl),E3 (.inl rfl) rfl trivial (fun _=>rfl),ALr⟩ fun a59 w59 g59 Cz=>?_
     have Na:=AA g54 g59
     refine AE ?_
     refine k58 _ _ ?_
     refine BF fun Q60 x60 y60 rt60 o60=>?_
     replace BX:=AC Na BX
     replace Bd:=AC Na Bd
     replace Aj:=AC Na Aj
     replace An:=AC Na An
     replace Af:=AC Na Af
     replace hr:=hr.kn Na
     replace ho:=ho.kn Na
     replace oc:=oc.kn Na
     replace op:=op.kn Na
     replace HG:=AA HG Na
     have okk:=Own.nil w59 23 32
     have JS:=Kq VQ
     have JT:=Kq VR
     have Ec:=Kq Ir
     have Ed:=Kq It
     have DB:=Kq Ea
     have ap_hr_okk:=Kr (JZ (.slice vo ks.length vc_) ks)
     have ap_ho_okk:=Kr (Bi (.slice ao ds.length ac))
     have ap_oc_okk:=Kr (Bi (.slice ao29 ds.length cap29))
     have ap_okk_oc:=AEF (Bi (.slice ao29 ds.length cap29))
     have ap_op_okk:=Kr (Bi (.slice ao36 ((Bt x)).length cap36))
     have ap_okk_op:=AEF (Bi (.slice ao36 ((Bt x)).length cap36))
     have lo_okk:=ACO w
     refine wp_loop (fun a w'=>∃(i:Nat) (ko:Option Addr) (kc:Nat) (kl:List DD),(i≤ds.length)∧(kl.map DD.x=(own.take i).map fun z=>(Cb P z ad).1)∧(∀j,j<i→(Cb P (IK own j) ad).2=0)∧Sv 104 [{ target:=.fn (.func 49) #[pt Ir,pt It],args:=#[] }] [(53,.int .i64 ((i:Int))),(14,.slice ko i kc),(51,.slice ao ds.length ac),(52,.int .i64 ((ds.length:Nat))),(41,.slice ao ds.length ac),(42,.int .i64 ((ds.length:Nat))),(43,.bool false),(13,.slice ao36 ((Bt x)).length cap36),(40,.slice ao36 ((Bt x)).length cap36),(39,CE x),(12,pt Ea),(23,.slice ao ds.length ac),(24,.int .i64 joint),(25,.int .i64 ad),(26,.bool true),(27,.bool false),(28,.bool false),(29,Ao sa po (.slice vo ks.length vc_)),(30,.bool true),(31,.bool false),(32,.bool false),(22,.func (.func 49) #[] #[pt Ir,pt It]),(11,pt It),(10,pt Ir),(9,pt VR),(5,pt VQ),(0,Ao sa po (.slice vo ks.length vc_)),(1,.slice ao ds.length ac),(2,.int .i64 joint),(3,.int .i64 ad),(4,CE x)] a∧w.grownBy w' none∧w'.heap[VQ]?=some (.cells ([bv sa,bv po,[.slice vo ks.length vc_]].flatten).toArray 36 (0,0))∧w'.heap[VR]?=some (.cells (vc x).toArray 25 (0,0))∧w'.heap[Ir]?=some (.cells (([[.int .i64 0],[.slice none 0 0],[.int .i64 0],[.slice none 0 0],[.slice none 0 0],bv AS].flatten)).toArray 31 (0,0))∧w'.heap[It]?=some (.cells ([.int .i64 0]).toArray 38 (0,0))∧w'.heap[Ea]?=some (.cells ([[.int .i64 ad],[.slice ao29 ds.length cap29],[.int .i64 joint],[.slice none 0 0],[.slice none 0 0],bv AS].flatten).toArray 31 (0,0))∧RdK w' (.slice vo ks.length vc_) ks∧RdD w' (.slice ao ds.length ac) ds∧Own w' 23 32 (.slice ao29 ds.length cap29) ds.length (ds.flatMap Lf)∧Own w' 5 1 (.slice ao36 ((Bt x)).length cap36) (((Bt x)).length) (bv ((Bt x)))∧Own w' 23 32 (.slice ko i kc) i (kl.flatMap Lf)∧(∀k,Bi (.slice ko i kc) k→k≠VQ)∧(∀k,Bi (.slice ko i kc) k→k≠VR)∧(∀k,Bi (.slice ko i kc) k→k≠Ir)∧(∀k,Bi (.slice ko i kc) k→k≠It)∧(∀k,Bi (.slice ko i kc) k→k≠Ea)∧(∀k,JZ (.slice vo ks.length vc_) ks k→¬Bi (.slice ko i kc) k)∧(∀k,Bi (.slice ao ds.length ac) k→¬Bi (.slice ko i kc) k)∧(∀k,Bi (.slice ao29 ds.length cap29) k→¬Bi (.slice ko i kc) k)∧(∀k,Bi (.slice ko i kc) k→¬Bi (.slice ao29 ds.length cap29) k)∧(∀k,Bi (.slice ao36 ((Bt x)).length cap36) k→¬Bi (.slice ko i kc) k)∧(∀k,Bi (.slice ko i kc) k→¬Bi (.slice ao36 ((Bt x)).length cap36) k)∧(∀k,Bi (.slice ko i kc) k→w.heap.size≤k)) (fun a _=>(ds.length-intOf (a.tmps.getD 53 undef)).toNat) ⟨0,none,0,[],Nat.zero_le _,rfl,fun j hj=>by omega,⟨Cz.1,Cz.2.1,Cz.2.2.2.2.1,Cz.2.2.2.2.2.1,Cz.2.2.1,Cz.2.2.2.1,Cz.2.2.2.2.2.2.1,Cz.2.2.2.2.2.2.2.1,(AH Cz).1,(AH Cz).2.1,(AH Cz).2.2.1,(AH Cz).2.2.2.1,(AH Cz).2.2.2.2.1,(AH Cz).2.2.2.2.2.1,(AH Cz).2.2.2.2.2.2.1,(AH Cz).2.2.2.2.2.2.2.1,(AH (AH Cz)).1,(AH (AH Cz)).2.1,(AH (AH Cz)).2.2.1,(AH (AH Cz)).2.2.2.1,(AH (AH Cz)).2.2.2.2.1,(AH (AH Cz)).2.2.2.2.2.1,(AH (AH Cz)).2.2.2.2.2.2.1,(AH (AH Cz)).2.2.2.2.2.2.2.1,(AH (AH (AH Cz))).1,(AH (AH (AH Cz))).2.1,(AH (AH (AH Cz))).2.2.1,(AH (AH (AH Cz))).2.2.2.1,(AH (AH (AH Cz))).2.2.2.2.1,(AH (AH (AH Cz))).2.2.2.2.2.1,(AH (AH (AH Cz))).2.2.2.2.2.2.1,(AH (AH (AH Cz))).2.2.2.2.2.2.2.1,(AH (AH (AH (AH Cz)))).1,ALr⟩,HG,BX,Bd,Aj,An,Af,hr,ho,oc,op,okk,JS,JT,Ec,Ed,DB,ap_hr_okk,ap_ho_okk,ap_oc_okk,ap_okk_oc,ap_op_okk,ap_okk_op,lo_okk⟩ fun a61 w61 hI61=>?_
     clear BX
     clear Bd
     clear Aj
     clear An
     clear Af
     clear hr
     clear ho
     clear oc
     clear op
     clear okk
     clear HG
     obtain⟨i,ko,kc,kl,hin,hkl,hok,KM,HG,BX,Bd,Aj,An,Af,hr,ho,oc,op,okk,JS,JT,Ec,Ed,DB,ap_hr_okk,ap_ho_okk,ap_oc_okk,ap_okk_oc,ap_op_okk,ap_okk_op,lo_okk⟩:=hI61
     refine ALl fun K62 k62=>?_
     by_cases hi:i<ds.length
     · obtain⟨y,hx_y⟩:∃zx,ds[i]'hi=zx:=⟨_,rfl⟩
       have hla:IK own i=y.x:=by rw[←hown,MG hi,hx_y]
       obtain⟨kx,hkx⟩:∃q,Cb P y.x ad=q:=⟨_,rfl⟩
       have hkd:Dg kx.1:=hkx▸Ri hnok
       refine ALk ?_
       refine AK KM 1 [(54,.bool true)]
         ⟨Ho r7 (fun _=>Bk (by simp;omega)),ALr⟩ fun a63 w63 g63 ACx=>?_
       refine AE ?_
       refine k62 _ _ ?_
       refine ALl fun K64 k64=>?_
       refine Ar ACx rfl rfl ?_
       refine ALp ?_
       refine k64 _ _ ?_
       refine ALl fun K65 k65=>?_
       refine BF fun Q66 x66 y66 rt66 o66=>?_
       refine ALl fun K67 k67=>?_
       refine ALk ?_
       replace ho:=ho.kn g63
       refine AK ACx 2 [(55,pk ((bO ao)) (oO ao+i*32)),(56,AR y.x)]
         ⟨BJ rq8 (fun w=>CW Tryz.underlying28 (by kernel_rfl) (ho.1) (by omega) (rfl) w),CD r6 (fun _ g=>Ae (CB y.x y.h.1) (by have:=DS (ho.kn g).1 G0 hi (by decide);rw[hx_y] at this;exact this)),ALr⟩ fun a68 w68 g68 Ll=>?_
       replace BX:=AC g68 (AC g63 BX)
       replace Bd:=AC g68 (AC g63 Bd)
       replace Aj:=AC g68 (AC g63 Aj)
       replace An:=AC g68 (AC g63 An)
       replace Af:=AC g68 (AC g63 Af)
       replace hr:=(hr.kn g63).kn g68
       replace ho:=ho.kn g68
       replace oc:=(oc.kn g63).kn g68
       replace op:=(op.kn g63).kn g68
       replace okk:=(okk.kn g63).kn g68
       replace HG:=AA (AA HG g63) g68
       refine Ax (T:=23) (Z:=(bv AS)) Ll rfl rfl rfl (fun a w=>by kernel_rfl) fun a69 w69 AK6 EJ g69 z69 VS AG7=>?_
       have Rj:=Au BX EJ
       have Rk:=Au Bd EJ
       have Pr:=Au Aj EJ
       have Ps:=Au An EJ
       have Oq:=Au Af EJ
       have ACy:=B7 HG EJ
       have VT:=A2 (hr.lt) EJ
       have VU:=A2 (ho.lt) EJ
       have VW:=A2 (Own.ltS oc) EJ
       have VY:=A2 (Own.ltS op) EJ
       have S9:=A2 (Own.ltS okk) EJ
       refine Ap AG7 r7 (CB y.x y.h.1) VS (Hq y.h) fun w70 g70 h70=>?_
       replace BX:=AX g70 (AC g69 BX) (Ne.symm Rj)
       replace hr:=(hr.kn g69).offR g70 (AU VT)
       replace VS:=h70
       refine AE ?_
       refine k67 _ _ ?_
       refine ALl fun K71 k71=>?_
       refine ALk ?_
       refine AK AG7 7 [(58,Ao sa po (.slice vo ks.length vc_)),(59,AR y.x),(60,.int .i64 ad),(61,.tuple #[AR kx.1,.int .i64 kx.2]),(57,.tuple #[AR kx.1,.int .i64 kx.2]),(62,AR kx.1),(63,.int .i64 kx.2)]
         ⟨yl r6 (BR hsa hpo (.slice vo ks.length vc_) rfl) BX,yl r6 (CB y.x y.h.1) VS,ym r5,Ad [Ao sa po (.slice vo ks.length vc_),AR y.x,.int .i64 ad] Tryz.func32 (by kernel_rfl) rq4 ⟨(oy rfl rfl),(oy rfl rfl),(oy rfl rfl),ALr⟩ (As fun W g=>AE5 hsa hpo y.h (hr.kn g) hP hkx),ym r5,BE rq4 (fun _ _ h=>⟨_,_,h,rfl,rfl⟩),BE rq4 (fun _ _ h=>⟨_,_,h,rfl,rfl⟩),ALr⟩ fun a72 w72 g72 AG8=>?_
       replace BX:=AC g72 BX
       replace Bd:=AC g72 (AX g70 (AC g69 Bd) (Ne.symm Rk))
       replace Aj:=AC g72 (AX g70 (AC g69 Aj) (Ne.symm Pr))
       replace An:=AC g72 (AX g70 (AC g69 An) (Ne.symm Ps))
       replace Af:=AC g72 (AX g70 (AC g69 Af) (Ne.symm Oq))
       replace hr:=hr.kn g72
       replace ho:=((ho.kn g69).offR g70 (AU VU)).kn g72
       replace oc:=((oc.kn g69).offR g70 (AU VW)).kn g72
       replace op:=((op.kn g69).offR g70 (AU VY)).kn g72
       replace okk:=((okk.kn g69).offR g70 (AU S9)).kn g72
       replace HG:=AA (AD (AA HG g69) g70 ACy) g72
       refine Ax (T:=23) (Z:=(bv AS)) AG8 rfl rfl rfl (fun a w=>by kernel_rfl) fun a73 w73 AK7 EK g73 z73 VZ YP=>?_
       have Rl:=Au BX EK
       have Rm:=Au Bd EK
       have Pt:=Au Aj EK
       have Pu:=Au An EK
       have Ot:=Au Af EK
       have ACz:=B7 HG EK
       have Va:=A2 (hr.lt) EK
       have Vb:=A2 (ho.lt) EK
       have Vc:=A2 (Own.ltS oc) EK
       have Vd:=A2 (Own.ltS op) EK
       have TA:=A2 (Own.ltS okk) EK
       refine Ap YP r7 (CB kx.1 hkd.1) VZ (Hq hkd) fun w74 g74 h74=>?_
       replace BX:=AX g74 (AC g73 BX) (Ne.symm Rl)
       replace Bd:=AX g74 (AC g73 Bd) (Ne.symm Rm)
       replace Aj:=AX g74 (AC g73 Aj) (Ne.symm Pt)
       replace An:=AX g74 (AC g73 An) (Ne.symm Pu)
       replace Af:=AX g74 (AC g73 Af) (Ne.symm Ot)
       replace hr:=(hr.kn g73).offR g74 (AU Va)
       replace ho:=(ho.kn g73).offR g74 (AU Vb)
       replace oc:=(oc.kn g73).offR g74 (AU Vc)
       replace op:=(op.kn g73).offR g74 (AU Vd)
       replace okk:=(okk.kn g73).offR g74 (AU TA)
       replace HG:=AD (AA HG g73) g74 ACz
       replace VZ:=h74
       refine Aa (v:=.int .i64 kx.2) YP r6 fun a75 AIz=>?_
       have AC0:Sv _ _ [_,_,_,_,_,_,_,_,_,_,_,_,_,_,_,_,_,_,_,_,_,_,_,_,_,_,_,_,_,_,_,_,_,_,_,_,_] _:=AIz.dl [58,59,60,61,57,62,63]
       refine AE ?_
       refine k71 _ _ ?_
       refine ALl fun K77 k77=>?_
       refine ALl fun K78 k78=>?_
       by_cases he:kx.2=0
       · have hkl1:=UM hkl (by omega) hla hkx (hkd:=hkd)
         have hok1:∀j,j<i+1→(Cb P (IK own j) ad).2=0:=fun j hj=>if e:j=i then (by rw[e,hla,hkx];exact he) else hok j (by omega)
         refine ALk ?_
         refine AK AC0 2 [(64,.int .i64 kx.2),(65,.bool false)]
           ⟨ym r5,Cq r6 (fun _=>EU (by simpa using he)),ALr⟩ fun a79 w79 g79 Ou=>?_
         refine AE ?_
         refine k78 _ _ ?_
         refine Av Ou rfl rfl ?_
         refine ALp ?_
         refine k77 _ _ ?_
         refine ALk ?_
         refine AK Ou 2 [(68,.slice ko i kc),(69,AR kx.1)]
           ⟨ym r5,yl r6 (CB kx.1 hkd.1) (AC g79 VZ),ALr⟩ fun a80 w80 g80 AG9=>?_
         have Jd:=AA g79 g80
         refine Nh (cs:=bv kx.1) (e:=23) AG9 rfl rfl rfl rfl rfl rfl (ACu hkd) fun a81 w81 AK8 AJQ g81 z81 AHA AK9=>?_
         replace BX:=AC g81 (AC Jd BX)
         replace Bd:=AC g81 (AC Jd Bd)
         replace Aj:=AC g81 (AC Jd Aj)
         replace An:=AC g81 (AC Jd An)
         replace Af:=AC g81 (AC Jd Af)
         replace hr:=(hr.kn Jd).kn g81
         replace ho:=(ho.kn Jd).kn g81
         replace oc:=(oc.kn Jd).kn g81
         replace op:=(op.kn Jd).kn g81
         replace okk:=(okk.kn Jd).kn g81
         replace HG:=AA (AA HG Jd) g81
         refine Mx dsT AK9 rfl rfl rfl rfl rfl rfl rfl rfl okk (MI AHA hkd) (Ha _) (by omega) fun a82 ao82 cap82 w82 owx82 Cl YQ=>?_
         have TB:=Ko Cl.2 JS BX
         have TC:=Ko Cl.2 JT Bd
         have Rn:=Ko Cl.2 Ec Aj
         have Ro:=Ko Cl.2 Ed An
         have Pv:=Ko Cl.2 DB Af
         have YR:=Kp Cl.2 ap_hr_okk (hr.lt)
         have YS:=Kp Cl.2 ap_ho_okk (ho.lt)
         have PQ:=Kp Cl.2 ap_oc_okk (Own.ltS oc)
         have PR:=Kp Cl.2 ap_op_okk (Own.ltS op)
         have ap_owx82_oc:=AEE PQ
         have ap_owx82_op:=AEE PR
         have AE6:=Zm Cl.2 lo_okk HG
         replace BX:=AF Cl.1 BX (fun e=>JS _ e.symm rfl)
         replace Bd:=AF Cl.1 Bd (fun e=>JT _ e.symm rfl)
         replace Aj:=AF Cl.1 Aj (fun e=>Ec _ e.symm rfl)
         replace An:=AF Cl.1 An (fun e=>Ed _ e.symm rfl)
         replace Af:=AF Cl.1 Af (fun e=>DB _ e.symm rfl)
         replace hr:=hr.offR Cl.1 (fun k hk e=>ap_hr_okk k hk (e))
         replace ho:=ho.offR Cl.1 (fun k hk e=>ap_ho_okk k hk (e))
         replace oc:=oc.offR Cl.1 (fun k hk e=>ap_oc_okk k hk (e))
         replace op:=op.offR Cl.1 (fun k hk e=>ap_op_okk k hk (e))
         replace HG:=Bh HG Cl.1 fun k e=>lo_okk k (e)
         rw[VO kl ⟨kx.1,hkd⟩] at owx82
         refine Aa (v:=.slice ao82 (i+1) cap82) YQ r6 fun a83 Hj=>?_
         have Ve:Sv _ _ [_,_,_,_,_,_,_,_,_,_,_,_,_,_,_,_,_,_,_,_,_,_,_,_,_,_,_,_,_,_,_,_,_,_,_,_,_,_,_] _:=Hj.dl [71,70,68,69]
         refine AE ?_
         refine y66 _ _ ?_
         refine k65 _ _ ?_
         refine ALk ?_
         refine AK Ve 1 [(72,.int .i64 (((i+1:Nat):Int)))]
           ⟨Cq r6 (fun _=>DK (by rw[BA (by omega) (by omega)];omega)),ALr⟩ fun a85 w85 g85 AI0=>?_
         refine AK (AI0.dl [53]) 1 [(53,.int .i64 (((i+1:Nat):Int)))]
           ⟨ym r5,ALr⟩ fun a86 w86 g86 Ee=>?_
         have Rp:=AA g85 g86
         refine AE ?_
         replace BX:=AC Rp BX
         replace Bd:=AC Rp Bd
         replace Aj:=AC Rp Aj
         replace An:=AC Rp An
         replace Af:=AC Rp Af
         replace hr:=hr.kn Rp
         replace ho:=ho.kn Rp
         replace oc:=oc.kn Rp
         replace op:=op.kn Rp
         replace owx82:=owx82.kn Rp
         replace HG:=AA HG Rp
         exact⟨⟨i+1,ao82,cap82,(kl++[⟨kx.1,hkd⟩]),by omega,hkl1,hok1,⟨Ee.1,Ee.2.1,Ee.2.2.1,Ee.2.2.2.2.1,(AH Ee).2.2.2.2.2.1,(AH Ee).2.2.2.2.2.2.1,(AH Ee).2.2.2.2.2.2.2.1,(AH (AH Ee)).1,(AH (AH Ee)).2.1,(AH (AH Ee)).2.2.1,(AH (AH Ee)).2.2.2.1,(AH (AH Ee)).2.2.2.2.1,(AH (AH Ee)).2.2.2.2.2.1,(AH (AH Ee)).2.2.2.2.2.2.1,(AH (AH Ee)).2.2.2.2.2.2.2.1,(AH (AH (AH Ee))).1,(AH (AH (AH Ee))).2.1,(AH (AH (AH Ee))).2.2.1,(AH (AH (AH Ee))).2.2.2.1,(AH (AH (AH Ee))).2.2.2.2.1,(AH (AH (AH Ee))).2.2.2.2.2.1,(AH (AH (AH Ee))).2.2.2.2.2.2.1,(AH (AH (AH Ee))).2.2.2.2.2.2.2.1,(AH (AH (AH (AH Ee)))).1,(AH (AH (AH (AH Ee)))).2.1,(AH (AH (AH (AH Ee)))).2.2.1,(AH (AH (AH (AH Ee)))).2.2.2.1,(AH (AH (AH (AH Ee)))).2.2.2.2.1,(AH (AH (AH (AH Ee)))).2.2.2.2.2.1,(AH (AH (AH (AH Ee)))).2.2.2.2.2.2.1,(AH (AH (AH (AH Ee)))).2.2.2.2.2.2.2.1,(AH (AH (AH (AH (AH Ee))))).1,(AH (AH (AH (AH (AH Ee))))).2.1,ALr⟩,HG,BX,Bd,Aj,An,Af,hr,ho,oc,op,owx82,TB,TC,Rn,Ro,Pv,YR,YS,PQ,ap_owx82_oc,PR,ap_owx82_op,AE6⟩,by rw[show _=_ from Ee.2.2.1,show _=_ from KM.2.2.1];simp[intOf];omega⟩
       · have hke:=Oo (P:=P) (a:=ad) (own:=own) (i:=i) (by omega) hok (by rw[hla,hkx];exact he)
         rw[hla,hkx] at hke
         refine ALk ?_
         refine AK AC0 2 [(64,.int .i64 kx.2),(65,.bool true)]
           ⟨ym r5,Cq r6 (fun _=>EU (by simpa using he)),ALr⟩ fun a87 w87 g87 AE7=>?_
         refine AE ?_
         refine k78 _ _ ?_
         refine Ar AE7 rfl rfl ?_
         refine ALl fun K88 k88=>?_
         refine ALk ?_
         replace Aj:=AC g87 Aj
         refine AK AE7 2 [(66,Ce 0 (.slice none 0 0) 0 (.slice none 0 0) (.slice none 0 0) AS),(67,.int .i64 kx.2)]
           ⟨BV (vs:=[]) rfl rfl trivial trivial (fun _=>AG0 _) (fun _=>rfl),ym r5,ALr⟩ fun a89 w89 g89 AC1=>?_
         refine Ap AC1 r7 (FL _ _ AN (.slice none 0 0) (.slice none 0 0) (.slice none 0 0) rfl rfl rfl) (AC g89 Aj) (Fg AN AN) fun w90 g90 h90=>?_
         replace An:=Ah g89 g90 (AC g87 An) B6
         refine Ap AC1 r7 (Dy kx.2) An rfl fun w91 g91 h91=>?_
         replace BX:=AX g91 (Ah g89 g90 (AC g87 BX) (Ne.symm Em)) (Ne.symm Eo)
         replace Bd:=AX g91 (Ah g89 g90 (AC g87 Bd) (Ne.symm En)) (Ne.symm Ep)
         replace Aj:=AX g91 h90 (Ne.symm B6)
         replace Af:=AX g91 (Ah g89 g90 (AC g87 Af) CM) CN
         replace hr:=(((hr.kn g87).kn g89).offR g90 (AU Fo)).offR g91 (AU Fq)
         replace ho:=(((ho.kn g87).kn g89).offR g90 (AU Fp)).offR g91 (AU Fs)
         replace oc:=(((oc.kn g87).kn g89).offR g90 (AU JO)).offR g91 (AU JP)
         replace op:=(((op.kn g87).kn g89).offR g90 (AU JQ)).offR g91 (AU JR)
         replace okk:=(((okk.kn g87).kn g89).offR g90 (AU Ec)).offR g91 (AU Ed)
         replace HG:=AD (AD (AA (AA HG g87) g89) g90 Is) g91 Iu
         replace An:=h91
         refine AE ?_
         refine k88 _ _ ?_
         refine ALo ?_
         repeat refine AM ?_
         refine rt66 _ _ ?_
         repeat refine AM ?_
         refine rt60 _ _ ?_
         repeat refine AM ?_
         refine BK (fn:=Tryz.f20) AC1 (BU (p:=10) (q:=11) Tryz.results20 AC1 rfl rfl rfl rfl (FL _ _ AN (.slice none 0 0) (.slice none 0 0) (.slice none 0 0) rfl rfl rfl) (Dy kx.2) Aj An) (Bp Tryz.func49 (by kernel_rfl) rfl _ _) (EZ _ _ _) ?_
         exact SRes.zero (ACt hh hv hne hke he) HG
     · obtain⟨hK1,hK2⟩:=Iq (P:=P) (a:=ad) (own:=own) fun j hj=>hok j (by omega)
       have hkm:kl.map DD.x=(Cg P ad own).1:=by rw[hK1,hkl,List.take_of_length_le (by omega)]
       refine ALk ?_
       refine AK KM 1 [(54,.bool false)]
         ⟨Ho r7 (fun _=>Bk (by simp;omega)),ALr⟩ fun a92 w92 g92 YT=>?_
       refine AE ?_
       refine k62 _ _ ?_
       refine ALl fun K93 k93=>?_
       refine Av YT rfl rfl ?_
       refine wp_exit ?_
       repeat refine CJ ?_
       refine x60 _ _ ?_
       refine k57 _ _ ?_
       refine ALl fun K94 k94=>?_
       have hkll:kl.length=i:=by have:=congrArg List.length hkl;simpa using this.trans (by rw[List.length_map,List.length_take];omega)
       obtain⟨ck,hcke⟩:∃c,U5 (decide (joint=1)) (kl.map DD.x)=c:=⟨_,rfl⟩
       have hck:Dg ck:=hcke▸M4 _ _
       refine ALk ?_
       refine AK YT 2 [(73,.int .i64 joint),(74,.slice ko i kc)]
         ⟨ym r5,ym r5,ALr⟩ fun a95 w95 g95 AI1=>?_
       replace okk:=(okk.kn g92).kn g95
       refine Bo AI1 Tryz.func55 (by kernel_rfl) r6 (Rb (AE4 hkll (Own.sb okk) (by omega) hcke)) fun a96 v96 w96 hR96 AAT=>?_
       obtain⟨rfl,g96⟩:=hR96
       replace BX:=AC g96 (AC g95 (AC g92 BX))
       replace Bd:=AC g96 (AC g95 (AC g92 Bd))
       replace Aj:=AC g96 (AC g95 (AC g92 Aj))
       replace An:=AC g96 (AC g95 (AC g92 An))
       replace Af:=AC g96 (AC g95 (AC g92 Af))
       replace hr:=((hr.kn g92).kn g95).kn g96
       replace ho:=((ho.kn g92).kn g95).kn g96
       replace oc:=((oc.kn g92).kn g95).kn g96
       replace op:=((op.kn g92).kn g95).kn g96
       replace okk:=okk.kn g96
       replace HG:=AA (AA (AA HG g92) g95) g96
       refine Ax (T:=23) (Z:=(bv AS)) AAT rfl rfl rfl (fun a w=>by kernel_rfl) fun a97 w97 Rq EL g97 z97 CH AE8=>?_
       have Rr:=Au BX EL
       have Rs:=Au Bd EL
       have Kk:=Au Aj EL
       have Kl:=Au An EL
       have EM:=Au Af EL
       have AC2:=B7 HG EL
       have Vf:=A2 (hr.lt) EL
       have Vg:=A2 (ho.lt) EL
       have Vh:=A2 (Own.ltS oc) EL
       have Vi:=A2 (Own.ltS op) EL
       have TE:=A2 (Own.ltS okk) EL
       refine Ap AE8 r7 (CB ck hck.1) CH (Hq hck) fun w98 g98 h98=>?_
       replace BX:=AX g98 (AC g97 BX) (Ne.symm Rr)
       replace Bd:=AX g98 (AC g97 Bd) (Ne.symm Rs)
       replace Aj:=AX g98 (AC g97 Aj) (Ne.symm Kk)
       replace An:=AX g98 (AC g97 An) (Ne.symm Kl)
       replace Af:=AX g98 (AC g97 Af) (Ne.symm EM)
       replace hr:=(hr.kn g97).offR g98 (AU Vf)
       replace ho:=(ho.kn g97).offR g98 (AU Vg)
       replace oc:=(oc.kn g97).offR g98 (AU Vh)
       replace op:=(op.kn g97).offR g98 (AU Vi)
       replace okk:=(okk.kn g97).offR g98 (AU TE)
       replace HG:=AD (AA HG g97) g98 AC2
       replace CH:=h98
       refine AE ?_
       refine k94 _ _ ?_
       refine ALl fun K99 k99=>?_
       refine ALl fun K100 k100=>?_
       rcases hjj with rfl|rfl
       · refine ALk ?_
         refine AK AE8 2 [(76,.int .i64 0),(77,.bool false)]
           ⟨ym r5,Cq r6 (fun _=>CQ rfl),ALr⟩ fun a101 w101 g101 ABV=>?_
         refine AE ?_
         refine k100 _ _ ?_
         refine Av ABV rfl rfl ?_
         refine ALp ?_
         refine k99 _ _ ?_
         refine ALl fun K102 k102=>?_
         refine ALk ?_
         refine AK ABV 2 [(93,.slice ao36 ((Bt x)).length cap36),(94,AR ck)]
           ⟨ym r5,yl r6 (CB ck hck.1) (AC g101 CH),ALr⟩ fun a103 w103 g103 ABW=>?_
         have Km:=AA g101 g103
         replace Aj:=AC Km Aj
         replace An:=AC Km An
         replace Af:=AC Km Af
         replace op:=op.kn Km
         replace HG:=AA HG Km
         refine Bo ABW Tryz.func57 (by kernel_rfl) r6 (UK (KR (Bt x) (JN x) (by have:=IT x;omega) _ _ ck hck _ (Own.sb op))) fun a104 v104 w104 hR104 AE9=>?_
         obtain⟨ao104,cap104,rfl,_⟩:=(Sl.of_own hR104.1).shape
         obtain⟨ow104,fr104⟩:=hR104
         replace fr104:=Ef fr104
         have oy_:=ow104
         clear ow104
         have g104:=fr104.1
         replace fr104:=fr104.2
         have KS:=CA fr104 Aj
         have KT:=CA fr104 An
         have Fc:=CA fr104 Af
         have lo_oy_:=Jp HG fr104
         replace Af:=AC g104 Af
         refine AK AE9 1 [(96,pk Ea 4)]
           ⟨yf r6 (fun _=>by kernel_rfl),ALr⟩ fun a105 w105 g105 ABX=>?_
         refine LP (L:=[[.int .i64 ad],[.slice ao29 ds.length cap29],[.int .i64 0],[.slice none 0 0],[.slice none 0 0],bv AS]) (i:=4) ABX r7 (Hu (.slice ao104 ((Jb (Bt x) ck)).length cap104) rfl) (AC g105 Af) rfl rfl rfl fun w106 g106 h106=>?_
         replace CH:=Ah g105 g106 (AC g104 (AC Km CH)) EM
         replace Af:=h106
         have AFA:Sv _ _ [_,_,_,_,_,_,_,_,_,_,_,_,_,_,_,_,_,_,_,_,_,_,_,_,_,_,_,_,_,_,_,_,_,_,_,_,_,_] _:=ABX.dl [96,95,93,94]
         refine AE ?_
         refine k102 _ _ ?_
         refine ALl fun K108 k108=>?_
         refine ALk ?_
         refine AK AFA 4 [(97,AR ck),(98,.int .i64 ad),(99,pk Ea 4),(100,.slice ao104 ((Jb (Bt x) ck)).length cap104)]
           ⟨yl r6 (CB ck hck.1) CH,ym r5,yf r6 (fun _=>by kernel_rfl),yp (i:=4) r6 (Hu (.slice ao104 ((Jb (Bt x) ck)).length cap104) rfl) Af rfl rfl,ALr⟩ fun a109 w109 g109 AFB=>?_
         replace oy_:=((oy_.kn g105).offR g106 (AU Fc)).kn g109
         refine Bo AFB Tryz.func58 (by kernel_rfl) r6 (Rb (HH ck hck ad hia (Jb (Bt x) ck) (Re _ (JN x)) (by have:=IT x;rw[KQ];omega) _ _ _ (Own.sb oy_))) fun a110 v110 w110 hR110 Iv=>?_
         obtain⟨rfl,g110⟩:=hR110
         replace Af:=AC g110 (AC g109 Af)
         have ABY:Sv _ _ [_,_,_,_,_,_,_,_,_,_,_,_,_,_,_,_,_,_,_,_,_,_,_,_,_,_,_,_,_,_,_,_,_,_,_,_,_,_,_] _:=Iv.dl [97,98,99,100]
         refine AK ABY 1 [(102,pk Ea 5)]
           ⟨yf r6 (fun _=>by kernel_rfl),ALr⟩ fun a112 w112 g112 AHo=>?_
         refine LP (L:=[[.int .i64 ad],[.slice ao29 ds.length cap29],[.int .i64 0],[.slice none 0 0],[.slice ao104 ((Jb (Bt x) ck)).length cap104],bv AS]) (i:=5) AHo r7 (CB ((U6 ck ad (Jb (Bt x) ck))) (EY _ _ _).1) (AC g112 Af) rfl rfl (ABE AN (EY _ _ _)) fun w113 g113 h113=>?_
         replace Aj:=Ah g112 g113 (AC g110 (AC g109 (Ah g105 g106 (AC g104 Aj) (Ne.symm CM)))) (Ne.symm CM)
         replace Af:=h113
         refine AE ?_
         refine k108 _ _ ?_
         refine ALl fun K114 k114=>?_
         refine ALk ?_
         refine AK AHo 1 [(103,Ce ad (.slice ao29 ds.length cap29) 0 (.slice none 0 0) (.slice ao104 ((Jb (Bt x) ck)).length cap104) ((U6 ck ad (Jb (Bt x) ck))))]
           ⟨yl r6 (FL _ _ (EY _ _ _) (.slice ao29 ds.length cap29) (.slice none 0 0) (.slice ao104 ((Jb (Bt x) ck)).length cap104) rfl rfl rfl) Af,ALr⟩ fun a115 w115 g115 Rt=>?_
         refine Ap Rt r7 (FL _ _ (EY _ _ _) (.slice ao29 ds.length cap29) (.slice none 0 0) (.slice ao104 ((Jb (Bt x) ck)).length cap104) rfl rfl rfl) (AC g115 Aj) (Fg AN (EY _ _ _)) fun w116 g116 h116=>?_
         replace An:=Ah g115 g116 (Ah g112 g113 (AC g110 (AC g109 (Ah g105 g106 (AC g104 An) (Ne.symm CN)))) (Ne.symm CN)) B6
         refine Ap Rt r7 (Dy 0) An rfl fun w117 g117 h117=>?_
         replace BX:=AX g117 (Ah g115 g116 (Ah g112 g113 (AC g110 (AC g109 (Ah g105 g106 (AC g104 (AC Km BX)) (Ne.symm EH)))) (Ne.symm EH)) (Ne.symm Em)) (Ne.symm Eo)
         replace Bd:=AX g117 (Ah g115 g116 (Ah g112 g113 (AC g110 (AC g109 (Ah g105 g106 (AC g104 (AC Km Bd)) (Ne.symm EI)))) (Ne.symm EI)) (Ne.symm En)) (Ne.symm Ep)
         replace Aj:=AX g117 h116 (Ne.symm B6)
         replace Af:=AX g117 (Ah g115 g116 Af CM) CN
         replace CH:=AX g117 (Ah g115 g116 (Ah g112 g113 (AC g110 (AC g109 CH)) EM) Kk) Kl
         replace hr:=((((((((((hr.kn Km).kn g104).kn g105).offR g106 (AU FM)).kn g109).kn g110).kn g112).offR g113 (AU FM)).kn g115).offR g116 (AU Fo)).offR g117 (AU Fq)
         replace ho:=((((((((((ho.kn Km).kn g104).kn g105).offR g106 (AU FN)).kn g109).kn g110).kn g112).offR g113 (AU FN)).kn g115).offR g116 (AU Fp)).offR g117 (AU Fs)
         replace oc:=((((((((((oc.kn Km).kn g104).kn g105).offR g106 (AU Dv)).kn g109).kn g110).kn g112).offR g113 (AU Dv)).kn g115).offR g116 (AU JO)).offR g117 (AU JP)
         replace op:=(((((((((op.kn g104).kn g105).offR g106 (AU Eb)).kn g109).kn g110).kn g112).offR g113 (AU Eb)).kn g115).offR g116 (AU JQ)).offR g117 (AU JR)
         replace okk:=((((((((((okk.kn Km).kn g104).kn g105).offR g106 (AU DB)).kn g109).kn g110).kn g112).offR g113 (AU DB)).kn g115).offR g116 (AU Ec)).offR g117 (AU Ed)
         replace oy_:=(((((oy_.kn g110).kn g112).offR g113 (AU Fc)).kn g115).offR g116 (AU KS)).offR g117 (AU KT)
         replace HG:=AD (AD (AA (AD (AA (AA (AA (AD (AA (AA HG g104) g105) g106 Fu) g109) g110) g112) g113 Fu) g115) g116 Is) g117 Iu
         replace An:=h117
         refine AE ?_
         refine k114 _ _ ?_
         refine ALo ?_
         repeat refine AM ?_
         refine BK (fn:=Tryz.f20) Rt (BU (p:=10) (q:=11) Tryz.results20 Rt rfl rfl rfl rfl (FL _ _ (EY _ _ _) (.slice ao29 ds.length cap29) (.slice none 0 0) (.slice ao104 ((Jb (Bt x) ck)).length cap104) rfl rfl rfl) (Dy 0) Aj An) (Bp Tryz.func49 (by kernel_rfl) rfl _ _) (EZ _ _ _) ?_
         exact SRes.mk (own:=ds) (wr:=[]) (Fb hh hv hne hK2 hkm hcke) rfl rfl rfl hown rfl oc (Own.nil _ _ _) oy_ lo_oc (fun k hk=>by simp[Bi,Value.ownBlock] at hk) lo_oy_ (fun k _ hk=>by simp[Bi,Value.ownBlock] at hk) (EY _ _ _) (Re _ (JN x)) HG rfl
       · refine ALk ?_
         refine AK AE8 2 [(76,.int .i64 1),(77,.bool true)]
           ⟨ym r5,Cq r6 (fun _=>CQ rfl),ALr⟩ fun a118 w118 g118 AHp=>?_
         refine AE ?_
         refine k100 _ _ ?_
         refine Ar AHp rfl rfl ?_
         refine ALl fun K119 k119=>?_
         refine ALk ?_
         refine AK AHp 3 [(78,.slice ko i kc),(79,.int .i64 ((i:Nat))),(80,.int .i64 0)]
           ⟨ym r5,Bv (Tryz.underlying28) rfl rfl trivial (oy rfl rfl) (fun _=>rfl),E3 (.inl rfl) rfl trivial (fun _=>rfl),ALr⟩ fun a120 w120 g120 Ci=>?_
         have Kn:=AA g118 g120
         refine AE ?_
         refine k119 _ _ ?_
         refine BF fun Q121 x121 y121 rt121 o121=>?_
         replace BX:=AC Kn BX
         replace Bd:=AC Kn Bd
         replace Aj:=AC Kn Aj
         replace An:=AC Kn An
         replace Af:=AC Kn Af
         replace CH:=AC Kn CH
         replace hr:=hr.kn Kn
         replace ho:=ho.kn Kn
         replace oc:=oc.kn Kn
         replace op:=op.kn Kn
         replace okk:=okk.kn Kn
         replace HG:=AA HG Kn
         have ow:=Own.nil w120 23 32
         have KU:=Kq VQ
         have KV:=Kq VR
         have Hk:=Kq Ir
         have Hl:=Kq It
         have FO:=Kq Ea
         have IL:=Kq Rq
         have ap_hr_ow:=Kr (JZ (.slice vo ks.length vc_) ks)
         have ap_ho_ow:=Kr (Bi (.slice ao ds.length ac))
         have ap_oc_ow:=Kr (Bi (.slice ao29 ds.length cap29))
         have ap_ow_oc:=AEF (Bi (.slice ao29 ds.length cap29))
         have ap_op_ow:=Kr (Bi (.slice ao36 ((Bt x)).length cap36))
         have ap_ow_op:=AEF (Bi (.slice ao36 ((Bt x)).length cap36))
         have ap_okk_ow:=Kr (Bi (.slice ko i kc))
         have ap_ow_okk:=AEF (Bi (.slice ko i kc))
         have lo_ow:=ACO w
         refine wp_loop (fun a w'=>∃(j:Nat) (wo:Option Addr) (wc:Nat),(j≤i)∧Sv 104 [{ target:=.fn (.func 49) #[pt Ir,pt It],args:=#[] }] [(80,.int .i64 ((j:Int))),(78,.slice ko i kc),(79,.int .i64 ((i:Nat))),(76,.int .i64 1),(77,.bool true),(19,pt Rq),(75,AR ck),(73,.int .i64 1),(74,.slice ko i kc),(54,.bool false),(53,.int .i64 ((i:Int))),(14,.slice ko i kc),(51,.slice ao ds.length ac),(52,.int .i64 ((ds.length:Nat))),(41,.slice ao ds.length ac),(42,.int .i64 ((ds.length:Nat))),(43,.bool false),(13,.slice ao36 ((Bt x)).length cap36),(40,.slice ao36 ((Bt x)).length cap36),(39,CE x),(12,pt Ea),(23,.slice ao ds.length ac),(24,.int .i64 1),(25,.int .i64 ad),(26,.bool true),(27,.bool false),(28,.bool false),(29,Ao sa po (.slice vo ks.length vc_)),(30,.bool true),(31,.bool false),(32,.bool false),(22,.func (.func 49) #[] #[pt Ir,pt It]),(11,pt It),(10,pt Ir),(9,pt VR),(5,pt VQ),(0,Ao sa po (.slice vo ks.length vc_)),(1,.slice ao ds.length ac),(2,.int .i64 1),(3,.int .i64 ad),(4,CE x)] a∧w.grownBy w' none∧w'.heap[VQ]?=some (.cells ([bv sa,bv po,[.slice vo ks.length vc_]].flatten).toArray 36 (0,0))∧w'.heap[VR]?=some (.cells (vc x).toArray 25 (0,0))∧w'.heap[Ir]?=some (.cells (([[.int .i64 0],[.slice none 0 0],[.int .i64 0],[.slice none 0 0],[.slice none 0 0],bv AS].flatten)).toArray 31 (0,0))∧w'.heap[It]?=some (.cells ([.int .i64 0]).toArray 38 (0,0))∧w'.heap[Ea]?=some (.cells ([[.int .i64 ad],[.slice ao29 ds.length cap29],[.int .i64 1],[.slice wo j wc],[.slice none 0 0],bv AS].flatten).toArray 31 (0,0))∧w'.heap[Rq]?=some (.cells (bv ck).toArray 23 (0,0))∧RdK w' (.slice vo ks.length vc_) ks∧RdD w' (.slice ao ds.length ac) ds∧Own w' 23 32 (.slice ao29 ds.length cap29) ds.length (ds.flatMap Lf)∧Own w' 5 1 (.slice ao36 ((Bt x)).length cap36) (((Bt x)).length) (bv ((Bt x)))∧Own w' 23 32 (.slice ko i kc) i (kl.flatMap Lf)∧Own w' 23 32 (.slice wo j wc) j (((wrL ck hck kl j)).flatMap Lf)∧(∀k,Bi (.slice wo j wc) k→k≠VQ)∧(∀k,Bi (.slice wo j wc) k→k≠VR)∧(∀k,Bi (.slice wo j wc) k→k≠Ir)∧(∀k,Bi (.slice wo j wc) k→k≠It)∧(∀k,Bi (.slice wo j wc) k→k≠Ea)∧(∀k,Bi (.slice wo j wc) k→k≠Rq)∧(∀k,JZ (.slice vo ks.length vc_) ks k→¬Bi (.slice wo j wc) k)∧(∀k,Bi (.slice ao ds.length ac) k→¬Bi (.slice wo j wc) k)∧(∀k,Bi (.slice ao29 ds.length cap29) k→¬Bi (.slice wo j wc) k)∧(∀k,Bi (.slice wo j wc) k→¬Bi (.slice ao29 ds.length cap29) k)∧(∀k,Bi (.slice ao36 ((Bt x)).length cap36) k→¬Bi (.slice wo j wc) k)∧(∀k,Bi (.slice wo j wc) k→¬Bi (.slice ao36 ((Bt x)).length cap36) k)∧(∀k,Bi (.slice ko i kc) k→¬Bi (.slice wo j wc) k)∧(∀k,Bi (.slice wo j wc) k→¬Bi (.slice ko i kc) k)∧(∀k,Bi (.slice wo j wc) k→w.heap.size≤k)) (fun a _=>(i-intOf (a.tmps.getD 80 undef)).toNat) ⟨0,none,0,Nat.zero_le _,⟨Ci.1,Ci.2.1,Ci.2.2.2.2.1,Ci.2.2.1,Ci.2.2.2.1,Ci.2.2.2.2.2.1,Ci.2.2.2.2.2.2.1,Ci.2.2.2.2.2.2.2.1,(AH Ci).1,(AH Ci).2.1,(AH Ci).2.2.1,(AH Ci).2.2.2.1,(AH Ci).2.2.2.2.1,(AH Ci).2.2.2.2.2.1,(AH Ci).2.2.2.2.2.2.1,(AH Ci).2.2.2.2.2.2.2.1,(AH (AH Ci)).1,(AH (AH Ci)).2.1,(AH (AH Ci)).2.2.1,(AH (AH Ci)).2.2.2.1,(AH (AH Ci)).2.2.2.2.1,(AH (AH Ci)).2.2.2.2.2.1,(AH (AH Ci)).2.2.2.2.2.2.1,(AH (AH Ci)).2.2.2.2.2.2.2.1,(AH (AH (AH Ci))).1,(AH (AH (AH Ci))).2.1,(AH (AH (AH Ci))).2.2.1,(AH (AH (AH Ci))).2.2.2.1,(AH (AH (AH Ci))).2.2.2.2.1,(AH (AH (AH Ci))).2.2.2.2.2.1,(AH (AH (AH Ci))).2.2.2.2.2.2.1,(AH (AH (AH Ci))).2.2.2.2.2.2.2.1,(AH (AH (AH (AH Ci)))).1,(AH (AH (AH (AH Ci)))).2.1,(AH (AH (AH (AH Ci)))).2.2.1,(AH (AH (AH (AH Ci)))).2.2.2.1,(AH (AH (AH (AH Ci)))).2.2.2.2.1,(AH (AH (AH (AH Ci)))).2.2.2.2.2.1,(AH (AH (AH (AH Ci)))).2.2.2.2.2.2.1,(AH (AH (AH (AH Ci)))).2.2.2.2.2.2.2.1,(AH (AH (AH (AH (AH Ci))))).1,(AH (AH (AH (AH (AH Ci))))).2.1,(AH (AH (AH (AH (AH Ci))))).2.2.1,ALr⟩,HG,BX,Bd,Aj,An,Af,CH,hr,ho,oc,op,okk,ow,KU,KV,Hk,Hl,FO,IL,ap_hr_ow,ap_ho_ow,ap_oc_ow,ap_ow_oc,ap_op_ow,ap_ow_op,ap_okk_ow,ap_ow_okk,lo_ow⟩ fun a122 w122 hI122=>?_
         clear BX
         clear Bd
         clear Aj
         clear An
         clear Af
         clear CH
         clear hr
         clear ho
         clear oc
         clear op
         clear okk
         clear ow
         clear HG
         obtain⟨j,wo,wc,hjn,AFC,HG,BX,Bd,Aj,An,Af,CH,hr,ho,oc,op,okk,ow,KU,KV,Hk,Hl,FO,IL,ap_hr_ow,ap_ho_ow,ap_oc_ow,ap_ow_oc,ap_op_ow,ap_ow_op,ap_okk_ow,ap_ow_okk,lo_ow⟩:=hI122
         refine ALl fun K123 k123=>?_
         by_cases hjl:j<i
         · have hjk:j<kl.length:=by omega
           obtain⟨ky,hx_ky⟩:∃zx,kl[j]'hjk=zx:=⟨_,rfl⟩
           refine ALk ?_
           refine AK AFC 1 [(81,.bool true)]
            ⟨Ho r7 (fun _=>Bk (by simp;omega)),ALr⟩ fun a124 w124 g124 AHq=>?_
           refine AE ?_
           refine k123 _ _ ?_
           refine ALl fun K125 k125=>?_
           refine Ar AHq rfl rfl ?_
           refine ALp ?_
           refine k125 _ _ ?_
           refine ALl fun K126 k126=>?_
           refine BF fun Q127 x127 y127 rt127 o127=>?_
           refine ALl fun K128 k128=>?_
           refine ALk ?_
           replace okk:=okk.kn g124
           refine AK AHq 2 [(82,pk ((bO ko)) (oO ko+j*32)),(83,AR ky.x)]
            ⟨BJ rq8 (fun w=>CW Tryz.underlying28 (by kernel_rfl) ((Sl.of_own okk)) (by omega) (rfl) w),CD r6 (fun _ g=>Ae (CB ky.x ky.h.1) (by have:=DS (Sl.of_own (okk.kn g)) G0 hjk (by decide);rw[hx_ky] at this;exact this)),ALr⟩ fun a129 w129 g129 AKF=>?_
           replace BX:=AC g129 (AC g124 BX)
           replace Bd:=AC g129 (AC g124 Bd)
           replace Aj:=AC g129 (AC g124 Aj)
           replace An:=AC g129 (AC g124 An)
           replace Af:=AC g129 (AC g124 Af)
           replace CH:=AC g129 (AC g124 CH)
           replace hr:=(hr.kn g124).kn g129
           replace ho:=(ho.kn g124).kn g129
           replace oc:=(oc.kn g124).kn g129
           replace op:=(op.kn g124).kn g129
           replace okk:=okk.kn g129
           replace ow:=(ow.kn g124).kn g129
           replace HG:=AA (AA HG g124) g129
           refine Ax (T:=23) (Z:=(bv AS)) AKF rfl rfl rfl (fun a w=>by kernel_rfl) fun a130 w130 AHB C9 g130 z130 Nl AHr=>?_
           have Pw:=Au BX C9
           have Px:=Au Bd C9
           have Ov:=Au Aj C9
           have Ow:=Au An C9
           have Nm:=Au Af C9
           have Nn:=Au CH C9
           have AAU:=B7 HG C9
           have TF:=A2 (hr.lt) C9
           have TG:=A2 (ho.lt) C9
           have TH:=A2 (Own.ltS oc) C9
           have TI:=A2 (Own.ltS op) C9
           have Ru:=A2 (Own.ltS okk) C9
           have TL:=A2 (Own.ltS ow) C9
           refine Ap AHr r7 (CB ky.x ky.h.1) Nl (Hq ky.h) fun w131 g131 h131=>?_
           replace BX:=AX g131 (AC g130 BX) (Ne.symm Pw)
           replace Bd:=AX g131 (AC g130 Bd) (Ne.symm Px)
           replace Aj:=AX g131 (AC g130 Aj) (Ne.symm Ov)
           replace An:=AX g131 (AC g130 An) (Ne.symm Ow)
           replace Af:=AX g131 (AC g130 Af) (Ne.symm Nm)
           replace CH:=AX g131 (AC g130 CH) (Ne.symm Nn)
           replace ow:=(ow.kn g130).offR g131 (AU TL)
           replace HG:=AD (AA HG g130) g131 AAU
           replace Nl:=h131
           refine AE ?_
           refine k128 _ _ ?_
           refine DU (AHr.st w131) (by kernel_rfl) 6 [(84,Sp.is (pk Ea 3)),(85,Sp.is (.slice wo j wc)),(86,Sp.is (AR ck)),(87,Sp.is (AR ky.x)),(88,Sp.is (AR ((Md ck ky.x)))),(89,Sp.lit1 w131.heap.size 23 (bv (Md ck ky.x)))] rfl (by kernel_rfl) (by kernel_rfl) (by kernel_rfl) [] (by kernel_rfl)
            ⟨yf r6 (fun _=>by kernel_rfl),yp (i:=3) r6 (MW (.slice wo j wc) rfl) Af rfl rfl,yl r6 (CB ck hck.1) CH,yl r6 (CB ky.x ky.h.1) Nl,Ad [AR ck,AR ky.x] Tryz.func56 (by kernel_rfl) rq4 ⟨(oy rfl rfl),(oy rfl rfl),ALr⟩ (As fun W g=>Ng ck ky.x hck ky.h W),QI rfl rfl trivial (Nat.le_refl _) rfl (fun W hw v h=>match v,h with|_,⟨rfl,_⟩=>⟨bv (Md ck ky.x),ACu (M5 hck ky.h) W,fun w' _ hh=>⟨_,rfl,hw.size,hh⟩⟩),ALr⟩ trivial
            [] (by kernel_rfl) trivial ⟨.inl rfl,.inl rfl,.inl rfl,.inl rfl,.inl rfl,.inl rfl,ALr⟩ (by kernel_rfl) fun a132 w132 g132 st132 nd132=>?_
           obtain⟨hn132,hd132,e132_84,e132_85,e132_86,e132_87,e132_88,e132_89,e132_21,e132_82,e132_83,e132_81,e132_80,e132_78,e132_79,e132_76,e132_77,e132_19,e132_75,e132_73,e132_74,e132_54,e132_53,e132_14,e132_51,e132_52,e132_41,e132_42,e132_43,e132_13,e132_40,e132_39,e132_12,e132_23,e132_24,e132_25,e132_26,e132_27,e132_28,e132_29,e132_30,e132_31,e132_32,e132_22,e132_11,e132_10,e132_9,e132_5,e132_0,e132_1,e132_2,e132_3,e132_4,-⟩:=st132
           obtain⟨V,e132_89q,geV,HV⟩:=e132_89
           have AJR:V≠VQ:=Nat.ne_of_gt (Nat.lt_of_lt_of_le (Array.getElem?_eq_some_iff.1 BX).1 geV)
           have AJS:V≠VR:=Nat.ne_of_gt (Nat.lt_of_lt_of_le (Array.getElem?_eq_some_iff.1 Bd).1 geV)
           have AI2:V≠Ir:=Nat.ne_of_gt (Nat.lt_of_lt_of_le (Array.getElem?_eq_some_iff.1 Aj).1 geV)
           have AI3:V≠It:=Nat.ne_of_gt (Nat.lt_of_lt_of_le (Array.getElem?_eq_some_iff.1 An).1 geV)
           have YU:V≠Ea:=Nat.ne_of_gt (Nat.lt_of_lt_of_le (Array.getElem?_eq_some_iff.1 Af).1 geV)
           have AHs:V≠Rq:=Nat.ne_of_gt (Nat.lt_of_lt_of_le (Array.getElem?_eq_some_iff.1 CH).1 geV)
           have AHC:V≠AHB:=Nat.ne_of_gt (Nat.lt_of_lt_of_le (Array.getElem?_eq_some_iff.1 Nl).1 geV)
           have lo_V:w.heap.size≤V:=Nat.le_trans HG.size geV
           have ap_ow_V:=Jn (Own.ltS ow) geV
           replace BX:=AC g132 BX
           replace Bd:=AC g132 Bd
           replace Aj:=AC g132 Aj
           replace An:=AC g132 An
           replace Af:=AC g132 Af
           replace CH:=AC g132 CH
           replace hr:=((hr.kn g130).offR g131 (AU TF)).kn g132
           replace ho:=((ho.kn g130).offR g131 (AU TG)).kn g132
           replace oc:=((oc.kn g130).offR g131 (AU TH)).kn g132
           replace op:=((op.kn g130).offR g131 (AU TI)).kn g132
           replace okk:=((okk.kn g130).offR g131 (AU Ru)).kn g132
           replace ow:=ow.kn g132
           replace HG:=AA HG g132
           have AKG:Sv 104 [{ target:=.fn (.func 49) #[pt Ir,pt It],args:=#[] }] [(21,_),(82,_),(83,_),(81,_),(80,_),(78,_),(79,_),(76,_),(77,_),(19,_),(75,_),(73,_),(74,_),(54,_),(53,_),(14,_),(51,_),(52,_),(41,_),(42,_),(43,_),(13,_),(40,_),(39,_),(12,_),(23,_),(24,_),(25,_),(26,_),(27,_),(28,_),(29,_),(30,_),(31,_),(32,_),(22,_),(11,_),(10,_),(9,_),(5,_),(0,_),(1,_),(2,_),(3,_),(4,_),(85,_),(89,_)] a132:=⟨hn132,hd132,e132_21,e132_82,e132_83,e132_81,e132_80,e132_78,e132_79,e132_76,e132_77,e132_19,e132_75,e132_73,e132_74,e132_54,e132_53,e132_14,e132_51,e132_52,e132_41,e132_42,e132_43,e132_13,e132_40,e132_39,e132_12,e132_23,e132_24,e132_25,e132_26,e132_27,e132_28,e132_29,e132_30,e132_31,e132_32,e132_22,e132_11,e132_10,e132_9,e132_5,e132_0,e132_1,e132_2,e132_3,e132_4,e132_85,e132_89q,ALr⟩
           refine Mx dsT AKG rfl rfl rfl rfl rfl rfl rfl rfl ow (MI HV (M5 hck ky.h)) (Ha _) (by omega) fun a133 ao133 cap133 w133 owx133 Cl AKH=>?_
           have Rv:=Ko Cl.2 KU BX
           have Rx:=Ko Cl.2 KV Bd
           have Py:=Ko Cl.2 Hk Aj
           have Pz:=Ko Cl.2 Hl An
           have Jz:=Ko Cl.2 FO Af
           have Ox:=Ko Cl.2 IL CH
           have Vj:=Kp Cl.2 ap_hr_ow (hr.lt)
           have Vk:=Kp Cl.2 ap_ho_ow (ho.lt)
           have No:=Kp Cl.2 ap_oc_ow (Own.ltS oc)
           have Np:=Kp Cl.2 ap_op_ow (Own.ltS op)
           have Me:=Kp Cl.2 ap_okk_ow (Own.ltS okk)
           have ap_owx133_oc:=AEE No
           have ap_owx133_op:=AEE Np
           have ap_owx133_okk:=AEE Me
           have AC3:=Zm Cl.2 lo_ow HG
           replace Af:=AF Cl.1 Af (fun e=>FO _ e.symm rfl)
           rw[AE3 hck hjk hx_ky] at owx133
           refine AK AKH 1 [(91,pk Ea 3)]
            ⟨yf r6 (fun _=>by kernel_rfl),ALr⟩ fun a134 w134 g134 AHt=>?_
           refine LP (L:=[[.int .i64 ad],[.slice ao29 ds.length cap29],[.int .i64 1],[.slice wo j wc],[.slice none 0 0],bv AS]) (i:=3) AHt r7 (MW (.slice ao133 (j+1) cap133) rfl) (AC g134 Af) rfl rfl rfl fun w135 g135 h135=>?_
           replace BX:=Ah g134 g135 (AF Cl.1 BX (fun e=>KU _ e.symm rfl)) (Ne.symm EH)
           replace Bd:=Ah g134 g135 (AF Cl.1 Bd (fun e=>KV _ e.symm rfl)) (Ne.symm EI)
           replace Aj:=Ah g134 g135 (AF Cl.1 Aj (fun e=>Hk _ e.symm rfl)) (Ne.symm CM)
           replace An:=Ah g134 g135 (AF Cl.1 An (fun e=>Hl _ e.symm rfl)) (Ne.symm CN)
           replace CH:=Ah g134 g135 (AF Cl.1 CH (fun e=>IL _ e.symm rfl)) EM
           replace HV:=Ah g134 g135 (AF Cl.1 HV (fun e=>ap_ow_V _ e.symm rfl)) YU
           replace hr:=((hr.offR Cl.1 (fun k hk e=>ap_hr_ow k hk (e))).kn g134).offR g135 (AU FM)
           replace ho:=((ho.offR Cl.1 (fun k hk e=>ap_ho_ow k hk (e))).kn g134).offR g135 (AU FN)
           replace oc:=((oc.offR Cl.1 (fun k hk e=>ap_oc_ow k hk (e))).kn g134).offR g135 (AU Dv)
           replace op:=((op.offR Cl.1 (fun k hk e=>ap_op_ow k hk (e))).kn g134).offR g135 (AU Eb)
           replace okk:=((okk.offR Cl.1 (fun k hk e=>ap_okk_ow k hk (e))).kn g134).offR g135 (AU DB)
           replace HG:=AD (AA (Bh HG Cl.1 fun k e=>lo_ow k (e)) g134) g135 Fu
           have AKI:Sv _ _ [_,_,_,_,_,_,_,_,_,_,_,_,_,_,_,_,_,_,_,_,_,_,_,_,_,_,_,_,_,_,_,_,_,_,_,_,_,_,_,_,_,_,_,_,_] _:=AHt.dl [91,90,85,89]
           refine AE ?_
           refine y127 _ _ ?_
           refine k126 _ _ ?_
           refine ALk ?_
           refine AK AKI 1 [(92,.int .i64 (((j+1:Nat):Int)))]
            ⟨Cq r6 (fun _=>DK (by rw[BA (by omega) (by omega)];omega)),ALr⟩ fun a137 w137 g137 AKJ=>?_
           refine AK (AKJ.dl [80]) 1 [(80,.int .i64 (((j+1:Nat):Int)))]
            ⟨ym r5,ALr⟩ fun a138 w138 g138 Ch=>?_
           have JU:=AA g137 g138
           refine AE ?_
           replace BX:=AC JU BX
           replace Bd:=AC JU Bd
           replace Aj:=AC JU Aj
           replace An:=AC JU An
           replace Af:=AC JU h135
           replace CH:=AC JU CH
           replace HV:=AC JU HV
           replace hr:=hr.kn JU
           replace ho:=ho.kn JU
           replace oc:=oc.kn JU
           replace op:=op.kn JU
           replace okk:=okk.kn JU
           replace owx133:=((owx133.kn g134).offR g135 (AU Jz)).kn JU
           replace HG:=AA HG JU
           exact⟨⟨j+1,ao133,cap133,by omega,⟨Ch.1,Ch.2.1,Ch.2.2.1,(AH Ch).1,(AH Ch).2.1,(AH Ch).2.2.1,(AH Ch).2.2.2.1,(AH Ch).2.2.2.2.1,(AH Ch).2.2.2.2.2.1,(AH Ch).2.2.2.2.2.2.1,(AH Ch).2.2.2.2.2.2.2.1,(AH (AH Ch)).1,(AH (AH Ch)).2.1,(AH (AH Ch)).2.2.1,(AH (AH Ch)).2.2.2.1,(AH (AH Ch)).2.2.2.2.1,(AH (AH Ch)).2.2.2.2.2.1,(AH (AH Ch)).2.2.2.2.2.2.1,(AH (AH Ch)).2.2.2.2.2.2.2.1,(AH (AH (AH Ch))).1,(AH (AH (AH Ch))).2.1,(AH (AH (AH Ch))).2.2.1,(AH (AH (AH Ch))).2.2.2.1,(AH (AH (AH Ch))).2.2.2.2.1,(AH (AH (AH Ch))).2.2.2.2.2.1,(AH (AH (AH Ch))).2.2.2.2.2.2.1,(AH (AH (AH Ch))).2.2.2.2.2.2.2.1,(AH (AH (AH (AH Ch)))).1,(AH (AH (AH (AH Ch)))).2.1,(AH (AH (AH (AH Ch)))).2.2.1,(AH (AH (AH (AH Ch)))).2.2.2.1,(AH (AH (AH (AH Ch)))).2.2.2.2.1,(AH (AH (AH (AH Ch)))).2.2.2.2.2.1,(AH (AH (AH (AH Ch)))).2.2.2.2.2.2.1,(AH (AH (AH (AH Ch)))).2.2.2.2.2.2.2.1,(AH (AH (AH (AH (AH Ch))))).1,(AH (AH (AH (AH (AH Ch))))).2.1,(AH (AH (AH (AH (AH Ch))))).2.2.1,(AH (AH (AH (AH (AH Ch))))).2.2.2.1,(AH (AH (AH (AH (AH Ch))))).2.2.2.2.1,(AH (AH (AH (AH (AH Ch))))).2.2.2.2.2.1,(AH (AH (AH (AH (AH Ch))))).2.2.2.2.2.2.1,(AH (AH (AH (AH (AH Ch))))).2.2.2.2.2.2.2.1,ALr⟩,HG,BX,Bd,Aj,An,Af,CH,hr,ho,oc,op,okk,owx133,Rv,Rx,Py,Pz,Jz,Ox,Vj,Vk,No,ap_owx133_oc,Np,ap_owx133_op,Me,ap_owx133_okk,AC3⟩,by rw[show _=_ from Ch.2.2.1,show _=_ from AFC.2.2.1];simp[intOf];omega⟩
         · have hwr:(wrL ck hck kl j).map DD.x=kl.map fun z=>Md ck z.x:=AG5 (by omega)
           refine ALk ?_
           refine AK AFC 1 [(81,.bool false)]
            ⟨Ho r7 (fun _=>Bk (by simp;omega)),ALr⟩ fun a139 w139 g139 AHu=>?_
           refine AE ?_
           refine k123 _ _ ?_
           refine ALl fun K140 k140=>?_
           refine Av AHu rfl rfl ?_
           refine wp_exit ?_
           repeat refine CJ ?_
           refine x121 _ _ ?_
           refine k99 _ _ ?_
           refine ALl fun K141 k141=>?_
           refine ALk ?_
           refine AK AHu 2 [(93,.slice ao36 ((Bt x)).length cap36),(94,AR ck)]
            ⟨ym r5,yl r6 (CB ck hck.1) (AC g139 CH),ALr⟩ fun a142 w142 g142 AKK=>?_
           have Nq:=AA g139 g142
           replace Aj:=AC Nq Aj
           replace An:=AC Nq An
           replace Af:=AC Nq Af
           replace op:=op.kn Nq
           replace HG:=AA HG Nq
           refine Bo AKK Tryz.func57 (by kernel_rfl) r6 (UK (KR (Bt x) (JN x) (by have:=IT x;omega) _ _ ck hck _ (Own.sb op))) fun a143 v143 w143 hR143 AKL=>?_
           obtain⟨ao143,cap143,rfl,_⟩:=(Sl.of_own hR143.1).shape
           obtain⟨ow143,fr143⟩:=hR143
           replace fr143:=Ef fr143
           have oy_:=ow143
           clear ow143
           have g143:=fr143.1
           replace fr143:=fr143.2
           have KS:=CA fr143 Aj
           have KT:=CA fr143 An
           have Fc:=CA fr143 Af
           have lo_oy_:=Jp HG fr143
           replace Af:=AC g143 Af
           refine AK AKL 1 [(96,pk Ea 4)]
            ⟨yf r6 (fun _=>by kernel_rfl),ALr⟩ fun a144 w144 g144 AHv=>?_
           refine LP (L:=[[.int .i64 ad],[.slice ao29 ds.length cap29],[.int .i64 1],[.slice wo j wc],[.slice none 0 0],bv AS]) (i:=4) AHv r7 (Hu (.slice ao143 ((Jb (Bt x) ck)).length cap143) rfl) (AC g144 Af) rfl rfl rfl fun w145 g145 h145=>?_
           replace CH:=Ah g144 g145 (AC g143 (AC Nq CH)) EM
           replace Af:=h145
           have AKM:Sv _ _ [_,_,_,_,_,_,_,_,_,_,_,_,_,_,_,_,_,_,_,_,_,_,_,_,_,_,_,_,_,_,_,_,_,_,_,_,_,_,_,_,_,_] _:=AHv.dl [96,95,93,94]
           refine AE ?_
           refine k141 _ _ ?_
           refine ALl fun K147 k147=>?_
           refine ALk ?_
           refine AK AKM 4 [(97,AR ck),(98,.int .i64 ad),(99,pk Ea 4),(100,.slice ao143 ((Jb (Bt x) ck)).length cap143)]
            ⟨yl r6 (CB ck hck.1) CH,ym r5,yf r6 (fun _=>by kernel_rfl),yp (i:=4) r6 (Hu (.slice ao143 ((Jb (Bt x) ck)).length cap143) rfl) Af rfl rfl,ALr⟩ fun a148 w148 g148 AKN=>?_
           replace oy_:=((oy_.kn g144).offR g145 (AU Fc)).kn g148
           refine Bo AKN Tryz.func58 (by kernel_rfl) r6 (Rb (HH ck hck ad hia (Jb (Bt x) ck) (Re _ (JN x)) (by have:=IT x;rw[KQ];omega) _ _ _ (Own.sb oy_))) fun a149 v149 w149 hR149 AKO=>?_
           obtain⟨rfl,g149⟩:=hR149
           replace Af:=AC g149 (AC g148 Af)
           have AKP:Sv _ _ [_,_,_,_,_,_,_,_,_,_,_,_,_,_,_,_,_,_,_,_,_,_,_,_,_,_,_,_,_,_,_,_,_,_,_,_,_,_,_,_,_,_,_] _:=AKO.dl [97,98,99,100]
           refine AK AKP 1 [(102,pk Ea 5)]
            ⟨yf r6 (fun _=>by kernel_rfl),ALr⟩ fun a151 w151 g151 AHw=>?_
           refine LP (L:=[[.int .i64 ad],[.slice ao29 ds.length cap29],[.int .i64 1],[.slice wo j wc],[.slice ao143 ((Jb (Bt x) ck)).length cap143],bv AS]) (i:=5) AHw r7 (CB ((U6 ck ad (Jb (Bt x) ck))) (EY _ _ _).1) (AC g151 Af) rfl rfl (ABE AN (EY _ _ _)) fun w152 g152 h152=>?_
           replace Aj:=Ah g151 g152 (AC g149 (AC g148 (Ah g144 g145 (AC g143 Aj) (Ne.symm CM)))) (Ne.symm CM)
           replace Af:=h152
           refine AE ?_
           refine k147 _ _ ?_
           refine ALl fun K153 k153=>?_
           refine ALk ?_
           refine AK AHw 1 [(103,Ce ad (.slice ao29 ds.length cap29) 1 (.slice wo j wc) (.slice ao143 ((Jb (Bt x) ck)).length cap143) ((U6 ck ad (Jb (Bt x) ck))))]
            ⟨yl r6 (FL _ _ (EY _ _ _) (.slice ao29 ds.length cap29) (.slice wo j wc) (.slice ao143 ((Jb (Bt x) ck)).length cap143) rfl rfl rfl) Af,ALr⟩ fun a154 w154 g154 ABZ=>?_
           refine Ap ABZ r7 (FL _ _ (EY _ _ _) (.slice ao29 ds.length cap29) (.slice wo j wc) (.slice ao143 ((Jb (Bt x) ck)).length cap143) rfl rfl rfl) (AC g154 Aj) (Fg AN (EY _ _ _)) fun w155 g155 h155=>?_
           replace An:=Ah g154 g155 (Ah g151 g152 (AC g149 (AC g148 (Ah g144 g145 (AC g143 An) (Ne.symm CN)))) (Ne.symm CN)) B6
           refine Ap ABZ r7 (Dy 0) An rfl fun w156 g156 h156=>?_
           replace Aj:=AX g156 h155 (Ne.symm B6)
           replace oc:=((((((((((oc.kn Nq).kn g143).kn g144).offR g145 (AU Dv)).kn g148).kn g149).kn g151).offR g152 (AU Dv)).kn g154).offR g155 (AU JO)).offR g156 (AU JP)
           replace op:=(((((((((op.kn g143).kn g144).offR g145 (AU Eb)).kn g148).kn g149).kn g151).offR g152 (AU Eb)).kn g154).offR g155 (AU JQ)).offR g156 (AU JR)
           replace okk:=((((((((((okk.kn Nq).kn g143).kn g144).offR g145 (AU DB)).kn g148).kn g149).kn g151).offR g152 (AU DB)).kn g154).offR g155 (AU Ec)).offR g156 (AU Ed)
           replace ow:=((((((((((ow.kn Nq).kn g143).kn g144).offR g145 (AU FO)).kn g148).kn g149).kn g151).offR g152 (AU FO)).kn g154).offR g155 (AU Hk)).offR g156 (AU Hl)
           replace oy_:=(((((oy_.kn g149).kn g151).offR g152 (AU Fc)).kn g154).offR g155 (AU KS)).offR g156 (AU KT)
           replace HG:=AD (AD (AA (AD (AA (AA (AA (AD (AA (AA HG g143) g144) g145 Fu) g148) g149) g151) g152 Fu) g154) g155 Is) g156 Iu
           replace An:=h156
           refine AE ?_
           refine k153 _ _ ?_
           refine ALo ?_
           repeat refine AM ?_
           refine BK (fn:=Tryz.f20) ABZ (BU (p:=10) (q:=11) Tryz.results20 ABZ rfl rfl rfl rfl (FL _ _ (EY _ _ _) (.slice ao29 ds.length cap29) (.slice wo j wc) (.slice ao143 ((Jb (Bt x) ck)).length cap143) rfl rfl rfl) (Dy 0) Aj An) (Bp Tryz.func49 (by kernel_rfl) rfl _ _) (EZ _ _ _) ?_
           exact SRes.mk (own:=ds) (wr:=(wrL ck hck kl j)) (Fb hh hv hne hK2 hkm hcke) rfl (AG6 (by omega)) rfl hown (hwr.trans (ACv kl ck)) oc ow oy_ lo_oc lo_ow lo_oy_ ap_oc_ow (EY _ _ _) (Re _ (JN x)) HG rfl
end Go.Proofs.YtbfjfnbcmojpiaaGreat
