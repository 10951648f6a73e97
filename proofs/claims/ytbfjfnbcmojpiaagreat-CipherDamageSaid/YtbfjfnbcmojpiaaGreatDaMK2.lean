import Derived.Test.YtbfjfnbcmojpiaaGreatDaMK1
import Derived.LoopNIn
set_option linter.unusedSimpArgs false
set_option linter.unusedVariables false
set_option maxRecDepth 100000
set_option maxHeartbeats 4000000
namespace Go.Proofs.YtbfjfnbcmojpiaaGreat
section
open Go.RowKit Go.Shelf
attribute [local go_sem] Oper.semAt_some
def Bk (c:Int) (n:Nd):Option Int:=if Hn n=(0,0) then none else if (Hn n).1<c then none else some (Hn n).2
def Nh:Int→List Nd→Option Int
 | c,[]=>some c
 | c,n::l=>(Bk c n).bind fun c=>Nh c l
theorem Rs (c:Int) (l:List Nd) (n:Nd):Nh c (l++[n])=(Nh c l).bind fun c=>Bk c n:=by
 induction l generalizing c with
 | nil=>simp[Nh,Option.bind_some]
 | cons x l ih =>
  simp only[List.cons_append,Nh]
  cases Bk c x with
  | none=>rfl
  | some d=>simp[ih]
theorem Zp {c:Int} {l m:List Nd} (h:Nh c l=none):Nh c (l++m)=none:=by
 induction l generalizing c with
 | nil=>simp[Nh] at h
 | cons x l ih =>
  simp only[List.cons_append,Nh] at h ⊢
  cases hs:Bk c x with
  | none=>rfl
  | some d=>rw[hs] at h;simp at h ⊢;exact ih h
def I1 (l:List Nd):Bool:=decide (l.length≤32768)&&(Nh 0 l).isSome
def RdL (w:World) (s:Value) (l:List Rr):Prop:=RdN w s (l.map (·.1))∧(∀k,OZ s k→k<w.heap.size)∧l.length≤1099511627776
theorem RdL.kn {w w':World} {s:Value} {l:List Rr} (h:RdL w s l) (g:w.grownBy w' none):RdL w' s l:=⟨h.1.kn g,fun k hk=>Nat.lt_of_lt_of_le (h.2.1 k hk) g.size,h.2.2⟩
theorem RdL.shape {w:World} {s:Value} {l:List Rr} (h:RdL w s l):∃ao cap,s=.slice ao l.length cap∧l.length≤cap∧cap≤9223372036854775807:=by
 obtain⟨ao,cap,e,h1,h2⟩:=Sl.shape h.1.1
 rw[List.length_map] at e h1
 exact⟨ao,cap,e,h1,h2⟩
theorem tyT (v:Value) (h:v.oneCell'=true):TY Tryz.prog 56 [v] (.agg #[v]):=TY.agg Tryz.underlying56 rfl (by kernel_rfl) (by simp[h])
theorem ACf (b:Bool):TY Tryz.prog 4 [.bool b] (.bool b):=TY.one' Tryz.underlying4 rfl (by kernel_rfl) rfl
theorem Bu {w X Y:World} {row:Option Nat} (h:w.grownBy X none) (hg:X.grownBy Y row) (hr:∀r,row=some r→w.heap.size≤r):w.grownBy Y none:=by
 cases row with
 | none=>exact AA h hg
 | some r=>exact AE h hg (hr r rfl)
theorem Lx {B:Nat} {V V':World} (g:V.grownBy V' none):KeepsFrom B V V':=⟨g.size,fun k o _ h _=>AF g h (by simp)⟩
theorem LQ {B r:Nat} {V V':World} {c:Array Value} {t:TypeId} {fr:Nat×Nat} (g:V.grownBy V' (some r)) (hr:V.heap[r]?=some (.cells c t fr)):KeepsFrom B V V':=
 ⟨g.size,fun k o _ h ho=>AF g h (fun e=>by cases e;rw[hr] at h;cases h;cases ho)⟩
theorem KX {B:Nat} {V V':World} {row:Option Nat} (g:V.grownBy V' row) (hB:B≤V.heap.size) (hr:∀k,row=some k→B≤k):Below B V V':=(Below.refl B V).grown g hB hr
theorem Zq (p q:Nat) (tm:Array Value) (x:Rr):(#[p,q].zip (AJC x)).foldl (fun t (p,v)=>t.setIfInBounds p v) tm=(tm.setIfInBounds p (Og (Hn x.1))).setIfInBounds q (Hr x.1):=by
 simp[AJC]
def VI (w:World) (S B:Nat) (FM:List Rr) (V:World):Prop:=∃c,Nh 0 (FM.map (·.1))=some c∧V.heap[B+2]?=some (.cells #[.int .i64 c] 2 (0,0))∧V.heap[B+1]?=some (.cells #[.bool false] 4 (0,0))∧w.grownBy V none∧S≤V.heap.size
def VX (w:World) (B:Nat) (c:Code) (FM:List Rr) (V:World):Prop:=c=.ret∧Nh 0 (FM.map (·.1))=none∧V.heap[B+1]?=some (.cells #[.bool false] 4 (0,0))∧w.grownBy V none
def VA (S B:Nat) (tm:Nat→Value→Value→Act) (x:Rr) (a:Act) (V:World):Prop:=∃Bs,S≤Bs∧V.heap[Bs]?=some (.cells #[.int .i64 (Hn x.1).1,.int .i64 (Hn x.1).2] 137 (0,0))∧a=tm Bs (Og (Hn x.1)) (Hr x.1)
theorem VI.kn {w V V':World} {S B:Nat} {FM:List Rr} (h:VI w S B FM V) (g:V.grownBy V' none):VI w S B FM V':=by
 obtain⟨c,h1,h2,h3,h4,h5⟩:=h
 exact⟨c,h1,AF g h2 (by simp),AF g h3 (by simp),AA h4 g,Nat.le_trans h5 g.size⟩
theorem VI.own {w W:World} {B:Nat} (hB:B=w.heap.size) (hs:W.heap.size=B+4):OwnFrom W.heap.size (VI w W.heap.size B):=fun FM X Y row ⟨c,h1,h2,h3,h4,h5⟩ hg hr =>
 ⟨c,h1,AF hg h2 (fun e=>by have:=(hr _ e.symm).1;omega),AF hg h3 (fun e=>by have:=(hr _ e.symm).1;omega),Bu h4 hg (fun r e=>by have:=(hr r e).1;omega),Nat.le_trans h5 hg.size⟩
theorem VX.own {w W:World} {B:Nat} {c:Code} (hB:B=w.heap.size) (hs:W.heap.size=B+4):OwnFrom W.heap.size (VX w B c):=fun FM X Y row ⟨h1,h2,h3,h4⟩ hg hr =>
 ⟨h1,h2,AF hg h3 (fun e=>by have:=(hr _ e.symm).1;omega),Bu h4 hg (fun r e=>by have:=(hr r e).1;omega)⟩
theorem VA.own {W:World} {S B:Nat} {tm:Nat→Value→Value→Act} {x:Rr} {a:Act}:OwnFrom W.heap.size (fun(_:Unit) V=>VA S B tm x a V):=fun _ X Y row ⟨Bs,h1,h2,h3⟩ hg hr =>
 ⟨Bs,h1,AF hg h2 (fun e=>by obtain⟨_,o,ho,hc⟩:=hr _ e.symm;rw[h2] at ho;cases ho;cases hc),h3⟩
theorem Rt (l:List Rr) (s:Value) (w:World) (hR:RdL w s l) :
   Calls Tryz.prog 97 #[.agg #[s]] w fun e w'=>e=.returned (.bool (I1 (l.map (·.1))))∧w.grownBy w' none:=by
 obtain⟨ao,cap,rfl,p1,p2⟩:=hR.shape
 have HR:=AK hR
 obtain⟨vl,hvl⟩:∃v,v=I1 (l.map (·.1)):=⟨_,rfl⟩
 rw[←hvl]
 have HV:=AK hvl
 obtain⟨B,hB⟩:∃B,B=w.heap.size:=⟨_,rfl⟩
 have HBq:=AK hB
 obtain⟨m,hm⟩:∃m,m=l.length:=⟨_,rfl⟩
 have hm0:m≤1099511627776:=by rw[hm];exact hR.2.2
 rw[←hm] at HR p1 ⊢
 have HM:=AK hm
 clear hR hvl hB hm
 refine(callsIn_wide (n:=4)).1 (callsIn_of_wp_marks Tryz.func97 rfl trivial ?_ rfl)
 simp only[Tryz.ntmps97,List.size_toArray,List.length_cons,List.length_nil,Nat.reduceAdd,Nat.reduceSub,Array.replicate_succ,Array.replicate_zero,List.push_toArray,List.append_toArray,List.nil_append,List.cons_append]
 refine wpIn_wide.2 ?_
 by_cases h1:32768<m
 · have t1:decide ((32768:Int)<(m:Int))=true:=by simp;omega
   have HZ:=AK (show vl=false by rw[HV.out];unfold I1;rw[List.length_map,←HM.out];simp;omega)
   go_wp2
   refine Gz (f:=130) (args:=#[]) (by simp[go_sem]) ?_
   refine(Kq _ _).mono ?_
   rintro e u' w' ⟨rfl,rfl,rfl⟩
   refine⟨⟨_,rfl⟩,rfl,Ft (Mh (p:=2) (b0:=w.heap.size+1) rfl rfl (ACf false) (Ak (by simp))) ⟨by rw[HZ.out],AA (World.grownBy_alloc _ _ _) (World.grownBy_alloc _ _ _)⟩⟩
 · have t1:decide ((32768:Int)<(m:Int))=false:=by simp;omega
   go_wp2_with fail
   refine(WI ao m cap _).mono ?_
   rintro e w1 ⟨rfl,rfl⟩
   go_wp2
   rw[←HBq.out]
   obtain⟨W,hW⟩:∃W,W=(((w.alloc (.cells #[.slice ao m cap] 56)).alloc (.cells #[.bool false] 4)).alloc (.cells #[.int .i64 0] 2)).alloc (.cells #[.slice ao m cap] 56):=⟨_,rfl⟩
   have hWg:w.grownBy W none:=by rw[hW];exact AA (AA (AA (World.grownBy_alloc _ _ _) (World.grownBy_alloc _ _ _)) (World.grownBy_alloc _ _ _)) (World.grownBy_alloc _ _ _)
   have hWs:W.heap.size=B+4:=by rw[hW,HBq.out];simp
   have b1:W.heap[B+1]?=some (.cells #[.bool false] 4 (0,0)):=by rw[hW,HBq.out,BZ (by simp),BZ (by simp),Ak (by simp)]
   have b2:W.heap[B+2]?=some (.cells #[.int .i64 0] 2 (0,0)):=by rw[hW,HBq.out,BZ (by simp),Ak (by simp)]
   have b3:W.heap[B+3]?=some (.cells #[.slice ao m cap] 56 (0,0)):=by rw[hW,HBq.out,Ak (by simp)]
   rw[←hW]
   clear hW
   have c3:W.cell? ⟨B+1+1+1,0,none⟩=some (.slice ao m cap):=by rw[AOS _ _ _ _ _ _ b3];rfl
   have hRW:=HR.out.kn hWg
   have hBW:=HR.out.2.1
   rw[←HBq.out] at hBW
   refine(wpIn_wide (n:=4)).1 ?_
   refine wpIn_rangeFunc_ownH (F:=Fence.wide) rfl (by decide) (gf:=143) (lb:=#[.pointer (some ⟨B+1+1+1,0,none⟩)]) rfl trivial (enters_of Tryz.func143 (by kernel_rfl) rfl)
     (QM 3 B (B+1+1+1) l (.slice ao m cap) W c3 hRW.1 hRW.2.2 hBW (by omega)) (fun h k=>h.trans k)
     (fun V q o o' hq hl _ _=>(Below.refl B V).grown (grownBy_putObj' V q o') (by have:=(Array.getElem?_eq_some_iff.1 hl).1;omega) (fun k e=>by cases e;omega)) (Below.refl _ _) (fun _=>rfl)
     (VI w W.heap.size B) (VX w B) (VI.own HBq.out hWs) (fun c=>VX.own HBq.out hWs) ⟨0,rfl,b2,b1,hWg,Nat.le_refl _⟩
     (VA W.heap.size B (fun Bs u v=>{ tmps:=#[.agg #[.slice ao m cap],.pointer (some ⟨B,0,none⟩),.pointer (some ⟨B+1,0,none⟩),.pointer (some ⟨B+1+1,0,none⟩),.pointer (some ⟨Bs,0,none⟩),.pointer (some ⟨B,0,none⟩),.slice ao m cap,.int .i64 m,.bool false,.agg #[.slice ao m cap],.func (.func 143) #[] #[.pointer (some ⟨B+1+1+1,0,none⟩)],u,v,undef,undef,undef,undef,undef,undef,undef,undef,undef,undef,undef],defers:=[] }))
     (fun x a'=>VA.own) ?assign ?body ?done ?stop
   case assign =>
     intro lp FM x V K hi hK
     have HK:=AK hK
     have HI:=AK hi
     have hVs:B≤V.heap.size:=by
       obtain⟨c,_,_,_,h4,_⟩:=hi
       rw[HBq.out]
       exact h4.size
     have hWV:W.heap.size≤V.heap.size:=by
       obtain⟨c,_,_,_,_,h5⟩:=hi
       exact h5
     have HWV:=AK hWV
     have HVs:=AK hVs
     clear hK hi b1 b2 b3 c3 hRW hBW hWs hWg hVs hWV
     rw[Zq]
     simp only[List.setIfInBounds_toArray,List.set_cons_succ,List.set_cons_zero]
     refine F8 (ro:=some lp) (fun⟨_,_,h⟩=>h) (by kernel_rfl) ?_
     go_wp2_with (first
       | (refine AY rfl 137 (.tmp 4) (.tmp 11) rfl rfl rfl (Qn (Hn x.1).1 (Hn x.1).2) (Ak rfl) rfl ?_;intro V2 g2 h2;have G2:=AK (AE (World.grownBy_alloc V _ none) g2 (Nat.le_refl _));have H2:=AK h2;clear g2 h2)
       | fail)
     exact HK.out _ _ (Lx G2.out) (KX G2.out HVs.out (fun k e=>by cases e)) (HI.out.kn G2.out) ⟨V.heap.size,HWV.out,H2.out,rfl⟩
   case body =>
     intro lp FM x a' V hle hrec hi hax hlen
     obtain⟨c,hc1,hc2,hc3,hc4,hc5⟩:=hi
     obtain⟨Bs,hBs,hb,rfl⟩:=hax
     have HC1:=AK hc1
     have HC2:=AK hc2
     have HC3:=AK hc3
     have HC4:=AK hc4
     have HC5:=AK hc5
     have HBs:=AK hBs
     have HB:=AK hb
     have HWS:=AK hWs
     have RS:=AK (show Nh 0 ((FM++[x]).map (·.1))=Bk c x.1 by rw[List.map_append,List.map_cons,List.map_nil,Rs,hc1];rfl)
     have c4:V.cell? ⟨Bs,0,none⟩=some (.int .i64 (Hn x.1).1):=by rw[AOS _ _ _ _ _ _ hb];rfl
     have c5:V.cell? ⟨Bs,1,none⟩=some (.int .i64 (Hn x.1).2):=by rw[AOS _ _ _ _ _ _ hb];rfl
     have c6:V.cell? ⟨B+1+1,0,none⟩=some (.int .i64 c):=by rw[AOS _ _ _ _ _ _ hc2];rfl
     have y4:=AOR c4
     have y6:=AOR c6
     clear hc1 hc2 hc3 hc4 hc5 hBs hb hlen hle hrec b1 b2 b3 c3 hRW hBW hWs hWg
     generalize hsp:Hn x.1=sp at *
     obtain⟨sa,sb⟩:=sp
     have HSP:=AK hsp
     clear hsp
     refine wpIn_block ?_
     change (Code.seq _ _).wpIn (Wd (some lp)) _ _ _ _ _
     refine EI fun K1 k1=>?_
     have HK1:=AK k1
     clear k1
     refine EI fun K2 k2=>?_
     have HK2:=AK k2
     clear k2
     refine F8 (ro:=some lp) (fun⟨_,_,h⟩=>h) (by kernel_rfl) ?_
     obtain⟨UU,hUU⟩:∃UU:Value,UU=Og (sa,sb):=⟨_,rfl⟩
     have HTrue:Bk c x.1=none→∀u13 u14 u15 u16 u17 u18 u19 u20,K2 { tmps:=#[.agg #[.slice ao m cap],.pointer (some ⟨B,0,none⟩),.pointer (some ⟨B+1,0,none⟩),.pointer (some ⟨B+1+1,0,none⟩),.pointer (some ⟨Bs,0,none⟩),.pointer (some ⟨B,0,none⟩),.slice ao m cap,.int .i64 m,.bool false,.agg #[.slice ao m cap],.func (.func 143) #[] #[.pointer (some ⟨B+1+1+1,0,none⟩)],UU,Hr x.1,u13,u14,u15,u16,u17,u18,u19,u20,.bool true,undef,undef],defers:=[] } V:=by
       intro hst u13 u14 u15 u16 u17 u18 u19 u20
       refine HK2.out _ _ (wpIn_cond_true rfl (EI fun K3 k3=>?_))
       have HK3:=AK k3
       clear k3
       refine F8 (ro:=some lp) (fun⟨_,_,h⟩=>h) (by kernel_rfl) ?_
       go_wp2_with (first
         | (refine AY rfl 4 (.tmp 2) (.const (.bool false)) rfl rfl rfl (ACf false) HC3.out rfl ?_;intro V2 g2 h2;have G2:=AK g2;have H2:=AK h2;clear g2 h2)
         | fail)
       refine HK3.out _ _ (wpIn_ret ?_)
       exact⟨LQ G2.out HC3.out,rfl,RS.out.trans hst,H2.out,AE HC4.out G2.out (by rw[HBq.out];omega)⟩
     have HFalse:Bk c x.1=some sb→∀u13 u14 u15 u16 u17 u18 u19 u20,K2 { tmps:=#[.agg #[.slice ao m cap],.pointer (some ⟨B,0,none⟩),.pointer (some ⟨B+1,0,none⟩),.pointer (some ⟨B+1+1,0,none⟩),.pointer (some ⟨Bs,0,none⟩),.pointer (some ⟨B,0,none⟩),.slice ao m cap,.int .i64 m,.bool false,.agg #[.slice ao m cap],.func (.func 143) #[] #[.pointer (some ⟨B+1+1+1,0,none⟩)],UU,Hr x.1,u13,u14,u15,u16,u17,u18,u19,u20,.bool false,undef,undef],defers:=[] } V:=by
       intro hst u13 u14 u15 u16 u17 u18 u19 u20
       refine HK2.out _ _ (wpIn_cond_false rfl (wpIn_skip (HK1.out _ _ ?_)))
       refine F8 (ro:=some lp) (fun⟨_,_,h⟩=>h) (by kernel_rfl) ?_
       go_wp2_with (first
         | (refine AY rfl 2 (.tmp 3) (.tmp 23) rfl rfl rfl (tyI sb) HC2.out rfl ?_;intro V2 g2 h2;have G2:=AK g2;have H2:=AK h2;clear g2 h2)
         | fail)
       exact⟨LQ G2.out HC2.out,KX G2.out (by omega) (fun k e=>by cases e;omega),sb,RS.out.trans hst,H2.out,AF G2.out HC3.out (by simp),AE HC4.out G2.out (by rw[HBq.out];omega),Nat.le_trans HC5.out G2.out.size⟩
     rw[←hUU]
     clear hUU
     have hst0:=HSP.out
     go_wp2
     all_goals first
       | (refine HTrue ?_ _ _ _ _ _ _ _ _;simp_all [Bk];done)
       | (by_cases hc:(0:Int)<c
          · simp only[hc,decide_true,decide_false]
            refine HTrue ?_ _ _ _ _ _ _ _ _
            unfold Bk;rw[HSP.out];simp_all;done
          · simp only[hc,decide_true,decide_false]
            refine HFalse ?_ _ _ _ _ _ _ _ _
            unfold Bk;rw[HSP.out];simp_all;done)
       | (by_cases hc:sa<c
          · simp only[hc,decide_true,decide_false]
            refine HTrue ?_ _ _ _ _ _ _ _ _
            unfold Bk;rw[HSP.out];simp_all
          · simp only[hc,decide_true,decide_false]
            refine HFalse ?_ _ _ _ _ _ _ _ _
            unfold Bk;rw[HSP.out];simp_all)
       | skip
   case done =>
     intro D xs V hD hS hI hK
     subst hS
     obtain⟨c,hc1,hc2,hc3,hc4,hc5⟩:=hI
     have HC1:=AK hc1
     have HC3:=AK hc3
     have HC4:=AK hc4
     have HC5:=AK hc5
     have HKK:=AK hK
     have HD:=AK hD
     have HWS:=AK hWs
     have HZ:=AK (show vl=true by rw[HV.out];unfold I1;rw[hc1,List.length_map,←HM.out];simp;omega)
     clear hc1 hc2 hc3 hc4 hc5 hK hD b1 b2 b3 c3 hRW hBW hWs hWg
     go_wp2_with (first
       | (refine AY rfl 4 (.tmp 2) (.const (.bool true)) rfl rfl rfl (ACf true) HC3.out rfl ?_;intro V2 g2 h2;have G2:=AK g2;have H2:=AK h2;clear g2 h2)
       | fail)
     have HKK2:=AF G2.out HKK.out (by have:=HWS.out;have:=HD.out;simp;omega)
     refine JS HKK2 ?_
     have GP:=grownBy_putObj' V2 D (.deferred none)
     have HB1:=AF GP H2.out (by have:=HWS.out;have:=HD.out;simp;omega)
     refine Gz (f:=130) (args:=#[]) (by simp[go_sem]) ?_
     refine(Kq _ _).mono ?_
     rintro e u' w' ⟨rfl,rfl,rfl⟩
     refine⟨⟨_,rfl⟩,rfl,Ft (Mh (p:=2) (b0:=B+1) rfl rfl (ACf true) HB1) ⟨by rw[HZ.out],AE (AE HC4.out G2.out (by rw[HBq.out];omega)) GP (by have:=HWS.out;have:=HD.out;have:=HBq.out;omega)⟩⟩
   case stop =>
     intro D c FM V hD hS hI hK
     obtain⟨rfl,h1,h2,h3⟩:=hI
     have HZ:=AK (show vl=false by
       obtain⟨t,ht⟩:=hS
       rw[HV.out];unfold I1;rw[←ht,List.map_append,Zp h1];simp)
     refine wpIn_ret ?_
     simp only[Exit.inBlock,Exit.then]
     refine JS hK ?_
     have GP:=grownBy_putObj' V D (.deferred none)
     have HB1:=AF GP h2 (by simp;omega)
     refine Gz (f:=130) (args:=#[]) (by simp[go_sem]) ?_
     refine(Kq _ _).mono ?_
     rintro e u' w' ⟨rfl,rfl,rfl⟩
     refine⟨⟨_,rfl⟩,rfl,Ft (Mh (p:=2) (b0:=B+1) rfl rfl (ACf false) HB1) ⟨by rw[HZ.out],AE h3 GP (by have:=HBq.out;omega)⟩⟩
end
section
open Go.RowKit Go.Shelf
attribute [local go_sem] Oper.semAt_some
theorem JU {n:Nd}:Pg n=true↔0≤n.d∧n.d≤34∧0≤n.p∧n.p<2^n.d.toNat:=by
 unfold Pg
 simp only[Bool.and_eq_true,decide_eq_true_eq,and_assoc]
theorem Jg {n:Nd} (r:Bool) (h:Pg n=true) (hd:n.d≤33):Pg (CH n r)=true:=by
 rw[JU] at h ⊢
 obtain⟨h1,h2,h3,h4⟩:=h
 have e:(n.d+1).toNat=n.d.toNat+1:=by omega
 refine⟨by simp[CH];omega,by simp[CH];omega,by simp only[CH];split<;>omega,?_⟩
 simp only[CH]
 rw[e,Int.pow_succ]
 split<;>omega
theorem AGt {n:Nd} (h:Pg n=true):n.p≤17179869184:=by
 rw[JU] at h
 obtain⟨h1,h2,h3,h4⟩:=h
 have h5:2^n.d.toNat≤2^34:=Nat.pow_le_pow_right (n:=2) (by decide) (by omega)
 have h6:((2^n.d.toNat:Nat):Int)=(2:Int)^n.d.toNat:=by rw[Int.natCast_pow];rfl
 have e:(2:Nat)^34=17179869184:=by decide
 omega
def Mb (a:Int):Nat→Nd→Nd
 | 0,n=>n
 | k+1,n=>Mb a k (CH n (UJ n a))
def Ni (a:Int) (n:Nd):Bool:=decide ((Hn n).1≤a)&&decide (a<(Hn n).2)
def AR:List Nat:=zs 32
def Ca (l:List Nd) (a:Int):List Nat×Int:=
 if Ci a&&I1 l then (match l.find? (Ni a) with|some n=>((Mb a (34-n.d).toNat n).k,0)|none=>(AR,10)) else (AR,1)
theorem AJD {a:Int} {n:Nd} (h:Ni a n=true):Pg n=true:=by
 unfold Ni Hn at h
 by_cases ho:Pg n=true
 · exact ho
 · rw[if_neg ho] at h
   simp at h
   omega
theorem Oh (a:Int) (k:Nat) (n:Nd) (h:Dg n.k):Dg (Mb a k n).k:=by
 induction k generalizing n with
 | zero=>exact h
 | succ k ih=>exact ih _ (WH _ _)
theorem ZQ (w:World):(Instr.build 23 #[]).run Tryz.prog w=.ok (AQ AR) w:=by kernel_rfl
theorem Gc (x:Int):TY Tryz.prog 38 [.int .i64 x] (.int .i64 x):=TY.one' Tryz.underlying38 rfl (by kernel_rfl) rfl
theorem Oi {P:Program} {fn:Func} {p q:Tmp} {T S:TypeId} (h:fn.results=#[.cell p T,.cell q S]) {tmps:Array Value} {w:World} {b0 b1:Nat} {c0 c1:List Value} {v0 v1:Value} {fr0 fr1:Nat×Nat} {u0 u1:TypeId}
  (hp:tmps.getD p undef=ptr b0) (hq:tmps.getD q undef=ptr b1) (t0:TY P T c0 v0) (t1:TY P S c1 v1)
  (h0:w.heap[b0]?=some (.cells c0.toArray u0 fr0)) (h1:w.heap[b1]?=some (.cells c1.toArray u1 fr1)) :
  (results fn tmps).run P w=.ok (.tuple #[v0,v1]) w:=by
 have e0:=t0.load w b0 0 (Av h0)
 have e1:=t1.load w b1 0 (Av h1)
 have hp':tmps[p]?.getD undef=.pointer (some ⟨b0,0,none⟩):=by simpa [ptr] using hp
 have hq':tmps[q]?.getD undef=.pointer (some ⟨b1,0,none⟩):=by simpa [ptr] using hq
 simp[results,h,hp',hq',asAddr,e0,e1]
def LI (w:World) (a:Int) (S:Nat) (FM:List Rr) (V:World):Prop:=(FM.map (·.1)).find? (Ni a)=none∧V.heap[w.heap.size+1]?=some (.cells #[.int .i64 a] 2 (0,0))∧V.heap[w.heap.size+2]?=some (.cells (bv AR).toArray 23 (0,0))
∧V.heap[w.heap.size+3]?=some (.cells #[.int .i64 0] 38 (0,0))∧w.grownBy V none∧S≤V.heap.size
def LX (w:World) (a:Int) (c:Code) (FM:List Rr) (V:World):Prop:=c=.ret∧∃n,(FM.map (·.1)).find? (Ni a)=some n∧Dg n.k∧V.heap[w.heap.size+2]?=some (.cells (bv (Mb a (34-n.d).toNat n).k).toArray 23 (0,0))
∧V.heap[w.heap.size+3]?=some (.cells #[.int .i64 0] 38 (0,0))∧w.grownBy V none
def LA (S:Nat) (tm:Nat→Nat→Value→Value→Act) (x:Rr) (a:Act) (V:World):Prop:=∃Bs Ns,S≤Bs∧S≤Ns∧V.heap[Bs]?=some (.cells #[.int .i64 (Hn x.1).1,.int .i64 (Hn x.1).2] 137 (0,0))∧V.heap[Ns]?=some (.cells (DA x.1).toArray 132 (0,0))∧a=tm Bs Ns (Og (Hn x.1)) (Hr x.1)
theorem LI.kn {w V V':World} {a:Int} {S:Nat} {FM:List Rr} (h:LI w a S FM V) (g:V.grownBy V' none):LI w a S FM V':=by
 obtain⟨h0,h1,h2,h3,h4,h5⟩:=h
 exact⟨h0,AF g h1 (by simp),AF g h2 (by simp),AF g h3 (by simp),AA h4 g,Nat.le_trans h5 g.size⟩
theorem LI.own {w:World} {a:Int} {S:Nat} (hs:w.heap.size+4≤S):OwnFrom S (LI w a S):=fun FM X Y row ⟨h0,h1,h2,h3,h4,h5⟩ hg hr =>
 ⟨h0,AF hg h1 (fun e=>by have:=(hr _ e.symm).1;omega),AF hg h2 (fun e=>by have:=(hr _ e.symm).1;omega),AF hg h3 (fun e=>by have:=(hr _ e.symm).1;omega),Bu h4 hg (fun r e=>by have:=(hr r e).1;omega),Nat.le_trans h5 hg.size⟩
theorem LX.own {w:World} {a:Int} {c:Code} {S:Nat} (hs:w.heap.size+4≤S):OwnFrom S (LX w a c):=fun FM X Y row ⟨h0,n,h1,h2,h3,h4,h5⟩ hg hr =>
 ⟨h0,n,h1,h2,AF hg h3 (fun e=>by have:=(hr _ e.symm).1;omega),AF hg h4 (fun e=>by have:=(hr _ e.symm).1;omega),Bu h5 hg (fun r e=>by have:=(hr r e).1;omega)⟩
theorem LA.own {S0 S:Nat} {tm:Nat→Nat→Value→Value→Act} {x:Rr} {a:Act}:OwnFrom S0 (fun(_:Unit) V=>LA S tm x a V):=fun _ X Y row ⟨Bs,Ns,h1,h2,h3,h4,h5⟩ hg hr =>
 ⟨Bs,Ns,h1,h2,AF hg h3 (fun e=>by obtain⟨_,o,ho,hc⟩:=hr _ e.symm;rw[h3] at ho;cases ho;cases hc),AF hg h4 (fun e=>by obtain⟨_,o,ho,hc⟩:=hr _ e.symm;rw[h4] at ho;cases ho;cases hc),h5⟩
theorem AFF (l:List Rr) (s:Value) (a:Int) (w:World) (hR:RdL w s l) :
   Calls Tryz.prog 78 #[.agg #[s],.int .i64 a] w fun e w'=>e=.returned (.tuple #[AQ (Ca (l.map (·.1)) a).1,.int .i64 (Ca (l.map (·.1)) a).2])∧w.grownBy w' none:=by
 obtain⟨ao,cap,rfl,p1,p2⟩:=hR.shape
 have HR:=AK hR
 obtain⟨gl,hgl⟩:∃v,v=Ca (l.map (·.1)) a:=⟨_,rfl⟩
 rw[←hgl]
 have HV:=AK hgl
 obtain⟨m,hm⟩:∃m,m=l.length:=⟨_,rfl⟩
 have hm0:m≤1099511627776:=by rw[hm];exact hR.2.2
 rw[←hm] at HR p1 ⊢
 have HM:=AK hm
 obtain⟨w0,hw0⟩:∃x,x=(((w.alloc (.cells #[.slice ao m cap] 56)).alloc (.cells #[.int .i64 a] 2)).alloc (.cells (bv AR).toArray 23)).alloc (.cells #[.int .i64 0] 38):=⟨_,rfl⟩
 have HG0:=AK (show w.grownBy w0 none by rw[hw0];exact AA (AA (AA (World.grownBy_alloc _ _ _) (World.grownBy_alloc _ _ _)) (World.grownBy_alloc _ _ _)) (World.grownBy_alloc _ _ _))
 have Z0:=AK (show w0.heap[w.heap.size]?=some (.cells #[.slice ao m cap] 56 (0,0)) by rw[hw0,BZ (by simp<;>omega),BZ (by simp<;>omega),BZ (by simp<;>omega),Ak (by simp<;>omega)])
 have Z1:=AK (show w0.heap[w.heap.size+1]?=some (.cells #[.int .i64 a] 2 (0,0)) by rw[hw0,BZ (by simp<;>omega),BZ (by simp<;>omega),Ak (by simp<;>omega)])
 have Z2:=AK (show w0.heap[w.heap.size+2]?=some (.cells (bv AR).toArray 23 (0,0)) by rw[hw0,BZ (by simp),Ak (by simp)])
 have Z3:=AK (show w0.heap[w.heap.size+3]?=some (.cells #[.int .i64 0] 38 (0,0)) by rw[hw0,Ak (by simp)])
 have HS0:=AK (show w0.heap.size=w.heap.size+4 by rw[hw0];simp)
 have HW0:=AK hw0
 clear hR hgl hm hw0
 refine(callsIn_wide (n:=4)).1 (callsIn_of_wp_marks Tryz.func78 rfl trivial ?_ rfl)
 simp only[Tryz.ntmps78,List.size_toArray,List.length_cons,List.length_nil,Nat.reduceAdd,Nat.reduceSub,Array.replicate_succ,Array.replicate_zero,List.push_toArray,List.append_toArray,List.nil_append,List.cons_append]
 refine wpIn_wide.2 ?_
 go_wp2_with fail
 refine(Ml a _).mono ?_
 rintro e w1 ⟨rfl,hw1⟩
 have hw2:w1=w0:=hw1.trans HW0.out.symm
 clear hw1 HW0
 subst hw2
 have c0:w1.cell? ⟨w.heap.size,0,none⟩=some (.slice ao m cap):=by rw[AOS _ _ _ _ _ _ Z0.out];rfl
 have y0:=AOR c0
 by_cases ha:Ci a=true
 · have HA:=AK ha
   simp only[ha]
   clear ha
   go_wp2_with fail
   refine(Rt l (.slice ao m cap) _ (HR.out.kn HG0.out)).mono ?_
   rintro e w2 ⟨rfl,g2⟩
   have G2:=AK g2
   clear g2
   by_cases hv:I1 (l.map (·.1))=true
   · have HVL:=AK hv
     simp only[hv]
     clear hv c0 y0
     have c0:w2.cell? ⟨w.heap.size,0,none⟩=some (.slice ao m cap):=by rw[AOS _ _ _ _ _ _ (AF G2.out Z0.out (by simp))];rfl
     have y0:=AOR c0
     go_wp2_with fail
     refine(WI ao m cap _).mono ?_
     rintro e w3 ⟨rfl,rfl⟩
     go_wp2
     obtain⟨T,hT⟩:∃T,T=w2.heap.size:=⟨_,rfl⟩
     rw[←hT]
     obtain⟨W,hW⟩:∃W,W=w2.alloc (.cells #[.slice ao m cap] 56):=⟨_,rfl⟩
     have hg2:w.grownBy w2 none:=AA HG0.out G2.out
     have hWg:w.grownBy W none:=by rw[hW];exact AA hg2 (World.grownBy_alloc _ _ _)
     have hWs:W.heap.size=T+1:=by rw[hW,hT];simp
     have hT4:w.heap.size+4≤T:=by rw[hT,←HS0.out];exact G2.out.size
     have hl2:w2.grownBy W none:=by rw[hW];exact World.grownBy_alloc _ _ _
     have b1:=AF hl2 (AF G2.out Z1.out (by simp)) (by simp)
     have b2:=AF hl2 (AF G2.out Z2.out (by simp)) (by simp)
     have b3:=AF hl2 (AF G2.out Z3.out (by simp)) (by simp)
     have bT:W.heap[T]?=some (.cells #[.slice ao m cap] 56 (0,0)):=by rw[hW,hT];exact World.alloc_heap_new _ _
     rw[←hW]
     clear hW hT hg2 hl2 c0 y0
     have c3:W.cell? ⟨T,0,none⟩=some (.slice ao m cap):=by rw[AOS _ _ _ _ _ _ bT];rfl
     have hRW:=HR.out.kn hWg
     have hBW:=HR.out.2.1
     have HWS:=AK hWs
     have HT4:=AK hT4
     refine(wpIn_wide (n:=4)).1 ?_
     refine wpIn_rangeFunc_ownH (F:=Fence.wide) rfl (by decide) (gf:=143) (lb:=#[.pointer (some ⟨T,0,none⟩)]) rfl trivial (enters_of Tryz.func143 (by kernel_rfl) rfl)
      (QM 3 w.heap.size T l (.slice ao m cap) W c3 hRW.1 hRW.2.2 hBW (by omega)) (fun h k=>h.trans k)
      (fun V q o o' hq hl _ _=>(Below.refl w.heap.size V).grown (grownBy_putObj' V q o') (by have:=(Array.getElem?_eq_some_iff.1 hl).1;omega) (fun k e=>by cases e;omega)) (Below.refl _ _) (fun _=>rfl)
      (LI w a W.heap.size) (LX w a) (LI.own (by omega)) (fun c=>LX.own (by omega)) ⟨rfl,b1,b2,b3,hWg,Nat.le_refl _⟩
      (LA W.heap.size (fun Bs Ns u v=>{ tmps:=#[.agg #[.slice ao m cap],.int .i64 a,.pointer (some ⟨w.heap.size,0,none⟩),.pointer (some ⟨w.heap.size+1,0,none⟩),.pointer (some ⟨w.heap.size+1+1,0,none⟩),.pointer (some ⟨w.heap.size+1+1+1,0,none⟩),.pointer (some ⟨Bs,0,none⟩),.pointer (some ⟨Ns,0,none⟩),.func (.func 119) #[] #[.pointer (some ⟨w.heap.size+1+1,0,none⟩),.pointer (some ⟨w.heap.size+1+1+1,0,none⟩)],.int .i64 a,.bool true,.bool false,.bool false,.agg #[.slice ao m cap],.bool true,.bool false,.bool false,undef,.agg #[.slice ao m cap],.func (.func 143) #[] #[.pointer (some ⟨T,0,none⟩)],u,v,undef,undef,undef,undef,undef,undef,undef,undef,undef,undef,undef,undef,undef,undef,undef],defers:=[] }))
      (fun x a'=>LA.own) ?assign ?body ?done ?stop
     case assign =>
      intro lp FM x V K hi hK
      have HK:=AK hK
      have HI:=AK hi
      have hWV:W.heap.size≤V.heap.size:=hi.2.2.2.2.2
      have HVs:=AK (show w.heap.size≤V.heap.size by omega)
      have HWV:=AK hWV
      have hxk:=x.2.1.1
      have HXK:=AK hxk
      clear hxk
      clear hK hi b1 b2 b3 bT c3 hRW hBW hWs hWg hWV
      rw[Zq]
      simp only[List.setIfInBounds_toArray,List.set_cons_succ,List.set_cons_zero]
      refine EI fun K1 k1=>?_
      have HK1:=AK k1
      clear k1
      refine F8 (ro:=some lp) (fun⟨_,_,h⟩=>h) (by kernel_rfl) ?_
      go_wp2_with (first
        | (refine AY rfl 137 (.tmp 6) (.tmp 20) rfl rfl rfl (Qn (Hn x.1).1 (Hn x.1).2) (Ak rfl) rfl ?_;intro V2 g2 h2;have G2:=AK (AE (World.grownBy_alloc V _ none) g2 (Nat.le_refl _));have H2:=AK h2;clear g2 h2)
        | fail)
      refine HK1.out _ _ ?_
      refine F8 (ro:=some lp) (fun⟨_,_,h⟩=>h) (by kernel_rfl) ?_
      go_wp2_with (first
        | (refine AY rfl 132 (.tmp 7) (.tmp 21) rfl rfl rfl (ZP x.1 HXK.out) (Ak rfl) (by rw[CV _ HXK.out];rfl) ?_;intro V3 g3 h3;have G3:=AK (AE (World.grownBy_alloc V2 _ none) g3 (Nat.le_refl _));have H3:=AK h3;clear g3 h3)
        | fail)
      have G4:=AA G2.out G3.out
      exact HK.out _ _ (Lx G4) (KX G4 HVs.out (fun k e=>by cases e)) (HI.out.kn G4) ⟨V.heap.size,V2.heap.size,HWV.out,Nat.le_trans HWV.out G2.out.size,AF G3.out H2.out (by simp),H3.out,rfl⟩
     case body =>
      intro lp FM x a' V hle hrec hi hax hlen
      obtain⟨hi0,hi1,hi2,hi3,hi4,hi5⟩:=hi
      obtain⟨Bs,Ns,hBs,hNs,hb,hn,rfl⟩:=hax
      have HI:=AK (show LI w a W.heap.size FM V from⟨hi0,hi1,hi2,hi3,hi4,hi5⟩)
      have HXK:=AK x.2.1
      have HB:=AK hb
      have HN:=AK hn
      have HBs:=AK hBs
      have HNs:=AK hNs
      have HI1:=AK hi1
      have HI2:=AK hi2
      have HI3:=AK hi3
      have HI4:=AK hi4
      have HI5:=AK hi5
      have RS:=AK (show((FM++[x]).map (·.1)).find? (Ni a)=if Ni a x.1 then some x.1 else none by rw[List.map_append,List.find?_append,hi0,List.map_cons,List.map_nil,List.find?_singleton];rfl)
      obtain⟨sa,sb,hsp⟩:∃sa sb,Hn x.1=(sa,sb):=⟨_,_,rfl⟩
      have HQ:=AK (show Ni a x.1=(decide (sa≤a)&&decide (a<sb)) by unfold Ni;rw[hsp])
      rw[hsp] at hb ⊢
      simp only at hb
      have c4:V.cell? ⟨Bs,0,none⟩=some (.int .i64 sa):=by rw[AOS _ _ _ _ _ _ hb];rfl
      have c5:V.cell? ⟨Bs,1,none⟩=some (.int .i64 sb):=by rw[AOS _ _ _ _ _ _ hb];rfl
      have c6:V.cell? ⟨w.heap.size+1,0,none⟩=some (.int .i64 a):=by rw[AOS _ _ _ _ _ _ hi1];rfl
      have y4:=AOR c4
      have y6:=AOR c6
      clear hi0 hi1 hi2 hi3 hi4 hi5 hb hn hBs hNs hlen hle hrec b1 b2 b3 bT c3 hRW hBW hWs hWg hsp
      obtain⟨UU,hUU⟩:∃UU:Value,UU=Og (sa,sb):=⟨_,rfl⟩
      obtain⟨VV,hVV⟩:∃VV:Value,VV=Hr x.1:=⟨_,rfl⟩
      rw[←hUU,←hVV]
      clear hUU hVV
      refine wpIn_block ?_
      change (Code.seq _ _).wpIn (Wd (some lp)) _ _ _ _ _
      refine EI fun K1 k1=>?_
      have HK1:=AK k1
      clear k1
      refine EI fun K2 k2=>?_
      have HK2:=AK k2
      clear k2
      refine F8 (ro:=some lp) (fun⟨_,_,h⟩=>h) (by kernel_rfl) ?_
      go_wp2_with fail
      refine(UV sa sb a _).mono ?_
      rintro e w4 ⟨rfl,g4⟩
      have G4:=AK g4
      clear g4
      by_cases hq:(decide (sa≤a)&&decide (a<sb))=true
      · simp only[hq]
        have HOK:=AK (AJD (HQ.out.trans hq))
        have RS2:=AK (show((FM++[x]).map (·.1)).find? (Ni a)=some x.1 by rw[RS.out,HQ.out,hq];rfl)
        clear hq
        go_wp2
        refine HK2.out _ _ (wpIn_cond_false rfl (wpIn_skip ?_))
        refine HK1.out _ _ ?_
        clear HK1 HK2 c4 c5 c6 y4 y6
        refine EI fun K3 k3=>?_
        have HK3:=AK k3
        clear k3
        refine wpIn_block ?_
        obtain⟨DN,hDN⟩:∃D,D=Mb a (34-x.1.d).toNat x.1:=⟨_,rfl⟩
        have HDN:=AK hDN
        have HDK:=AK (show Dg DN.k by rw[hDN];exact Oh a _ _ HXK.out)
        have N4:=AK (AF G4.out HN.out (by simp))
        have A4:=AK (AF G4.out HI1.out (by simp))
        have A5:=AK (AF G4.out HI2.out (by simp))
        have A6:=AK (AF G4.out HI3.out (by simp))
        have NR:=AK (show w.heap.size+4≤Ns by have:=HNs.out;have:=HWS.out;have:=HT4.out;omega)
        have AB:=AK (show 0≤a∧a<17179869184 by have h:=HA.out;unfold Ci at h;simp at h;exact h)
        clear hDN
        refine wpIn_loop (fun a' V'=>∃n:Nd,Pg n=true∧Dg n.k∧Mb a (34-n.d).toNat n=DN∧w4.grownBy V' (some Ns)∧V'.heap[Ns]?=some (.cells (DA n).toArray 132 (0,0))∧∃u26 u27 u28 u29 u30 u31 u32 u33,a'={ tmps:=#[.agg #[.slice ao m cap],.int .i64 a,.pointer (some ⟨w.heap.size,0,none⟩),.pointer (some ⟨w.heap.size+1,0,none⟩),.pointer (some ⟨w.heap.size+1+1,0,none⟩),.pointer (some ⟨w.heap.size+1+1+1,0,none⟩),.pointer (some ⟨Bs,0,none⟩),.pointer (some ⟨Ns,0,none⟩),.func (.func 119) #[] #[.pointer (some ⟨w.heap.size+1+1,0,none⟩),.pointer (some ⟨w.heap.size+1+1+1,0,none⟩)],.int .i64 a,.bool true,.bool false,.bool false,.agg #[.slice ao m cap],.bool true,.bool false,.bool false,undef,.agg #[.slice ao m cap],.func (.func 143) #[] #[.pointer (some ⟨T,0,none⟩)],UU,VV,.agg #[.int .i64 sa,.int .i64 sb],.int .i64 a,.bool true,.bool false,u26,u27,u28,u29,u30,u31,u32,u33,undef,undef,undef],defers:=[] })
          (fun _ V'=>(34-intOf ((V'.cell? ⟨Ns,0,none⟩).getD undef)).toNat) ⟨x.1,HOK.out,HXK.out,HDN.out.symm,World.grownBy.refl _ _,N4.out,_,_,_,_,_,_,_,_,rfl⟩ ?_
        rintro a' V' ⟨n,ho,hk,hd,hg,hr,u26,u27,u28,u29,u30,u31,u32,u33,rfl⟩
        have HO:=AK ho
        have HK:=AK hk
        have HDD:=AK hd
        have HGV:=AK hg
        have HR2:=AK hr
        obtain⟨o1,o2,o3,o4⟩:=JU.1 ho
        have o5:=AGt ho
        obtain⟨c8,c9,y8⟩:=Lv hr
        have MU:=AK (show intOf ((V'.cell? ⟨Ns,0,none⟩).getD undef)=n.d by rw[c8];rfl)
        clear ho hk hd hg hr
        refine EI fun K4 k4=>?_
        have HK4:=AK k4
        clear k4
        refine EI fun K5 k5=>?_
        have HK5:=AK k5
        clear k5
        refine F8 (ro:=some lp) (fun⟨_,_,h⟩=>h) (by kernel_rfl) ?_
        by_cases hlt:n.d<34
        · have t1:decide (n.d<34)=true:=decide_eq_true hlt
          go_wp2
          refine HK5.out _ _ (wpIn_cond_true rfl (wpIn_skip ?_))
          refine HK4.out _ _ ?_
          clear HK4 HK5
          refine wpIn_block ?_
          have HL:=AK (show ∀w',(∃s:Gw V',w'=s.val)→(Instr.loadAt 132 (.pointer (some ⟨Ns,0,none⟩))).run Tryz.prog w'=.ok (Hr n) w' from fun w' ⟨s,e⟩=>by subst e;exact Ad (ZP n HK.out.1) (Av (AF s.g HR2.out (by simp))))
          have hca:V'.cell? ⟨w.heap.size+1,0,none⟩=some (.int .i64 a):=by rw[AOS _ _ _ _ _ _ (AF HGV.out A4.out (by have:=NR.out;simp;omega))];rfl
          have cA:∀s:Gw V',s.val.cell? ⟨w.heap.size+1,0,none⟩=some (.int .i64 a):=fun s=>s.cell hca
          have HC1:=AK (fun W:World=>XC n a ⟨o1,by omega⟩ AB.out W)
          have HC2:=AK (fun W:World=>ACd n (UJ n a) HK.out ⟨o1,o2⟩ ⟨o3,o5⟩ W)
          have KC:=AK (show Dg (CH n (UJ n a)).k from WH _ _)
          have OC:=AK (Jg (UJ n a) HO.out (by omega))
          have DC:=AK (show Mb a (34-(CH n (UJ n a)).d).toNat (CH n (UJ n a))=DN by
            rw[←HDD.out,show(34-n.d).toNat=(34-(CH n (UJ n a)).d).toNat+1 by simp[CH];omega];rfl)
          refine Qo (ro:=some lp) (fun⟨_,_,h⟩=>h) (by kernel_rfl) 5 (by kernel_rfl) (by kernel_rfl) ?_
          simp only[List.take_succ_cons,List.take_zero,List.drop_succ_cons,List.drop_zero]
          refine F7 rfl 132 (.tmp 7) rfl rfl HL.out ?_
          refine F7 rfl 132 (.tmp 7) rfl rfl HL.out ?_
          quiet_step (fail)
          quiet_step ((exact Calls.grown_of (HC1.out _)))
          quiet_step ((exact Calls.grown_of (HC2.out _)))
          refine wpQuiet_nil ?_
          rintro _ ⟨s,rfl⟩
          have B2:=AK (AF s.g HR2.out (by simp))
          have GS:=AK s.g
          generalize s.val=W3 at *
          clear cA HL hca
          go_wp2_with (first
            | (refine AY rfl 132 (.tmp 7) (.tmp 33) rfl rfl rfl (ZP (CH n (UJ n a)) KC.out.1) B2.out (by rw[CV _ KC.out.1,List.size_toArray,CV _ HK.out.1]) ?_;intro W6 g6 h6;have G6:=AK g6;have H6:=AK h6;clear g6 h6)
            | fail)
          have c10:=(Lv H6.out).1
          refine⟨⟨CH n (UJ n a),OC.out,KC.out,DC.out,AA (AA HGV.out (E2 GS.out)) G6.out,H6.out,_,_,_,_,_,_,_,_,rfl⟩,?_⟩
          show(34-intOf ((W6.cell? ⟨Ns,0,none⟩).getD undef)).toNat<(34-intOf ((V'.cell? ⟨Ns,0,none⟩).getD undef)).toNat
          rw[MU.out,c10]
          show(34-(n.d+1)).toNat<(34-n.d).toNat
          omega
        · have t1:decide (n.d<34)=false:=decide_eq_false hlt
          go_wp2
          refine HK5.out _ _ (wpIn_cond_false rfl (wpIn_exit ?_))
          have hde:DN=n:=by rw[←HDD.out,show(34-n.d).toNat=0 by omega];rfl
          refine HK3.out _ _ ?_
          clear HK3 HK4 HK5
          have Q5:=AK (AF HGV.out A5.out (by have:=NR.out;simp;omega))
          have Q6:=AK (AF HGV.out A6.out (by have:=NR.out;simp;omega))
          refine EI fun K6 k6=>?_
          have HK6:=AK k6
          clear k6
          refine F8 (ro:=some lp) (fun⟨_,_,h⟩=>h) (by kernel_rfl) ?_
          go_wp2_with (first
            | (refine EH rfl 23 (.tmp 34) rfl rfl (Bb n.k HK.out.1) (LO HR2.out) ?_)
            | (refine AY rfl 23 (.tmp 4) (.tmp 35) rfl rfl rfl (Bb n.k HK.out.1) Q5.out (by rw[AO,HK.out.1];rfl) ?_;intro w7 g7 h7;have G7:=AK g7;have H7:=AK h7;have Y7:=AK (AF g7 Q6.out (by simp));clear g7 h7)
            | (refine AY rfl 38 (.tmp 5) (.const (.int .i64 0)) rfl rfl rfl (Gc 0) Y7.out rfl ?_;intro w8 g8 h8;have G8:=AK g8;have H8:=AK h8;have X8:=AK (AF g8 H7.out (by simp));clear g8 h8)
            | fail)
          refine HK6.out _ _ (wpIn_ret ?_)
          refine⟨(Lx G4.out).trans ((LQ HGV.out N4.out).trans ((LQ G7.out Q5.out).trans (LQ G8.out Y7.out))),rfl,x.1,RS2.out,HXK.out,?_,H8.out,?_⟩
          · rw[←HDN.out,hde];exact X8.out
          · exact AE (AE (AE (AA HI4.out G4.out) HGV.out (by have:=NR.out;omega)) G7.out (by omega)) G8.out (by omega)
      · have RS2:=AK (show((FM++[x]).map (·.1)).find? (Ni a)=none by rw[RS.out,HQ.out,if_neg hq])
        simp only[Bool.not_eq_true] at hq
        simp only[hq]
        clear hq
        go_wp2
        refine HK2.out _ _ (wpIn_cond_true rfl (wpIn_exit ?_))
        have L4:=HI.out.kn G4.out
        have h5:=HI5.out
        have h6:=HI4.out.size
        exact⟨Lx G4.out,KX G4.out h6 (fun k e=>by cases e),RS2.out,L4.2⟩
     case done =>
      intro D xs V hD hS hI hK
      subst hS
      obtain⟨h0,h1,h2,h3,h4,h5⟩:=hI
      have H2:=AK h2
      have H3:=AK h3
      have H4:=AK h4
      have HKK:=AK hK
      have HD:=AK hD
      have HZ:=AK (show gl=(AR,10) by rw[HV.out];unfold Ca;rw[if_pos (by rw[Bool.and_eq_true];exact⟨HA.out,HVL.out⟩),h0])
      clear h0 h1 h2 h3 h4 h5 hK hD b1 b2 b3 bT c3 hRW hBW hWs hWg
      go_wp2_with (first
        | (refine Bw rfl 23 _ rfl #[] (by simp) (ZQ _) ?_)
        | (refine AY rfl 23 (.tmp 4) (.tmp 36) rfl rfl rfl (Bb AR rfl) H2.out rfl ?_;intro w5 g5 h5;have G5:=AK g5;have H5:=AK h5;have Y5:=AK (AF g5 H3.out (by simp));clear g5 h5)
        | (refine AY rfl 38 (.tmp 5) (.const (.int .i64 10)) rfl rfl rfl (Gc 10) Y5.out rfl ?_;intro w6 g6 h6;have G6:=AK g6;have H6:=AK h6;have X6:=AK (AF g6 H5.out (by simp));clear g6 h6)
        | fail)
      have HKK2:=AF G6.out (AF G5.out HKK.out (by have:=HWS.out;have:=HD.out;simp;omega)) (by have:=HWS.out;have:=HD.out;simp;omega)
      refine JS HKK2 ?_
      have GP:=grownBy_putObj' w6 D (.deferred none)
      have P5:=AF GP X6.out (by have:=HWS.out;have:=HD.out;simp;omega)
      have P6:=AF GP H6.out (by have:=HWS.out;have:=HD.out;simp;omega)
      refine Gz (f:=119) (args:=#[.pointer (some ⟨w.heap.size+1+1,0,none⟩),.pointer (some ⟨w.heap.size+1+1+1,0,none⟩)]) (by simp[go_sem]) ?_
      refine(JT _ _ _ _).mono ?_
      rintro e u' w' ⟨rfl,rfl,rfl⟩
      exact⟨⟨_,rfl⟩,rfl,Ft (Oi (p:=4) (q:=5) (b0:=w.heap.size+2) (b1:=w.heap.size+3) rfl rfl rfl (Bb AR rfl) (Gc 10) P5 P6) ⟨by rw[HZ.out],AE (AE (AE H4.out G5.out (by omega)) G6.out (by omega)) GP (by have:=HWS.out;have:=HD.out;have:=HT4.out;omega)⟩⟩
     case stop =>
      intro D c FM V hD hS hI hK
      obtain⟨rfl,n,h1,h2,h3,h4,h5⟩:=hI
      have HZ:=AK (show gl=((Mb a (34-n.d).toNat n).k,0) by
        obtain⟨t,ht⟩:=hS
        rw[HV.out];unfold Ca;rw[if_pos (by rw[Bool.and_eq_true];exact⟨HA.out,HVL.out⟩),←ht,List.map_append,List.find?_append,h1];rfl)
      have HKD:=Oh a (34-n.d).toNat n h2
      refine wpIn_ret ?_
      simp only[Exit.inBlock,Exit.then]
      refine JS hK ?_
      have GP:=grownBy_putObj' V D (.deferred none)
      have P5:=AF GP h3 (by simp;omega)
      have P6:=AF GP h4 (by simp;omega)
      refine Gz (f:=119) (args:=#[.pointer (some ⟨w.heap.size+1+1,0,none⟩),.pointer (some ⟨w.heap.size+1+1+1,0,none⟩)]) (by simp[go_sem]) ?_
      refine(JT _ _ _ _).mono ?_
      rintro e u' w' ⟨rfl,rfl,rfl⟩
      exact⟨⟨_,rfl⟩,rfl,Ft (Oi (p:=4) (q:=5) (b0:=w.heap.size+2) (b1:=w.heap.size+3) rfl rfl rfl (Bb _ HKD.1) (Gc 0) P5 P6) ⟨by rw[HZ.out],AE h5 GP (by omega)⟩⟩
   · have HVL:=AK hv
     simp only[Bool.not_eq_true] at hv
     simp only[hv]
     clear hv
     go_wp2_with (first
      | (refine Bw rfl 23 _ rfl #[] (by simp) (ZQ _) ?_)
      | (refine AY rfl 23 (.tmp 4) (.tmp 17) rfl rfl rfl (Bb AR rfl) (AF G2.out Z2.out (by simp)) rfl ?_;intro w5 g5 h5;have G5:=AK g5;have H5:=AK h5;have Y5:=AK (AF g5 (AF G2.out Z3.out (by simp)) (by simp));clear g5 h5)
      | (refine AY rfl 38 (.tmp 5) (.const (.int .i64 1)) rfl rfl rfl (Gc 1) Y5.out rfl ?_;intro w6 g6 h6;have G6:=AK g6;have H6:=AK h6;have X6:=AK (AF g6 H5.out (by simp));clear g6 h6)
      | fail)
     refine Gz (f:=119) (args:=#[.pointer (some ⟨w.heap.size+1+1,0,none⟩),.pointer (some ⟨w.heap.size+1+1+1,0,none⟩)]) (by simp[go_sem]) ?_
     refine(JT _ _ _ _).mono ?_
     rintro e u' w' ⟨rfl,rfl,rfl⟩
     have HZ:=AK (show gl=(AR,1) by rw[HV.out];unfold Ca;rw[if_neg (by rw[Bool.and_eq_true];exact fun h=>HVL.out h.2)])
     exact⟨⟨_,rfl⟩,rfl,Ft (Oi (p:=4) (q:=5) (b0:=w.heap.size+2) (b1:=w.heap.size+3) rfl rfl rfl (Bb AR rfl) (Gc 1) X6.out H6.out) ⟨by rw[HZ.out],AE (AE (AA HG0.out G2.out) G5.out (by omega)) G6.out (by omega)⟩⟩
 · have HA:=AK ha
   simp only[Bool.not_eq_true] at ha
   simp only[ha]
   clear ha
   go_wp2_with (first
     | (refine Bw rfl 23 _ rfl #[] (by simp) (ZQ _) ?_)
     | (refine AY rfl 23 (.tmp 4) (.tmp 17) rfl rfl rfl (Bb AR rfl) Z2.out rfl ?_;intro w5 g5 h5;have G5:=AK g5;have H5:=AK h5;have Y5:=AK (AF g5 Z3.out (by simp));clear g5 h5)
     | (refine AY rfl 38 (.tmp 5) (.const (.int .i64 1)) rfl rfl rfl (Gc 1) Y5.out rfl ?_;intro w6 g6 h6;have G6:=AK g6;have H6:=AK h6;have X6:=AK (AF g6 H5.out (by simp));clear g6 h6)
     | fail)
   refine Gz (f:=119) (args:=#[.pointer (some ⟨w.heap.size+1+1,0,none⟩),.pointer (some ⟨w.heap.size+1+1+1,0,none⟩)]) (by simp[go_sem]) ?_
   refine(JT _ _ _ _).mono ?_
   rintro e u' w' ⟨rfl,rfl,rfl⟩
   have HZ:=AK (show gl=(AR,1) by rw[HV.out];unfold Ca;rw[if_neg (by rw[Bool.and_eq_true];exact fun h=>HA.out h.1)])
   exact⟨⟨_,rfl⟩,rfl,Ft (Oi (p:=4) (q:=5) (b0:=w.heap.size+2) (b1:=w.heap.size+3) rfl rfl rfl (Bb AR rfl) (Gc 1) X6.out H6.out) ⟨by rw[HZ.out],AE (AE HG0.out G5.out (by omega)) G6.out (by omega)⟩⟩
end
section
open Go.RowKit Go.Shelf
attribute [local go_sem] Oper.semAt_some
theorem bN2 (l:List Nat) (hl:l.length=32) (w:World):(Instr.build 132 #[(2,AQ l)]).run Tryz.prog w=.ok (Hr ⟨0,0,l⟩) w:=by
 obtain⟨x0,x1,x2,x3,x4,x5,x6,x7,x8,x9,x10,x11,x12,x13,x14,x15,x16,x17,x18,x19,x20,x21,x22,x23,x24,x25,x26,x27,x28,x29,x30,x31,rfl⟩:=Jq l hl
 kernel_rfl
end
section
open Go.RowKit Go.Shelf
attribute [local go_sem] Oper.semAt_some
theorem Jr {P:Program} {w w2:World} {ops:Array Oper} {rest:List Oper} {o:Oper} {a:Act} {Q:Exit→Act→World→Prop} (hgd:o.guard=none) (t:TypeId) (len:Nat) (parts:Array (Nat×Operand)) (ho:o.op=.buildSlice t len parts)
  (vs:Array (Nat×Value)) (hv:(parts.map fun(i,x)=>(i,a.eval x))=vs) {v:Value} (hr:(Instr.buildSlice t len vs).run P w=.ok v w2) (h:wpList P ops Q rest (a.put o.dst v) w2):wpList P ops Q (o::rest) a w:=by
 refine wpList_plain hgd fun K hK=>?_
 unfold Oper.wp execOp
 simp only[ho,hv,Sem.run_bind,Sem.run_pure,Result.andThen_ok,hr]
 exact hK _ _ h
theorem bS1 (n:Nd) (hn:n.k.length=32) (w:World):(Instr.buildSlice 54 1 #[(0,Hr n)]).run Tryz.prog w=.ok (.slice (some ⟨w.heap.size,0,none⟩) 1 1) (w.alloc (.cells (DA n).toArray 132)):=by
 obtain⟨d,p,k⟩:=n
 obtain⟨x0,x1,x2,x3,x4,x5,x6,x7,x8,x9,x10,x11,x12,x13,x14,x15,x16,x17,x18,x19,x20,x21,x22,x23,x24,x25,x26,x27,x28,x29,x30,x31,rfl⟩:=Jq k hn
 kernel_rfl
theorem AGu (k:List Nat) (hk:Dg k) (w:World):Calls Tryz.prog 82 #[AQ k] w fun e w'=>∃s,e=.returned (.agg #[s])∧Own w' 132 34 s 1 (DA ⟨0,0,k⟩)∧Fresh w w' s:=by
 have HK:=AK hk
 obtain⟨C,hC⟩:∃C,C=bv k:=⟨_,rfl⟩
 have HC:=AK hC
 have TD:=AK (show TY Tryz.prog 23 C (.agg C.toArray) by rw[hC];exact Bb k hk.1)
 obtain⟨N,hN⟩:∃N,N=DA ⟨0,0,k⟩:=⟨_,rfl⟩
 have HN:=AK hN
 have BN:=AK (show ∀w:World,(Instr.build 132 #[(2,.agg C.toArray)]).run Tryz.prog w=.ok (.agg N.toArray) w by rw[hC,hN];exact bN2 k hk.1)
 have BS:=AK (show ∀w:World,(Instr.buildSlice 54 1 #[(0,.agg N.toArray)]).run Tryz.prog w=.ok (.slice (some ⟨w.heap.size,0,none⟩) 1 1) (w.alloc (.cells N.toArray 132)) from fun w=>by rw[hN];exact bS1 ⟨0,0,k⟩ hk.1 w)
 have NL:=AK (show N.length=34 by rw[hN];exact CV _ hk.1)
 unfold AQ
 rw[←hC,←hN]
 clear hk hC hN
 go_enter Tryz.func82,Tryz.ntmps82
 go_wp2_with (first
   | (refine CP rfl 23 (.tmp 1) rfl rfl TD.out (by rw[BZ (by simp),Ak (by simp)]) ?_)
   | (refine Bw rfl 132 _ rfl #[(2,.agg C.toArray)] (by simp only[List.map_toArray,List.map_cons,List.map_nil,Act.eval];rfl) (BN.out _) ?_)
   | (refine Jr rfl 54 1 _ rfl #[(0,.agg N.toArray)] (by simp only[List.map_toArray,List.map_cons,List.map_nil,Act.eval];rfl) (BS.out _) ?_)
   | fail)
 refine CU (p:=2) (b:=w.heap.size+1) rfl rfl (tyT (.slice (some ⟨w.heap.size+1+1,0,none⟩) 1 1) rfl) (by rw[BZ (by simp),Ak (by simp)]) rfl ⟨_,rfl,⟨by rw[NL.out],.inr ⟨w.heap.size+1+1,1,N.toArray,rfl,by omega,Ak (by simp),by omega,by decide,?_,?_⟩⟩,Step.fresh (AA (AA (World.grownBy_alloc _ _ _) (World.grownBy_alloc _ _ _)) (World.grownBy_alloc _ _ _)) (fun k hk=>by simp[Value.ownBlock] at hk;omega)⟩
 · rw[List.size_toArray,NL.out]
 · exact List.take_of_length_le (by rw[List.toList_toArray,NL.out];exact Nat.le_refl _)
theorem AFG (k:List Nat) (hk:Dg k) (w:World):Calls Tryz.prog 85 #[AQ k] w fun e w'=>∃s,e=.returned (.agg #[s])∧Own w' 132 34 s 1 (DA ⟨0,0,k⟩)∧Fresh w w' s:=by
 have HK:=AK hk
 obtain⟨C,hC⟩:∃C,C=bv k:=⟨_,rfl⟩
 have HC:=AK hC
 have TD:=AK (show TY Tryz.prog 23 C (.agg C.toArray) by rw[hC];exact Bb k hk.1)
 obtain⟨N,hN⟩:∃N,N=DA ⟨0,0,k⟩:=⟨_,rfl⟩
 have HN:=AK hN
 have BN:=AK (show ∀w:World,(Instr.build 132 #[(2,.agg C.toArray)]).run Tryz.prog w=.ok (.agg N.toArray) w by rw[hC,hN];exact bN2 k hk.1)
 have BS:=AK (show ∀w:World,(Instr.buildSlice 54 1 #[(0,.agg N.toArray)]).run Tryz.prog w=.ok (.slice (some ⟨w.heap.size,0,none⟩) 1 1) (w.alloc (.cells N.toArray 132)) from fun w=>by rw[hN];exact bS1 ⟨0,0,k⟩ hk.1 w)
 have NL:=AK (show N.length=34 by rw[hN];exact CV _ hk.1)
 unfold AQ
 rw[←hC,←hN]
 clear hk hC hN
 go_enter Tryz.func85,Tryz.ntmps85
 go_wp2_with (first
   | (refine CP rfl 23 (.tmp 1) rfl rfl TD.out (by rw[BZ (by simp),Ak (by simp)]) ?_)
   | (refine Bw rfl 132 _ rfl #[(2,.agg C.toArray)] (by simp only[List.map_toArray,List.map_cons,List.map_nil,Act.eval];rfl) (BN.out _) ?_)
   | (refine Jr rfl 54 1 _ rfl #[(0,.agg N.toArray)] (by simp only[List.map_toArray,List.map_cons,List.map_nil,Act.eval];rfl) (BS.out _) ?_)
   | fail)
 refine CU (p:=2) (b:=w.heap.size+1) rfl rfl (tyT (.slice (some ⟨w.heap.size+1+1,0,none⟩) 1 1) rfl) (by rw[BZ (by simp),Ak (by simp)]) rfl ⟨_,rfl,⟨by rw[NL.out],.inr ⟨w.heap.size+1+1,1,N.toArray,rfl,by omega,Ak (by simp),by omega,by decide,?_,?_⟩⟩,Step.fresh (AA (AA (World.grownBy_alloc _ _ _) (World.grownBy_alloc _ _ _)) (World.grownBy_alloc _ _ _)) (fun k hk=>by simp[Value.ownBlock] at hk;omega)⟩
 · rw[List.size_toArray,NL.out]
 · exact List.take_of_length_le (by rw[List.toList_toArray,NL.out];exact Nat.le_refl _)
end
section
open Go.RowKit Go.Shelf
attribute [local go_sem] Oper.semAt_some
def Zr (a:Int) (l:List Nd):Int:=match l.findIdx? (fun n=>IT n a) with|some i=>i|none=>-1
theorem WJ {a:Int} {l:List Nd} {k:Nat} (hk:k<l.length) (h:∀j (hj:j<k),IT (l[j]'(by omega)) a=false) (hc:IT l[k] a=true):Zr a l=k:=by
 unfold Zr
 rw[show l.findIdx? (fun n=>IT n a)=some k from List.findIdx?_eq_some_iff_getElem.2 ⟨hk,hc,fun j hj=>by rw[h j hj];simp⟩]
theorem WK {a:Int} {l:List Nd} (h:∀j (hj:j<l.length),IT l[j] a=false):Zr a l=-1:=by
 unfold Zr
 rw[show l.findIdx? (fun n=>IT n a)=none from List.findIdx?_eq_none_iff.2 fun x hx=>by
  obtain⟨j,hj,rfl⟩:=List.getElem_of_mem hx
  exact h j hj]
theorem ACg (l:List Rr) (s:Value) (a:Int) (w:World) (hR:RdL w s l) (hv:∀n∈l,0≤n.1.d∧n.1.d≤34) (ha:0≤a∧a<17179869184) :
  Calls Tryz.prog 127 #[.agg #[s],.int .i64 a] w fun e w'=>e=.returned (.int .i64 (Zr a (l.map (·.1))))∧w.grownBy w' none:=by
 obtain⟨ao,cap,rfl,p1,p2⟩:=hR.shape
 have HR:=AK hR
 obtain⟨gl,hgl⟩:∃v,v=Zr a (l.map (·.1)):=⟨_,rfl⟩
 rw[←hgl]
 have HV:=AK hgl
 obtain⟨m,hm⟩:∃m,m=l.length:=⟨_,rfl⟩
 have hm0:m≤1099511627776:=by rw[hm];exact hR.2.2
 rw[←hm] at HR p1 ⊢
 have HM:=AK hm
 have HAB:=AK ha
 have HVD:=AK hv
 obtain⟨w1,hw1⟩:∃x,x=w.alloc (.cells #[.slice ao m cap] 56):=⟨_,rfl⟩
 have HG1:=AK (show w.grownBy w1 none by rw[hw1];exact World.grownBy_alloc _ _ _)
 have c0:w1.cell? ⟨w.heap.size,0,none⟩=some (.slice ao m cap):=by rw[hw1,AOS _ _ _ _ _ _ (World.alloc_heap_new w _)];rfl
 have C0:=AK c0
 have HG0:=AK (World.grownBy.refl w1 none)
 have hF:∀j (hj:j<0),∀(h:j<l.length),IT (l[j]'h).1 a=false:=fun j hj=>absurd hj (by omega)
 have HF:=AK hF
 clear hR hgl hm ha hv hF c0
 go_enter Tryz.func127,Tryz.ntmps127
 go_wp2
 rw[←hw1]
 clear hw1
 go_loopw [5] (fun i wr=>∃k:Nat,k≤m∧i=.int .i64 k∧Hid (w1.grownBy wr none)∧Hid (∀j (hj:j<k),∀(h:j<l.length),IT (l[j]'h).1 a=false)) (fun i _=>(m-intOf i).toNat)
 case atStart=>exact⟨0,by omega,rfl,HG0,HF⟩
 case round =>
  clear HF HG0
  obtain⟨k,hk,rfl,HG,HF⟩:=hrel
  have c0:=HG.out.cell C0.out (by simp)
  have y0:=AOR c0
  by_cases hlt:k<m
  · have hkl:k<l.length:=by rw[←HM.out];exact hlt
    have hsr:=(HR.out.kn HG1.out).kn HG.out
    obtain⟨b,off,rfl,hrg⟩:=hsr.1.range (i:=k) (by simpa using hkl)
    have HX:=AK (show(l.map (·.1))[k]'(by simpa using hkl)=(l[k]).1 by simp)
    rw[HX.out] at hrg
    have HRG:=AK hrg
    have HKL:=AK hkl
    have HDB:=HVD.out l[k] (List.getElem_mem hkl)
    have HNK:=AK (l[k]).2
    have HS1:=AK (show IT (l[k]).1 a=true→gl=k from fun h=>by
      rw[HV.out]
      exact WJ (by simpa using hkl) (fun j hj=>by rw[List.getElem_map];exact HF.out j hj (by omega)) (by rw[List.getElem_map];exact h))
    have HS2:=AK (show IT (l[k]).1 a=false→∀j (hj:j<k+1),∀(h:j<l.length),IT (l[j]'h).1 a=false from fun h j hj hl=>by
      by_cases e:j=k
      · subst e;exact h
      · exact HF.out j (by omega) hl)
    generalize l[k]=x at *
    have TN:=AK (ZP x.1 HNK.out.1.1)
    have i0:(0:Int)≤(k:Int):=by omega
    have i1:(k:Int)<(m:Int):=by omega
    clear hsr hrg HX hkl
    go_wp2_with (first
      | (refine EH rfl 132 (.tmp 16) rfl rfl TN.out HRG.out ?_)
      | fail)
    refine(Zm x.1 a HDB HAB.out _).mono ?_
    rintro e w4 ⟨rfl,g4⟩
    have G4:=AK (AA HG.out g4)
    clear g4
    by_cases hc:IT x.1 a=true
    · have HE:=AK (HS1.out hc)
      simp only[hc]
      go_wp2
      go_ret
      exact⟨by rw[HE.out];rfl,AA HG1.out G4.out⟩
    · simp only[Bool.not_eq_true] at hc
      have HE:=AK (HS2.out hc)
      simp only[hc]
      go_wp2
      go_roundw
      case rel=>exact⟨k+1,by omega,by go_num,G4,HE⟩
      case measure=>simp[intOf];omega
  · obtain rfl:k=m:=by omega
    have HE:=AK (show gl=-1 by
      rw[HV.out]
      exact WK (fun j hj=>by rw[List.getElem_map];rw[List.length_map] at hj;exact HF.out j (by rw[HM.out];exact hj) hj))
    go_wp2
    go_ret
    exact⟨by rw[HE.out];rfl,AA HG1.out HG.out⟩
end
end Go.Proofs.YtbfjfnbcmojpiaaGreat
