import Derived.Test.YtbfjfnbcmojpiaaGreatDaMK6
import Derived.Deep.RegionHeld3
set_option linter.unusedSimpArgs false
set_option linter.unusedVariables false
namespace Go.Proofs.YtbfjfnbcmojpiaaGreat
section
open Go.RowKit
def UK:List (Nat×Sp)→Nat→Sp
 | [],_=>Sp.any
 | p::l,t=>bif Nat.beq p.1 t then p.2 else UK l t
def KnA (w:World) (a:Act):List (Nat×Sp)→Prop
 | []=>True
 | p::l=>p.2.on w (a.tmps.getD p.1 undef)∧KnA w a l
theorem KnA.at {w:World} {a:Act}:∀{A:List (Nat×Sp)},KnA w a A→∀t,(UK A t).on w (a.tmps.getD t undef)
 | [],_,_=>trivial
 | p::l,h,t=>by
  unfold UK
  cases e:Nat.beq p.1 t with
  | true=>obtain rfl:=Nat.eq_of_beq_eq_true e;exact h.1
  | false=>exact h.2.at t
theorem KnA.of {w:World} {a:Act}:∀{A:List (Nat×Sp)},(∀p∈A,p.2.on w (a.tmps.getD p.1 undef))→KnA w a A
 | [],_=>trivial
 | p::_,h=>⟨h p List.mem_cons_self,KnA.of fun q hq=>h q (List.mem_cons_of_mem _ hq)⟩
theorem XL {W A:List (Nat×Sp)} {t:Nat} (h:∀p∈W,p.1≠t):UK (W++A) t=UK A t:=by
 induction W with
 | nil=>rfl
 | cons p W ih =>
  rw[List.cons_append]
  show(bif Nat.beq p.1 t then p.2 else UK (W++A) t)=UK A t
  rw[show Nat.beq p.1 t=false from by
   cases e:Nat.beq p.1 t with
   | false=>rfl
   | true=>exact absurd (Nat.eq_of_beq_eq_true e) (h p List.mem_cons_self)]
  exact ih fun q hq=>h q (List.mem_cons_of_mem _ hq)
def ndB:List (Nat×Sp)→Bool
 | []=>true
 | p::l=>(l.all fun q=>!Nat.beq p.1 q.1)&&ndB l
theorem RV:∀{A:List (Nat×Sp)},ndB A=true→∀p∈A,UK A p.1=p.2
 | q::A,h,p,hp=>by
  unfold ndB at h
  simp only[Bool.and_eq_true,List.all_eq_true,Bool.not_eq_true'] at h
  unfold UK
  rcases List.mem_cons.1 hp with rfl|hp
  · rw[Nat.beq_refl];rfl
  · rw[h.1 p hp];exact RV h.2 p hp
def Sx (n:Nat) (D:List Deferred) (A:List (Nat×Sp)) (w:World) (a:Act):Prop:=a.tmps.size=n∧a.defers=D∧KnA w a A
theorem AAH {P:Program} {Q:Exit→Act→World→Prop} {id:Nat} {ops:Array Oper} {a0:Act} {w0:World} (hm:P.follows .mixedOrders=true) (n:Nat) (L:List Sp) (hn:a0.tmps.size=n) (hB:AFH ops n=true)
   (h0:∀t,t<n→(∀(i:Nat) (o:Oper),ops[i]?=some o→o.dst≠some t)→At L t w0 (a0.tmps.getD t undef))
   (ob:∀(i:Nat) (o:Oper),ops[i]?=some o→∀a w,w0.grownBy w none→(∀t∈o.looksAt ops,t<n→At L t w (a.tmps.getD t undef))→a.tmps.size=n →
     OpSays P ops o a w fun v w'=>w.grownBy w' none∧∀d,o.dst=some d→At L d w' v)
   (hQ:∀a w,w0.grownBy w none→a.defers=a0.defers→a.tmps.size=n→(∀t,t<n→At L t w (a.tmps.getD t undef))→Q .normal a w) :
   (Code.region id ops true).wp P Q a0 w0:=by
 refine wp_region_any hm ?_
 have key:∀(fuel:Nat) (listed:Array Bool) (a:Act) (w:World),listed.size=ops.size→(∀l:List Nat,l.Nodup→(∀i∈l,i<ops.size∧listed.getD i true=false)→l.length≤fuel) →
     w0.grownBy w none→a.defers=a0.defers→a.tmps.size=n →
     (∀t,t<n→((∀(i:Nat) (o:Oper),ops[i]?=some o→o.dst≠some t)∨∃(i:Nat) (o:Oper),ops[i]?=some o∧o.dst=some t∧listed.getD i false=true)→At L t w (a.tmps.getD t undef)) →
     wpAny P .any ops Q fuel listed a w:=by
   intro fuel
   have done:∀(listed:Array Bool) (a:Act) (w:World),listed.size=ops.size→Region.ready .any ops listed=[]→w0.grownBy w none→a.defers=a0.defers→a.tmps.size=n →
     (∀t,t<n→((∀(i:Nat) (o:Oper),ops[i]?=some o→o.dst≠some t)∨∃(i:Nat) (o:Oper),ops[i]?=some o∧o.dst=some t∧listed.getD i false=true)→At L t w (a.tmps.getD t undef))→Q .normal a w:=by
     intro listed a w hsz hr hg hd has hk
     have all:∀i,i<ops.size→listed.getD i false=true:=by
       intro i
       induction i using Nat.strongRecOn with
       | _ i ih =>
         intro hi
         cases hl:listed.getD i false with
         | true=>rfl
         | false =>
           exfalso
           have ho:ops[i]?=some ops[i]:=Array.getElem?_eq_getElem hi
           have:i∈Region.ready .any ops listed:=mem_ready.2 ⟨by
               have:i<listed.size:=by omega
               simp only[Array.getD_eq_getD_getElem?,Array.getElem?_eq_getElem this,Option.getD_some] at hl ⊢
               exact hl,ops[i],ho,fun e he hb=>by
               have:=(LR hB ho).1 e (by simpa using he) hb
               exact ih e.on this (by omega)⟩
           rw[hr] at this
           cases this
     refine hQ a w hg hd has fun t ht=>hk t ht ?_
     by_cases hex:∃(i:Nat) (o:Oper),ops[i]?=some o∧o.dst=some t
     · obtain⟨i,o,hi,hd⟩:=hex
       exact .inr ⟨i,o,hi,hd,all i (Array.getElem?_eq_some_iff.1 hi).1⟩
     · exact .inl fun i o hi hd=>hex ⟨i,o,hi,hd⟩
   induction fuel with
   | zero =>
     intro listed a w hsz hf hg hd has hk
     have hr:Region.ready .any ops listed=[]:=by
       cases hr:Region.ready .any ops listed with
       | nil=>rfl
       | cons i r =>
         exfalso
         have hi:i∈Region.ready .any ops listed:=by rw[hr];exact List.mem_cons_self
         obtain⟨h1,o,h2,_⟩:=mem_ready.1 hi
         have:=hf [i] (by simp) (fun k hk=>by simp at hk;subst hk;exact⟨(Array.getElem?_eq_some_iff.1 h2).1,h1⟩)
         simp at this
     exact⟨hr,done listed a w hsz hr hg hd has hk⟩
   | succ fuel ih =>
     intro listed a w hsz hf hg hd has hk
     refine⟨fun hr=>done listed a w hsz hr hg hd has hk,fun i hi=>?_⟩
     obtain⟨h1,o,ho,hready⟩:=mem_ready.1 hi
     obtain⟨s1,s2,s3⟩:=LR hB ho
     have hlt:i<ops.size:=(Array.getElem?_eq_some_iff.1 ho).1
     refine OpSays.wpOp ho (ob i o ho a w hg (fun t ht htn=>hk t htn ?_) has) ?_
     · by_cases hex:∃(j:Nat) (oj:Oper),ops[j]?=some oj∧oj.dst=some t
       · obtain⟨j,oj,hj,hdj⟩:=hex
         obtain⟨e,he,rfl,hb⟩:=(s3 j oj t hj hdj).2 ht
         exact .inr ⟨e.on,oj,hj,hdj,hready e (by simpa using he) hb⟩
       · exact .inl fun j oj hj hdj=>hex ⟨j,oj,hj,hdj⟩
     · rintro v w' ⟨hg',hv⟩
       refine ih _ _ _ (by simpa using hsz) ?_ (AA hg hg') (by cases ho':o.dst<;>simp[Act.put,hd]) (by cases ho':o.dst<;>simp[Act.put,has]) ?_
       · intro l hnd hl
         have hil:i ∉ l:=by
           intro hmem
           have:=(hl i hmem).2
           rw[Array.getD_eq_getD_getElem?,Array.getElem?_setIfInBounds_self_of_lt (by omega)] at this
           cases this
         have:=hf (i::l) (List.nodup_cons.2 ⟨hil,hnd⟩) (fun k hk=>by
           rcases List.mem_cons.1 hk with rfl|hk
           · exact⟨hlt,h1⟩
           · have h2:=hl k hk
             have hne:i≠k:=fun e=>hil (e▸hk)
             rw[getD_set_ne true hne] at h2
             exact h2)
         simpa using this
       · intro t htn hor
         rw[Fq a o.dst v t (fun k hk=>has▸s2 k hk)]
         by_cases hdt:o.dst=some t
         · rw[if_pos hdt]
           exact hv t hdt
         · rw[if_neg hdt]
           refine(L.getD t Sp.any).mono _ _ _ hg' (hk t htn ?_)
           rcases hor with h|⟨j,oj,hj,hdj,hlj⟩
           · exact .inl h
           · refine .inr ⟨j,oj,hj,hdj,?_⟩
             have hne:i≠j:=fun e=>hdt (by subst e;rw[ho] at hj;obtain rfl:=Option.some.inj hj;exact hdj)
             rwa [getD_set_ne false hne] at hlj
 refine key ops.size _ a0 { w0 with drawn:=w0.drawn+1 } (by simp) ?_ ⟨rfl,rfl,rfl,Nat.le_refl _,fun _ _ _=>rfl⟩ rfl hn ?_
 · intro l hnd hl
   have:l ⊆ List.range ops.size:=fun k hk=>List.mem_range.2 (hl k hk).1
   have:=List.Nodup.length_le_of_subset hnd this
   simpa using this
 · intro t ht hor
   refine(L.getD t Sp.any).mono w0 _ _ ⟨rfl,rfl,rfl,Nat.le_refl _,fun _ _ _=>rfl⟩ (h0 t ht ?_)
   rcases hor with h|⟨i,o,hi,_,hl⟩
   · exact h
   · exfalso
     have:i<ops.size:=(Array.getElem?_eq_some_iff.1 hi).1
     rw[Array.getD_eq_getD_getElem?,Array.getElem?_replicate,if_pos this] at hl
     cases hl
def OX (P:Program) (ops:Array Oper) (L:Nat→Sp) (n:Nat) (w0:World) (o:Oper):Prop:=
 ∀(a:Act) w,w0.grownBy w none→(∀t∈o.looksAt ops,t<n→(L t).on w (a.tmps.getD t undef))→a.tmps.size=n →
  OpSays P ops o a w fun v w'=>w.grownBy w' none∧∀d,o.dst=some d→(L d).on w' v
def OXAll (P:Program) (ops:Array Oper) (L:Nat→Sp) (n:Nat) (w0:World):List Oper→Prop
 | []=>True
 | o::l=>OX P ops L n w0 o∧OXAll P ops L n w0 l
theorem OXAll.at {P:Program} {ops:Array Oper} {L:Nat→Sp} {n:Nat} {w0:World} {l:List Oper} (h:OXAll P ops L n w0 l):∀(i:Nat) (o:Oper),l[i]?=some o→OX P ops L n w0 o:=by
 induction l with
 | nil=>intro i o h;simp at h
 | cons x l ih =>
  intro i o hi
  cases i with
  | zero=>simp at hi;subst hi;exact h.1
  | succ i=>exact ih h.2 i o (by simpa using hi)
def PX (P:Program) (ops:Array Oper) (L:Nat→Sp) (n:Nat) (w0:World) (o:Oper):Prop:=
 ∀(a:Act) w,w0.grownBy w none→(∀t∈o.looksAt ops,t<n→(L t).on w (a.tmps.getD t undef))→a.tmps.size=n→∃v,Yields P ops o v a∧∀d,o.dst=some d→(L d).on w v
def PXAll (P:Program) (l:List Oper) (L:Nat→Sp) (n:Nat) (w0:World):List Nat→Prop
 | []=>True
 | i::r=>(∀o,l[i]?=some o→PX P l.toArray L n w0 o)∧PXAll P l L n w0 r
theorem PXAll.at {P:Program} {l:List Oper} {L:Nat→Sp} {n:Nat} {w0:World}:∀{pu:List Nat},PXAll P l L n w0 pu→∀i∈pu,∀o,l[i]?=some o→PX P l.toArray L n w0 o
 | j::r,h,i,hi,o,ho=>by
  rcases List.mem_cons.1 hi with rfl|hi
  · exact h.1 o ho
  · exact h.2.at i hi o ho
def PtrAll (L:Nat→Sp):List Nat→Prop
 | []=>True
 | t::r=>(∀w u,(L t).on w u→∃A,u=.pointer (some ⟨A,0,none⟩)∧A<w.heap.size)∧PtrAll L r
theorem PtrAll.at {L:Nat→Sp}:∀{al:List Nat},PtrAll L al→∀t∈al,∀w u,(L t).on w u→∃A,u=.pointer (some ⟨A,0,none⟩)∧A<w.heap.size
 | j::r,h,t,ht=>by
  rcases List.mem_cons.1 ht with rfl|ht
  · exact h.1
  · exact h.2.at t ht
def lsX (L:Nat→Sp) (n:Nat):List Sp:=(List.range n).map L
theorem ALU (L:Nat→Sp) {n t:Nat} (h:t<n):(lsX L n).getD t Sp.any=L t:=by
 simp[lsX,List.getD_eq_getElem?_getD,List.getElem?_range h]
theorem AHO (L:Nat→Sp) {n t:Nat} (h:¬t<n):(lsX L n).getD t Sp.any=Sp.any:=by
 unfold lsX
 rw[List.getD_eq_getElem?_getD,List.getElem?_eq_none (by simp;omega)]
 rfl
theorem L3 {L:Nat→Sp} {n t:Nat} {w:World} {v:Value} (h:t<n):At (lsX L n) t w v↔(L t).on w v:=by unfold At;rw[ALU L h]
theorem XM {L:Nat→Sp} {n t:Nat} {w:World} {v:Value} (h:(L t).on w v):At (lsX L n) t w v:=by
 by_cases ht:t<n
 · exact(L3 ht).2 h
 · unfold At;rw[AHO L ht];trivial
section
variable {P:Program} {Q:Exit→Act→World→Prop}
theorem WQ {l:List Oper} {W:List (Nat×Sp)} {k:Nat} (hW:(l.take k).map (·.dst)=W.map fun p=>some p.1) {t:Nat} (h:∀(i:Nat) (o:Oper),i<k→l[i]?=some o→o.dst≠some t):∀p∈W,p.1≠t:=by
 intro p hp e
 have h1:some p.1∈(l.take k).map (·.dst):=by rw[hW];exact List.mem_map.2 ⟨p,hp,rfl⟩
 obtain⟨o,ho,hd⟩:=List.mem_map.1 h1
 obtain⟨i,hi,rfl⟩:=List.getElem_of_mem ho
 have hik:i<k:=by rw[List.length_take] at hi;omega
 have hil:i<l.length:=by rw[List.length_take] at hi;omega
 exact h i l[i] hik (List.getElem?_eq_getElem hil) (by rw[←e];rw[List.getElem_take] at hd;exact hd)
theorem DP {id:Nat} {l:List Oper} {a0:Act} {w0:World} {n:Nat} {D:List Deferred} {A0:List (Nat×Sp)} (st:Sx n D A0 w0 a0) (hm:P.follows .mixedOrders=true) (k:Nat) (W:List (Nat×Sp))
   (hW:(l.take k).map (·.dst)=W.map fun p=>some p.1) (hnd:ndB (W++A0)=true) (hWn:((W++A0).all fun p=>decide (p.1<n))=true) (hB:AFH l.toArray n=true) (pu:List Nat) (hT:AGv l.toArray k pu=true)
   (ob:OXAll P l.toArray (UK (W++A0)) n w0 (l.take k)) (obp:PXAll P l (UK (W++A0)) n w0 pu)
   (al:List Nat) (hal:(al.all fun t=>decide (t<n)&&(l.take k).any fun o=>o.dst == some t)=true) (hnew:PtrAll (UK (W++A0)) al) (hrun:LaysAll P al (l.take k))
   (hpal:(pu.all fun i=>match l[i]? with|none=>true|some o=>al.all fun d=>o.dst != some d)=true)
   (hQ:∀a w,w0.grownBy w none→Sx n D (W++A0) w a→(∀t∈al,∀u∈al,t≠u→a.tmps.getD t undef≠a.tmps.getD u undef)→wpList P l.toArray (NoPanic Q) (l.drop k) a w) :
   (Code.region id l.toArray true).wp P Q a0 w0:=by
 have hop:∀(i:Nat) (o:Oper),l.toArray[i]?=some o→l[i]?=some o:=fun i o h=>by simpa using h
 have htk:∀(i:Nat) (o:Oper),i<k→l[i]?=some o→(l.take k)[i]?=some o:=fun i o hik h=>by rw[List.getElem?_take,if_pos hik];exact h
 have hal1:∀t∈al,t<n∧∃(i:Nat) (o:Oper),i<k∧l.toArray[i]?=some o∧o.dst=some t:=fun t ht=>by
   have:=List.all_eq_true.1 hal t ht
   simp only[Bool.and_eq_true,decide_eq_true_eq,List.any_eq_true,beq_iff_eq] at this
   obtain⟨h1,o,ho,hd⟩:=this
   obtain⟨i,hi,rfl⟩:=List.getElem_of_mem ho
   have hil:=hi
   rw[List.length_take] at hil
   refine⟨h1,i,l[i],by omega,by simp<;>omega,?_⟩
   rw[List.getElem_take] at hd;exact hd
 refine wp_region_noPanic (wp_region_any hm (AGw (Q:=NoPanic Q) rfl n k (lsX (UK (W++A0)) n) st.1 hB pu hT (fun _ _ _ _ _ h=>h.elim) al (fun t ht=>⟨(hal1 t ht).1,fun w u hu=>hnew.at t ht w u ((L3 (hal1 t ht).1).1 hu),(hal1 t ht).2⟩)
   (fun i o hik hi d hd hdd=>hrun.at i o (htk i o hik (hop i o hi)) d hd hdd) (fun i hi o ho d hd=>?_) (fun i hi o ho a w hg hl hs=>?_) (fun t ht hnd=>?_) (fun i o hik hi a w hg hl hs=>?_) (fun a w hg hd has hkn hdi=>?_)))
 · have h1:=List.all_eq_true.1 hpal i hi
   rw[hop i o ho] at h1
   simpa using List.all_eq_true.1 h1 d hd
 · obtain⟨v,h1,h2⟩:=obp.at i hi o (hop i o ho) a w hg (fun t ht htn=>(L3 htn).1 (hl t ht htn)) hs
   exact⟨v,h1,fun d hd=>XM (h2 d hd)⟩
 · refine(L3 ht).2 ?_
   rw[XL (WQ hW fun i o hik ho=>hnd i o hik (by simpa using ho))]
   exact st.2.2.at t
 · exact(ob.at i o (htk i o hik (hop i o hi)) a w hg (fun t ht htn=>(L3 htn).1 (hl t ht htn)) hs).mono fun v w' h=>⟨h.1,fun d hd=>XM (h.2 d hd)⟩
 · refine hQ a w hg ⟨has,hd.trans st.2.1,KnA.of fun p hp=>?_⟩ hdi
   rw[←RV hnd p hp]
   by_cases hp1:p.1<n
   · exact(L3 hp1).1 (hkn p.1 hp1)
   · exact absurd (by simpa using List.all_eq_true.1 hWn p hp) hp1
theorem ALQ {id:Nat} {l:List Oper} {a0:Act} {w0:World} {n:Nat} {D:List Deferred} {A0:List (Nat×Sp)} (st:Sx n D A0 w0 a0) (hm:P.follows .mixedOrders=true) (W:List (Nat×Sp))
   (hW:l.map (·.dst)=W.map fun p=>some p.1) (hnd:ndB (W++A0)=true) (hWn:((W++A0).all fun p=>decide (p.1<n))=true) (hB:AFH l.toArray n=true)
   (ob:OXAll P l.toArray (UK (W++A0)) n w0 l) (hQ:∀a w,w0.grownBy w none→Sx n D (W++A0) w a→Q .normal a w) :
   (Code.region id l.toArray true).wp P Q a0 w0:=by
 have hop:∀(i:Nat) (o:Oper),l.toArray[i]?=some o→l[i]?=some o:=fun i o h=>by simpa using h
 refine AAH hm n (lsX (UK (W++A0)) n) st.1 hB (fun t ht hnd'=>?_) (fun i o hi a w hg hl hs=>?_) (fun a w hg hd has hkn=>?_)
 · refine(L3 ht).2 ?_
   rw[XL (WQ (l:=l) (k:=l.length) (by rw[List.take_length];exact hW) fun i o _ ho=>hnd' i o (by simpa using ho))]
   exact st.2.2.at t
 · exact(ob.at i o (hop i o hi) a w hg (fun t ht htn=>(L3 htn).1 (hl t ht htn)) hs).mono fun v w' h=>⟨h.1,fun d hd=>XM (h.2 d hd)⟩
 · refine hQ a w hg ⟨has,hd.trans st.2.1,KnA.of fun p hp=>?_⟩
   rw[←RV hnd p hp]
   by_cases hp1:p.1<n
   · exact(L3 hp1).1 (hkn p.1 hp1)
   · exact absurd (by simpa using List.all_eq_true.1 hWn p hp) hp1
theorem OpSays.list {ops:Array Oper} {o:Oper} {rest:List Oper} {a:Act} {w:World} {R:Value→World→Prop} (h:OpSays P ops o a w R) (hk:∀v w',R v w'→wpList P ops Q rest (a.put o.dst v) w'):wpList P ops Q (o::rest) a w:=by
 refine wpList_step fun K hK=>?_
 unfold OpSays at h
 split
 · rename_i hw
   rw[if_pos hw] at h
   unfold Oper.wp
   generalize (execOp a.eval o).run P w=r at *
   cases r with
   | ok n w' =>
    cases n<;>simp only[Oper.upon] at h ⊢
    all_goals first
     | exact h.elim
     | exact hK _ _ (hk _ _ h)
     | exact h.mono fun e w'' ⟨v,he,hr⟩=>by subst he;exact hK _ _ (hk _ _ hr)
   | halt x w'=>cases x<;>exact h.elim
 · rename_i hw
   rw[if_neg hw] at h
   exact hK _ _ (hk _ _ h)
def AHJ (ops:Array Oper) (n:Nat):List Oper→Bool
 | []=>true
 | o::l=>(o::l).all (fun p=>match p.dst with|none=>true|some d=>!(o.looksAt ops).contains d)&&AHJ ops n l
theorem AKh {ops:Array Oper} {n:Nat} {D:List Deferred} {L:Nat→Sp} {w0:World} {tl:List Oper}:∀(l:List Oper) (a:Act) (w:World),(l.all fun o=>match o.dst with|none=>true|some d=>decide (d<n))=true→AHJ ops n l=true→OXAll P ops L n w0 l→w0.grownBy w none→a.tmps.size=n→a.defers=D →
  (∀t,t<n→(∀o∈l,o.dst≠some t)→(L t).on w (a.tmps.getD t undef))→(l.map (·.dst)).Nodup →
  (∀a w,w0.grownBy w none→a.tmps.size=n→a.defers=D→(∀t,t<n→(L t).on w (a.tmps.getD t undef))→wpList P ops Q tl a w)→wpList P ops Q (l++tl) a w
 | [],a,w,_,_,_,hg,hs,hd,hk,_,hQ=>hQ a w hg hs hd fun t ht=>hk t ht (by simp)
 | o::l,a,w,hn,hsq,ob,hg,hs,hd,hk,hnd,hQ=>by
  unfold AHJ at hsq
  simp only[Bool.and_eq_true] at hsq
  rw[List.all_cons,Bool.and_eq_true] at hn
  rw[List.map_cons,List.nodup_cons] at hnd
  refine(ob.1 a w hg (fun t ht htn=>hk t htn fun p hp e=>?_) hs).list fun v w' ⟨g',hv⟩=>?_
  · have:=List.all_eq_true.1 hsq.1 p hp
    rw[e] at this
    simp only[Bool.not_eq_true'] at this
    rw[List.contains_iff_mem.2 ht] at this
    cases this
  · have hdn:∀k,o.dst=some k→k<a.tmps.size:=fun k hk'=>by
      have:=hn.1
      rw[hk'] at this
      rw[hs];simpa using this
    refine AKh l _ w' hn.2 hsq.2 ob.2 (AA hg g') (by cases ho:o.dst<;>simp[Act.put,hs]) (by cases ho:o.dst<;>simp[Act.put,hd]) (fun t ht hno=>?_) hnd.2 hQ
    rw[Fq a o.dst v t hdn]
    by_cases hdt:o.dst=some t
    · rw[if_pos hdt];exact hv t hdt
    · rw[if_neg hdt]
      exact(L t).mono _ _ _ g' (hk t ht fun p hp=>by
       rcases List.mem_cons.1 hp with rfl|hp
       · exact hdt
       · exact hno p hp)
theorem WR:∀{W A:List (Nat×Sp)},ndB (W++A)=true→(W.map fun p=>some p.1).Nodup
 | [],_,_=>List.nodup_nil
 | p::W,A,h=>by
  rw[List.cons_append] at h
  unfold ndB at h
  simp only[Bool.and_eq_true,List.all_eq_true,Bool.not_eq_true'] at h
  rw[List.map_cons,List.nodup_cons]
  refine⟨fun hm=>?_,WR h.2⟩
  obtain⟨q,hq,e⟩:=List.mem_map.1 hm
  have:=h.1 q (List.mem_append.2 (.inl hq))
  rw[Option.some.inj e,Nat.beq_refl] at this
  cases this
theorem JX {ops:Array Oper} {l:List Oper} {a0:Act} {w0:World} {n:Nat} {D:List Deferred} {A0:List (Nat×Sp)} (st:Sx n D A0 w0 a0) (k:Nat) (W:List (Nat×Sp))
  (hW:(l.take k).map (·.dst)=W.map fun p=>some p.1) (hnd:ndB (W++A0)=true) (hWn:((W++A0).all fun p=>decide (p.1<n))=true) (hsq:AHJ ops n (l.take k)=true)
  (ob:OXAll P ops (UK (W++A0)) n w0 (l.take k)) (hQ:∀a w,w0.grownBy w none→Sx n D (W++A0) w a→wpList P ops Q (l.drop k) a w):wpList P ops Q l a0 w0:=by
 have hin:∀o∈l.take k,∀d,o.dst=some d→∃p∈W,p.1=d:=fun o ho d hd=>by
  have h1:o.dst∈(l.take k).map (·.dst):=List.mem_map.2 ⟨o,ho,rfl⟩
  rw[hW] at h1
  obtain⟨p,hp,e⟩:=List.mem_map.1 h1
  exact⟨p,hp,Option.some.inj (e.trans hd)⟩
 have:=AKh (P:=P) (Q:=Q) (ops:=ops) (n:=n) (D:=D) (L:=UK (W++A0)) (w0:=w0) (tl:=l.drop k) (l.take k) a0 w0 (List.all_eq_true.2 fun o ho=>by
   cases hd:o.dst with
   | none=>rfl
   | some d =>
     obtain⟨p,hp,rfl⟩:=hin o ho d hd
     exact List.all_eq_true.1 hWn p (List.mem_append.2 (.inl hp))) hsq ob (World.grownBy.refl _ _) st.1 st.2.1 (fun t ht hno=>by
   rw[XL fun p hp e=>?_]
   · exact st.2.2.at t
   · have h1:some p.1∈(l.take k).map (·.dst):=by rw[hW];exact List.mem_map.2 ⟨p,hp,rfl⟩
     obtain⟨o,ho,hd⟩:=List.mem_map.1 h1
     exact hno o ho (by rw[hd,e])) (by rw[hW];exact WR hnd) (fun a w hg hs hd hk=>hQ a w hg ⟨hs,hd,KnA.of fun p hp=>by
   rw[←RV hnd p hp]
   exact hk p.1 (by simpa using List.all_eq_true.1 hWn p hp)⟩)
 rwa [List.take_append_drop] at this
end
def SE (K:List (Nat×Value)):List (Nat×Sp):=K.map fun p=>(p.1,Sp.is p.2)
def KnV (a:Act):List (Nat×Value)→Prop
 | []=>True
 | p::l=>a.tmps.getD p.1 undef=p.2∧KnV a l
theorem KnV.a {w:World} {a:Act}:∀{K:List (Nat×Value)},KnV a K→KnA w a (SE K)
 | [],_=>trivial
 | _::_,h=>⟨h.1,h.2.a⟩
def Sv (n:Nat) (D:List Deferred) (K:List (Nat×Value)) (a:Act):Prop:=a.tmps.size=n∧a.defers=D∧KnV a K
theorem Sv.st {n:Nat} {D:List Deferred} {K:List (Nat×Value)} {a:Act} (h:Sv n D K a) (w:World):Sx n D (SE K) w a:=⟨h.1,h.2.1,h.2.2.a⟩
def lkV:List (Nat×Value)→Nat→Value
 | [],_=>undef
 | p::l,t=>bif Nat.beq p.1 t then p.2 else lkV l t
def Qr:List (Nat×Value)→Nat→Bool
 | [],_=>false
 | p::l,t=>Nat.beq p.1 t||Qr l t
theorem KnV.at {a:Act}:∀{K:List (Nat×Value)},KnV a K→∀{t},Qr K t=true→a.tmps.getD t undef=lkV K t
 | p::l,h,t,ht=>by
  unfold lkV
  unfold Qr at ht
  cases e:Nat.beq p.1 t with
  | true=>obtain rfl:=Nat.eq_of_beq_eq_true e;exact h.1
  | false=>rw[e] at ht;exact h.2.at (by simpa using ht)
def Nk (K:List (Nat×Value)):Operand→Bool
 | .tmp t=>Qr K t
 | .const _=>true
 | _=>false
def Nl (K:List (Nat×Value)):Operand→Value
 | .tmp t=>lkV K t
 | .const c=>c
 | _=>undef
theorem Sv.ev {n:Nat} {D:List Deferred} {K:List (Nat×Value)} {a:Act} (h:Sv n D K a) {x:Operand} {v:Value} (hx:Nk K x=true) (hv:Nl K x=v):a.eval x=v:=by
 subst hv
 cases x with
 | tmp t=>exact h.2.2.at hx
 | const c=>rfl
 | global g=>cases hx
 | func f=>cases hx
def Ku (d:Nat):List (Nat×Value)→List (Nat×Value)
 | []=>[]
 | p::l=>bif Nat.beq p.1 d then Ku d l else p::Ku d l
theorem KnV.del {a:Act} {d:Nat} {v:Value} (hd:d<a.tmps.size):∀{K:List (Nat×Value)},KnV a K→KnV (a.put (some d) v) (Ku d K)
 | [],_=>trivial
 | p::l,h=>by
  unfold Ku
  cases e:Nat.beq p.1 d with
  | true=>exact h.2.del hd
  | false =>
   refine⟨?_,h.2.del hd⟩
   rw[Fq a (some d) v p.1 (fun k hk=>by obtain rfl:=Option.some.inj hk;exact hd),if_neg (fun he=>by
    obtain rfl:=Option.some.inj he
    rw[Nat.beq_refl] at e;cases e)]
   exact h.1
theorem Sv.put {n:Nat} {D:List Deferred} {K:List (Nat×Value)} {a:Act} (h:Sv n D K a) {d:Nat} (hd:d<n) (v:Value):Sv n D ((d,v)::Ku d K) (a.put (some d) v):=by
 refine⟨by simp[Act.put,h.1],by simp[Act.put,h.2.1],?_,h.2.2.del (h.1▸hd)⟩
 show(a.put (some d) v).tmps.getD d undef=v
 rw[Fq a (some d) v d (fun k hk=>by obtain rfl:=Option.some.inj hk;exact h.1▸hd),if_pos rfl]
section
variable {P:Program} {Q:Exit→Act→World→Prop} {ops:Array Oper} {rest:List Oper} {o:Oper} {a:Act} {w:World} {n:Nat} {D:List Deferred} {K:List (Nat×Value)}
theorem AFX (sv:Sv n D K a) (hgd:o.guard=none) {x:Operand} {d:Nat} {v:Value} (ho:o.op=.assign x∨o.op=.move x) (hd:o.dst=some d) (hdn:decide (d<n)=true) (hx:Nk K x=true) (hv:Nl K x=v)
   (h:∀a',Sv n D ((d,v)::Ku d K) a'→wpList P ops Q rest a' w):wpList P ops Q (o::rest) a w:=by
 refine wpList_plain hgd fun K' hK=>?_
 have e:=sv.ev hx hv
 unfold Oper.wp
 rcases ho with ho|ho <;>
 · simp only[execOp,ho,e,Sem.run_pure,Oper.upon_value,hd]
   exact hK _ _ (h _ (sv.put (of_decide_eq_true hdn) v))
theorem Oo (sv:Sv n D K a) (hgd:o.guard=none) {T:TypeId} {x y:Operand} (ho:o.op=.store T x y) (hd:o.dst=none) {b k:Nat} {v:Value} (hx:Nk K x=true) (hxv:Nl K x=.pointer (some ⟨b,k,none⟩)) (hy:Nk K y=true) (hyv:Nl K y=v)
  {cs A B C:List Value} (ty:TY P T cs v) {t:TypeId} (hb:w.heap[b]?=some (.cells (A++(B++C)).toArray t (0,0))) (hA:A.length=k) (hB:B.length=cs.length)
  (h:∀w',w.grownBy w' (some b)→w'.heap[b]?=some (.cells (A++(cs++C)).toArray t (0,0))→wpList P ops Q rest a w'):wpList P ops Q (o::rest) a w:=by
 refine Dc hgd T x y ho (sv.ev hx hxv) (sv.ev hy hyv) ty hb (by rw[List.length_append,List.length_append];omega) fun w' g hb'=>?_
 have e:o.dst=none:=hd
 rw[e]
 refine h w' g ?_
 rw[hb']
 subst hA
 rw[List.take_left' rfl,←List.drop_drop,List.drop_left' rfl,List.drop_left' hB]
end
end
section
open Go.RowKit
def OpX (L:Nat→Sp) (n:Nat):Operand→Value→Prop
 | .tmp t,v=>decide (t<n)=true∧∀w u,(L t).on w u→u=v
 | .const c,v=>c=v
 | .func f,v=>Value.func (.func f) #[] #[]=v
 | _,_=>False
def OpXs (L:Nat→Sp) (n:Nat):List Operand→List Value→Prop
 | [],[]=>True
 | x::l,v::vs=>OpX L n x v∧OpXs L n l vs
 | _,_=>False
def GX (ops:Array Oper) (L:Nat→Sp) (n:Nat):Option (Nat×Bool)→Prop
 | none=>True
 | some (g,b)=>∃t,(ops[g]?).bind (·.dst)=some t∧decide (t<n)=true∧∀w v,(L t).on w v→v=.bool b
def GN (ops:Array Oper) (L:Nat→Sp) (n:Nat):Option (Nat×Bool)→Prop
 | none=>False
 | some (g,b)=>∃t,(ops[g]?).bind (·.dst)=some t∧decide (t<n)=true∧∀w v,(L t).on w v→v=.bool !b
section
variable {P:Program} {ops:Array Oper} {L:Nat→Sp} {n:Nat} {w0:World} {o:Oper}
theorem OpX.eval {x:Operand} {v:Value} (h:OpX L n x v) {a:Act} {w:World} (hx:x∈o.op.operands.toList) (hl:∀t∈o.looksAt ops,t<n→(L t).on w (a.tmps.getD t undef)):a.eval x=v:=by
 cases x with
 | tmp t=>exact h.2 w _ (hl t (by simp only[Oper.looksAt,List.mem_append,List.mem_filterMap];exact .inl ⟨.tmp t,by simpa using hx,rfl⟩) (of_decide_eq_true h.1))
 | const c=>exact h
 | global g=>exact h.elim
 | func f=>exact h
theorem OpXs.eval:∀{l:List Operand} {vs:List Value},OpXs L n l vs→∀{a:Act} {w:World},(∀x∈l,x∈o.op.operands.toList)→(∀t∈o.looksAt ops,t<n→(L t).on w (a.tmps.getD t undef))→l.map a.eval=vs
 | [],[],_,_,_,_,_=>rfl
 | x::l,v::vs,h,a,w,hx,hl=>by
  rw[List.map_cons,OpX.eval (o:=o) h.1 (hx x List.mem_cons_self) hl,OpXs.eval h.2 (fun y hy=>hx y (List.mem_cons_of_mem _ hy)) hl]
 | [],_::_,h,_,_,_,_=>h.elim
 | _::_,[],h,_,_,_,_=>h.elim
theorem GX.wanted {o:Oper} {a:Act} {w:World} (h:GX ops L n o.guard) (hl:∀t∈o.looksAt ops,t<n→(L t).on w (a.tmps.getD t undef)) (hs:a.tmps.size=n):Region.wanted o (yielded ops a.tmps)=true:=by
 unfold Region.wanted
 cases hg:o.guard with
 | none=>rfl
 | some p =>
  obtain⟨g,b⟩:=p
  rw[hg] at h
  obtain⟨t,ht,htn,hv⟩:=h
  have htn:=of_decide_eq_true htn
  have hv:=hv w _ (hl t (by simp[Oper.looksAt,hg,ht]) htn)
  have htl:t<a.tmps.size:=hs▸htn
  rw[Array.getD_eq_getD_getElem?,Array.getElem?_eq_getElem htl,Option.getD_some] at hv
  simp[yielded,ht,Array.getElem?_eq_getElem htl,hv]
theorem GN.wanted {o:Oper} {a:Act} {w:World} (h:GN ops L n o.guard) (hl:∀t∈o.looksAt ops,t<n→(L t).on w (a.tmps.getD t undef)) (hs:a.tmps.size=n):Region.wanted o (yielded ops a.tmps)=false:=by
 unfold Region.wanted
 cases hg:o.guard with
 | none=>rw[hg] at h;exact h.elim
 | some p =>
  obtain⟨g,b⟩:=p
  rw[hg] at h
  obtain⟨t,ht,htn,hv⟩:=h
  have htn:=of_decide_eq_true htn
  have hv:=hv w _ (hl t (by simp[Oper.looksAt,hg,ht]) htn)
  have htl:t<a.tmps.size:=hs▸htn
  rw[Array.getD_eq_getD_getElem?,Array.getElem?_eq_getElem htl,Option.getD_some] at hv
  cases b<;>simp[yielded,ht,Array.getElem?_eq_getElem htl,hv]
theorem ALR (hg:GN ops L n o.guard) {d:Nat} (hd:o.dst=some d) (h:∀w,(L d).on w undef):OX P ops L n w0 o:=by
 intro a w hw hl hs
 unfold OpSays
 rw[if_neg (by rw[hg.wanted hl hs];simp)]
 exact⟨World.grownBy.refl _ _,fun d' hd'=>by rw[hd] at hd';obtain rfl:=Option.some.inj hd';exact h w⟩
theorem Fv (hg:GX ops L n o.guard) (h:∀(a:Act) w,w0.grownBy w none→(∀t∈o.looksAt ops,t<n→(L t).on w (a.tmps.getD t undef))→a.tmps.size=n→∃v,(execOp a.eval o).run P w=.ok (.value v) w∧∀d,o.dst=some d→(L d).on w v):OX P ops L n w0 o:=by
 intro a w hw hl hs
 unfold OpSays
 rw[if_pos (hg.wanted hl hs)]
 obtain⟨v,hr,hv⟩:=h a w hw hl hs
 rw[hr]
 exact⟨World.grownBy.refl _ _,hv⟩
theorem SN (hg:GX ops L n o.guard) (h:∀(a:Act) w,w0.grownBy w none→(∀t∈o.looksAt ops,t<n→(L t).on w (a.tmps.getD t undef))→a.tmps.size=n→∃v,(∀w',(execOp a.eval o).run P w'=.ok (.value v) w')∧∀d,o.dst=some d→(L d).on w v):PX P ops L n w0 o:=by
 intro a w hw hl hs
 obtain⟨v,hr,hv⟩:=h a w hw hl hs
 exact⟨v,.inl ⟨hg.wanted hl hs,hr⟩,hv⟩
theorem Da {d:Nat} {v:Value} {w:World} (hd:o.dst=some d) (h:(L d).on w v):∀d',o.dst=some d'→(L d').on w v:=fun d' hd'=>by rw[hd] at hd';obtain rfl:=Option.some.inj hd';exact h
theorem ACy (a:Act) (x:Operand) (ho:o.op=.move x∨o.op=.assign x) (w:World):(execOp a.eval o).run P w=.ok (.value (a.eval x)) w:=by
 rcases ho with ho|ho<;>simp[execOp,ho]
theorem AAI {s:Nat} (ho:o.op=.move (.tmp s)∨o.op=.assign (.tmp s)):s∈o.looksAt ops:=by
 rcases ho with ho|ho<;>simp[Oper.looksAt,ho,Op.operands]
theorem JW (s d:Nat) (ho:o.op=.move (.tmp s)∨o.op=.assign (.tmp s)) (hd:o.dst=some d) (hs:decide (s<n)=true) (hg:GX ops L n o.guard) (h:∀w v,(L s).on w v→(L d).on w v):OX P ops L n w0 o:=
 Fv hg fun a w hw hl hsz=>⟨_,ACy a _ ho w,Da hd (h w _ (hl s (AAI ho) (of_decide_eq_true hs)))⟩
theorem F9 (s d:Nat) (ho:o.op=.move (.tmp s)∨o.op=.assign (.tmp s)) (hd:o.dst=some d) (hs:decide (s<n)=true) (hg:GX ops L n o.guard) (h:∀w v,(L s).on w v→(L d).on w v):PX P ops L n w0 o:=
 SN hg fun a w hw hl hsz=>⟨_,fun w'=>ACy a _ ho w',Da hd (h w _ (hl s (AAI ho) (of_decide_eq_true hs)))⟩
theorem Fw {c:Value} {d:Nat} (ho:o.op=.move (.const c)∨o.op=.assign (.const c)) (hd:o.dst=some d) (hg:GX ops L n o.guard) (h:∀w,(L d).on w c):OX P ops L n w0 o:=
 Fv hg fun a w hw hl hsz=>⟨_,ACy a _ ho w,Da hd (h w)⟩
theorem ACx {s i d:Nat} (ho:o.op=.extract (.tmp s) i) (hd:o.dst=some d) (hs:decide (s<n)=true) (hg:GX ops L n o.guard) (h:∀w u,(L s).on w u→∃vs v,u=.tuple vs∧vs[i]?=some v∧(L d).on w v):OX P ops L n w0 o:=
 Fv hg fun a w hw hl hsz=>by
  obtain⟨vs,v,h1,h2,h3⟩:=h w _ (hl s (by simp[Oper.looksAt,ho,Op.operands]) (of_decide_eq_true hs))
  exact⟨v,QO ho h1 h2 w,Da hd h3⟩
theorem HH {s i d:Nat} (ho:o.op=.extract (.tmp s) i) (hd:o.dst=some d) (hs:decide (s<n)=true) (hg:GX ops L n o.guard) (h:∀w u,(L s).on w u→∃vs v,u=.tuple vs∧vs[i]?=some v∧(L d).on w v):PX P ops L n w0 o:=
 SN hg fun a w hw hl hsz=>by
  obtain⟨vs,v,h1,h2,h3⟩:=h w _ (hl s (by simp[Oper.looksAt,ho,Op.operands]) (of_decide_eq_true hs))
  exact⟨v,fun w'=>QO ho h1 h2 w',Da hd h3⟩
theorem RU {T:TypeId} {x:Operand} {d:Nat} {p v:Value} (ho:o.op=.load T x) (hd:o.dst=some d) (hg:GX ops L n o.guard) (hx:OpX L n x p) (hr:∀w,w0.grownBy w none→(Instr.loadAt T p).run P w=.ok v w) (h:∀w,(L d).on w v):OX P ops L n w0 o:=
 Fv hg fun a w hw hl hsz=>⟨v,by
  have e1:=hx.eval (o:=o) (by simp[ho,Op.operands]) hl
  simp only[execOp,ho,e1,Sem.run_bind,Sem.run_pure,Result.andThen_ok,hr w hw],Da hd (h w)⟩
theorem AAF {ty:TypeId} {x:Operand} {k d:Nat} {p v:Value} (ho:o.op=.fieldAddr ty x k) (hd:o.dst=some d) (hg:GX ops L n o.guard) (hx:OpX L n x p) (hrun:∀w,(Instr.fieldAt ty p k).run P w=.ok v w) (h:∀w,(L d).on w v):OX P ops L n w0 o:=
 Fv hg fun a w hw hl hsz=>⟨v,by
  have e1:=hx.eval (o:=o) (by simp[ho,Op.operands]) hl
  simp only[execOp,ho,e1,Sem.run_bind,Sem.run_pure,Result.andThen_ok,hrun w],Da hd (h w)⟩
theorem Cf {ty:TypeId} {x y:Operand} {d:Nat} {p k v:Value} (ho:o.op=.indexAddr ty x y) (hd:o.dst=some d) (hg:GX ops L n o.guard) (hx:OpX L n x p) (hy:OpX L n y k) (hrun:∀w,(Instr.indexAt ty p k).run P w=.ok v w) (h:∀w,(L d).on w v):OX P ops L n w0 o:=
 Fv hg fun a w hw hl hsz=>⟨v,by
  have e1:=hx.eval (o:=o) (by simp[ho,Op.operands]) hl
  have e2:=hy.eval (o:=o) (by simp[ho,Op.operands]) hl
  simp only[execOp,ho,e1,e2,Sem.run_bind,Sem.run_pure,Result.andThen_ok,hrun w],Da hd (h w)⟩
theorem AER {b:BinOp} {ty ty2:TypeId} {x y:Operand} {vx vy v:Value} {a:Act} (ho:o.op=.binOp b ty x y ty2) (e1:a.eval x=vx) (e2:a.eval y=vy) {w:World} (h:(do eqGuard b ty x y vx vy;binOp b ty vx vy:Sem Value).run P w=.ok v w):(execOp a.eval o).run P w=.ok (.value v) w:=by
 simp only[execOp,ho,e1,e2]
 simp only[Sem.run_bind] at h ⊢
 rw[h]
 rfl
theorem Mp {b:BinOp} {ty ty2:TypeId} {x y:Operand} {vx vy v:Value} {d:Nat} (ho:o.op=.binOp b ty x y ty2) (hd:o.dst=some d) (hg:GX ops L n o.guard) (hx:OpX L n x vx) (hy:OpX L n y vy)
  (hrun:∀w,(do eqGuard b ty x y vx vy;binOp b ty vx vy:Sem Value).run P w=.ok v w) (h:∀w,(L d).on w v):OX P ops L n w0 o:=
 Fv hg fun a w hw hl hsz=>⟨v,AER ho (hx.eval (o:=o) (by simp[ho,Op.operands]) hl) (hy.eval (o:=o) (by simp[ho,Op.operands]) hl) (hrun w),Da hd (h w)⟩
theorem ACz {b:BinOp} {ty ty2:TypeId} {x y:Operand} {vx vy v:Value} {d:Nat} (ho:o.op=.binOp b ty x y ty2) (hd:o.dst=some d) (hg:GX ops L n o.guard) (hx:OpX L n x vx) (hy:OpX L n y vy)
  (hrun:∀w,(do eqGuard b ty x y vx vy;binOp b ty vx vy:Sem Value).run P w=.ok v w) (h:∀w,(L d).on w v):PX P ops L n w0 o:=
 SN hg fun a w hw hl hsz=>⟨v,fun w'=>AER ho (hx.eval (o:=o) (by simp[ho,Op.operands]) hl) (hy.eval (o:=o) (by simp[ho,Op.operands]) hl) (hrun w'),Da hd (h w)⟩
theorem I3 {b:UnOp} {ty:TypeId} {x:Operand} {vx v:Value} {d:Nat} (ho:o.op=.unOp b ty x) (hd:o.dst=some d) (hg:GX ops L n o.guard) (hx:OpX L n x vx) (hrun:∀w,(Op.unary b vx).run P w=.ok v w) (h:∀w,(L d).on w v):OX P ops L n w0 o:=
 Fv hg fun a w hw hl hsz=>⟨v,by
  have e1:=hx.eval (o:=o) (by simp[ho,Op.operands]) hl
  simp only[execOp,ho,e1,Sem.run_bind,Sem.run_pure,Result.andThen_ok,hrun w],Da hd (h w)⟩
theorem AJV {s t:TypeId} {x:Operand} {vx v:Value} {d:Nat} (ho:o.op=.convert s t x) (hd:o.dst=some d) (hg:GX ops L n o.guard) (hx:OpX L n x vx) (hrun:∀w,(convert s t vx).run P w=.ok v w) (h:∀w,(L d).on w v):OX P ops L n w0 o:=
 Fv hg fun a w hw hl hsz=>⟨v,by
  have e1:=hx.eval (o:=o) (by simp[ho,Op.operands]) hl
  simp only[execOp,ho,e1,Sem.run_bind,Sem.run_pure,Result.andThen_ok,hrun w],Da hd (h w)⟩
theorem E3 {x y z:Operand} {b:Bool} {v:Value} {d:Nat} (ho:o.op=.pick x y z) (hd:o.dst=some d) (hg:GX ops L n o.guard) (hx:OpX L n x (.bool b)) (hy:OpX L n (bif b then y else z) v) (h:∀w,(L d).on w v):OX P ops L n w0 o:=
 Fv hg fun a w hw hl hsz=>⟨v,by
  have e1:=hx.eval (o:=o) (by simp[ho,Op.operands]) hl
  cases b with
  | true =>
   have e2:=OpX.eval (o:=o) (ops:=ops) (x:=y) hy (by simp[ho,Op.operands]) hl
   simp[execOp,ho,e1,e2,asBool]
  | false =>
   have e2:=OpX.eval (o:=o) (ops:=ops) (x:=z) hy (by simp[ho,Op.operands]) hl
   simp[execOp,ho,e1,e2,asBool],Da hd (h w)⟩
theorem AAJ {ty:TypeId} {x y:Operand} {d:Nat} {p k v:Value} (ho:o.op=.indexAddr ty x y) (hd:o.dst=some d) (hg:GX ops L n o.guard) (hx:OpX L n x p) (hy:OpX L n y k) (hrun:∀w,(Instr.indexAt ty p k).run P w=.ok v w) (h:∀w,(L d).on w v):PX P ops L n w0 o:=
 SN hg fun a w hw hl hsz=>⟨v,fun w'=>by
  have e1:=hx.eval (o:=o) (by simp[ho,Op.operands]) hl
  have e2:=hy.eval (o:=o) (by simp[ho,Op.operands]) hl
  simp only[execOp,ho,e1,e2,Sem.run_bind,Sem.run_pure,Result.andThen_ok,hrun w'],Da hd (h w)⟩
theorem BG {T:TypeId} {parts:Array (Nat×Operand)} {vs:List Value} {v:Value} {d:Nat} (ho:o.op=.build T parts) (hd:o.dst=some d) (hg:GX ops L n o.guard) (hx:OpXs L n (parts.toList.map (·.2)) vs)
  (hrun:∀w,(Instr.build T ((parts.toList.map (·.1)).zip vs).toArray).run P w=.ok v w) (h:∀w,(L d).on w v):OX P ops L n w0 o:=
 Fv hg fun a w hw hl hsz=>⟨v,by
  have e1:=hx.eval (o:=o) (a:=a) (w:=w) (fun x hx=>by simp only[ho,Op.operands];simpa using hx) hl
  have e2:(parts.map fun(i,x)=>(i,a.eval x))=((parts.toList.map (·.1)).zip vs).toArray:=by
   rw[←e1]
   apply Array.ext'
   simp only[Array.toList_map,List.toList_toArray]
   generalize parts.toList=l
   induction l with
   | nil=>rfl
   | cons p l ih=>simp[ih]
  simp only[execOp,ho,Sem.run_bind,Sem.run_pure,Result.andThen_ok,e2,hrun w],Da hd (h w)⟩
theorem AJb {x:Operand} {t e:TypeId} (he:P.underlying t=some (.slice e)) (ho:o.op=.call { callee:=.builtin .len,args:=#[x],argTypes:=#[t] }) {a:Act} {ao:Option Addr} {m c:Nat} (hx:a.eval x=.slice ao m c) (w:World):(execOp a.eval o).run P w=.ok (.value (.int .i64 m)) w:=by
 simp only[execOp,ho,resolve,Sem.run_bind,Sem.run_pure,Result.andThen_ok,List.map_toArray,List.map_cons,List.map_nil,hx]
 simp[invoke,builtin,Builtin.len_,run_underlying he,goInt]
theorem BJ {x:Operand} {t e:TypeId} {d:Nat} {ao:Option Addr} {m c:Nat} (he:P.underlying t=some (.slice e)) (ho:o.op=.call { callee:=.builtin .len,args:=#[x],argTypes:=#[t] }) (hd:o.dst=some d) (hg:GX ops L n o.guard) (hx:OpX L n x (.slice ao m c)) (h:∀w,(L d).on w (.int .i64 m)):OX P ops L n w0 o:=
 Fv hg fun a w hw hl hsz=>⟨_,AJb he ho (hx.eval (o:=o) (by simp[ho,Op.operands,Call.operands]) hl) w,Da hd (h w)⟩
theorem AEQ (S:Sp) (av:List Value) {f d:Nat} {args:Array Operand} {tys:Array TypeId} (ho:o.op=.call { callee:=.value (.func f),args:=args,argTypes:=tys }) (hd:o.dst=some d) (hg:GX ops L n o.guard)
  (hρ:OpXs L n args.toList av) (hc:∀w,w0.grownBy w none→Calls P f av.toArray w fun e w'=>∃v,e=.returned v∧w.grownBy w' none∧S.on w' v) (h:∀w v,S.on w v→(L d).on w v)
  (hrun:∀(av:Array Value) w,((Deferred.ofValue (.func (.func f) #[] #[]) av).run P w).andThen (fun a w'=>(invoke a.target a.args).run P w')=.ok (.enter f av) w):OX P ops L n w0 o:=by
 intro a w hw hl hsz
 unfold OpSays
 rw[if_pos (hg.wanted hl hsz)]
 have hargs:args.map a.eval=av.toArray:=by
  have:=hρ.eval (o:=o) (a:=a) (w:=w) (fun x hx=>by simp only[ho,Op.operands,Call.operands];simp at hx;simp;exact .inr hx) hl
  rw[←this]
  apply Array.ext'
  simp
 have hr:(execOp a.eval o).run P w=.ok (.enter f av.toArray) w:=by
  simp only[execOp,ho,resolve,Act.eval,Sem.run_bind]
  have h1:=hrun (args.map a.eval) w
  rw[hargs] at h1
  first
   | exact h1
   | (rw[hargs];exact h1)
 rw[hr]
 exact(hc w hw).mono fun e w' ⟨v,he,hg',hs⟩=>⟨v,he,hg',Da hd (h w' v hs)⟩
def ArgsOn (L:Nat→Sp) (w:World):List Operand→List Value→Prop
 | [],[]=>True
 | .tmp t::l,v::vs=>(L t).on w v∧ArgsOn L w l vs
 | .const c::l,v::vs=>v=c∧ArgsOn L w l vs
 | _,_=>False
theorem ArgsOn.of {a:Act} {w:World} (hl:∀t∈o.looksAt ops,t<n→(L t).on w (a.tmps.getD t undef)):∀{l:List Operand},(l.all fun x=>match x with|.tmp t=>decide (t<n)|.const _=>true|_=>false)=true→(∀x∈l,x∈o.op.operands.toList)→ArgsOn L w l (l.map a.eval)
 | [],_,_=>trivial
 | x::l,hn,hx=>by
  rw[List.all_cons,Bool.and_eq_true] at hn
  have ih:=ArgsOn.of hl hn.2 fun y hy=>hx y (List.mem_cons_of_mem _ hy)
  cases x with
  | tmp t=>exact⟨hl t (by simp only[Oper.looksAt,List.mem_append,List.mem_filterMap];exact .inl ⟨.tmp t,by simpa using hx (.tmp t) List.mem_cons_self,rfl⟩) (of_decide_eq_true hn.1),ih⟩
  | const c=>exact⟨rfl,ih⟩
  | global g=>exact absurd hn.1 (by simp)
  | func f=>exact absurd hn.1 (by simp)
theorem AAK (S:Sp) {f d:Nat} {args:Array Operand} {tys:Array TypeId} (ho:o.op=.call { callee:=.value (.func f),args:=args,argTypes:=tys }) (hd:o.dst=some d) (hg:GX ops L n o.guard)
  (hn:(args.toList.all fun x=>match x with|.tmp t=>decide (t<n)|.const _=>true|_=>false)=true)
  (hc:∀w,w0.grownBy w none→∀av,ArgsOn L w args.toList av→Calls P f av.toArray w fun e w'=>∃v,e=.returned v∧w.grownBy w' none∧S.on w' v) (h:∀w v,S.on w v→(L d).on w v)
  (hrun:∀(av:Array Value) w,((Deferred.ofValue (.func (.func f) #[] #[]) av).run P w).andThen (fun a w'=>(invoke a.target a.args).run P w')=.ok (.enter f av) w):OX P ops L n w0 o:=by
 intro a w hw hl hsz
 unfold OpSays
 rw[if_pos (hg.wanted hl hsz)]
 have hargs:args.map a.eval=(args.toList.map a.eval).toArray:=by
  apply Array.ext';simp
 have hon:=ArgsOn.of (o:=o) (ops:=ops) (a:=a) (w:=w) hl hn (fun x hx=>by simp only[ho,Op.operands,Call.operands];simp at hx;simp;exact .inr hx)
 have hr:(execOp a.eval o).run P w=.ok (.enter f (args.toList.map a.eval).toArray) w:=by
  simp only[execOp,ho,resolve,Act.eval,Sem.run_bind]
  have h1:=hrun (args.map a.eval) w
  rw[hargs] at h1
  first
   | exact h1
   | (rw[hargs];exact h1)
 rw[hr]
 exact(hc w hw _ hon).mono fun e w' ⟨v,he,hg',hs⟩=>⟨v,he,hg',Da hd (h w' v hs)⟩
theorem Ju {T:TypeId} {d B:Nat} {Z:List Value} (hd:o.dst=some d) (hg:GX ops L n o.guard) (hB:B≤w0.heap.size)
  (hrun:∀(a:Act) w,(execOp a.eval o).run P w=.ok (.value (.pointer (some ⟨w.heap.size,0,none⟩))) (w.alloc (.cells Z.toArray T)))
  (h:∀w v,(Sp.new B Z T).on w v→(L d).on w v):OX P ops L n w0 o:=by
 intro a w hw hl hs
 unfold OpSays
 rw[if_pos (hg.wanted hl hs),hrun a w]
 exact⟨World.grownBy_alloc _ _ _,Da hd (h _ _ ⟨_,rfl,Nat.le_trans hB hw.size,Ak rfl⟩)⟩
end
section
variable {P:Program} {k:IntKind} {a b:Int} {t:TypeId} {x y:Operand} {w:World}
theorem BR {r:Bool} (h:decide (a<b)=r):(do eqGuard .lss t x y (.int k a) (.int k b);binOp .lss t (.int k a) (.int k b):Sem Value).run P w=.ok (.bool r) w:=by subst h;simp[eqGuard,binOp_lss]
theorem Jv {r:Bool} (h:decide (a≤b)=r):(do eqGuard .leq t x y (.int k a) (.int k b);binOp .leq t (.int k a) (.int k b):Sem Value).run P w=.ok (.bool r) w:=by subst h;simp[eqGuard,binOp_leq]
theorem C3 {r:Bool} (h:decide (b<a)=r):(do eqGuard .gtr t x y (.int k a) (.int k b);binOp .gtr t (.int k a) (.int k b):Sem Value).run P w=.ok (.bool r) w:=by subst h;simp[eqGuard,binOp_gtr]
theorem Dp {r:Bool} (h:decide (b≤a)=r):(do eqGuard .geq t x y (.int k a) (.int k b);binOp .geq t (.int k a) (.int k b):Sem Value).run P w=.ok (.bool r) w:=by subst h;simp[eqGuard,binOp_geq]
theorem BM {r:Bool} (h:(a == b)=r):(do eqGuard .eql t x y (.int k a) (.int k b);binOp .eql t (.int k a) (.int k b):Sem Value).run P w=.ok (.bool r) w:=by subst h;simp[eqGuard,binOp_eql]
theorem Dy {r:Bool} (h:(a != b)=r):(do eqGuard .neq t x y (.int k a) (.int k b);binOp .neq t (.int k a) (.int k b):Sem Value).run P w=.ok (.bool r) w:=by subst h;simp[eqGuard,binOp_neq]
theorem Bf {r:Bool}:(Op.unary .not (.bool r)).run P w=.ok (.bool !r) w:=rfl
theorem Dd {c:Int} (h:k.wrap (a+b)=c):(do eqGuard .add t x y (.int k a) (.int k b);binOp .add t (.int k a) (.int k b):Sem Value).run P w=.ok (.int k c) w:=by subst h;simp[eqGuard,binOp_add,Op.intArith]
theorem GY {c:Int} (h:k.wrap (a-b)=c):(do eqGuard .sub t x y (.int k a) (.int k b);binOp .sub t (.int k a) (.int k b):Sem Value).run P w=.ok (.int k c) w:=by subst h;simp[eqGuard,binOp_sub,Op.intArith]
theorem ALV {c:Int} (h:k.wrap (a*b)=c):(do eqGuard .mul t x y (.int k a) (.int k b);binOp .mul t (.int k a) (.int k b):Sem Value).run P w=.ok (.int k c) w:=by subst h;simp[eqGuard,binOp_mul,Op.intArith]
theorem BT {a:Int} (h1:-9223372036854775808≤a) (h2:a≤9223372036854775807):IntKind.i64.wrap a=a:=IntWalk.i64_in a (by omega)
end
end
section
open Go.RowKit
def AJW (K:List (Nat×Value)) (l:List Operand):Bool:=l.all (Nk K)
def AFa (K:List (Nat×Value)) (l:List Operand):List Value:=l.map (Nl K)
theorem Sv.evs {n:Nat} {D:List Deferred} {K:List (Nat×Value)} {a:Act} (h:Sv n D K a) {l:List Operand} (hl:AJW K l=true):l.map a.eval=AFa K l:=
 List.map_congr_left fun x hx=>h.ev (List.all_eq_true.1 hl x hx) rfl
theorem KnV.tm {a a':Act} (e:a.tmps=a'.tmps):∀{K:List (Nat×Value)},KnV a K→KnV a' K
 | [],_=>trivial
 | p::_,h=>⟨by rw[←e];exact h.1,KnV.tm e h.2⟩
section
variable {P:Program} {Q:Exit→Act→World→Prop} {ops:Array Oper} {rest:List Oper} {o:Oper} {a:Act} {w:World} {n:Nat} {D:List Deferred} {K:List (Nat×Value)}
theorem OH (sv:Sv n D K a) (hgd:o.guard=none) {d:Nat} {v:Value} {w':World} (hd:o.dst=some d) (hdn:decide (d<n)=true) (hr:(execOp a.eval o).run P w=.ok (.value v) w')
  (h:∀a',Sv n D ((d,v)::Ku d K) a'→wpList P ops Q rest a' w'):wpList P ops Q (o::rest) a w:=by
 refine wpList_plain hgd fun K' hK=>?_
 unfold Oper.wp
 rw[hr,Oper.upon_value,hd]
 exact hK _ _ (h _ (sv.put (of_decide_eq_true hdn) v))
theorem A9 (sv:Sv n D K a) (hgd:o.guard=none) {d:Nat} {T:TypeId} {Z:List Value} (hd:o.dst=some d) (hdn:decide (d<n)=true)
  (hr:∀(a:Act) (w:World),(execOp a.eval o).run P w=.ok (.value (.pointer (some ⟨w.heap.size,0,none⟩))) (w.alloc (.cells Z.toArray T)))
  (h:∀a' w' b,b=w.heap.size→w.grownBy w' none→w'.heap.size=b+1→w'.heap[b]?=some (.cells Z.toArray T (0,0))→Sv n D ((d,.pointer (some ⟨b,0,none⟩))::Ku d K) a'→wpList P ops Q rest a' w'):wpList P ops Q (o::rest) a w:=
 OH sv hgd hd hdn (hr a w) fun a' sv'=>h a' _ _ rfl (World.grownBy_alloc _ _ _) (by simp) (Ak rfl) sv'
theorem ALS (sv:Sv n D K a) (hgd:o.guard=none) {d:Nat} {T:TypeId} {x:Operand} {v:Value} {cs:List Value} (ho:o.op=.box T x) (hd:o.dst=some d) (hdn:decide (d<n)=true) (hx:Nk K x=true) (hv:Nl K x=v) (ty:TY P T cs v)
  (h:∀a' w' b,b=w.heap.size→w.grownBy w' none→w'.heap.size=b+1→w'.heap[b]?=some (.cells cs.toArray T (0,0))→Sv n D ((d,.pointer (some ⟨b,0,none⟩))::Ku d K) a'→wpList P ops Q rest a' w'):wpList P ops Q (o::rest) a w:=by
 refine OH (w':=w.alloc (.cells cs.toArray T)) sv hgd hd hdn ?_ fun a' sv'=>h a' _ _ rfl (World.grownBy_alloc _ _ _) (by simp) (Ak rfl) sv'
 have e:=sv.ev hx hv
 simp only[execOp,ho,e]
 simp[Instr.box,newVar,newRow,newObj,ty.cells,Result.andThen]
 rfl
theorem AJX (sv:Sv n D K a) (hgd:o.guard=none) {f d:Nat} {args:Array Operand} {tys:Array TypeId} {R:Value→World→Prop} (ho:o.op=.call { callee:=.value (.func f),args:=args,argTypes:=tys }) (hd:o.dst=some d) (hdn:decide (d<n)=true)
  (hx:AJW K args.toList=true) (hc:Calls P f (AFa K args.toList).toArray w fun e w'=>∃v,e=.returned v∧R v w')
  (hrun:∀(av:Array Value) w,((Deferred.ofValue (.func (.func f) #[] #[]) av).run P w).andThen (fun a w'=>(invoke a.target a.args).run P w')=.ok (.enter f av) w)
  (h:∀a' v w',R v w'→Sv n D ((d,v)::Ku d K) a'→wpList P ops Q rest a' w'):wpList P ops Q (o::rest) a w:=by
 refine wpList_plain hgd fun K' hK=>?_
 have e:=sv.evs hx
 have hargs:args.map a.eval=(AFa K args.toList).toArray:=by
  rw[←e];apply Array.ext';simp
 have hr:(execOp a.eval o).run P w=.ok (.enter f (AFa K args.toList).toArray) w:=by
  simp only[execOp,ho,resolve,Act.eval,Sem.run_bind]
  have h1:=hrun (args.map a.eval) w
  rw[hargs] at h1
  first
   | exact h1
   | (rw[hargs];exact h1)
 unfold Oper.wp
 rw[hr,Oper.upon_enter]
 refine hc.mono ?_
 rintro e w' ⟨v,rfl,hR⟩
 show K' (a.put o.dst v) w'
 rw[hd]
 exact hK _ _ (h _ v w' hR (sv.put (of_decide_eq_true hdn) v))
theorem Gh (sv:Sv n D K a) (hgd:o.guard=none) {dd:Deferred} (hd:o.dst=none) (hr:(execOp a.eval o).run P w=.ok (.defer dd) w) (h:∀a',Sv n (dd::D) K a'→wpList P ops Q rest a' w):wpList P ops Q (o::rest) a w:=by
 refine wpList_plain hgd fun K' hK=>?_
 unfold Oper.wp
 rw[hr,Oper.upon_defer,hd]
 refine hK _ _ (h _ ⟨sv.1,?_,?_⟩)
 · show dd::a.defers=dd::D
   rw[sv.2.1]
 · refine KnV.tm (a:=a) ?_ sv.2.2
   rfl
theorem AFY (sv:Sv n D K a) (hgd:o.guard=none) {T:TypeId} {x y:Operand} (ho:o.op=.store T x y) (hd:o.dst=none) {b:Nat} {v:Value} (hx:Nk K x=true) (hxv:Nl K x=.pointer (some ⟨b,0,none⟩)) (hy:Nk K y=true) (hyv:Nl K y=v)
  {cs C:List Value} (ty:TY P T cs v) {t:TypeId} (hb:w.heap[b]?=some (.cells C.toArray t (0,0))) (hB:C.length=cs.length)
  (h:∀w',w.grownBy w' (some b)→w'.heap[b]?=some (.cells cs.toArray t (0,0))→wpList P ops Q rest a w'):wpList P ops Q (o::rest) a w:=by
 refine AY hgd T x y ho (sv.ev hx hxv) (sv.ev hy hyv) ty hb (by simpa using hB) fun w' g hb'=>?_
 have e:o.dst=none:=hd
 rw[e]
 exact h w' g hb'
theorem Kv {L:List (List Value)} {i:Nat} {B:List Value} (hi:L[i]?=some B):L.flatten=(L.take i).flatten++(B++(L.drop (i+1)).flatten):=by
 have hlt:=(List.getElem?_eq_some_iff.1 hi).1
 have hB:=(List.getElem?_eq_some_iff.1 hi).2
 conv=>lhs;rw[←List.take_append_drop i L,List.drop_eq_getElem_cons hlt,hB]
 simp
theorem AAL {L:List (List Value)} {i:Nat} {B cs:List Value} (hi:L[i]?=some B):(L.set i cs).flatten=(L.take i).flatten++(cs++(L.drop (i+1)).flatten):=by
 have hlt:=(List.getElem?_eq_some_iff.1 hi).1
 rw[Kv (B:=cs) (show(L.set i cs)[i]?=some cs by simp[hlt])]
 rw[List.take_set_of_le (Nat.le_refl _),List.drop_set_of_lt (Nat.lt_succ_self _)]
theorem BB {w:World} {b k:Nat} {L:List (List Value)} {i:Nat} {B:List Value} {t:TypeId} {fr:Nat×Nat} (h:w.heap[b]?=some (.cells L.flatten.toArray t fr)) (hi:L[i]?=some B) (hk:(L.take i).flatten.length=k):w.rangeAt b k B:=by
 intro j v hj
 rw[AOS _ _ _ _ _ _ h,Kv hi]
 subst hk
 have hjl:=(List.getElem?_eq_some_iff.1 hj).1
 simp only[List.getElem?_toArray]
 rw[List.getElem?_append_right (Nat.le_add_right _ _),Nat.add_sub_cancel_left,List.getElem?_append_left hjl]
 exact hj
theorem AFZ {L:List (List Value)} {i:Nat} (sv:Sv n D K a) (hgd:o.guard=none) {T:TypeId} {x y:Operand} (ho:o.op=.store T x y) (hd:o.dst=none) {b k:Nat} {v:Value} (hx:Nk K x=true) (hxv:Nl K x=.pointer (some ⟨b,k,none⟩)) (hy:Nk K y=true) (hyv:Nl K y=v)
  {cs B:List Value} (ty:TY P T cs v) {t:TypeId} (hb:w.heap[b]?=some (.cells L.flatten.toArray t (0,0))) (hi:L[i]?=some B) (hk:(L.take i).flatten.length=k) (hB:B.length=cs.length)
  (h:∀w',w.grownBy w' (some b)→w'.heap[b]?=some (.cells (L.set i cs).flatten.toArray t (0,0))→wpList P ops Q rest a w'):wpList P ops Q (o::rest) a w:=by
 rw[Kv hi] at hb
 refine Oo sv hgd ho hd hx hxv hy hyv ty hb hk hB fun w' g hb'=>h w' g ?_
 rw[AAL hi]
 exact hb'
theorem AD (h:Q .normal a w):wpList P ops Q [] a w:=h
theorem AM {K':Act→World→Prop} (h:Q .ret a w):Exit.then K' Q .ret a w:=h
theorem CA {K':Act→World→Prop} {j:Nat} (h:Q (.exit j) a w):Exit.then K' Q (.exit j) a w:=h
theorem AMU {id:Nat} (h:Q .normal a w):Exit.inBlock id Q (.exit id) a w:=by
 show(if id=id then Q .normal a w else Q (.exit id) a w)
 rw[if_pos rfl];exact h
theorem Am {c:Operand} {x y:Code} (sv:Sv n D K a) (hx:Nk K c=true) (hv:Nl K c=.bool true) (h:x.wp P Q a w):(Code.cond c x y).wp P Q a w:=wp_cond_true (sv.ev hx hv) h
theorem Au {c:Operand} {x y:Code} (sv:Sv n D K a) (hx:Nk K c=true) (hv:Nl K c=.bool false) (h:y.wp P Q a w):(Code.cond c x y).wp P Q a w:=wp_cond_false (sv.ev hx hv) h
theorem BH {id:Nat} {c:Code} (h:∀Q':Exit→Act→World→Prop,(∀a w,Q .normal a w→Q' (.exit id) a w)→(∀a w,Q .normal a w→Q' .normal a w)→(∀a w,Q .ret a w→Q' .ret a w)→(∀j,Nat.beq j id=false→∀a w,Q (.exit j) a w→Q' (.exit j) a w)→c.wp P Q' a w):(Code.block id c).wp P Q a w:=
 wp_block (h _ (fun _ _ h=>AMU h) (fun _ _ h=>h) (fun _ _ h=>h) (fun j hj a w h=>by
  show(if j=id then Q .normal a w else Q (.exit j) a w)
  rw[if_neg (fun e=>by subst e;rw[Nat.beq_refl] at hj;cases hj)]
  exact h))
theorem BV {f n:Nat} {fn:Func} {c:Code} {args:List Value} {R:Ending→World→Prop} (hf:P.funcs[f]?=some fn) (hb:fn.body=some c) (hn:fn.ntmps=n) (hl:decide (args.length≤n)=true)
   (h:∀a,Sv n [] ((List.range args.length).zip args) a→c.wp P (bodyPost P fn R) a w):Calls P f args.toArray w R:=by
 refine calls_of_wp hf hb (h _ ⟨?_,rfl,?_⟩)
 · have:=of_decide_eq_true hl
   simp[hn];omega
 · have key:∀(l FM post:List Value),KnV ⟨(FM++l++post).toArray,[]⟩ ((List.range' FM.length l.length).zip l):=by
    intro l
    induction l with
    | nil=>intro FM post;exact trivial
    | cons x l ih =>
     intro FM post
     rw[List.length_cons,List.range'_succ]
     refine⟨?_,?_⟩
     · simp
     · have:=ih (FM++[x]) post
       simpa [List.zip] using this
   have:=key args [] (List.replicate (fn.ntmps-args.toArray.size) undef)
   rw[List.range_eq_range']
   have e:((args.toArray++Array.replicate (fn.ntmps-args.toArray.size) undef):Array Value)=([]++args++List.replicate (fn.ntmps-args.toArray.size) undef).toArray:=by
    apply Array.ext';simp
   rw[e];exact this
theorem FY {f n:Nat} {fn:Func} {c:Code} {args:List Value} {R:Ending→World→Prop} (hf:P.funcs[f]?=some fn) (hb:fn.body=some c) (hn:fn.ntmps=n) (hl:decide (args.length≤n)=true)
   (h:∀a,Sv n [] ((List.range args.length).zip args) a→c.wp P (bodyPostD P fn R) a w):Calls P f args.toArray w R:=by
 refine calls_of_wp_defers hf hb (h _ ⟨?_,rfl,?_⟩)
 · have:=of_decide_eq_true hl
   simp[hn];omega
 · have key:∀(l FM post:List Value),KnV ⟨(FM++l++post).toArray,[]⟩ ((List.range' FM.length l.length).zip l):=by
    intro l
    induction l with
    | nil=>intro FM post;exact trivial
    | cons x l ih =>
     intro FM post
     rw[List.length_cons,List.range'_succ]
     refine⟨?_,?_⟩
     · simp
     · have:=ih (FM++[x]) post
       simpa [List.zip] using this
   have:=key args [] (List.replicate (fn.ntmps-args.toArray.size) undef)
   rw[List.range_eq_range']
   have e:((args.toArray++Array.replicate (fn.ntmps-args.toArray.size) undef):Array Value)=([]++args++List.replicate (fn.ntmps-args.toArray.size) undef).toArray:=by
    apply Array.ext';simp
   rw[e];exact this
theorem BK {fn:Func} {p:Tmp} (hr:fn.results=#[.tmp p]) (sv:Sv n D K a) {v:Value} (hx:Qr K p=true) (hv:lkV K p=v):(results fn a.tmps).run P w=.ok v w:=by
 have e:=sv.2.2.at hx
 rw[hv] at e
 have e':a.tmps[p]?.getD undef=v:=by rw[←e,Array.getD_eq_getD_getElem?]
 simp[results,hr,e']
theorem Ou {fn:Func} {p q:Tmp} (hr:fn.results=#[.tmp p,.tmp q]) (sv:Sv n D K a) {u v:Value} (hp:Qr K p=true) (hq:Qr K q=true) (hu:lkV K p=u) (hv:lkV K q=v):(results fn a.tmps).run P w=.ok (.tuple #[u,v]) w:=by
 have e1:=sv.2.2.at hp
 have e2:=sv.2.2.at hq
 rw[hu] at e1
 rw[hv] at e2
 have e1':a.tmps[p]?.getD undef=u:=by rw[←e1,Array.getD_eq_getD_getElem?]
 have e2':a.tmps[q]?.getD undef=v:=by rw[←e2,Array.getD_eq_getD_getElem?]
 simp[results,hr,e1',e2']
theorem EE {fn:Func} {p:Tmp} {T:TypeId} (hr:fn.results=#[.cell p T]) (sv:Sv n D K a) {b:Nat} {cs:List Value} {v:Value} {u:TypeId} {fr:Nat×Nat} (hx:Qr K p=true) (hp:lkV K p=.pointer (some ⟨b,0,none⟩)) (t:TY P T cs v) (hb:w.heap[b]?=some (.cells cs.toArray u fr)):(results fn a.tmps).run P w=.ok v w:=by
 have e1:=sv.2.2.at hx
 rw[hp] at e1
 have e:=t.load w b 0 (Av hb)
 have e1':a.tmps[p]?.getD undef=.pointer (some ⟨b,0,none⟩):=by rw[←e1,Array.getD_eq_getD_getElem?]
 simp[results,hr,e1',asAddr,e]
theorem CR {fn:Func} {p q:Tmp} {T S:TypeId} (hr:fn.results=#[.cell p T,.cell q S]) (sv:Sv n D K a) {b c:Nat} {cs ds:List Value} {v u:Value} {t1 t2:TypeId} {fr1 fr2:Nat×Nat} (hx:Qr K p=true) (hp:lkV K p=.pointer (some ⟨b,0,none⟩)) (hy:Qr K q=true) (hq:lkV K q=.pointer (some ⟨c,0,none⟩))
  (t:TY P T cs v) (s:TY P S ds u) (hb:w.heap[b]?=some (.cells cs.toArray t1 fr1)) (hc:w.heap[c]?=some (.cells ds.toArray t2 fr2)):(results fn a.tmps).run P w=.ok (.tuple #[v,u]) w:=by
 have e1:=sv.2.2.at hx
 rw[hp] at e1
 have e2:=sv.2.2.at hy
 rw[hq] at e2
 have e:=t.load w b 0 (Av hb)
 have e3:=s.load w c 0 (Av hc)
 have e1':a.tmps[p]?.getD undef=.pointer (some ⟨b,0,none⟩):=by rw[←e1,Array.getD_eq_getD_getElem?]
 have e2':a.tmps[q]?.getD undef=.pointer (some ⟨c,0,none⟩):=by rw[←e2,Array.getD_eq_getD_getElem?]
 simp[results,hr,e1',e2',asAddr,e,e3]
theorem Ap {fn:Func} {R:Ending→World→Prop} (sv:Sv n [] K a) {v:Value} (hr:(results fn a.tmps).run P w=.ok v w) (hR:R (.returned v) w):bodyPost P fn R .ret a w:=⟨sv.2.1,v,hr,hR⟩
theorem Bz {fn:Func} {R:Ending→World→Prop} {fv:Fn} {cap:Array Value} {f:Nat} {args:Array Value} (sv:Sv n [{ target:=.fn fv cap,args:=#[] }] K a) {v:Value} (hr:(results fn a.tmps).run P w=.ok v w)
  (hi:(invoke (.fn fv cap) #[]).run P w=.ok (.enter f args) w) (hc:CallsD P f args .returning w fun e u' w'=>e=.returned (.tuple #[])∧u'=.returning∧w'=w) (hR:R (.returned v) w):Leaves P fn a.tmps R a.defers .returning w:=by
 rw[sv.2.1]
 refine⟨by simp,fv,cap,f,args,rfl,hi,fun c cs hu=>?_⟩
 obtain⟨e,u',w',fr,⟨rfl,rfl,rfl⟩,h2⟩:=hc c cs hu
 exact⟨.returned (.tuple #[]),.returning,w',fr,⟨v,hr,hR⟩,h2⟩
end
end
end Go.Proofs.YtbfjfnbcmojpiaaGreat
