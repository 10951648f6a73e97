import Derived.Test.YtbfjfnbcmojpiaaGreatAlMK1
import Derived.OrdersHeld
import Derived.Deep.RegionHeld
set_option linter.unusedSimpArgs false
set_option linter.unusedVariables false
namespace Go.Proofs.YtbfjfnbcmojpiaaGreat
section
open Go.RowKit
def XR (ops:Array Oper) (k:Nat):Bool:=
 decide (k<ops.size)&&Region.sinkB .any ops k&&Region.chainB .any ops k&&Region.seqB .any ops (ops.size-k) k ((List.range ops.size).map fun i=>decide (i<k)).toArray
section
variable {P:Program} {Q:Exit→Act→World→Prop} {ops:Array Oper}
def Lays (P:Program) (o:Oper):Prop:=o.guard=none∧∃(Z:Array Value) (T:TypeId),∀(a:Act) w,(execOp a.eval o).run P w=.ok (.value (.pointer (some ⟨w.heap.size,0,none⟩))) (w.alloc (.cells Z T))
theorem Lays.says {o:Oper} (h:Lays P o) {a:Act} {w:World} {R:Value→World→Prop} (hs:OpSays P ops o a w R):OpSays P ops o a w fun v w'=>R v w'∧v=.pointer (some ⟨w.heap.size,0,none⟩):=by
 obtain⟨hg,Z,T,hr⟩:=h
 have hw:Region.wanted o (yielded ops a.tmps)=true:=by simp[Region.wanted,hg]
 unfold OpSays at hs ⊢
 rw[if_pos hw,hr a w] at hs
 rw[if_pos hw,hr a w]
 exact⟨hs,rfl⟩
theorem OpSays.mono {o:Oper} {a:Act} {w:World} {R R':Value→World→Prop} (h:OpSays P ops o a w R) (hR:∀v w',R v w'→R' v w'):OpSays P ops o a w R':=by
 unfold OpSays at h ⊢
 split
 · rename_i hw
   rw[if_pos hw] at h
   generalize (execOp a.eval o).run P w=r at *
   cases r with
   | ok n w' =>
    cases n<;>simp only at h ⊢
    all_goals first
     | exact h.elim
     | exact hR _ _ h
     | exact h.mono fun e w'' ⟨v,he,hr⟩=>⟨v,he,hR _ _ hr⟩
   | halt x w'=>exact h.elim
 · rename_i hw
   rw[if_neg hw] at h
   exact hR _ _ h
def Lst (ops:Array Oper) (k:Nat) (listed:Array Bool) (t:Nat):Prop:=∃(i:Nat) (o:Oper),i<k∧ops[i]?=some o∧o.dst=some t∧listed.getD i false=true
theorem AD3 {a0:Act} {w0:World} {l:List Oper} (hl:ops=l.toArray) (n k:Nat) (L:List Sp) (hn:a0.tmps.size=n) (hB:Wt ops n=true) (hT:XR ops k=true)
   (al:List Nat) (hal:∀t∈al,t<n∧(∀w u,At L t w u→∃A,u=.pointer (some ⟨A,0,none⟩)∧A<w.heap.size)∧∃(i:Nat) (o:Oper),i<k∧ops[i]?=some o∧o.dst=some t)
   (hrun:∀(i:Nat) (o:Oper),i<k→ops[i]?=some o→∀d∈al,o.dst=some d→Lays P o)
   (h0:∀t,t<n→(∀(i:Nat) (o:Oper),i<k→ops[i]?=some o→o.dst≠some t)→At L t w0 (a0.tmps.getD t undef))
   (ob:∀(i:Nat) (o:Oper),i<k→ops[i]?=some o→∀a w,w0.grownBy w none→(∀t∈o.looksAt ops,t<n→At L t w (a.tmps.getD t undef))→a.tmps.size=n →
     OpSays P ops o a w fun v w'=>w.grownBy w' none∧∀d,o.dst=some d→At L d w' v)
   (hQ:∀a w,w0.grownBy w none→a.defers=a0.defers→a.tmps.size=n→(∀t,t<n→At L t w (a.tmps.getD t undef))→(∀t∈al,∀u∈al,t≠u→a.tmps.getD t undef≠a.tmps.getD u undef)→wpList P ops Q (l.drop k) a w) :
   wpAny P .any ops Q ops.size (Array.replicate ops.size false) a0 { w0 with drawn:=w0.drawn+1 }:=by
 unfold XR at hT
 simp only[Bool.and_eq_true,decide_eq_true_eq] at hT
 obtain⟨⟨⟨hk,hs⟩,hc⟩,hseq⟩:=hT
 have key:∀(f:Nat) (listed:Array Bool) (a:Act) (w:World),HeadInv .any ops k listed→(∃l:List Nat,l.Nodup∧l.length=f∧∀i,i∈l↔i<k∧listed.getD i true=false) →
     w0.grownBy w none→a.defers=a0.defers→a.tmps.size=n →
     (∀t,t<n→((∀(i:Nat) (o:Oper),i<k→ops[i]?=some o→o.dst≠some t)∨Lst ops k listed t)→At L t w (a.tmps.getD t undef)) →
     (∀t∈al,∀u∈al,t≠u→Lst ops k listed t→Lst ops k listed u→a.tmps.getD t undef≠a.tmps.getD u undef) →
     wpAny P .any ops Q (f+(ops.size-k)) listed a w:=by
   intro f
   induction f with
   | zero =>
     intro listed a w inv hf hg hd has hkn hdi
     obtain⟨u,hu1,hu2,hu3⟩:=hf
     obtain rfl:=List.eq_nil_of_length_eq_zero hu2
     have all:∀i,i<k→listed.getD i false=true:=fun i hi=>by
       cases h:listed.getD i false with
       | true=>rfl
       | false =>
         have h1:=getD_in (by rw[inv.size];omega) h
         have h2:=(hu3 i).2 ⟨hi,h1⟩
         cases h2
     have he:listed=((List.range ops.size).map fun i=>decide (i<k)).toArray:=by
       apply Array.ext
       · simp[inv.size]
       · intro i h1 h2
         have hi:i<ops.size:=by rw[←inv.size];exact h1
         simp only[List.getElem_toArray,List.getElem_map,List.getElem_range]
         by_cases hik:i<k
         · have:=all i hik
           simp[h1] at this
           simp[hik,this]
         · have:=inv.tail i (by omega) hi
           simp[h1] at this
           simp[hik,this]
     rw[Nat.zero_add]
     have hdl:(l.drop k).length=ops.size-k:=by rw[hl];simp
     have hq:=hQ a w hg hd has (fun t ht=>hkn t ht (by
       by_cases hex:∃(j:Nat) (oj:Oper),j<k∧ops[j]?=some oj∧oj.dst=some t
       · obtain⟨j,oj,hj,hjo,hdj⟩:=hex
         exact .inr ⟨j,oj,hj,hjo,hdj,all j hj⟩
       · exact .inl fun j oj hj hjo hdj=>hex ⟨j,oj,hj,hjo,hdj⟩)) (fun t ht u hu htu=>hdi t ht u hu htu
         (by obtain⟨i,o,h1,h2,h3⟩:=(hal t ht).2.2;exact⟨i,o,h1,h2,h3,all i h1⟩) (by obtain⟨i,o,h1,h2,h3⟩:=(hal u hu).2.2;exact⟨i,o,h1,h2,h3,all i h1⟩))
     have:=wpAny_of_seq (md:=.any) (Q':=Q) (l.drop k) k listed a w (fun j=>by rw[hl];simp[List.getElem?_drop]) (by rw[hdl,he];exact hseq) hq
     rwa [hdl] at this
   | succ f ih =>
     intro listed a w inv hf hg hd has hkn hdi
     obtain⟨u,hu1,hu2,hu3⟩:=hf
     obtain⟨z,hz⟩:∃z,z∈u:=List.exists_mem_of_length_pos (by omega)
     have hz3:=(hu3 z).1 hz
     have hne:Region.ready .any ops listed≠[]:=by
       intro hr
       have allf:∀i,i<k→listed.getD i false=true:=by
         intro i
         induction i using Nat.strongRecOn with
         | _ i ih2 =>
           intro hi
           cases hli:listed.getD i false with
           | true=>rfl
           | false =>
             exfalso
             have hio:i<ops.size:=by omega
             have ho:ops[i]?=some ops[i]:=Array.getElem?_eq_getElem hio
             have:i∈Region.ready .any ops listed:=mem_ready.2 ⟨getD_in (by rw[inv.size];exact hio) hli,ops[i],ho,fun e he _=>by
               have:=(La hB ho).1 e (by simpa using he)
               exact ih2 e.on this (by omega)⟩
             rw[hr] at this
             cases this
       have h1:=allf z hz3.1
       have h2:=getD_both hz3.2
       rw[h1] at h2
       cases h2
     rw[show f+1+(ops.size-k)=(f+(ops.size-k))+1 by omega]
     refine⟨fun hr=>absurd hr hne,fun i hi=>?_⟩
     obtain⟨h1,o,ho,hready⟩:=mem_ready.1 hi
     have hik:i<k:=by
       rcases Nat.lt_or_ge i k with h|h
       · exact h
       · exact absurd hi (tail_waits hs hc hk inv _ z rfl hz3.1 hz3.2 i h)
     obtain⟨s1,s2,s3⟩:=La hB ho
     have hsay:=ob i o hik ho a w hg (fun t ht htn=>hkn t htn (by
       by_cases hex:∃(j:Nat) (oj:Oper),j<k∧ops[j]?=some oj∧oj.dst=some t
       · obtain⟨j,oj,hjz,hj,hdj⟩:=hex
         obtain⟨e,he,rfl,hb⟩:=(s3 j oj t hj hdj).2 ht
         exact .inr ⟨e.on,oj,hjz,hj,hdj,hready e (by simpa using he) hb⟩
       · exact .inl fun j oj hjz hj hdj=>hex ⟨j,oj,hjz,hj,hdj⟩)) has
     have hsay2:OpSays P ops o a w fun v w'=>(w.grownBy w' none∧∀d,o.dst=some d→At L d w' v)∧∀d∈al,o.dst=some d→v=.pointer (some ⟨w.heap.size,0,none⟩):=by
       by_cases hex:∃d∈al,o.dst=some d
       · obtain⟨d,hda,hdd⟩:=hex
         exact((hrun i o hik ho d hda hdd).says hsay).mono fun v w' h=>⟨h.1,fun _ _ _=>h.2⟩
       · exact hsay.mono fun v w' h=>⟨h,fun d hda hdd=>absurd ⟨d,hda,hdd⟩ hex⟩
     refine OpSays.wpOp ho hsay2 ?_
     · rintro v w' ⟨⟨hg',hv⟩,hva⟩
       have hlst:∀t,o.dst≠some t→Lst ops k (listed.setIfInBounds i true) t→Lst ops k listed t:=fun t hdt ⟨j,oj,hjz,hj,hdj,hlj⟩=>by
         refine⟨j,oj,hjz,hj,hdj,?_⟩
         have hne:i≠j:=fun e=>hdt (by subst e;rw[ho] at hj;obtain rfl:=Option.some.inj hj;exact hdj)
         rwa [getD_set_ne false hne] at hlj
       refine ih _ _ _ (inv.set hi hik) ⟨u.erase i,hu1.erase i,?_,fun j=>?_⟩ (AA hg hg') (by cases ho':o.dst<;>simp[Act.put,hd]) (by cases ho':o.dst<;>simp[Act.put,has]) ?_ ?_
       · rw[List.length_erase_of_mem ((hu3 i).2 ⟨hik,h1⟩),hu2];rfl
       · rw[hu1.mem_erase_iff,hu3 j]
         by_cases hji:j=i
         · subst hji
           constructor
           · rintro ⟨h,_⟩;exact absurd rfl h
           · rintro ⟨_,h⟩
             rw[Array.getD_eq_getD_getElem?,Array.getElem?_setIfInBounds_self_of_lt (by rw[inv.size];omega)] at h
             cases h
         · rw[getD_set_ne true (Ne.symm hji)]
           exact⟨fun h=>h.2,fun h=>⟨hji,h⟩⟩
       · intro t htn hor
         rw[Dn a o.dst v t (fun d hd=>has▸s2 d hd)]
         by_cases hdt:o.dst=some t
         · rw[if_pos hdt]
           exact hv t hdt
         · rw[if_neg hdt]
           exact(L.getD t Sp.any).mono _ _ _ hg' (hkn t htn (hor.elim .inl fun h=>.inr (hlst t hdt h)))
       · have old:∀t∈al,o.dst≠some t→Lst ops k (listed.setIfInBounds i true) t→∀d∈al,o.dst=some d→a.tmps.getD t undef≠v:=fun t ht hdt hl d hda hdd e=>by
           obtain⟨A,hA,hlt⟩:=(hal t ht).2.1 w _ (hkn t (hal t ht).1 (.inr (hlst t hdt hl)))
           rw[hA,hva d hda hdd] at e
           exact absurd e (by simp<;>omega)
         intro t ht x hx htx hlt hlx
         rw[Dn a o.dst v t (fun d hd=>has▸s2 d hd),Dn a o.dst v x (fun d hd=>has▸s2 d hd)]
         by_cases h1:o.dst=some t
         · rw[if_pos h1,if_neg (fun h=>htx (Option.some.inj (h1.symm.trans h)))]
           exact fun e=>old x hx (fun h=>htx (Option.some.inj (h1.symm.trans h))) hlx t ht h1 e.symm
         · rw[if_neg h1]
           by_cases h2:o.dst=some x
           · rw[if_pos h2];exact old t ht h1 hlt x hx h2
           · rw[if_neg h2];exact hdi t ht x hx htx (hlst t h1 hlt) (hlst x h2 hlx)
 have inv0:HeadInv .any ops k (Array.replicate ops.size false):=
   ⟨by simp,fun j oj _ hl=>(by rw[getD_replicate_false] at hl;cases hl),fun t _ ht=>getD_in (by simpa using ht) (getD_replicate_false _ _)⟩
 have:=key k (Array.replicate ops.size false) a0 { w0 with drawn:=w0.drawn+1 } inv0 ⟨List.range k,List.nodup_range,List.length_range,fun i=>by
   rw[List.mem_range]
   exact⟨fun h=>⟨h,getD_in (by simp;omega) (getD_replicate_false _ _)⟩,fun h=>h.1⟩⟩ (CR w0) rfl hn (fun t ht hor=>by
   refine(L.getD t Sp.any).mono w0 _ _ (CR w0) (h0 t ht ?_)
   rcases hor with h|⟨i,o,_,hi,_,hl⟩
   · exact h
   · rw[getD_replicate_false] at hl;cases hl) (fun t ht x hx htx ⟨i,o,_,hi,_,hl⟩=>by rw[getD_replicate_false] at hl;cases hl)
 rwa [show k+(ops.size-k)=ops.size by omega] at this
end
def mkL:List (Option Sp)→List Value→List Sp
 | some s::W,_::l=>s::mkL W l
 | none::W,v::l=>Sp.is v::mkL W l
 | _,_=>[]
def Hp (x:Nat→Value):Nat→List (Option Sp)→List Value→List Value
 | k,some _::W,_::l=>x k::Hp x (k+1) W l
 | k,none::W,v::l=>v::Hp x (k+1) W l
 | _,_,_=>[]
theorem N0 (x:Nat→Value):∀(k:Nat) (W:List (Option Sp)) (l:List Value),W.length=l.length→(Hp x k W l).length=l.length
 | _,[],[],_=>rfl
 | _,[],_::_,h=>by simp at h
 | _,_::_,[],h=>by simp at h
 | k,some _::W,_::l,h=>by simp only[Hp,List.length_cons];rw[N0 x (k+1) W l (by simpa using h)]
 | k,none::W,_::l,h=>by simp only[Hp,List.length_cons];rw[N0 x (k+1) W l (by simpa using h)]
theorem Qc:∀(W:List (Option Sp)) (l:List Value),W.length=l.length→∀t,t<l.length→(mkL W l).getD t Sp.any=match W.getD t none with|some s=>s|none=>Sp.is (l.getD t undef)
 | [],[],_,t,h=>by simp at h
 | [],_::_,h,_,_=>by simp at h
 | _::_,[],h,_,_=>by simp at h
 | some s::W,v::l,h,0,_=>by simp[mkL]
 | none::W,v::l,h,0,_=>by simp[mkL]
 | some s::W,v::l,h,t+1,ht=>by
  have:=Qc W l (by simpa using h) t (by simpa using ht)
  simp only[mkL,List.getD_cons_succ,this]
 | none::W,v::l,h,t+1,ht=>by
  have:=Qc W l (by simpa using h) t (by simpa using ht)
  simp only[mkL,List.getD_cons_succ,this]
theorem Qd (x:Nat→Value):∀(k:Nat) (W:List (Option Sp)) (l:List Value),W.length=l.length→∀t,t<l.length→(Hp x k W l).getD t undef=match W.getD t none with|some _=>x (k+t)|none=>l.getD t undef
 | _,[],[],_,t,h=>by simp at h
 | _,[],_::_,h,_,_=>by simp at h
 | _,_::_,[],h,_,_=>by simp at h
 | k,some s::W,v::l,h,0,_=>by simp[Hp]
 | k,none::W,v::l,h,0,_=>by simp[Hp]
 | k,some s::W,v::l,h,t+1,ht=>by
  have:=Qd x (k+1) W l (by simpa using h) t (by simpa using ht)
  simp only[Hp,List.getD_cons_succ,this]
  rw[show k+1+t=k+(t+1) by omega]
 | k,none::W,v::l,h,t+1,ht=>by
  have:=Qd x (k+1) W l (by simpa using h) t (by simpa using ht)
  simp only[Hp,List.getD_cons_succ,this]
  rw[show k+1+t=k+(t+1) by omega]
theorem XS {P:Program} {Q:Exit→Act→World→Prop} {l:List Oper} {l0:List Value} {ds:List Deferred} {w0:World} (n:Nat) (hn:l0.length=n) (k:Nat) (W:List (Option Sp))
   (hB:Wt l.toArray n=true) (hT:XR l.toArray k=true) (hW:W.map (·.isSome)=Wu (l.take k) n) (ob:ObAll P l.toArray (mkL W l0) n w0 (l.take k))
   (al:List Nat) (hal:(al.all fun t=>decide (t<n)&&(l.take k).any fun o=>o.dst == some t)=true) (hrun:∀(i:Nat) (o:Oper),(l.take k)[i]?=some o→∀d∈al,o.dst=some d→Lays P o)
   (hnew:∀t∈al,∃s,W.getD t none=some s∧∀w u,s.on w u→∃A,u=.pointer (some ⟨A,0,none⟩)∧A<w.heap.size)
   (hQ:∀(x:Nat→Value) w,w0.grownBy w none→(∀t s,W.getD t none=some s→t<n→s.on w (x t))→(∀t∈al,∀u∈al,t≠u→x t≠x u)→wpList P l.toArray Q (l.drop k) ⟨(Hp x 0 W l0).toArray,ds⟩ w) :
   wpAny P .any l.toArray Q l.toArray.size (Array.replicate l.toArray.size false) ⟨l0.toArray,ds⟩ { w0 with drawn:=w0.drawn+1 }:=by
 subst hn
 have hWl:W.length=l0.length:=by have:=congrArg List.length hW;simpa [Wu] using this
 have hal1:∀t∈al,t<l0.length∧∃(i:Nat) (o:Oper),(l.take k)[i]?=some o∧o.dst=some t:=fun t ht=>by
   have:=List.all_eq_true.1 hal t ht
   simp only[Bool.and_eq_true,decide_eq_true_eq,List.any_eq_true,beq_iff_eq] at this
   obtain⟨h1,o,ho,hd⟩:=this
   obtain⟨i,hi,rfl⟩:=List.getElem_of_mem ho
   exact⟨h1,i,_,List.getElem?_eq_getElem hi,hd⟩
 refine AD3 (l:=l) rfl l0.length k (mkL W l0) (by simp) hB hT al (fun t ht=>⟨(hal1 t ht).1,fun w u hu=>?_,?_⟩) (fun i o hik hi d hd hdd=>?_) (fun t ht hnd=>?_) (fun i o hik hi=>?_) (fun a w hg hd has hkn hdi=>?_)
 · obtain⟨s,hs1,hs2⟩:=hnew t ht
   unfold At at hu
   rw[Qc W l0 hWl t (hal1 t ht).1,hs1] at hu
   exact hs2 w u hu
 · obtain⟨i,o,hi,hd⟩:=(hal1 t ht).2
   have hil:=(List.getElem?_eq_some_iff.1 hi).1
   rw[List.length_take] at hil
   rw[List.getElem?_take,if_pos (by omega)] at hi
   exact⟨i,o,by omega,by simpa using hi,hd⟩
 · refine hrun i o ?_ d hd hdd
   have hi2:l[i]?=some o:=by simpa using hi
   rw[List.getElem?_take,if_pos hik];exact hi2
 · have e:(⟨l0.toArray,ds⟩:Act).tmps.getD t undef=l0.getD t undef:=by simp[List.getD_eq_getElem?_getD]
   rw[e]
   unfold At
   rw[Qc W l0 hWl t ht]
   cases hw:W.getD t none with
   | none=>rfl
   | some s =>
    exfalso
    have h1:(W.map (·.isSome)).getD t false=true:=by
     rw[List.getD_eq_getElem?_getD,List.getElem?_map]
     rw[List.getD_eq_getElem?_getD] at hw
     cases h2:W[t]? with
     | none=>rw[h2] at hw;cases hw
     | some y=>rw[h2] at hw;simp at hw;subst hw;rfl
    rw[hW] at h1
    simp only[Wu,List.getD_eq_getElem?_getD,List.getElem?_map,List.getElem?_range ht,Option.map_some,Option.getD_some,List.any_eq_true,beq_iff_eq] at h1
    obtain⟨o,ho,hd⟩:=h1
    obtain⟨i,hi,rfl⟩:=List.getElem_of_mem ho
    have hik:i<k:=by rw[List.length_take] at hi;omega
    have hil:i<l.length:=by rw[List.length_take] at hi;omega
    exact hnd i (l.take k)[i] hik (by simp[List.getElem_take,hil]) hd
 · refine ob.at i o ?_
   have hi2:l[i]?=some o:=by simpa using hi
   rw[List.getElem?_take,if_pos hik];exact hi2
 · have hk':∀t,t<l0.length→(match W.getD t none with|some s=>s.on w (a.tmps.getD t undef)|none=>a.tmps.getD t undef=l0.getD t undef):=fun t ht=>by
    have:=hkn t ht
    unfold At at this
    rw[Qc W l0 hWl t ht] at this
    revert this
    cases W.getD t none<;>exact fun h=>h
   have e:a=⟨(Hp (fun t=>a.tmps.getD t undef) 0 W l0).toArray,ds⟩:=by
    obtain⟨tm,df⟩:=a
    simp only at hd has hk' ⊢
    subst hd
    congr 1
    apply Array.ext'
    refine List.ext_getElem (by rw[N0 _ _ _ _ hWl];simpa using has) fun t h1 h2=>?_
    have h1':t<tm.size:=by simpa using h1
    have ht:t<l0.length:=by omega
    have h3:=Qd (fun t=>tm.getD t undef) 0 W l0 hWl t ht
    rw[Nat.zero_add] at h3
    have h4:=hk' t ht
    rw[List.getD_eq_getElem?_getD,List.getElem?_eq_getElem h2] at h3
    simp only[Option.getD_some] at h3
    rw[h3]
    cases hw:W.getD t none with
    | some s =>
     simp only[Array.getD_eq_getD_getElem?,Array.getElem?_eq_getElem h1',Option.getD_some,Array.getElem_toList]
    | none =>
     rw[hw] at h4
     simp only at h4 ⊢
     rw[←h4]
     simp only[Array.getD_eq_getD_getElem?,Array.getElem?_eq_getElem h1',Option.getD_some,Array.getElem_toList]
   rw[e]
   refine hQ _ w hg (fun t s hs ht=>?_) hdi
   have:=hk' t ht
   rw[hs] at this
   exact this
theorem XP {P:Program} {Q:Exit→Act→World→Prop} {id:Nat} {l:List Oper} {l0:List Value} {ds:List Deferred} {w0:World} (hm:P.follows .mixedOrders=true) (n:Nat) (hn:l0.length=n) (k:Nat) (W:List (Option Sp))
  (hB:Wt l.toArray n=true) (hT:XR l.toArray k=true) (hW:W.map (·.isSome)=Wu (l.take k) n) (ob:ObAll P l.toArray (mkL W l0) n w0 (l.take k))
  (al:List Nat) (hal:(al.all fun t=>decide (t<n)&&(l.take k).any fun o=>o.dst == some t)=true) (hrun:∀(i:Nat) (o:Oper),(l.take k)[i]?=some o→∀d∈al,o.dst=some d→Lays P o)
  (hnew:∀t∈al,∃s,W.getD t none=some s∧∀w u,s.on w u→∃A,u=.pointer (some ⟨A,0,none⟩)∧A<w.heap.size)
  (hQ:∀(x:Nat→Value) w,w0.grownBy w none→(∀t s,W.getD t none=some s→t<n→s.on w (x t))→(∀t∈al,∀u∈al,t≠u→x t≠x u)→wpList P l.toArray Q (l.drop k) ⟨(Hp x 0 W l0).toArray,ds⟩ w) :
  (Code.region id l.toArray true).wp P Q ⟨l0.toArray,ds⟩ w0:=
 wp_region_any hm (XS n hn k W hB hT hW ob al hal hrun hnew hQ)
def Sp.new (B:Nat) (Z:List Value) (T:TypeId):Sp:=⟨fun w v=>∃A,v=.pointer (some ⟨A,0,none⟩)∧B≤A∧w.heap[A]?=some (.cells Z.toArray T (0,0)),fun _ _ _ hg ⟨A,h1,h2,h3⟩=>⟨A,h1,h2,AF hg h3 (by simp)⟩⟩
theorem XQ {P:Program} {ops:Array Oper} {L:List Sp} {n:Nat} {w0:World} {o:Oper} {T:TypeId} {d B:Nat} {Z:List Value} (hd:o.dst=some d) (hg:GOK ops L n o.guard) (hB:B≤w0.heap.size)
  (hrun:∀(a:Act) w,(execOp a.eval o).run P w=.ok (.value (.pointer (some ⟨w.heap.size,0,none⟩))) (w.alloc (.cells Z.toArray T)))
  (hv:∀w v,(Sp.new B Z T).on w v→At L d w v):Ob P ops L n w0 o:=by
 intro a w hw hl hs
 unfold OpSays
 rw[if_pos (hg.wanted hl hs),hrun a w]
 refine⟨World.grownBy_alloc _ _ _,fun d' hd'=>?_⟩
 rw[hd] at hd'
 obtain rfl:=Option.some.inj hd'
 exact hv _ _ ⟨_,rfl,Nat.le_trans hB hw.size,Ah rfl⟩
theorem Ks {P:Program} {ops:Array Oper} {L:List Sp} {n:Nat} {w0:World} {o:Oper} {T:TypeId} {x:Operand} {d:Nat} {p v:Value} (ho:o.op=.load T x) (hd:o.dst=some d) (hg:GOK ops L n o.guard) (hx:OpdIs L n x p)
   (hr:∀w,w0.grownBy w none→(Instr.loadAt T p).run P w=.ok v w) (hv:∀w,At L d w v):Ob P ops L n w0 o:=by
 refine AIS hg fun a w hw hl hsz=>⟨v,?_,fun d' hd'=>?_⟩
 · have e1:=hx.eval (o:=o) (by simp[ho,Op.operands]) hl
   simp only[execOp,ho,e1,Sem.run_bind,Sem.run_pure,Result.andThen_ok,hr w hw]
 · rw[hd] at hd'
   obtain rfl:=Option.some.inj hd'
   exact hv w
theorem Sp.new_lt {B:Nat} {Z:List Value} {T:TypeId} (w:World) (u:Value) (h:(Sp.new B Z T).on w u):∃A,u=.pointer (some ⟨A,0,none⟩)∧A<w.heap.size:=by
 obtain⟨A,h1,_,h3⟩:=h
 refine⟨A,h1,?_⟩
 rcases Nat.lt_or_ge A w.heap.size with h|h
 · exact h
 · rw[Array.getElem?_eq_none h] at h3;cases h3
def LaysAll (P:Program) (al:List Nat):List Oper→Prop
 | []=>True
 | o::l=>((match o.dst with|none=>false|some d=>al.contains d)=false∨Lays P o)∧LaysAll P al l
theorem LaysAll.at {P:Program} {al:List Nat} {l:List Oper} (h:LaysAll P al l):∀(i:Nat) (o:Oper),l[i]?=some o→∀d∈al,o.dst=some d→Lays P o:=by
 induction l with
 | nil=>intro i o h;simp at h
 | cons x l ih =>
  intro i o hi d hd hdd
  cases i with
  | zero =>
   simp at hi
   subst hi
   rcases h.1 with h1|h1
   · rw[hdd] at h1
     simp only at h1
     rw[List.contains_iff_mem.2 hd] at h1
     cases h1
   · exact h1
  | succ i=>exact ih h.2 i o (by simpa using hi) d hd hdd
end
section
open Go.RowKit
section
variable {P:Program} {ops:Array Oper} {md:Region.Mode} {C:World→Prop}
def AD4 (md:Region.Mode) (ops:Array Oper) (g n:Nat):List Nat→Array Bool→Bool
 | [],listed=>Region.seqB md ops g n listed
 | i::is,listed=>(Region.ready md ops listed).contains i&&Region.free md ops listed i&&decide (i<n)&&AD4 md ops g n is (listed.setIfInBounds i true)
def XT (md:Region.Mode) (ops:Array Oper) (n:Nat) (is:List Nat):Bool:=
 is.all fun i=>(List.range (n+1)).any fun j=>decide (i<j)&&Region.waitsFor md ops j i&&(decide (j=n)||is.contains j)
def AD5 (md:Region.Mode) (ops:Array Oper) (n:Nat) (listed:Array Bool):Bool:=
 decide (listed.size=ops.size) &&
 ((List.range ops.size).all fun j=>!(listed.getD j false)||match ops[j]? with|none=>true|some oj=>oj.after.toList.all fun e=>!(Region.binds md e)||listed.getD e.on false) &&
 (List.range ops.size).all fun t=>decide (t<n)||!(listed.getD t true)
theorem Zn {n:Nat} {listed:Array Bool} (h:AD5 md ops n listed=true):HeadInv md ops n listed:=by
 unfold AD5 at h
 simp only[Bool.and_eq_true,decide_eq_true_eq] at h
 obtain⟨⟨h1,h2⟩,h3⟩:=h
 refine⟨h1,fun j oj hj hl e he hb=>?_,fun t ht htl=>?_⟩
 · have h4:=List.all_eq_true.1 h2 j (List.mem_range.2 (Array.getElem?_eq_some_iff.1 hj).1)
   simp only[hl,hj,Bool.not_true,Bool.false_or] at h4
   have h5:=List.all_eq_true.1 h4 e (by simpa using he)
   simpa [hb] using h5
 · have h4:=List.all_eq_true.1 h3 t (List.mem_range.2 htl)
   simp only[Bool.or_eq_true,decide_eq_true_eq,Bool.not_eq_true'] at h4
   rcases h4 with h4|h4
   · omega
   · exact h4
theorem Ku {n:Nat} {is:List Nat} (hs:XT md ops n is=true) (hc:Region.chainB md ops n=true) (hn:n<ops.size) {listed:Array Bool} (inv:HeadInv md ops n listed) :
  ∀(d i:Nat),n-i=d→i∈is→i<n→listed.getD i true=false→∀t,n≤t→t ∉ Region.ready md ops listed:=by
 intro d
 induction d using Nat.strongRecOn with
 | _ d ih =>
  intro i hd hmem hi hun t ht hr
  obtain⟨_,ot,hot,hall⟩:=mem_ready.1 hr
  have htlt:t<ops.size:=(Array.getElem?_eq_some_iff.1 hot).1
  by_cases htn:t=n
  · subst htn
    have h1:=List.all_eq_true.1 hs i hmem
    obtain⟨j,hj,hj2⟩:=List.any_eq_true.1 h1
    simp only[Bool.and_eq_true,decide_eq_true_eq,Bool.or_eq_true] at hj2
    obtain⟨⟨hij,hj2⟩,hj3⟩:=hj2
    obtain⟨oj,hoj,e,he,hb,hon⟩:=Region.waitsFor_spec hj2
    have hjle:j≤t:=by have:=List.mem_range.1 hj;omega
    by_cases hjt:j=t
    · subst hjt
      have:oj=ot:=Option.some.inj (hoj.symm.trans hot)
      subst this
      have h2:=hall e he hb
      rw[hon,getD_both hun] at h2
      cases h2
    · have hjm:j∈is:=by
       rcases hj3 with h|h
       · exact absurd h hjt
       · simpa using h
      cases hl:listed.getD j false with
      | true =>
       have h2:=inv.closed j oj hoj hl e he hb
       rw[hon,getD_both hun] at h2
       cases h2
      | false =>
       have hjs:j<listed.size:=by rw[inv.size];omega
       exact ih (t-j) (by omega) j rfl hjm (by omega) (getD_in hjs hl) t (Nat.le_refl _) hr
  · have h1:=List.all_eq_true.1 hc t (List.mem_range.2 htlt)
    simp only[Bool.or_eq_true,decide_eq_true_eq] at h1
    rcases h1 with h1|h1
    · omega
    · obtain⟨o',ho',e,he,hb,hon⟩:=Region.waitsFor_spec h1
      have:o'=ot:=Option.some.inj (ho'.symm.trans hot)
      subst this
      have h2:=hall e he hb
      rw[hon,getD_both (inv.tail (t-1) (by omega) (by omega))] at h2
      cases h2
theorem Qe {n i:Nat} {is:List Nat} {oi:Oper} {v:Value} {L:Array Bool→Act→Prop} (hi:ops[i]?=some oi) (hsel:∀(j:Nat) (o:Oper) cs b,ops[j]?=some o→o.op≠.select cs b)
  (hs:XT md ops n is=true) (hc:Region.chainB md ops n=true) (hn:n<ops.size) (hmem:i∈is) (hin:i<n)
  (hdone:∀listed a,L listed a→∀j∈Region.ready md ops listed,n≤j) :
  ∀(f:Nat) (listed:Array Bool) (a:Act),HeadInv md ops n listed →
    (∀j oj,ops[j]?=some oj→j≠i→listed.getD j true=false→(∀e∈oj.after,Region.binds md e=true→e.on≠i)→oi.apart ops oj=true) →
    i∈Region.ready md ops listed→YieldsIn P ops C oi v a →
    Hr P md ops C n L f (listed.setIfInBounds i true) (a.put oi.dst v)→Hr P md ops C n L (f+1) listed a:=by
 intro f
 induction f with
 | zero =>
  intro listed a inv _ hr hy H
  have hun:=(mem_ready.1 hr).1
  refine⟨fun h=>(by rw[h] at hr;cases hr),fun j hj=>?_⟩
  have hjn:j<n:=by
    rcases Nat.lt_or_ge j n with h|h
    · exact h
    · exact absurd hj (Ku hs hc hn inv _ i rfl hmem hin hun j h)
  refine⟨hjn,?_⟩
  by_cases hji:j=i
  · subst hji;exact hy.qOp hi H
  · have:=hdone _ _ H j (ready_mono hj hji)
    omega
 | succ f ih =>
  intro listed a inv hfree hr hy H
  have hun:=(mem_ready.1 hr).1
  refine⟨fun h=>(by rw[h] at hr;cases hr),fun j hj=>?_⟩
  have hjn:j<n:=by
    rcases Nat.lt_or_ge j n with h|h
    · exact h
    · exact absurd hj (Ku hs hc hn inv _ i rfl hmem hin hun j h)
  refine⟨hjn,?_⟩
  by_cases hji:j=i
  · subst hji;exact hy.qOp hi H
  · have h1:=(H.2 j (ready_mono hj hji)).2
    obtain⟨hjun,oj,hoj,hall⟩:=mem_ready.1 hj
    have hnot:∀e∈oj.after,Region.binds md e=true→e.on≠i:=fun e he hb heq=>by
      have h1:=hall e he hb
      rw[heq,getD_both hun] at h1
      cases h1
    have h2:=qOp_put hoj (hfree j oj hoj hji hjun hnot) (fun cs b=>hsel i oi cs b hi) (fun cs b=>hsel j oj cs b hoj) hy h1
    have hfree':∀k ok,ops[k]?=some ok→k≠i→(listed.setIfInBounds j true).getD k true=false →
        (∀e∈ok.after,Region.binds md e=true→e.on≠i)→oi.apart ops ok=true:=fun k ok hk hki hun hno=>by
      refine hfree k ok hk hki ?_ hno
      by_cases hjk:j=k
      · subst hjk;exact hjun
      · rw[getD_set_ne true hjk] at hun;exact hun
    refine qOp_mono (fun a' h3=>ih (listed.setIfInBounds j true) a' (inv.set hj hjn) hfree' (ready_mono hr (Ne.symm hji)) h3.1 ?_) h2
    rw[Array.setIfInBounds_comm _ _ hji]
    exact h3.2
theorem M7 {n g:Nat} {is0:List Nat} {Lq:Act→Prop} (hsel:Region.noSelect ops=true) (hs:XT md ops n is0=true) (hc:Region.chainB md ops n=true) (hn:n<ops.size) :
  ∀(is:List Nat) (listed:Array Bool) (a:Act),(∀i∈is,i∈is0)→HeadInv md ops n listed →
  AD4 md ops g n is listed=true→wpQuiet P ops C Lq (is.filterMap fun i=>ops[i]?) a →
  Hr P md ops C n (fun listed' a'=>Region.seqB md ops g n listed'=true∧Lq a') is.length listed a
 | [],listed,a,_,_,hB,h=>⟨by simpa [AD4] using hB,h⟩
 | i::is,listed,a,hm,inv,hB,h=>by
  simp only[AD4,Bool.and_eq_true,decide_eq_true_eq] at hB
  obtain⟨⟨⟨hr,hf⟩,hin⟩,hB'⟩:=hB
  have hr':i∈Region.ready md ops listed:=by simpa using hr
  obtain⟨_,o,h0,_⟩:=mem_ready.1 hr'
  have h':wpQuiet P ops C Lq (o::is.filterMap fun i=>ops[i]?) a:=by simpa [List.filterMap_cons,h0] using h
  have hst:qOp P ops C i (wpQuiet P ops C Lq (is.filterMap fun i=>ops[i]?)) a:=by unfold qOp;simp only[h0];exact h'
  obtain⟨v,hy,hK⟩:=yieldsIn_of_qOp h0 hst
  exact Qe h0 (Region.noSelect_spec hsel) hs hc hn (hm i List.mem_cons_self) hin (fun listed' a' hL=>seqB_ready hL.1) is.length listed a inv (Region.free_spec h0 hf) hr' hy
   (M7 hsel hs hc hn is _ _ (fun j hj=>hm j (List.mem_cons_of_mem _ hj)) (inv.set hr' hin) hB' hK)
end
theorem XN {P:Program} {Q:Exit→Act→World→Prop} {l:List Oper} {a:Act} {w:World} {listed:Array Bool} {f:Nat} (n:Nat) (is:List Nat)
  (hsel:Region.noSelect l.toArray=true) (hn:n<l.toArray.size) (hs:XT .any l.toArray n is=true) (hc:Region.chainB .any l.toArray n=true) (hh:AD5 .any l.toArray n listed=true) (hB:AD4 .any l.toArray (l.toArray.size-n) n is listed=true) (hf:f=is.length+(l.toArray.size-n))
  (h:wpQuiet P l.toArray (fun w'=>∃s:Gw w,w'=s.val) (fun a'=>∀w',(∃s:Gw w,w'=s.val)→wpList P l.toArray Q (l.drop n) a' w') (is.filterMap fun i=>l.toArray[i]?) a) :
  wpAny P .any l.toArray Q f listed a w:=by
 subst hf
 have hdl:(l.drop n).length=l.toArray.size-n:=by simp
 have H:=M7 (md:=.any) (g:=l.toArray.size-n) hsel hs hc hn is listed a (fun _ h=>h) (Zn hh) hB h
 exact Ez (Q':=Q) (g:=l.toArray.size-n) (fun listed' a' w' hw' hL=>by
  have:=wpAny_of_seq (md:=.any) (Q':=Q) (l.drop n) n listed' a' w' (fun j=>by simp[List.getElem?_drop]) (by rw[hdl];exact hL.1) (hL.2 w' hw')
  rwa [hdl] at this) _ _ _ w ⟨⟨w,World.grownBy.refl w none⟩,rfl⟩ H
theorem Jk {P:Program} {ops:Array Oper} {md:Region.Mode} {Q:Exit→Act→World→Prop} {i:Nat} {oi:Oper} {v:Value} {fuel:Nat} {listed:Array Bool} {a:Act} {w:World} (hi:ops[i]?=some oi)
  (hs:Region.noSelect ops=true) (hf:Region.free md ops listed i=true) (hr:(Region.ready md ops listed).contains i=true) (hQ:∀c a w,Q (.panic c) (a.put oi.dst v) w→Q (.panic c) a w)
  (hg:oi.guard=none) (x:Operand) (ho:oi.op=.move x) (hx:a.eval x=v)
  (h:wpAny P md ops Q fuel (listed.setIfInBounds i true) (a.put oi.dst v) w):wpAny P md ops Q (fuel+1) listed a w:=
 wpAny_take hi hs hf hr hQ (Or.inl ⟨by simp[Region.wanted,hg],fun w=>by simp[execOp,ho,hx]⟩) h
end
section
open Go.RowKit
section
variable {P:Program} {ops:Array Oper} {S:World→Prop} {Q:Exit→Act→World→Prop}
def doB (ops:Array Oper):List Nat→Array Bool→Bool
 | [],listed=>(Region.ready .any ops listed).isEmpty
 | j::js,listed=>decide (Region.ready .any ops listed=[j])&&doB ops js (listed.setIfInBounds j true)
def ABG (ops:Array Oper) (js:List Nat):List Nat→Array Bool→Bool
 | [],listed=>doB ops js listed
 | i::is,listed=>(Region.ready .any ops listed).contains i&&Region.free .any ops listed i&&ABG ops js is (listed.setIfInBounds i true)
def Fz (P:Program) (ops:Array Oper) (S:World→Prop) (K:Act→Prop):List Oper→Act→Prop
 | [],a=>K a
 | o::r,a=>∃v,YieldsIf P ops S o v a∧Fz P ops S K r (a.put o.dst v)
def AD6 (S:World→Prop) (K:Act→World→Prop) (Q:Exit→Act→World→Prop):Exit→Act→World→Prop
 | .normal,a,w=>S w∧K a w
 | e,a,w=>Q e a w
def Zo (P:Program) (ops:Array Oper) (S:World→Prop) (Q:Exit→Act→World→Prop):List Oper→Act→World→Prop
 | [],a,w=>Q .normal a w
 | o::r,a,w=>wpList P ops (AD6 S (Zo P ops S Q r) Q) [o] a w
theorem N1:∀(js:List Nat) (listed:Array Bool) (a:Act) (w:World),doB ops js listed=true→Zo P ops S Q (js.filterMap fun i=>ops[i]?) a w→wpAnyH P .any ops Q S js.length listed a w
 | [],listed,a,w,hB,h=>⟨by simpa [doB] using hB,h⟩
 | j::js,listed,a,w,hB,h=>by
  simp only[doB,Bool.and_eq_true,decide_eq_true_eq] at hB
  obtain⟨hr,hB'⟩:=hB
  refine wpAnyH_all hr (by simp) fun i hi=>?_
  obtain rfl:=List.mem_singleton.1 hi
  have hi2:i∈Region.ready .any ops listed:=by rw[hr];exact List.mem_singleton.2 rfl
  obtain⟨_,o,ho,_⟩:=mem_ready.1 hi2
  have h':Zo P ops S Q (o::js.filterMap fun i=>ops[i]?) a w:=by simpa [List.filterMap_cons,ho] using h
  unfold Zo wpList at h'
  unfold wpOp
  simp only[ho]
  split
  · rename_i hw
    rw[if_pos hw] at h'
    rcases h' with h'|⟨hr0,h'⟩
    · refine .inl ?_
      have key:∀(K K':Act→World→Prop) (Q1:Exit→Act→World→Prop),(∀a w,K a w→K' a w)→(∀e a w,e≠.normal→Q1 e a w→Q e a w)→Oper.wp P o a w K Q1→Oper.wp P o a w K' Q:=by
       intro K K' Q1 hK hQ1 hh
       unfold Oper.wp at hh ⊢
       generalize (execOp a.eval o).run P w=r at *
       cases r with
       | ok x w' =>
        cases x<;>simp only[Oper.upon] at hh ⊢
        case value=>exact hK _ _ hh
        case skip=>exact hK _ _ hh
        case defer=>exact hK _ _ hh
        case enter =>
         refine hh.mono fun e w' hx=>?_
         cases e<;>simp only at hx ⊢
         · exact hK _ _ hx
         · exact hQ1 _ _ _ (by simp) hx
         · obtain⟨a1,w1,h1⟩:=hx
           exact⟨a1,w1,hQ1 _ _ _ (by simp) h1⟩
        case row=>exact fun c cs=>let ⟨v,w',r,s⟩:=hh c cs;⟨v,w',hK _ _ r,s⟩
       | halt x w'=>cases x<;>simp only[Oper.upon] at hh ⊢<;>first|exact hh|exact hQ1 _ _ _ (by simp) hh
      exact key _ _ _ (fun a' w' hh=>by unfold wpList AD6 at hh;exact⟨hh.1,N1 js _ a' w' hB' hh.2⟩) (fun e a' w' hne hh=>by cases e<;>first|exact hh|exact absurd rfl hne) h'
    · obtain⟨a1,w1,h1⟩:=h'
      exact .inr ⟨by assumption,a1,w1,h1⟩
  · rename_i hw
    rw[if_neg hw] at h'
    unfold wpList AD6 at h'
    exact⟨h'.1,N1 js _ _ w hB' h'.2⟩
theorem M8 (hsel:Region.noSelect ops=true) (hQ:∀c a d v w,Q (.panic c) (Act.put a d v) w→Q (.panic c) a w) (js:List Nat) {w:World} (hS:S w) :
  ∀(is:List Nat) (listed:Array Bool) (a:Act),ABG ops js is listed=true→Fz P ops S (fun a'=>Zo P ops S Q (js.filterMap fun i=>ops[i]?) a' w) (is.filterMap fun i=>ops[i]?) a→wpAnyH P .any ops Q S (is.length+js.length) listed a w
 | [],listed,a,hB,h=>by rw[List.length_nil,Nat.zero_add];exact N1 js listed a w hB h
 | i::is,listed,a,hB,h=>by
  simp only[ABG,Bool.and_eq_true] at hB
  obtain⟨⟨hr,hf⟩,hB'⟩:=hB
  have hr':i∈Region.ready .any ops listed:=by simpa using hr
  obtain⟨_,o,ho,_⟩:=mem_ready.1 hr'
  have h':Fz P ops S (fun a'=>Zo P ops S Q (js.filterMap fun i=>ops[i]?) a' w) (o::is.filterMap fun i=>ops[i]?) a:=by simpa [List.filterMap_cons,ho] using h
  obtain⟨v,hy,hk⟩:=h'
  rw[List.length_cons,show is.length+1+js.length=(is.length+js.length)+1 by omega]
  exact wpAnyH_take ho hsel hf hr (fun c a w h=>hQ c a _ _ w h) hy hS (M8 hsel hQ js hS is _ _ hB' hk)
end
theorem MI {P:Program} {Q:Exit→Act→World→Prop} {id:Nat} {l:List Oper} {a:Act} {w:World} (S:World→Prop) (is js:List Nat) (hm:P.follows .mixedOrders=true) (hsel:Region.noSelect l.toArray=true)
  (hQ:∀c a d v w,Q (.panic c) (Act.put a d v) w→Q (.panic c) a w) (hlen:is.length+js.length=l.toArray.size) (hB:ABG l.toArray js is (Array.replicate l.toArray.size false)=true) (hS:S w.drew)
  (h:Fz P l.toArray S (fun a'=>Zo P l.toArray S Q (js.filterMap fun i=>l.toArray[i]?) a' w.drew) (is.filterMap fun i=>l.toArray[i]?) a):(Code.region id l.toArray true).wp P Q a w:=by
 refine wp_region_held_drew hm hS fun _=>?_
 have:=M8 hsel hQ js hS is _ a hB h
 rwa [hlen] at this
section
variable {P:Program} {ops:Array Oper} {S:World→Prop} {K:Act→Prop} {o:Oper} {r:List Oper} {a:Act} {v:Value}
theorem XW (hg:o.guard=none) (hr:∀w,S w→(execOp a.eval o).run P w=.ok (.value v) w) (h:Fz P ops S K r (a.put o.dst v)):Fz P ops S K (o::r) a:=
 ⟨v,.inl ⟨by simp[Region.wanted,hg],hr⟩,h⟩
theorem UP (hg:o.guard=none) (T:TypeId) (x:Operand) (ho:o.op=.load T x) {p:Value} (hx:a.eval x=p) (hr:∀w,S w→(Instr.loadAt T p).run P w=.ok v w) (h:Fz P ops S K r (a.put o.dst v)):Fz P ops S K (o::r) a:=
 XW hg (fun w hw=>by simp only[execOp,ho,hx,Sem.run_bind,Sem.run_pure,Result.andThen_ok,hr w hw]) h
end
theorem XX {w:World} {b k:Nat} {v:Value} (h:w.cell? ⟨b,k,none⟩=some v):w.rangeAt b k [v]:=fun j u hj=>by
 cases j with
 | zero=>simp at hj;subst hj;exact h
 | succ j=>simp at hj
end
end Go.Proofs.YtbfjfnbcmojpiaaGreat
