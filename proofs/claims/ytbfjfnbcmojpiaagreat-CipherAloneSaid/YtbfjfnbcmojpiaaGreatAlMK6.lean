import Derived.Test.YtbfjfnbcmojpiaaGreatAlMQ
import Derived.Test.YtbfjfnbcmojpiaaGreatAlMK3
import Derived.Test.YtbfjfnbcmojpiaaGreatAlPP
import Derived.DeepKeys
import Derived.WalkKit
import Derived.ProofKit
import Derived.OpenShut
import Derived.ShutString
import Derived.ChangeOld
import Derived.Below
import Derived.Deep.Slices
set_option linter.unusedSimpArgs false
set_option linter.unusedVariables false
set_option maxRecDepth 100000
set_option maxHeartbeats 4000000
namespace Go.Proofs.YtbfjfnbcmojpiaaGreat
section
open Go.RowKit
def ACI (ops:Array Oper) (n:Nat):Bool:=
 (List.range ops.size).all fun i=>match ops[i]? with
  | none=>true
  | some o =>
   (o.after.toList.all fun e=>!Region.binds .any e||decide (e.on<i)) &&
   (match o.dst with|none=>true|some d=>decide (d<n)) &&
   (List.range ops.size).all fun j=>match ops[j]? with
    | none=>true
    | some oj=>match oj.dst with
     | none=>true
     | some d=>(i == j||o.dst != some d)&&(!(o.looksAt ops).contains d||o.after.toList.any fun e=>e.on == j&&Region.binds .any e)
theorem JQ {ops:Array Oper} {n:Nat} (h:ACI ops n=true) {i:Nat} {o:Oper} (hi:ops[i]?=some o) :
   (∀e∈o.after.toList,Region.binds .any e=true→e.on<i)∧(∀d,o.dst=some d→d<n) ∧
   (∀j oj d,ops[j]?=some oj→oj.dst=some d→(i=j∨o.dst≠some d)∧(d∈o.looksAt ops→∃e∈o.after.toList,e.on=j∧Region.binds .any e=true)):=by
 have hlt:i<ops.size:=(Array.getElem?_eq_some_iff.1 hi).1
 have h1:=List.all_eq_true.1 h i (List.mem_range.2 hlt)
 simp only[hi,Bool.and_eq_true] at h1
 obtain⟨⟨h2,h3⟩,h4⟩:=h1
 refine⟨fun e he hb=>?_,fun d hd=>by simpa [hd] using h3,fun j oj d hj hd=>?_⟩
 · have h5:=List.all_eq_true.1 h2 e he
   rw[hb] at h5
   simpa using h5
 have hjl:j<ops.size:=(Array.getElem?_eq_some_iff.1 hj).1
 have h5:=List.all_eq_true.1 h4 j (List.mem_range.2 hjl)
 simp only[hj,hd,Bool.and_eq_true,Bool.or_eq_true,beq_iff_eq,bne_iff_ne,Bool.not_eq_true'] at h5
 refine⟨h5.1,fun hl=>?_⟩
 rcases h5.2 with h6|h6
 · rw[List.contains_iff_mem.2 hl] at h6;cases h6
 · obtain⟨e,he,h7⟩:=List.any_eq_true.1 h6
   simp only[Bool.and_eq_true,beq_iff_eq] at h7
   exact⟨e,he,h7⟩
def AIe (ops:Array Oper) (i:Nat):Array Bool:=((List.range ops.size).map fun j=>match ops[i]? with|some oi=>oi.after.toList.any fun e=>Region.binds .any e&&e.on == j|none=>false).toArray
def ABD (ops:Array Oper) (i:Nat):Bool:=Region.free .any ops (AIe ops i) i
theorem Zk {ops:Array Oper} {i:Nat} {o:Oper} (ho:ops[i]?=some o) (h:ABD ops i=true) (listed:Array Bool) (hl:∀e∈o.after.toList,Region.binds .any e=true→listed.getD e.on false=true):Region.free .any ops listed i=true:=by
 unfold ABD Region.free at h
 unfold Region.free
 simp only[ho] at h ⊢
 rw[List.all_eq_true] at h ⊢
 intro j hj
 have h1:=h j hj
 have hjl:=List.mem_range.1 hj
 have e:(AIe ops i).getD j true=o.after.toList.any fun e=>Region.binds .any e&&e.on == j:=by
   unfold AIe
   simp[Array.getD_eq_getD_getElem?,List.getElem?_range hjl,ho]
 rw[e] at h1
 simp only[Bool.or_eq_true] at h1 ⊢
 rcases h1 with (h1|h1)|h1
 · exact .inl (.inl h1)
 · obtain⟨e,he,h2⟩:=List.any_eq_true.1 h1
   simp only[Bool.and_eq_true,beq_iff_eq] at h2
   have h3:=hl e he h2.1
   rw[h2.2] at h3
   refine .inl (.inr ?_)
   rw[Array.getD_eq_getD_getElem?] at h3 ⊢
   cases h4:listed[j]? with
   | none=>rfl
   | some x=>rw[h4] at h3;simpa using h3
 · exact .inr h1
def ADw (ops:Array Oper) (k:Nat) (pu:List Nat):Bool:=
 decide (k<ops.size)&&XT .any ops k ((List.range k).filter fun i=>!pu.contains i)&&Region.chainB .any ops k&&Region.seqB .any ops (ops.size-k) k ((List.range ops.size).map fun i=>decide (i<k)).toArray&&Region.noSelect ops&&pu.all fun i=>decide (i<k)&&ABD ops i
section
variable {P:Program} {Q:Exit→Act→World→Prop} {ops:Array Oper}
theorem ADx {a0:Act} {w0:World} {l:List Oper} (hl:ops=l.toArray) (n k:Nat) (L:List Sp) (hn:a0.tmps.size=n) (hB:ACI ops n=true) (pu:List Nat) (hT:ADw ops k pu=true)
   (hQp:∀c a d v w,Q (.panic c) (Act.put a d v) w→Q (.panic c) a w)
   (al:List Nat) (hal:∀t∈al,t<n∧(∀w u,At L t w u→∃A,u=.pointer (some ⟨A,0,none⟩)∧A<w.heap.size)∧∃(i:Nat) (o:Oper),i<k∧ops[i]?=some o∧o.dst=some t)
   (hrun:∀(i:Nat) (o:Oper),i<k→ops[i]?=some o→∀d∈al,o.dst=some d→Lays P o)
   (hpal:∀i∈pu,∀(o:Oper),ops[i]?=some o→∀d∈al,o.dst≠some d)
   (obp:∀i∈pu,∀(o:Oper),ops[i]?=some o→∀a w,w0.grownBy w none→(∀t∈o.looksAt ops,t<n→At L t w (a.tmps.getD t undef))→a.tmps.size=n→∃v,Yields P ops o v a∧∀d,o.dst=some d→At L d w v)
   (h0:∀t,t<n→(∀(i:Nat) (o:Oper),i<k→ops[i]?=some o→o.dst≠some t)→At L t w0 (a0.tmps.getD t undef))
   (ob:∀(i:Nat) (o:Oper),i<k→ops[i]?=some o→∀a w,w0.grownBy w none→(∀t∈o.looksAt ops,t<n→At L t w (a.tmps.getD t undef))→a.tmps.size=n →
     OpSays P ops o a w fun v w'=>w.grownBy w' none∧∀d,o.dst=some d→At L d w' v)
   (hQ:∀a w,w0.grownBy w none→a.defers=a0.defers→a.tmps.size=n→(∀t,t<n→At L t w (a.tmps.getD t undef))→(∀t∈al,∀u∈al,t≠u→a.tmps.getD t undef≠a.tmps.getD u undef)→wpList P ops Q (l.drop k) a w) :
   wpAny P .any ops Q ops.size (Array.replicate ops.size false) a0 { w0 with drawn:=w0.drawn+1 }:=by
 unfold ADw at hT
 simp only[Bool.and_eq_true,decide_eq_true_eq] at hT
 obtain⟨⟨⟨⟨⟨hk,hs⟩,hc⟩,hseq⟩,hsel⟩,hpu⟩:=hT
 have hput:∀i∈pu,i<k∧ABD ops i=true:=fun i hi=>by
   have h1:=List.all_eq_true.1 hpu i hi
   simp only[Bool.and_eq_true,decide_eq_true_eq] at h1
   exact h1
 have key:∀(f:Nat) (listed:Array Bool) (a:Act) (w:World),HeadInv .any ops k listed→(∃l:List Nat,l.Nodup∧l.length=f∧∀i,i∈l↔i<k∧listed.getD i true=false) →
     w0.grownBy w none→a.defers=a0.defers→a.tmps.size=n →
     (∀t,t<n→((∀(i:Nat) (o:Oper),i<k→ops[i]?=some o→o.dst≠some t)∨Lst ops k listed t)→At L t w (a.tmps.getD t undef)) →
     (∀t∈al,∀u∈al,t≠u→Lst ops k listed t→Lst ops k listed u→a.tmps.getD t undef≠a.tmps.getD u undef) →
     wpAny P .any ops Q (f+(ops.size-k)) listed a w:=by
   intro f
   induction f with
   | zero =>
     intro listed a w inv hf hg hd has hkn hdi
     obtain⟨u,hu1,hu2,hu3⟩:=hf
     obtain rfl:=List.eq_nil_of_length_eq_zero hu2
     have all:∀i,i<k→listed.getD i false=true:=fun i hi=>by
       cases h:listed.getD i false with
       | true=>rfl
       | false =>
         have h1:=getD_in (by rw[inv.size];omega) h
         have h2:=(hu3 i).2 ⟨hi,h1⟩
         cases h2
     have he:listed=((List.range ops.size).map fun i=>decide (i<k)).toArray:=by
       apply Array.ext
       · simp[inv.size]
       · intro i h1 h2
         have hi:i<ops.size:=by rw[←inv.size];exact h1
         simp only[List.getElem_toArray,List.getElem_map,List.getElem_range]
         by_cases hik:i<k
         · have:=all i hik
           simp[h1] at this
           simp[hik,this]
         · have:=inv.tail i (by omega) hi
           simp[h1] at this
           simp[hik,this]
     rw[Nat.zero_add]
     have hdl:(l.drop k).length=ops.size-k:=by rw[hl];simp
     have hq:=hQ a w hg hd has (fun t ht=>hkn t ht (by
       by_cases hex:∃(j:Nat) (oj:Oper),j<k∧ops[j]?=some oj∧oj.dst=some t
       · obtain⟨j,oj,hj,hjo,hdj⟩:=hex
         exact .inr ⟨j,oj,hj,hjo,hdj,all j hj⟩
       · exact .inl fun j oj hj hjo hdj=>hex ⟨j,oj,hj,hjo,hdj⟩)) (fun t ht u hu htu=>hdi t ht u hu htu
         (by obtain⟨i,o,h1,h2,h3⟩:=(hal t ht).2.2;exact⟨i,o,h1,h2,h3,all i h1⟩) (by obtain⟨i,o,h1,h2,h3⟩:=(hal u hu).2.2;exact⟨i,o,h1,h2,h3,all i h1⟩))
     have:=wpAny_of_seq (md:=.any) (Q':=Q) (l.drop k) k listed a w (fun j=>by rw[hl];simp[List.getElem?_drop]) (by rw[hdl,he];exact hseq) hq
     rwa [hdl] at this
   | succ f ih =>
     intro listed a w inv hf hg hd has hkn hdi
     obtain⟨u,hu1,hu2,hu3⟩:=hf
     obtain⟨z0,hz0⟩:∃z,z∈u:=List.exists_mem_of_length_pos (by omega)
     have hz03:=(hu3 z0).1 hz0
     obtain⟨z,hzk,hzl,hzr⟩:∃z,z<k∧listed.getD z true=false∧z∈Region.ready .any ops listed:=by
       have key2:∀i,i<k→listed.getD i true=false→∃z,z<k∧listed.getD z true=false∧z∈Region.ready .any ops listed:=by
         intro i
         induction i using Nat.strongRecOn with
         | _ i ih2 =>
           intro hi hli
           by_cases hex:∃j,j<i∧listed.getD j true=false
           · obtain⟨j,hj,hlj⟩:=hex
             exact ih2 j hj (by omega) hlj
           · have hio:i<ops.size:=by omega
             have ho:ops[i]?=some ops[i]:=Array.getElem?_eq_getElem hio
             refine⟨i,hi,hli,mem_ready.2 ⟨hli,ops[i],ho,fun e he hb=>?_⟩⟩
             have hlt:=(JQ hB ho).1 e (by simpa using he) hb
             cases hle:listed.getD e.on false with
             | true=>rfl
             | false=>exact absurd ⟨e.on,hlt,getD_in (by rw[inv.size];omega) hle⟩ hex
       exact key2 z0 hz03.1 hz03.2
     have hne:Region.ready .any ops listed≠[]:=fun hr=>by rw[hr] at hzr;cases hzr
     rw[show f+1+(ops.size-k)=(f+(ops.size-k))+1 by omega]
     by_cases hpr:∃i∈pu,i∈Region.ready .any ops listed
     · obtain⟨i,hipu,hi⟩:=hpr
       obtain⟨h1,o,ho,hready⟩:=mem_ready.1 hi
       have hik:=(hput i hipu).1
       obtain⟨s1,s2,s3⟩:=JQ hB ho
       obtain⟨v,hy,hv⟩:=obp i hipu o ho a w hg (fun t ht htn=>hkn t htn (by
         by_cases hex:∃(j:Nat) (oj:Oper),j<k∧ops[j]?=some oj∧oj.dst=some t
         · obtain⟨j,oj,hjz,hj,hdj⟩:=hex
           obtain⟨e,he,rfl,hb⟩:=(s3 j oj t hj hdj).2 ht
           exact .inr ⟨e.on,oj,hjz,hj,hdj,hready e (by simpa using he) hb⟩
         · exact .inl fun j oj hjz hj hdj=>hex ⟨j,oj,hjz,hj,hdj⟩)) has
       refine wpAny_take ho hsel (Zk ho (hput i hipu).2 listed fun e he hb=>hready e (by simpa using he) hb) (by simpa using hi) (fun c a w h=>hQp c a _ _ w h) hy ?_
       have hlst:∀t,o.dst≠some t→Lst ops k (listed.setIfInBounds i true) t→Lst ops k listed t:=fun t hdt ⟨j,oj,hjz,hj,hdj,hlj⟩=>by
         refine⟨j,oj,hjz,hj,hdj,?_⟩
         have hne:i≠j:=fun e=>hdt (by subst e;rw[ho] at hj;obtain rfl:=Option.some.inj hj;exact hdj)
         rwa [getD_set_ne false hne] at hlj
       refine ih _ _ _ (inv.set hi hik) ⟨u.erase i,hu1.erase i,?_,fun j=>?_⟩ hg (by cases ho':o.dst<;>simp[Act.put,hd]) (by cases ho':o.dst<;>simp[Act.put,has]) ?_ ?_
       · rw[List.length_erase_of_mem ((hu3 i).2 ⟨hik,h1⟩),hu2];rfl
       · rw[hu1.mem_erase_iff,hu3 j]
         by_cases hji:j=i
         · subst hji
           constructor
           · rintro ⟨h,_⟩;exact absurd rfl h
           · rintro ⟨_,h⟩
             rw[Array.getD_eq_getD_getElem?,Array.getElem?_setIfInBounds_self_of_lt (by rw[inv.size];omega)] at h
             cases h
         · rw[getD_set_ne true (Ne.symm hji)]
           exact⟨fun h=>h.2,fun h=>⟨hji,h⟩⟩
       · intro t htn hor
         rw[Dn a o.dst v t (fun d hd=>has▸s2 d hd)]
         by_cases hdt:o.dst=some t
         · rw[if_pos hdt]
           exact hv t hdt
         · rw[if_neg hdt]
           exact hkn t htn (hor.elim .inl fun h=>.inr (hlst t hdt h))
       · intro t ht x hx htx hlt hlx
         have n1:=hpal i hipu o ho t ht
         have n2:=hpal i hipu o ho x hx
         rw[Dn a o.dst v t (fun d hd=>has▸s2 d hd),Dn a o.dst v x (fun d hd=>has▸s2 d hd),if_neg n1,if_neg n2]
         exact hdi t ht x hx htx (hlst t n1 hlt) (hlst x n2 hlx)
     refine⟨fun hr=>absurd hr hne,fun i hi=>?_⟩
     obtain⟨h1,o,ho,hready⟩:=mem_ready.1 hi
     have hzn:z ∉ pu:=fun h=>hpr ⟨z,h,hzr⟩
     have hik:i<k:=by
       rcases Nat.lt_or_ge i k with h|h
       · exact h
       · exact absurd hi (Ku hs hc hk inv _ z rfl (List.mem_filter.2 ⟨List.mem_range.2 hzk,by simpa using hzn⟩) hzk hzl i h)
     obtain⟨s1,s2,s3⟩:=JQ hB ho
     have hsay:=ob i o hik ho a w hg (fun t ht htn=>hkn t htn (by
       by_cases hex:∃(j:Nat) (oj:Oper),j<k∧ops[j]?=some oj∧oj.dst=some t
       · obtain⟨j,oj,hjz,hj,hdj⟩:=hex
         obtain⟨e,he,rfl,hb⟩:=(s3 j oj t hj hdj).2 ht
         exact .inr ⟨e.on,oj,hjz,hj,hdj,hready e (by simpa using he) hb⟩
       · exact .inl fun j oj hjz hj hdj=>hex ⟨j,oj,hjz,hj,hdj⟩)) has
     have hsay2:OpSays P ops o a w fun v w'=>(w.grownBy w' none∧∀d,o.dst=some d→At L d w' v)∧∀d∈al,o.dst=some d→v=.pointer (some ⟨w.heap.size,0,none⟩):=by
       by_cases hex:∃d∈al,o.dst=some d
       · obtain⟨d,hda,hdd⟩:=hex
         exact((hrun i o hik ho d hda hdd).says hsay).mono fun v w' h=>⟨h.1,fun _ _ _=>h.2⟩
       · exact hsay.mono fun v w' h=>⟨h,fun d hda hdd=>absurd ⟨d,hda,hdd⟩ hex⟩
     refine OpSays.wpOp ho hsay2 ?_
     · rintro v w' ⟨⟨hg',hv⟩,hva⟩
       have hlst:∀t,o.dst≠some t→Lst ops k (listed.setIfInBounds i true) t→Lst ops k listed t:=fun t hdt ⟨j,oj,hjz,hj,hdj,hlj⟩=>by
         refine⟨j,oj,hjz,hj,hdj,?_⟩
         have hne:i≠j:=fun e=>hdt (by subst e;rw[ho] at hj;obtain rfl:=Option.some.inj hj;exact hdj)
         rwa [getD_set_ne false hne] at hlj
       refine ih _ _ _ (inv.set hi hik) ⟨u.erase i,hu1.erase i,?_,fun j=>?_⟩ (AA hg hg') (by cases ho':o.dst<;>simp[Act.put,hd]) (by cases ho':o.dst<;>simp[Act.put,has]) ?_ ?_
       · rw[List.length_erase_of_mem ((hu3 i).2 ⟨hik,h1⟩),hu2];rfl
       · rw[hu1.mem_erase_iff,hu3 j]
         by_cases hji:j=i
         · subst hji
           constructor
           · rintro ⟨h,_⟩;exact absurd rfl h
           · rintro ⟨_,h⟩
             rw[Array.getD_eq_getD_getElem?,Array.getElem?_setIfInBounds_self_of_lt (by rw[inv.size];omega)] at h
             cases h
         · rw[getD_set_ne true (Ne.symm hji)]
           exact⟨fun h=>h.2,fun h=>⟨hji,h⟩⟩
       · intro t htn hor
         rw[Dn a o.dst v t (fun d hd=>has▸s2 d hd)]
         by_cases hdt:o.dst=some t
         · rw[if_pos hdt]
           exact hv t hdt
         · rw[if_neg hdt]
           exact(L.getD t Sp.any).mono _ _ _ hg' (hkn t htn (hor.elim .inl fun h=>.inr (hlst t hdt h)))
       · have old:∀t∈al,o.dst≠some t→Lst ops k (listed.setIfInBounds i true) t→∀d∈al,o.dst=some d→a.tmps.getD t undef≠v:=fun t ht hdt hl d hda hdd e=>by
           obtain⟨A,hA,hlt⟩:=(hal t ht).2.1 w _ (hkn t (hal t ht).1 (.inr (hlst t hdt hl)))
           rw[hA,hva d hda hdd] at e
           exact absurd e (by simp<;>omega)
         intro t ht x hx htx hlt hlx
         rw[Dn a o.dst v t (fun d hd=>has▸s2 d hd),Dn a o.dst v x (fun d hd=>has▸s2 d hd)]
         by_cases h1:o.dst=some t
         · rw[if_pos h1,if_neg (fun h=>htx (Option.some.inj (h1.symm.trans h)))]
           exact fun e=>old x hx (fun h=>htx (Option.some.inj (h1.symm.trans h))) hlx t ht h1 e.symm
         · rw[if_neg h1]
           by_cases h2:o.dst=some x
           · rw[if_pos h2];exact old t ht h1 hlt x hx h2
           · rw[if_neg h2];exact hdi t ht x hx htx (hlst t h1 hlt) (hlst x h2 hlx)
 have inv0:HeadInv .any ops k (Array.replicate ops.size false):=
   ⟨by simp,fun j oj _ hl=>(by rw[getD_replicate_false] at hl;cases hl),fun t _ ht=>getD_in (by simpa using ht) (getD_replicate_false _ _)⟩
 have:=key k (Array.replicate ops.size false) a0 { w0 with drawn:=w0.drawn+1 } inv0 ⟨List.range k,List.nodup_range,List.length_range,fun i=>by
   rw[List.mem_range]
   exact⟨fun h=>⟨h,getD_in (by simp;omega) (getD_replicate_false _ _)⟩,fun h=>h.1⟩⟩ (CR w0) rfl hn (fun t ht hor=>by
   refine(L.getD t Sp.any).mono w0 _ _ (CR w0) (h0 t ht ?_)
   rcases hor with h|⟨i,o,_,hi,_,hl⟩
   · exact h
   · rw[getD_replicate_false] at hl;cases hl) (fun t ht x hx htx ⟨i,o,_,hi,_,hl⟩=>by rw[getD_replicate_false] at hl;cases hl)
 rwa [show k+(ops.size-k)=ops.size by omega] at this
end
end
section
open Go.RowKit Go.Shelf
attribute [local go_sem] Oper.semAt_some
theorem AGJ (c:Int) (n:Nd):Cj c n=if M5 n=true∧¬lo n<c then some (hi n) else none:=by
 unfold Cj Et
 by_cases ho:M5 n=true
 · rw[if_pos ho]
   have h1:lo n<hi n:=by
     have hq:(0:Int)<2^(34-n.d).toNat:=Int.pow_pos (by decide)
     unfold lo hi
     rw[Int.add_mul,Int.one_mul]
     omega
   rw[if_neg (fun e=>by rw[Prod.mk.injEq] at e;omega)]
   by_cases h2:lo n<c
   · rw[if_pos h2,if_neg (fun h=>h.2 h2)]
   · rw[if_neg h2,if_pos ⟨ho,h2⟩]
 · rw[if_neg ho,if_pos rfl,if_neg (fun h=>ho h.1)]
theorem ADy {l:List Nd} {k:Nat} {c:Int} (hk:k<l.length) (h:L3 0 (l.take k)=some c) (hs:Cj c l[k]=none):GO l=false:=by
 have h1:L3 0 (l.take (k+1))=none:=by rw[List.take_succ_eq_append_getElem hk,QX,h];exact hs
 have h2:L3 0 l=none:=by
  conv=>lhs;rw[←List.take_append_drop (k+1) l]
  exact XM h1
 unfold GO
 rw[h2]
 simp
theorem ADz {l:List Nd} {k:Nat} {c d:Int} (hk:k<l.length) (h:L3 0 (l.take k)=some c) (hs:Cj c l[k]=some d):L3 0 (l.take (k+1))=some d:=by
 rw[List.take_succ_eq_append_getElem hk,QX,h];exact hs
theorem XU (l:List Nq) (s:Value) (w:World) (hR:RdL w s l) :
   Calls Tryz.prog 87 #[.agg #[s]] w fun e w'=>e=.returned (.bool (GO (l.map (·.1))))∧w.grownBy w' none:=by
 obtain⟨ao,cap,rfl,p1,p2⟩:=hR.shape
 have HR:=AH hR
 obtain⟨vl,hvl⟩:∃v,v=GO (l.map (·.1)):=⟨_,rfl⟩
 rw[←hvl]
 have HV:=AH hvl
 obtain⟨m,hm⟩:∃m,m=l.length:=⟨_,rfl⟩
 have hm0:m≤1099511627776:=by rw[hm];exact hR.2.2
 rw[←hm] at HR p1 ⊢
 have HM:=AH hm
 obtain⟨w1,hw1⟩:∃x,x=w.alloc (.cells #[.slice ao m cap] 56):=⟨_,rfl⟩
 have HG1:=AH (show w.grownBy w1 none by rw[hw1];exact World.grownBy_alloc _ _ _)
 have c0:w1.cell? ⟨w.heap.size,0,none⟩=some (.slice ao m cap):=by rw[hw1,AL1 _ _ _ _ _ _ (World.alloc_heap_new w _)];rfl
 have y0:=AL0 c0
 have C0:=AH c0
 have HG0:=AH (World.grownBy.refl w1 none)
 have HRUN:=AH (show L3 0 ((l.map (·.1)).take 0)=some 0 from rfl)
 clear hR hvl hm
 go_enter Tryz.func87,Tryz.ntmps87
 refine ALz fun K0 k0=>?_
 have HK0:=AH k0
 clear k0
 go_wp2
 rw[←hw1]
 refine HK0.out _ _ ?_
 clear HK0 hw1
 by_cases h1:32768<m
 · have t1:decide ((32768:Int)<(m:Int))=true:=by simp;omega
   have HZ:=AH (show vl=false by rw[HV.out];unfold GO;rw[List.length_map,←HM.out];simp;omega)
   clear h1
   go_wp2
   go_ret
   exact⟨by rw[HZ.out];rfl,HG1.out⟩
 have t1:decide ((32768:Int)<(m:Int))=false:=by simp;omega
 have HL3:=AH (show m≤32768 by omega)
 clear h1
 go_wp2
 clear t1
 go_loopw [3,4] (fun f i wr=>∃(k:Nat) (c:Int),k≤m∧f=.int .i64 c∧i=.int .i64 k∧Hid (w1.grownBy wr none)∧Hid (L3 0 ((l.map (·.1)).take k)=some c)) (fun _ i _=>(m-intOf i).toNat)
 case atStart=>exact⟨0,0,by omega,rfl,rfl,HG0,HRUN⟩
 case round =>
   clear HG0 HRUN c0 y0
   obtain⟨k,c,hk,rfl,rfl,HG,HRN⟩:=hrel
   have c0:=HG.out.cell C0.out (by simp)
   have y0:=AL0 c0
   by_cases hlt:k<m
   · have hkl:k<(l.map (·.1)).length:=by rw[List.length_map,←HM.out];exact hlt
     have hsr:=(HR.out.kn HG1.out).kn HG.out
     obtain⟨b,off,rfl,hrg⟩:=hsr.1.range (i:=k) hkl
     have HRG:=AH hrg
     have HNK:=AH (hsr.1.2 _ (List.getElem_mem hkl))
     have HS1:=AH (show Cj c (l.map (·.1))[k]=none→vl=false from fun h=>by rw[HV.out];exact ADy hkl HRN.out h)
     have HS2:=AH (show ∀d,Cj c (l.map (·.1))[k]=some d→L3 0 ((l.map (·.1)).take (k+1))=some d from fun d h=>ADz hkl HRN.out h)
     rw[AGJ] at HS1 HS2
     generalize (l.map (·.1))[k]=x at *
     have TN:=AH (Np x HNK.out.1.1)
     have NL:=AH (Ax x HNK.out.1.1)
     obtain⟨C,hC⟩:∃C,C=BD x:=⟨_,rfl⟩
     have HC:=AH hC
     have i0:(0:Int)≤(k:Int):=by omega
     have i1:(k:Int)<(m:Int):=by omega
     clear hsr hrg hkl hC
     refine ALz fun Ka ka=>?_
     have HKa:=AH ka
     clear ka
     refine ALz fun Kb kb=>?_
     have HKb:=AH kb
     clear kb
     go_wp2
     refine HKb.out _ _ ?_
     clear HKb
     go_wp2
     refine HKa.out _ _ ?_
     clear HKa
     refine ALz fun Kc kc=>?_
     have HKc:=AH kc
     clear kc
     refine wp_block ?_
     refine ALz fun Kd kd=>?_
     have HKd:=AH kd
     clear kd
     go_wp2_with (first
       | (refine FU rfl 132 (.tmp 20) rfl rfl TN.out HRG.out ?_)
       | (refine AM rfl 132 (.tmp 5) (.tmp 21) rfl rfl rfl TN.out (Ah rfl) (by rw[NL.out];rfl) ?_;intro W2 g2 h2;have G2:=AH (AD (World.grownBy_alloc wr _ none) g2 (Nat.le_refl _));have H2:=AH h2;clear g2 h2)
       | fail)
     refine HKd.out _ _ ?_
     clear HKd
     go_frame
     refine ALz fun Ke ke=>?_
     have HKe:=AH ke
     clear ke
     refine ALz fun Kf kf=>?_
     have HKf:=AH kf
     clear kf
     obtain⟨c3,c4,y3⟩:=IH H2.out
     obtain⟨d,p,kk⟩:=x
     simp only at c3 c4 HNK
     have hd:=HNK.out.2.1
     have hp:=HNK.out.2.2
     simp only at hd hp
     have hoi:=@Ep ⟨d,p,kk⟩
     simp only at hoi
     have HOI:=AH hoi
     have P2:∀m:Nat,m<35→wrap64 ((2:Int)^m)=2^m:=by decide +kernel
     clear hoi
     by_cases h1:d<0
     · have t1:decide (d<0)=true:=by simp;omega
       have HE:=AH (HS1.out (by rw[if_neg (fun h=>by have:=HOI.out.1 h.1;omega)]))
       clear HS1 HS2 P2 h1
       go_quiet ((exact Calls.quiet_of_same (Lg 0 (by decide) _)))
       refine HKf.out _ _ ?_
       clear HKe HKf HKc
       go_wp2
       go_ret
       exact⟨by rw[HE.out];rfl,AA HG1.out (AA HG.out (AA G2.out (B8 _ _)))⟩
     by_cases h2:34<d
     · have t1:decide (d<0)=false:=by simp;omega
       have t2:decide (34<d)=true:=by simp;omega
       have HE:=AH (HS1.out (by rw[if_neg (fun h=>by have:=HOI.out.1 h.1;omega)]))
       clear HS1 HS2 P2 h1 h2
       go_quiet ((exact Calls.quiet_of_same (Lg 0 (by decide) _)))
       refine HKf.out _ _ ?_
       clear HKe HKf HKc
       go_wp2
       go_ret
       exact⟨by rw[HE.out];rfl,AA HG1.out (AA HG.out (AA G2.out (B8 _ _)))⟩
     by_cases h3:p<0
     · have t1:decide (d<0)=false:=by simp;omega
       have t2:decide (34<d)=false:=by simp;omega
       have t3:decide (p<0)=true:=by simp;omega
       have HE:=AH (HS1.out (by rw[if_neg (fun h=>by have:=HOI.out.1 h.1;omega)]))
       clear HS1 HS2 P2 h1 h2 h3
       go_quiet ((exact Calls.quiet_of_same (Lg 0 (by decide) _)))
       refine HKf.out _ _ ?_
       clear HKe HKf HKc
       go_wp2
       go_ret
       exact⟨by rw[HE.out];rfl,AA HG1.out (AA HG.out (AA G2.out (B8 _ _)))⟩
     obtain⟨e,rfl⟩:∃e:Nat,d=e:=⟨d.toNat,by omega⟩
     have he:e≤34:=by omega
     have t1:decide ((e:Int)<0)=false:=by simp
     have t2:decide ((34:Int)<(e:Int))=false:=by simp;omega
     have t3:decide (p<0)=false:=by simp;omega
     have i2:(0:Int)≤(e:Int):=by omega
     have i3:(e:Int)≤34:=by omega
     have hp2:=P2 e (by omega)
     have HSZ:=AH (fun w=>Lg e he w)
     have j1:(e:Int)<64:=by omega
     by_cases h4:(2:Int)^e≤p
     · have t4:decide (wrap64 ((2:Int)^e)≤p)=true:=by rw[hp2];simp[h4]
       have HE:=AH (HS1.out (by rw[if_neg (fun h=>by have:=HOI.out.1 h.1;rw[Int.toNat_natCast] at this;omega)]))
       clear HS1 HS2 P2 hp2 h1 h2 h3 h4
       go_quiet ((exact Calls.quiet_of_same (HSZ.out _)))
       refine HKf.out _ _ ?_
       clear HKe HKf HKc
       go_wp2
       go_ret
       exact⟨by rw[HE.out];rfl,AA HG1.out (AA HG.out (AA G2.out (B8 _ _)))⟩
     have t4:decide (wrap64 ((2:Int)^e)≤p)=false:=by rw[hp2];simp;omega
     have i4:(0:Int)≤p:=by omega
     have HOK:=AH (HOI.out.2 ⟨i2,i3,i4,by rw[Int.toNat_natCast];omega⟩)
     have HLO:=AH (show lo ⟨(e:Int),p,kk⟩=p*2^(34-e) by unfold lo;simp only;rw[show(34-(e:Int)).toNat=34-e by omega])
     have HHI:=AH (show hi ⟨(e:Int),p,kk⟩=(p+1)*2^(34-e) by unfold hi;simp only;rw[show(34-(e:Int)).toNat=34-e by omega])
     have hb1:p*2^(34-e)≤17179869184∧0≤p*2^(34-e)∧(p+1)*2^(34-e)≤17179869184∧0≤(p+1)*2^(34-e)∧p≤17179869184:=by
       have hq:(0:Int)<2^(34-e):=Int.pow_pos (by decide)
       have h5:(p+1)*2^(34-e)≤2^e*2^(34-e):=Int.mul_le_mul_of_nonneg_right (by omega) (Int.le_of_lt hq)
       rw[←Int.pow_add,show e+(34-e)=34 by omega] at h5
       have h6:0≤p*2^(34-e):=Int.mul_nonneg i4 (Int.le_of_lt hq)
       have h7:(p+1)*2^(34-e)=p*2^(34-e)+2^(34-e):=by rw[Int.add_mul,Int.one_mul]
       have h8:(2:Int)^e≤2^34:=by exact_mod_cast Nat.pow_le_pow_right (n:=2) (by decide) he
       omega
     have w1:IntKind.i64.wrap (p+1)=p+1:=by rw[IntKind.wrap_i64];omega
     have w2:IntKind.i64.wrap (p*2^(34-e))=p*2^(34-e):=by rw[IntKind.wrap_i64];omega
     have w3:IntKind.i64.wrap ((p+1)*2^(34-e))=(p+1)*2^(34-e):=by rw[IntKind.wrap_i64];omega
     obtain⟨q,hq⟩:∃q:Int,q=2^(34-e):=⟨_,rfl⟩
     rw[←hq] at HSZ HLO HHI w2 w3
     have w4:wrap64 (p*q)=p*q:=by unfold wrap64;rw[hq];omega
     have W3E:=AH (show Value.int .i64 (wrap64 (wrap64 (p+1)*q))=.int .i64 ((p+1)*q) by rw[show wrap64 (p+1)=p+1 by unfold wrap64;omega,show wrap64 ((p+1)*q)=(p+1)*q by unfold wrap64;rw[hq];omega])
     by_cases h5:p*q<c
     · have t5:decide (wrap64 (p*q)<c)=true:=by rw[w4];simp[h5]
       have HE:=AH (HS1.out (by rw[if_neg (fun h=>by have:=h.2;rw[HLO.out] at this;omega)]))
       clear HS1 HS2 P2 hp2 h1 h2 h3 h4 h5 hb1 w1 w2 w3 w4 hq
       go_quiet ((exact Calls.quiet_of_same (HSZ.out _)))
       refine HKf.out _ _ ?_
       clear HKe HKf HKc
       go_wp2
       go_ret
       exact⟨by rw[HE.out];rfl,AA HG1.out (AA HG.out (AA G2.out (B8 _ _)))⟩
     · have t5:decide (wrap64 (p*q)<c)=false:=by rw[w4];simp;omega
       have HE:=AH (HS2.out _ (by rw[if_pos ⟨HOK.out,by rw[HLO.out];omega⟩]))
       rw[HHI.out] at HE
       clear HS1 HS2 P2 hp2 h1 h2 h3 h4 h5 hb1 w1 w2 w3 w4 hq
       go_quiet ((exact Calls.quiet_of_same (HSZ.out _)))
       refine HKf.out _ _ ?_
       clear HKf
       go_wp2
       refine HKe.out _ _ ?_
       clear HKe
       obtain⟨W3,hW3⟩:∃x,x=W2.drewN nq:=⟨_,rfl⟩
       have HG3:=AH (show wr.grownBy W3 none from by rw[hW3];exact AA G2.out (B8 _ _))
       have c5:W3.cell? ⟨wr.heap.size,0,none⟩=some (.int .i64 (e:Int)):=by rw[hW3];exact c3
       have c6:W3.cell? ⟨wr.heap.size,1,none⟩=some (.int .i64 p):=by rw[hW3];exact c4
       have y5:=AL0 c5
       rw[←hW3]
       clear hW3 c3 c4 y3
       go_quiet ((exact Calls.quiet_of_same (HSZ.out _)))
       refine HKc.out _ _ ?_
       clear HKc
       go_wp2
       go_roundw
       case rel=>exact⟨k+1,(p+1)*q,by omega,W3E.out,by go_num,AH (AA HG.out (AA HG3.out (B8 _ _))),HE⟩
       case measure=>simp[intOf];omega
   · obtain rfl:k=m:=by omega
     have HE:=AH (show vl=true by
       have h:=HRN.out
       rw[List.take_of_length_le (by rw[List.length_map,←HM.out];exact Nat.le_refl _)] at h
       rw[HV.out];unfold GO;rw[h,List.length_map,←HM.out];simp;exact HL3.out)
     go_wp2
     go_ret
     exact⟨by rw[HE.out];rfl,AA HG1.out HG.out⟩
end
end Go.Proofs.YtbfjfnbcmojpiaaGreat
namespace Go.Proofs.YtbfjfnbcmojpiaaGreat
open Go.RowKit Go.Shelf
attribute [local go_sem] Oper.semAt_some
end Go.Proofs.YtbfjfnbcmojpiaaGreat
namespace Go.Proofs.YtbfjfnbcmojpiaaGreat
section
open Go.RowKit Go.Shelf
def RdT (w:World) (s:Value) (l:List Nd):Prop:=Sl w 34 s l.length (Ay l)∧(∀n∈l,Nok n)∧(∀k,Mx s k→k<w.heap.size)∧l.length≤1099511627776
theorem RdT.kn {w w':World} {s:Value} {l:List Nd} (h:RdT w s l) (g:w.grownBy w' none):RdT w' s l:=⟨Sl.kn h.1 g,h.2.1,fun k hk=>Nat.lt_of_lt_of_le (h.2.2.1 k hk) g.size,h.2.2.2⟩
theorem RdT.shape {w:World} {s:Value} {l:List Nd} (h:RdT w s l):∃ao cap,s=.slice ao l.length cap:=by
 obtain⟨ao,cap,e,_,_⟩:=Sl.shape h.1
 exact⟨ao,cap,e⟩
theorem toK:∀(l:List Nd),(∀n∈l,Nok n)→∃L:List Nq,L.map (·.1)=l
 | [],_=>⟨[],rfl⟩
 | n::l,h=>by
  obtain⟨L,hL⟩:=toK l fun m hm=>h m (List.mem_cons.2 (.inr hm))
  exact⟨⟨n,h n (List.mem_cons.2 (.inl rfl))⟩::L,by rw[List.map_cons,hL]⟩
theorem RdT.k {w:World} {s:Value} {l:List Nd} (h:RdT w s l):∃L:List Nq,L.map (·.1)=l∧RdL w s L:=by
 obtain⟨L,rfl⟩:=toK l h.2.1
 exact⟨L,rfl,⟨h.1,h.2.1⟩,h.2.2.1,by have:=h.2.2.2;rwa [List.length_map] at this⟩
theorem Zl {w:World} {s:Value} {l:List Nd} (h:RdT w s l):Calls Tryz.prog 97 #[.agg #[s]] w fun e w'=>e=.returned (.bool (GO l))∧w.grownBy w' none:=by
 obtain⟨L,rfl,hL⟩:=h.k
 exact MZ L s w hL
theorem XV {w:World} {s:Value} {l:List Nd} (h:RdT w s l):Calls Tryz.prog 87 #[.agg #[s]] w fun e w'=>e=.returned (.bool (GO l))∧w.grownBy w' none:=by
 obtain⟨L,rfl,hL⟩:=h.k
 exact XU L s w hL
theorem ACJ {w:World} {s:Value} {l:List Nd} {a:Int} {r:List Nat×Int} (hr:Cy l a=r) (h:RdT w s l):Calls Tryz.prog 78 #[.agg #[s],.int .i64 a] w fun e w'=>e=.returned (.tuple #[AP r.1,.int .i64 r.2])∧w.grownBy w' none:=by
 subst hr
 obtain⟨L,rfl,hL⟩:=h.k
 exact ACD L s a w hL
theorem Lh {l:List Nd} (h:∀n∈l,Nok n) (a:Int):Dg (Cy l a).1:=by
 have hz:Dg AR:=⟨rfl,by intro x hx;simp[AR,zs] at hx;omega⟩
 unfold Cy
 split
 · split
   · rename_i n hn;exact P9 _ _ _ (h n (List.mem_of_find?_eq_some hn)).1
   · exact hz
 · exact hz
theorem AD0 {l:List Nd} (h:∀n∈l,Nok n) (a:Int):∀n∈(Fy l a).1,Nok n:=by
 have h0:∀n∈Io a l,Nok n:=by
   intro n hn
   unfold Io at hn
   obtain⟨x,hx,hn⟩:=List.mem_flatMap.1 hn
   split at hn
   · rename_i hA
     have ho:=P3 hA
     have hd:=Ep.1 ho
     have:=AIf (34-x.d).toNat x (by omega) ho n hn
     exact AD1 this.1 this.2
   · obtain rfl:=List.mem_singleton.1 hn;exact h n hx
 intro n hn
 unfold Fy at hn
 split at hn
 · split at hn
   · cases hn
   · exact h0 n hn
 · cases hn
theorem ACK {l:List Nd} (a:Int):(Fy l a).1.length≤32768:=by
 unfold Fy
 split
 · split
   · simp
   · rename_i h;simp only;omega
 · simp
theorem AJx {w w':World} {k:List Nat} (hk:Dg k) {s:Value} (ho:Own w' 132 34 s 1 (BD ⟨0,0,k⟩)) (hf:Fresh w w' s):∃ao cap,s=.slice ao 1 cap∧RdT w' (.slice ao 1 cap) (tree k [])∧w.grownBy w' none:=by
 obtain⟨ao,cap,rfl,_⟩:=(Sl.of_own ho).shape
 refine⟨ao,cap,rfl,⟨?_,AGK hk,fun k hk=>Own.lt ho k hk.1,by rw[Kv];simp⟩,hf.none⟩
 rw[Kv]
 exact by have:=Sl.of_own ho;unfold Ay;simpa [L5] using this
end
section
open Go.RowKit
theorem Zm {α β:Type} {f:α→Option β} {g:α→β}:∀{l:List α},(∀x∈l,f x=some (g x))→l.mapM f=some (l.map g):=by
 intro l
 induction l with
 | nil=>intro _;rfl
 | cons x l ih =>
  intro h
  rw[List.mapM_cons,h x (List.mem_cons.2 (.inl rfl)),ih fun y hy=>h y (List.mem_cons.2 (.inr hy))]
  rfl
def lbv (l:List Nat):List Lit:=l.map fun x:Nat=>.int .u8 (x:Int)
theorem AGL {l m:List Nat}:lbv l=lbv m↔l=m:=by
 refine⟨fun h=>?_,fun h=>by rw[h]⟩
 unfold lbv at h
 exact(List.map_inj_right (fun a b hab=>by
  injection hab with _ h2
  exact Int.ofNat.inj h2)).1 h
theorem AA4:Tryz.prog.cellsOf 5=1:=by kernel_rfl
theorem Uq:Tryz.prog.cellsOf 23=32:=by kernel_rfl
theorem AIg:Tryz.prog.cellsOf 3=1:=by kernel_rfl
theorem AGM:Tryz.prog.cellsOf 2=1:=by kernel_rfl
theorem AGN (d:Nat) (x:Nat) (h:x<256):Tryz.prog.keyLits (d+1) 5 [.int .u8 (x:Int)]=some [.int .u8 (x:Int)]:=by
 unfold Program.keyLits
 rw[Tryz.underlying5]
 simp[Lit.wf,IntKind.min,IntKind.max,IntKind.signed,IntKind.bits]
 omega
theorem ABF (d:Nat) (l:List Nat) (h:Dg l):Tryz.prog.keyLits (d+2) 23 (bv l)=some (lbv l):=by
 unfold Program.keyLits
 rw[Tryz.underlying23]
 simp only
 rw[if_pos (by rw[AI,h.1,Uq])]
 have hm:∀i∈List.range 32,Tryz.prog.keyLits (d+1) 5 (((bv l).drop (i*Tryz.prog.cellsOf 5)).take (Tryz.prog.cellsOf 5))=some [.int .u8 ((l.getD i 0:Nat):Int)]:=fun i hi=>by
  have hil:i<l.length:=by rw[h.1];exact List.mem_range.1 hi
  rw[AA4,Nat.mul_one]
  have e:((bv l).drop i).take 1=[.int .u8 ((l[i]:Nat):Int)]:=by
   unfold bv
   rw[List.drop_eq_getElem_cons (by rw[List.length_map];exact hil),List.take_succ_cons,List.take_zero,List.getElem_map]
  rw[e,AGN d _ (h.2 _ (List.getElem_mem hil)),List.getD_eq_getElem?_getD,List.getElem?_eq_getElem hil]
  rfl
 rw[Zm hm]
 obtain⟨x0,x1,x2,x3,x4,x5,x6,x7,x8,x9,x10,x11,x12,x13,x14,x15,x16,x17,x18,x19,x20,x21,x22,x23,x24,x25,x26,x27,x28,x29,x30,x31,rfl⟩:=II l h.1
 rfl
theorem AD2 (T:TypeId) (m:Nat) (hm:m≤10000) (hk:Tryz.prog.keyTypeAt m T=true) (hg:Tryz.prog.eqGuardType Tryz.prog.depth T=false) {xs ys:List Value} {D:Nat} {la lb:List Lit}
   (fx:(Value.agg xs.toArray).formed Tryz.prog T=true) (fy:(Value.agg ys.toArray).formed Tryz.prog T=true) (hx:Tryz.prog.keyLits D T xs=some la) (hy:Tryz.prog.keyLits D T ys=some lb) {r:Bool} (hr:r=true↔la=lb) (px py:Operand) (w:World) :
   (do eqGuard .eql T px py (.agg xs.toArray) (.agg ys.toArray);binOp .eql T (.agg xs.toArray) (.agg ys.toArray):Sem Value).run Tryz.prog w=.ok (.bool r) w ∧
   (do eqGuard .neq T px py (.agg xs.toArray) (.agg ys.toArray);binOp .neq T (.agg xs.toArray) (.agg ys.toArray):Sem Value).run Tryz.prog w=.ok (.bool (!r)) w:=by
 obtain⟨b,hb,hiff⟩:=run_equalIn_deep (P:=Tryz.prog) (10000-m) m T hk w D D (.agg xs.toArray) (.agg ys.toArray) la lb fx fy (by simpa [Value.cells] using hx) (by simpa [Value.cells] using hy)
 rw[show 10000-m+m=10000 by omega] at hb
 have hbr:b=r:=by rw[Bool.eq_iff_iff,hiff,hr]
 subst hbr
 constructor
 · rw[Sem.run_bind,run_eqGuard_agg (hm:=hg),Result.andThen_ok,run_eql_struct,hb];rfl
 · rw[Sem.run_bind,run_eqGuard_agg (hm:=hg),Result.andThen_ok,run_neq_struct,hb];rfl
theorem Li {x y:List Nat} (hx:Dg x) (hy:Dg y) (px py:Operand) (w:World) :
  (do eqGuard .eql 23 px py (AP x) (AP y);binOp .eql 23 (AP x) (AP y):Sem Value).run Tryz.prog w=.ok (.bool (decide (x=y))) w ∧
  (do eqGuard .neq 23 px py (AP x) (AP y);binOp .neq 23 (AP x) (AP y):Sem Value).run Tryz.prog w=.ok (.bool (!decide (x=y))) w:=
 AD2 23 6 (by decide) (by kernel_rfl) (by kernel_rfl) (by simp[Value.formed,Tryz.underlying23,Uq,AI,hx.1]) (by simp[Value.formed,Tryz.underlying23,Uq,AI,hy.1]) (ABF 0 x hx) (ABF 0 y hy) (by rw[AGL];simp) px py w
end
section
open Go.RowKit Go.Shelf
attribute [local go_sem] Oper.semAt_some
def k1:List Nat:=1::zs 31
end
end Go.Proofs.YtbfjfnbcmojpiaaGreat
namespace Go.Proofs.YtbfjfnbcmojpiaaGreat
open Go.ChangeShapes Go.WideShapes Go.ChangeAt Go.RowKit Go.Deep
open Go.ChangeMaps (open_string shut_string)
theorem own:ownKnob Tryz.prog.godebug=none:=by kernel_rfl
theorem AA3 {α:Type} (p:Nat→α→Prop):∀n,(∀i,i<n→∃x,p i x)→∃l:List α,l.length=n∧∀i (h:i<l.length),p i l[i]
 | 0,_=>⟨[],rfl,fun i h=>by simp at h⟩
 | n+1,h=>by
  obtain⟨l,hl,hp⟩:=AA3 p n fun i hi=>h i (by omega)
  obtain⟨x,hx⟩:=h n (by omega)
  refine⟨l++[x],by simp[hl],fun i hi=>?_⟩
  by_cases hin:i<l.length
  · rw[List.getElem_append_left hin];exact hp i hin
  · have:i=l.length:=by simp at hi;omega
    subst this
    rw[List.getElem_append_right (Nat.le_refl _)]
    simpa [hl] using hx
theorem fld {P:Program} {H:Type} {enc:TypeId×Value→H} {W:World} {b0 k:Nat} {fs:Array Field} {cs:List Value} {xs:List (DataW H×List MemPlace)} (hxl:xs.length=fs.size)
  (hf:∀(i:Nat) (f:Field),fs[i]?=some f→DataW.trod enc P W b0 (fun _=>true) true k f.type ((cs.drop f.offset).take (P.cellsOf f.type))=xs[i]?) (i:Nat) (f:Field) (hi:fs[i]?=some f) (c:Nat) (hc:P.cellsOf f.type=c) :
  ∃y,DataW.trod enc P W b0 (fun _=>true) true k f.type ((cs.drop f.offset).take c)=some y:=by
 have h:=hf i f hi
 rw[hc] at h
 have hl:i<xs.length:=by rw[hxl];exact(Array.getElem?_eq_some_iff.1 hi).1
 exact⟨xs[i],by rw[h,List.getElem?_eq_getElem hl]⟩
theorem MV {P:Program} {H:Type} {enc:TypeId×Value→H} {W:World} {b0 k:Nat} {fs:Array Field} {cs:List Value} {xs:List (DataW H×List MemPlace)} (hxl:xs.length=fs.size)
  (hf:∀(i:Nat) (f:Field),fs[i]?=some f→DataW.trod enc P W b0 (fun _=>true) true k f.type ((cs.drop f.offset).take (P.cellsOf f.type))=xs[i]?) (i:Nat) (f:Field) (hi:fs[i]?=some f) (T:TypeId) (ht:f.type=T) (c:Nat) (hc:P.cellsOf T=c) :
  ∃y,DataW.trod enc P W b0 (fun _=>true) true k T ((cs.drop f.offset).take c)=some y:=by
 subst ht
 exact fld hxl hf i f hi c hc
theorem So {P:Program} {w:World} {r:Reach} {base:Nat} {t:TypeId} {v:Value} {fs:Array Field} (ht:P.underlying t=some (.struct fs)) (h:Value.okWide P w r base t v) :
  ∃cs:Array Value,v=.agg cs∧∀(i:Nat) (c:Value),cs[i]?=some c→∃u,Cell.okWide P w r base u c:=by
 simp only[Value.okWide,ht] at h
 obtain⟨cs,h1,_,ts,_,_,h2⟩:=h
 exact⟨cs,h1,fun i c hc=>let ⟨u,_,hu⟩:=h2 i c hc;⟨u,hu⟩⟩
theorem Up {P:Program} {w:World} {r:Reach} {base:Nat} {t:TypeId} {v:Value} {n:Nat} {e:TypeId} (ht:P.underlying t=some (.array n e)) (h:Value.okWide P w r base t v):∃cs,v=.agg cs:=by
 simp only[Value.okWide,ht] at h
 obtain⟨cs,h1,_⟩:=h
 exact⟨cs,h1⟩
theorem ADc {a:Int} (h:(Lit.int .u8 a).wf=true):0≤a∧a<256:=by
 simp[Lit.wf] at h
 have e1:IntKind.u8.min=0:=by decide
 have e2:IntKind.u8.max=255:=by decide
 omega
theorem AIW {H:Type} {enc:TypeId×Value→H} {W:World} {b0:Nat}:∀fuel cs y,DataW.trod enc Tryz.prog W b0 (fun _=>true) true fuel 23 cs=some y→∃x:List Nat,cs=bv x∧x.length=32∧∀b∈x,b<256:=by
 intro fuel cs y h
 obtain⟨xs,k,_,_,hl,hxl,hf⟩:=DataW.trod_array Tryz.underlying23 h
 rw[Uq] at hl
 rw[AA4] at hf
 obtain⟨L,hL,hp⟩:=AA3 (fun i (b:Nat)=>cs[i]?=some (.int .u8 (b:Int))∧b<256) 32 fun i hi=>by
   have h1:=hf i hi
   rw[List.getElem?_eq_getElem (by omega)] at h1
   obtain⟨n,h2,_,h3⟩:=DataW.trod_int Tryz.underlying5 h1
   have hr:=ADc h3
   refine⟨n.toNat,?_,by omega⟩
   have h4:((cs.drop (i*1)).take 1)[0]?=some (.int .u8 n):=by rw[h2];rfl
   rw[List.getElem?_take,if_pos (by omega),List.getElem?_drop,Nat.mul_one,Nat.add_zero] at h4
   rw[h4]
   congr 2
   omega
 refine⟨L,?_,hL,fun b hb=>?_⟩
 · apply List.ext_getElem?
   intro i
   by_cases hi:i<L.length
   · rw[(hp i hi).1]
     simp[bv,List.getElem?_eq_getElem hi]
   · rw[List.getElem?_eq_none (by omega),List.getElem?_eq_none (by rw[AI];omega)]
 · obtain⟨i,hi,rfl⟩:=List.getElem_of_mem hb
   exact(hp i hi).2
theorem ADW {H:Type} {enc:TypeId×Value→H} {W:World} {r:Reach} {base b0:Nat} {v:Value} {d:DataW H} {p:List MemPlace} (hv:Value.okWide Tryz.prog W r base 23 v) (h:DataW.Trod enc Tryz.prog W b0 (fun _=>true) true 23 v d p):∃x:List Nat,v=AP x∧Dg x:=by
 obtain⟨cs,rfl⟩:=Up Tryz.underlying23 hv
 obtain⟨fuel,hf⟩:=h
 obtain⟨x,h1,h2,h3⟩:=AIW _ _ _ hf
 refine⟨x,?_,h2,h3⟩
 unfold AP
 rw[←h1]
 rfl
end Go.Proofs.YtbfjfnbcmojpiaaGreat
namespace Go.Proofs.YtbfjfnbcmojpiaaGreat
section
open Go.RowKit Go.Shelf
section
variable {P:Program} {ops:Array Oper} {L:List Sp} {n:Nat} {w0:World} {o:Oper}
theorem Oy {a:Act} {s i:Nat} {vs:Array Value} {v:Value} (ho:o.op=.extract (.tmp s) i) (hx:a.tmps.getD s undef=.tuple vs) (hi:vs[i]?=some v) (w:World):(execOp a.eval o).run P w=.ok (.value v) w:=by
 have hx':a.eval (.tmp s)=.tuple vs:=hx
 simp only[execOp,ho,hx']
 simp[Instr.extract,hi]
end
end
end Go.Proofs.YtbfjfnbcmojpiaaGreat
