import Derived.Test.YtbfjfnbcmojpiaaGreatDaY1
import Derived.Below
import Derived.BigQuiet
import Derived.ChangeKeysEq
import Derived.ChangeOld
import Derived.Deep.AppendLies
import Derived.Deep.MidRow
import Derived.Deep.QuietTactic
import Derived.Deep.RegionHeld3
import Derived.Deep.RegionLaw
import Derived.Deep.Slices
import Derived.Handy
import Derived.Laws.AppendOwnNone
import Derived.Laws.BitsAllLaws
import Derived.Laws.CopyOwn
import Derived.Laws.DeepNot64
import Derived.Lib.AppendStr
import Derived.OpenShut
import Derived.ProofKit
import Derived.ShutString
import Derived.WalkKit
import Derived.WalkLawsBesides
import Derived.WalkSpells
set_option linter.unusedSimpArgs false
set_option linter.unusedVariables false
set_option maxRecDepth 100000
set_option maxHeartbeats 1000000
namespace Go.Proofs.YtbfjfnbcmojpiaaGreat
section
open Go.RowKit
theorem SA {P:Program} {Q:Exit→Act→World→Prop} {id:Nat} {ops:Array Oper} {a0:Act} {w0:World} (hm:P.follows .mixedOrders=true) (n:Nat) (L:Nat→World→Value→Prop) (J:World→Prop) (D:Nat→World→Prop) (hJ:J w0.drew) (hn:a0.tmps.size=n) (hB:AIx ops n=true)
   (h0:∀t,t<n→(∀(i:Nat) (o:Oper),ops[i]?=some o→o.dst≠some t)→L t w0.drew (a0.tmps.getD t undef))
   (ob:∀(i:Nat) (o:Oper),ops[i]?=some o→∀a w,J w→(∀t∈o.looksAt ops,t<n→L t w (a.tmps.getD t undef))→a.tmps.size=n →
     OpSays P ops o a w fun v w'=>J w'∧(∀t x,L t w x→L t w' x)∧(∀j,j≠i→D j w→D j w')∧D i w'∧∀d,o.dst=some d→L d w' v)
   (hQ:∀a w,J w→a.defers=a0.defers→a.tmps.size=n→(∀t,t<n→L t w (a.tmps.getD t undef))→(∀i,i<ops.size→D i w)→Q .normal a w) :
   (Code.region id ops true).wp P Q a0 w0:=by
 refine wp_region_any hm ?_
 have key:∀(fuel:Nat) (listed:Array Bool) (a:Act) (w:World),listed.size=ops.size→(∀l:List Nat,l.Nodup→(∀i∈l,i<ops.size∧listed.getD i true=false)→l.length≤fuel) →
     J w→a.defers=a0.defers→a.tmps.size=n →
     (∀t,t<n→((∀(i:Nat) (o:Oper),ops[i]?=some o→o.dst≠some t)∨∃(i:Nat) (o:Oper),ops[i]?=some o∧o.dst=some t∧listed.getD i false=true)→L t w (a.tmps.getD t undef))→(∀i,i<ops.size→listed.getD i false=true→D i w) →
     wpAny P .any ops Q fuel listed a w:=by
   intro fuel
   have done:∀(listed:Array Bool) (a:Act) (w:World),listed.size=ops.size→Region.ready .any ops listed=[]→J w→a.defers=a0.defers→a.tmps.size=n →
     (∀t,t<n→((∀(i:Nat) (o:Oper),ops[i]?=some o→o.dst≠some t)∨∃(i:Nat) (o:Oper),ops[i]?=some o∧o.dst=some t∧listed.getD i false=true)→L t w (a.tmps.getD t undef))→(∀i,i<ops.size→listed.getD i false=true→D i w)→Q .normal a w:=by
     intro listed a w hsz hr hg hd has hk hD
     have all:∀i,i<ops.size→listed.getD i false=true:=by
       intro i
       induction i using Nat.strongRecOn with
       | _ i ih =>
         intro hi
         cases hl:listed.getD i false with
         | true=>rfl
         | false =>
           exfalso
           have ho:ops[i]?=some ops[i]:=Array.getElem?_eq_getElem hi
           have:i∈Region.ready .any ops listed:=mem_ready.2 ⟨by
               have:i<listed.size:=by omega
               simp only[Array.getD_eq_getD_getElem?,Array.getElem?_eq_getElem this,Option.getD_some] at hl ⊢
               exact hl,ops[i],ho,fun e he _=>by
               have:=(WA hB ho).1 e (by simpa using he)
               exact ih e.on this (by omega)⟩
           rw[hr] at this
           cases this
     refine hQ a w hg hd has (fun t ht=>hk t ht ?_) (fun i hi=>hD i hi (all i hi))
     by_cases hex:∃(i:Nat) (o:Oper),ops[i]?=some o∧o.dst=some t
     · obtain⟨i,o,hi,hd⟩:=hex
       exact .inr ⟨i,o,hi,hd,all i (Array.getElem?_eq_some_iff.1 hi).1⟩
     · exact .inl fun i o hi hd=>hex ⟨i,o,hi,hd⟩
   induction fuel with
   | zero =>
     intro listed a w hsz hf hg hd has hk hD
     have hr:Region.ready .any ops listed=[]:=by
       cases hr:Region.ready .any ops listed with
       | nil=>rfl
       | cons i r =>
         exfalso
         have hi:i∈Region.ready .any ops listed:=by rw[hr];exact List.mem_cons_self
         obtain⟨h1,o,h2,_⟩:=mem_ready.1 hi
         have:=hf [i] (by simp) (fun k hk=>by simp at hk;subst hk;exact⟨(Array.getElem?_eq_some_iff.1 h2).1,h1⟩)
         simp at this
     exact⟨hr,done listed a w hsz hr hg hd has hk hD⟩
   | succ fuel ih =>
     intro listed a w hsz hf hg hd has hk hD
     refine⟨fun hr=>done listed a w hsz hr hg hd has hk hD,fun i hi=>?_⟩
     obtain⟨h1,o,ho,hready⟩:=mem_ready.1 hi
     obtain⟨s1,s2,s3⟩:=WA hB ho
     have hlt:i<ops.size:=(Array.getElem?_eq_some_iff.1 ho).1
     refine OpSays.wpOp ho (ob i o ho a w hg (fun t ht htn=>hk t htn ?_) has) ?_
     · by_cases hex:∃(j:Nat) (oj:Oper),ops[j]?=some oj∧oj.dst=some t
       · obtain⟨j,oj,hj,hdj⟩:=hex
         obtain⟨e,he,rfl,hb⟩:=(s3 j oj t hj hdj).2 ht
         exact .inr ⟨e.on,oj,hj,hdj,hready e (by simpa using he) hb⟩
       · exact .inl fun j oj hj hdj=>hex ⟨j,oj,hj,hdj⟩
     · rintro v w' ⟨hg',hkp,hkd,hdi,hv⟩
       refine ih _ _ _ (by simpa using hsz) ?_ hg' (by cases ho':o.dst<;>simp[Act.put,hd]) (by cases ho':o.dst<;>simp[Act.put,has]) ?_ ?_
       · intro l hnd hl
         have hil:i ∉ l:=by
           intro hmem
           have:=(hl i hmem).2
           rw[Array.getD_eq_getD_getElem?,Array.getElem?_setIfInBounds_self_of_lt (by omega)] at this
           cases this
         have:=hf (i::l) (List.nodup_cons.2 ⟨hil,hnd⟩) (fun k hk=>by
           rcases List.mem_cons.1 hk with rfl|hk
           · exact⟨hlt,h1⟩
           · have h2:=hl k hk
             have hne:i≠k:=fun e=>hil (e▸hk)
             rw[getD_set_ne true hne] at h2
             exact h2)
         simpa using this
       · intro t htn hor
         rw[Fq a o.dst v t (fun k hk=>has▸s2 k hk)]
         by_cases hdt:o.dst=some t
         · rw[if_pos hdt]
           exact hv t hdt
         · rw[if_neg hdt]
           refine hkp _ _ (hk t htn ?_)
           rcases hor with h|⟨j,oj,hj,hdj,hlj⟩
           · exact .inl h
           · refine .inr ⟨j,oj,hj,hdj,?_⟩
             have hne:i≠j:=fun e=>hdt (by subst e;rw[ho] at hj;obtain rfl:=Option.some.inj hj;exact hdj)
             rwa [getD_set_ne false hne] at hlj
       · intro j hj hlj
         by_cases hij:i=j
         · subst hij;exact hdi
         · refine hkd j (fun e=>hij e.symm) (hD j hj ?_)
           rwa [getD_set_ne false hij] at hlj
 refine key ops.size _ a0 w0.drew (by simp) ?_ hJ rfl hn ?_ ?_
 · intro l hnd hl
   have:l ⊆ List.range ops.size:=fun k hk=>List.mem_range.2 (hl k hk).1
   have:=List.Nodup.length_le_of_subset hnd this
   simpa using this
 · intro t ht hor
   refine h0 t ht ?_
   rcases hor with h|⟨i,o,hi,_,hl⟩
   · exact h
   · exfalso
     have:i<ops.size:=(Array.getElem?_eq_some_iff.1 hi).1
     rw[Array.getD_eq_getD_getElem?,Array.getElem?_replicate,if_pos this] at hl
     cases hl
 · intro i hi hl
   exfalso
   rw[Array.getD_eq_getD_getElem?,Array.getElem?_replicate,if_pos hi] at hl
   cases hl
end
section
open Go.RowKit
theorem AJN (l:List Nat) (r:ByteArray):(l.map fun n:Nat=>(n:Int)).foldl (fun r n=>r.push (UInt8.ofNat n.toNat)) r=⟨r.data++(l.map fun n=>UInt8.ofNat n).toArray⟩:=by
 induction l generalizing r with
 | nil=>simp
 | cons a l ih =>
  simp only[List.map_cons,List.foldl_cons,ih]
  congr 1
  apply Array.ext'
  simp[ByteArray.push]
theorem XG (l:List Nat):(bs l).size=l.length:=by simp[bs,ByteArray.size]
theorem SB {P:Program} (src dst e:TypeId) (hs:P.underlying src=some (.slice e)) (he:P.underlying e=some (.int .u8)) (hd:P.underlying dst=some .string) {w:World} {v:Value} {l:List Nat} (h:Sl w 1 v l.length (bv l)) :
  (convert src dst v).run P w=.ok (.string (bs l)) w:=by
 obtain⟨hl,ao,cap,rfl,h1,h2,h3,h4⟩:=h
 rw[run_convert_bytes_string w src dst e _ _ _ hs he hd]
 cases ao with
 | none =>
  have:l.length=0:=by have:=h3 rfl;omega
  obtain rfl:=List.eq_nil_of_length_eq_zero this
  rfl
 | some a =>
  obtain⟨b,off,spot⟩:=a
  obtain⟨hsp,hc⟩:=h4 _ rfl
  have hlc:=run_loadCells_list (P:=P) w ⟨b,off,spot⟩ (bv l) (fun j u hu=>by
   have hp:0<l.length:=by have:=(List.getElem?_eq_some_iff.1 hu).1;rw[AO] at this;omega
   have e:spot=none:=hsp hp
   subst e
   rw[Addr.add_lit];exact hc j u hu)
  rw[AO] at hlc
  have:=run_bytesToString (P:=P) w ⟨b,off,spot⟩ l.length cap (l.map fun n:Nat=>(n:Int)) (by rw[hlc];simp[bv])
  rw[this,AJN]
  simp[bs]
end
section
open Go.RowKit
section
variable {P:Program} {ops:Array Oper} {L:Nat→World→Value→Prop} {J:World→Prop} {D:Nat→World→Prop} {n i:Nat} {o:Oper}
theorem Kr (hg:GOKG ops L n o.guard) (hD:∀w,J w→D i w) (h:∀(a:Act) w,J w→(∀t∈o.looksAt ops,t<n→L t w (a.tmps.getD t undef))→a.tmps.size=n→∃v,(execOp a.eval o).run P w=.ok (.value v) w∧∀d,o.dst=some d→L d w v):OG P ops L J D n i o:=by
 intro a w hw hl hs
 unfold OpSays
 rw[if_pos (hg.wanted hl hs)]
 obtain⟨v,hr,hv⟩:=h a w hw hl hs
 rw[hr]
 exact⟨hw,fun _ _ h=>h,fun _ _ h=>h,hD w hw,hv⟩
theorem NP (hg:GOKG ops L n o.guard) (hd:o.dst=none) (h:∀(a:Act) w,J w→(∀t∈o.looksAt ops,t<n→L t w (a.tmps.getD t undef))→a.tmps.size=n →
   ∃w',(execOp a.eval o).run P w=.ok .skip w'∧J w'∧(∀t x,L t w x→L t w' x)∧(∀j,j≠i→D j w→D j w')∧D i w'):OG P ops L J D n i o:=by
 intro a w hw hl hs
 unfold OpSays
 rw[if_pos (hg.wanted hl hs)]
 obtain⟨w',hr,h1,h2,h3,h4⟩:=h a w hw hl hs
 rw[hr]
 exact⟨h1,h2,h3,h4,fun d hd'=>by rw[hd] at hd';cases hd'⟩
theorem AJO (f:Nat) (args:Array Operand) (tys:Array TypeId) (ho:o.op=.call { callee:=.value (.func f),args:=args,argTypes:=tys }) (hg:GOKG ops L n o.guard)
  (hrun:∀(av:Array Value) w,((Deferred.ofValue (.func (.func f) #[] #[]) av).run P w).andThen (fun a w'=>(invoke a.target a.args).run P w')=.ok (.enter f av) w)
  (hc:∀(a:Act) w,J w→(∀t∈o.looksAt ops,t<n→L t w (a.tmps.getD t undef))→a.tmps.size=n→Calls P f (args.map a.eval) w fun e w'=>∃v,e=.returned v∧J w'∧(∀t x,L t w x→L t w' x)∧(∀j,j≠i→D j w→D j w')∧D i w'∧∀d,o.dst=some d→L d w' v):OG P ops L J D n i o:=by
 intro a w hw hl hs
 unfold OpSays
 rw[if_pos (hg.wanted hl hs)]
 have hr:(execOp a.eval o).run P w=.ok (.enter f (args.map a.eval)) w:=by
  simp only[execOp,ho,resolve,Act.eval,Sem.run_bind]
  exact hrun (args.map a.eval) w
 rw[hr]
 exact hc a w hw hl hs
end
end
section
open Go.RowKit
abbrev DU (α:Type):=List Nat→Except Nat (α×List Nat)
def Ey (x:Nat):Int:=if x%2=1 then -(x/2:Nat)-1 else (x/2:Nat)
def Qq:List Nat→Nat→Nat→Except Nat (Nat×List Nat)
 | [],_,_=>.error 100
 | c::l,i,x=>if (i=9∧1<c)∨(0<i∧c=0) then .error 1 else if c<128 then .ok (x+c%128*2^(7*i),l) else Qq l (i+1) (x+c%128*2^(7*i))
def KQ:DU Int:=fun l=>match Qq l 0 0 with
 | .ok (x,r)=>.ok (Ey x,r)
 | .error e=>.error e
def Dn (a b:Int):DU Int:=fun l=>match KQ l with
 | .ok (n,r)=>if n<a∨b<n then .error 1 else .ok (n,r)
 | .error e=>.error e
def JF (n:Nat):DU (List Nat):=fun l=>if n≤l.length then .ok (l.take n,l.drop n) else .error 100
def LS {α β:Type} (p:DU α) (q:α→DU β):DU β:=fun l=>match p l with
 | .ok (x,r)=>q x r
 | .error e=>.error e
def LU {α:Type} (x:α):DU α:=fun l=>.ok (x,l)
abbrev FO:=Except Nat (List Nat)
def Rel {α:Type} (p:DU α) (s:FO) (x:α) (s':FO):Prop:=
 match s with
 | .error e=>s'=.error e
 | .ok l=>match p l with
  | .ok (y,r)=>y=x∧s'=.ok r
  | .error e=>s'=.error e
theorem Rel.bind {α β:Type} {p:DU α} {q:α→DU β} {s s1 s2:FO} {x:α} {y:β} (h:Rel p s x s1) (k:Rel (q x) s1 y s2):Rel (LS p q) s y s2:=by
 unfold Rel LS at *
 cases s with
 | error e=>simp only at h;subst h;exact k
 | ok l =>
  simp only at h ⊢
  cases hp:p l with
  | error e=>rw[hp] at h;simp only at h ⊢;subst h;exact k
  | ok r=>rw[hp] at h;obtain⟨y',r⟩:=r;simp only at h ⊢;obtain⟨rfl,rfl⟩:=h;exact k
theorem Rel.pure {α:Type} (x:α) (s:FO):Rel (LU x) s x s:=by
 unfold Rel LU
 cases s<;>simp
theorem Rel.ok {α:Type} {p:DU α} {l r:List Nat} {x:α} (h:Rel p (.ok l) x (.ok r)):p l=.ok (x,r):=by
 unfold Rel at h
 simp only at h
 cases hp:p l with
 | error e=>rw[hp] at h;cases h
 | ok y=>rw[hp] at h;obtain⟨y,r'⟩:=y;simp only at h;obtain⟨rfl,h⟩:=h;cases h;rfl
theorem Rel.err {α:Type} {p:DU α} {l:List Nat} {e:Nat} {x:α} (h:Rel p (.ok l) x (.error e)):p l=.error e:=by
 unfold Rel at h
 simp only at h
 cases hp:p l with
 | error e=>rw[hp] at h;cases h;rfl
 | ok y=>rw[hp] at h;obtain⟨y,r'⟩:=y;simp only at h;cases h.2
theorem Rel.of_ok {α:Type} {p:DU α} {l r:List Nat} {x:α} (h:p l=.ok (x,r)):Rel p (.ok l) x (.ok r):=by unfold Rel;simp[h]
theorem Rel.of_err {α:Type} {p:DU α} {l:List Nat} {e:Nat} {x:α} (h:p l=.error e):Rel p (.ok l) x (.error e):=by unfold Rel;simp[h]
theorem Rel.dead {α:Type} {p:DU α} {e:Nat} {x:α} {s:FO} (h:Rel p (.error e) x s):s=.error e:=h
def Lo (v:Value) (R:Nat):Prop:=∀k,v.ownBlock=some k→k<R
theorem Lo.ne {v:Value} {R B:Nat} (h:Lo v R) (hB:R≤B):v.ownBlock≠some B:=fun e=>by have:=h _ e;omega
theorem Lo.of_eq {v v':Value} {R:Nat} (e:v.ownBlock=v'.ownBlock) (h:Lo v' R):Lo v R:=fun k hk=>h k (e▸hk)
theorem Lo.mono {v:Value} {R R':Nat} (h:Lo v R) (hr:R≤R'):Lo v R':=fun k hk=>Nat.lt_of_lt_of_le (h k hk) hr
def LoR (v:Value) (L R:Nat):Prop:=Lo v L∧L≤R
theorem LoR.ne {v:Value} {L R B:Nat} (h:LoR v L R) (hB:R≤B):v.ownBlock≠some B:=h.1.ne (Nat.le_trans h.2 hB)
theorem LoR.of_eq {v v':Value} {L R:Nat} (e:v.ownBlock=v'.ownBlock) (h:LoR v' L R):LoR v L R:=⟨h.1.of_eq e,h.2⟩
def RSt (T:TypeId) (L:Nat) (w:World) (R:Nat) (s:FO):Prop:=
 ∃v l,(match s with
  | .ok r=>r=l∧w.heap[R]?=some (.cells #[v,.int .i64 0] T (0,0))
  | .error e=>e≠0∧e≤200∧w.heap[R]?=some (.cells #[v,.int .i64 e] T (0,0))) ∧
 Sl w 1 v l.length (bv l)∧LoR v L R∧(∀b∈l,b<256)∧l.length≤1099511627776
theorem RSt.kept {T:TypeId} {L:Nat} {w w':World} {R:Nat} {s:FO} (h:RSt T L w R s) (hg:w.grownBy w' none):RSt T L w' R s:=by
 obtain⟨v,l,h1,h2,h3,h4⟩:=h
 refine⟨v,l,?_,h2.kept hg (by cases hv:v.ownBlock<;>simp),h3,h4⟩
 cases s with
 | ok r=>exact⟨h1.1,by rw[hg.block R (Array.getElem?_eq_some_iff.1 h1.2).1 (by simp)];exact h1.2⟩
 | error e=>exact⟨h1.1,h1.2.1,by rw[hg.block R (Array.getElem?_eq_some_iff.1 h1.2.2).1 (by simp)];exact h1.2.2⟩
theorem RSt.past {T:TypeId} {L:Nat} {w w':World} {R B:Nat} {s:FO} (h:RSt T L w R s) (hg:w.grownBy w' (some B)) (hB:R<B):RSt T L w' R s:=by
 obtain⟨v,l,h1,h2,h3,h4⟩:=h
 have hne:some R≠some B:=by simp;omega
 refine⟨v,l,?_,h2.kept hg (.inr (h3.ne (by omega))),h3,h4⟩
 cases s with
 | ok r=>exact⟨h1.1,by rw[hg.block R (Array.getElem?_eq_some_iff.1 h1.2).1 hne];exact h1.2⟩
 | error e=>exact⟨h1.1,h1.2.1,by rw[hg.block R (Array.getElem?_eq_some_iff.1 h1.2.2).1 hne];exact h1.2.2⟩
theorem WO:∀(l:List Nat) (i x:Nat),i≤9→x<2^(7*i)→(∀b∈l,b<256)→∀y r,Qq l i x=.ok (y,r)→y<18446744073709551616
 | [],i,x,_,_,_,y,r,h=>by simp[Qq] at h
 | c::l,i,x,hi,hx,hb,y,r,h=>by
  unfold Qq at h
  split at h
  · cases h
  · rename_i hc
    have hc256:=hb c List.mem_cons_self
    have hstep:x+c%128*2^(7*i)<2^(7*(i+1)):=by
      have h1:c%128≤127:=by omega
      have h2:c%128*2^(7*i)≤127*2^(7*i):=Nat.mul_le_mul_right _ h1
      have h3:2^(7*(i+1))=128*2^(7*i):=by rw[show 7*(i+1)=7+7*i by omega,Nat.pow_add]
      omega
    split at h
    · simp only[Except.ok.injEq,Prod.mk.injEq] at h
      obtain⟨rfl,rfl⟩:=h
      by_cases h9:i=9
      · subst h9
        have:c%128≤1:=by omega
        have h2:c%128*2^(7*9)≤1*2^(7*9):=Nat.mul_le_mul_right _ this
        have h3:(2:Nat)^(7*9)=9223372036854775808:=by decide
        omega
      · have h4:2^(7*(i+1))≤2^(7*9):=Nat.pow_le_pow_right (by decide) (by omega)
        have h3:(2:Nat)^(7*9)=9223372036854775808:=by decide
        omega
    · refine WO l (i+1) _ (by omega) hstep (fun b hb'=>hb b (List.mem_cons_of_mem _ hb')) y r h
theorem SC {l:List Nat} (hb:∀b∈l,b<256) {n:Int} {r:List Nat} (h:KQ l=.ok (n,r)):-9223372036854775808≤n∧n≤9223372036854775807:=by
 unfold KQ at h
 cases hr:Qq l 0 0 with
 | error e=>rw[hr] at h;cases h
 | ok y =>
  obtain⟨y,r'⟩:=y
  rw[hr] at h
  simp only[Except.ok.injEq,Prod.mk.injEq] at h
  obtain⟨rfl,rfl⟩:=h
  have:=WO l 0 0 (by omega) (by decide) hb y r' hr
  unfold Ey
  split<;>omega
theorem Z9 (x i:Nat) (hi:i≤9) (hx:x<2^(7*i)) (c:Nat) (hc:c<256) (hok:¬((i=9∧1<c)∨(0<i∧c=0))):x ||| c%128*2^(7*i)=x+c%128*2^(7*i)∧x+c%128*2^(7*i)<18446744073709551616∧c%128*2^(7*i)<18446744073709551616∧x<18446744073709551616∧(¬c<128→i≤8∧x+c%128*2^(7*i)<2^(7*(i+1))):=by
 have hstep:x+c%128*2^(7*i)<2^(7*(i+1)):=by
  have h1:c%128≤127:=by omega
  have h2:c%128*2^(7*i)≤127*2^(7*i):=Nat.mul_le_mul_right _ h1
  have h3:2^(7*(i+1))=128*2^(7*i):=by rw[show 7*(i+1)=7+7*i by omega,Nat.pow_add]
  omega
 have h64:x+c%128*2^(7*i)<18446744073709551616:=by
  by_cases h9:i=9
  · subst h9
    have:c%128≤1:=by omega
    have h2:c%128*2^(7*9)≤1*2^(7*9):=Nat.mul_le_mul_right _ this
    have h3:(2:Nat)^(7*9)=9223372036854775808:=by decide
    omega
  · have h4:2^(7*(i+1))≤2^(7*9):=Nat.pow_le_pow_right (by decide) (by omega)
    have h3:(2:Nat)^(7*9)=9223372036854775808:=by decide
    omega
 refine⟨?_,h64,by omega,by omega,fun h=>⟨by omega,hstep⟩⟩
 rw[Nat.or_comm,nat_join (7*i) _ x (Nat.mul_mod_left _ _) hx,Nat.add_comm]
end
section
open Go.RowKit
theorem D8 {w:World} {R:Nat} {T:TypeId} {a b:Value} (h:w.heap[R]?=some (.cells #[a,b] T (0,0))) :
   w.cell? ⟨R,0,none⟩=some a∧w.cell? ⟨R,1,none⟩=some b∧w.frozen? ⟨R,0,none⟩=false∧w.frozen? ⟨R,1,none⟩=false:=by
 refine⟨?_,?_,AOV w R 0 _ T h,AOV w R 1 _ T h⟩
 · rw[AOS w R 0 _ T _ h];rfl
 · rw[AOS w R 1 _ T _ h];rfl
theorem RSt.fail {T:TypeId} {L:Nat} {w:World} {R:Nat} {v:Value} {l:List Nat} (h:w.heap[R]?=some (.cells #[v,.int .i64 0] T (0,0))) (hv:Sl w 1 v l.length (bv l)) (hvb:LoR v L R) (hb:∀b∈l,b<256) (hl:l.length≤1099511627776) (e:Nat) (he:e≠0) (he2:e≤200) :
  RSt T L (w.setCell ⟨R,1,none⟩ (.int .i64 e)) R (.error e):=
 ⟨v,l,⟨he,he2,heap_setCell_same w R 1 _ T _ h⟩,hv.kept (BE w ⟨R,1,none⟩ _) (.inr (hvb.ne (Nat.le_refl _))),hvb,hb,hl⟩
theorem RSt.next {T:TypeId} {L:Nat} {w:World} {R:Nat} {v v':Value} {l:List Nat} (h:w.heap[R]?=some (.cells #[v,.int .i64 0] T (0,0))) (hv:Sl w 1 v' l.length (bv l)) (hvb:LoR v' L R) (hb:∀b∈l,b<256) (hl:l.length≤1099511627776) :
  RSt T L (w.setCell ⟨R,0,none⟩ v') R (.ok l):=
 ⟨v',l,⟨rfl,heap_setCell_same w R 0 _ T _ h⟩,hv.kept (BE w ⟨R,0,none⟩ _) (.inr (hvb.ne (Nat.le_refl _))),hvb,hb,hl⟩
theorem Sl.cut {w:World} {b off n cap k:Nat} {l:List Nat} (h:Sl w 1 (.slice (some ⟨b,off,none⟩) n cap) n (bv l)) (hn:n=l.length) (hk:k≤n) (ao:Option Addr) (hao:¬cap=k→ao=some ⟨b,off+k,none⟩) (hao2:∃o,ao=some ⟨b,o,none⟩) :
  Sl w 1 (.slice ao (n-k) (cap-k)) (l.drop k).length (bv (l.drop k))∧(.slice ao (n-k) (cap-k):Value).ownBlock=some b:=by
 subst hn
 obtain⟨hl,ao',cap',hv,h1,h2,h3,h4⟩:=h
 simp only[Value.slice.injEq] at hv
 obtain⟨rfl,_,rfl⟩:=hv
 obtain⟨o,rfl⟩:=hao2
 obtain⟨_,hc⟩:=h4 _ rfl
 refine⟨⟨by simp[bv],_,_,by rw[List.length_drop],by simp;omega,by omega,fun h=>(by cases h),fun a ha=>?_⟩,rfl⟩
 obtain rfl:=Option.some.inj ha
 refine⟨fun _=>rfl,fun j u hu=>?_⟩
 have hj:j<l.length-k:=by have:=(List.getElem?_eq_some_iff.1 hu).1;simpa [bv] using this
 have he:=hao (by omega)
 simp only[Option.some.injEq,Addr.mk.injEq,and_true,true_and] at he
 subst he
 have:=hc (k+j) u (by rw[←hu];simp[bv])
 simpa [Nat.add_assoc] using this
theorem Ks {a b:Int} (h:a=b):(a == b)=true:=by simp[h]
theorem I2 {a b:Int} (h:a≠b):(a == b)=false:=by simp[h]
def GR (T:TypeId) (L:Nat) (w:World) (R:Nat) {α:Type} (p:DU α) (s:FO) (rep:World→Value→α→Prop) (en:Ending) (w':World):Prop:=
 ∃v x s',en=.returned v∧rep w' v x∧w.grownBy w' (some R)∧RSt T L w' R s'∧Rel p s x s'
def Mn (_:World) (v:Value) (n:Int):Prop:=v=.int .i64 n∧-9223372036854775808≤n∧n≤9223372036854775807
theorem IW (R:Nat) (v:Value) (er e:Int) (w:World) (h:w.heap[R]?=some (.cells #[v,.int .i64 er] 164 (0,0))) :
   Calls Tryz.prog 159 #[.pointer (some ⟨R,0,none⟩),.int .i64 e] w fun en w'=>en=.returned (.tuple #[])∧w'=if er=0 then w.setCell ⟨R,1,none⟩ (.int .i64 e) else w:=by
 obtain⟨h0,h1,h2,h3⟩:=D8 h
 by_cases hz:er=0
 · subst hz
   go_enter Tryz.func159,Tryz.ntmps159
   go_wp2
   go_end0
   exact⟨rfl,by simp⟩
 · go_enter Tryz.func159,Tryz.ntmps159
   go_wp2
   go_end0
   exact⟨rfl,rfl⟩
theorem AHB {L:Nat} (R:Nat) (s:FO) (w:World) (h:RSt 164 L w R s) :
  Calls Tryz.prog 158 #[.pointer (some ⟨R,0,none⟩)] w (GR 164 L w R KQ s Mn):=by
 have hst:=h
 obtain⟨v,l,hs,hv,hvb,hb,hl⟩:=h
 cases s with
 | error er =>
  obtain⟨he,he2,hrow⟩:=hs
  obtain⟨c0,c1,f0,f1⟩:=D8 hrow
  have he':((er:Int) == 0)=false:=by simp;omega
  go_enter Tryz.func158,Tryz.ntmps158
  go_wp2
  refine wp_loop_rounds 1 ?_
  rw[rounds_succ]
  go_wp2
  go_ret
  exact⟨_,0,_,rfl,⟨rfl,by decide,by decide⟩,World.grownBy.refl _ _,hst,rfl⟩
 | ok l' =>
  obtain⟨rfl,hrow⟩:=hs
  obtain⟨c0,c1,f0,f1⟩:=D8 hrow
  obtain⟨ao,cap,rfl,hnc,hcm⟩:=hv.shape
  go_enter Tryz.func158,Tryz.ntmps158
  go_wp2
  go_loop [3,4] (fun x i=>∃(k X:Nat),k≤9∧k≤l'.length∧X<2^(7*k)∧Qq (l'.drop k) k X=Qq l' 0 0∧i=.int .i64 k∧x=.int .u64 X) (fun _ i=>10-(intOf i).toNat)
  case atStart=>exact⟨0,0,by omega,by omega,by decide,rfl,rfl,rfl⟩
  case round =>
   obtain⟨k,X,hk9,hkl,hX,hrd,rfl,rfl⟩:=hrel
   by_cases hlt:k<l'.length
   · obtain⟨blk,off,rfl,hc⟩:=hv.at k (by simpa [bv] using hlt)
     have hcell:w.cell? ⟨blk,off+k,none⟩=some (.int .u8 (l'[k]:Nat)):=(hc k (by simpa [bv] using hlt)).trans (by simp[bv])
     have hdrop:l'.drop k=l'[k]::l'.drop (k+1):=List.drop_eq_getElem_cons hlt
     have hcb:=hb l'[k] (List.getElem_mem hlt)
     rw[hdrop] at hrd
     generalize l'[k]=c at *
     have HR:=AK hrd
     clear hdrop hrd hc
     have HX:=AK hX
     clear hX
     have hbad:(k=9∧1<c)∨(0<k∧c=0)→Qq l' 0 0=.error 1:=by
       intro h;rw[←HR.out,Qq,if_pos h]
     obtain⟨d,hd,hdlt⟩:∃d:Nat,bits BinOp.and IntKind.u8 (c:Int) 127=(d:Int)∧d<128:=⟨c%128,by have:=u8_and_nat c 127 (by omega) (by decide);rw[nat_mask7] at this;exact this,by omega⟩
     rcases(show(k=9∧1<c)∨(0<k∧k<9∧c≤0)∨(k=9∧c≤0)∨((k=9∧c≤1∧0<c)∨k=0∨(0<k∧k<9∧0<c)) from by omega) with ⟨hA,hB⟩|⟨hA,hA',hB⟩|⟨hA,hB⟩|hC
     · have HE:=AK (hbad (.inl ⟨hA,hB⟩))
       clear hbad
       have b9:((k:Int) == 9)=true:=Ks (by omega)
       have b1:decide (1<(c:Int))=true:=decide_eq_true (by omega)
       have b0:decide (0<k)=true:=decide_eq_true (by omega)
       have bc:((c:Int) == 0)=false:=I2 (by omega)
       clear hA
       go_wp2_with (go_at_call 159;refine(IW _ _ _ _ _ hrow).mono ?_;rintro e w' ⟨rfl,rfl⟩)
       go_ret
       exact⟨_,0,.error 1,rfl,⟨rfl,by decide,by decide⟩,BE w ⟨R,1,none⟩ _,RSt.fail hrow hv hvb hb hl 1 (by decide) (by decide),Rel.of_err (by unfold KQ;rw[HE.out])⟩
     · have HE:=AK (hbad (.inr ⟨hA,by omega⟩))
       clear hbad
       have b9:((k:Int) == 9)=false:=I2 (by omega)
       have b1:decide (1<(c:Int))=false:=decide_eq_false (by omega)
       have b0:decide (0<k)=true:=decide_eq_true (by omega)
       have bc:((c:Int) == 0)=true:=Ks (by omega)
       go_wp2_with (go_at_call 159;refine(IW _ _ _ _ _ hrow).mono ?_;rintro e w' ⟨rfl,rfl⟩)
       go_ret
       exact⟨_,0,.error 1,rfl,⟨rfl,by decide,by decide⟩,BE w ⟨R,1,none⟩ _,RSt.fail hrow hv hvb hb hl 1 (by decide) (by decide),Rel.of_err (by unfold KQ;rw[HE.out])⟩
     · have HE:=AK (hbad (.inr ⟨by omega,by omega⟩))
       clear hbad
       have b9:((k:Int) == 9)=true:=Ks (by omega)
       have b1:decide (1<(c:Int))=false:=decide_eq_false (by omega)
       have b0:decide (0<k)=true:=decide_eq_true (by omega)
       have bc:((c:Int) == 0)=true:=Ks (by omega)
       clear hA
       go_wp2_with (go_at_call 159;refine(IW _ _ _ _ _ hrow).mono ?_;rintro e w' ⟨rfl,rfl⟩)
       go_ret
       exact⟨_,0,.error 1,rfl,⟨rfl,by decide,by decide⟩,BE w ⟨R,1,none⟩ _,RSt.fail hrow hv hvb hb hl 1 (by decide) (by decide),Rel.of_err (by unfold KQ;rw[HE.out])⟩
     · clear hbad
       have hok:¬((k=9∧1<c)∨(0<k∧c=0)):=by omega
       obtain⟨st1,st2,st3,st4,st5⟩:=Z9 X k hk9 HX.out c hcb hok
       have HN:Hid (Qq l' 0 0=if c<128 then .ok (X+c%128*2^(7*k),l'.drop (k+1)) else Qq (l'.drop (k+1)) (k+1) (X+c%128*2^(7*k))):=by
         rw[←HR.out,Qq,if_neg hok];exact AK rfl
       clear hok HR HX
       have hd':d=c%128:=by
         have h:=u8_and_nat c 127 (by omega) (by decide)
         rw[nat_mask7] at h
         have h2:=hd.symm.trans h
         omega
       obtain⟨y,hy,hy2⟩:∃y:Nat,IntKind.u64.wrap ((d:Int)*2^(7*k))=(y:Int)∧y=c%128*2^(7*k):=by
         refine⟨_,?_,rfl⟩
         rw[hd',IntKind.wrap_u64,show((c%128:Nat):Int)*2^(7*k)=((c%128*2^(7*k):Nat):Int) by rw[Int.natCast_mul,Int.natCast_pow];rfl]
         omega
       obtain⟨Z,hZ,hZ2⟩:∃Z:Nat,bits BinOp.or IntKind.u64 (X:Int) (y:Int)=(Z:Int)∧Z=X+y:=⟨_,u64_or_nat X y st4 (by omega),by rw[hy2];exact st1⟩
       rw[←hy2,←hZ2] at HN st2 st5
       have HZ:=AK st5
       clear st1 st3 st4 st5 hy2 hZ2 hd'
       obtain⟨m,hm,hm2⟩:∃m:Nat,bits BinOp.and IntKind.u64 (Z:Int) 1=(m:Int)∧m=Z%2:=⟨_,u64_and_nat Z 1 st2 (by decide),nat_mask1 Z⟩
       have hx:=i64_not (Z/2) (by omega)
       rw[Int.natCast_ediv] at hx
       have hx':bits BinOp.xor IntKind.i64 (-1) ((Z:Int)/2)=-1-(Z:Int)/2:=hx
       clear hx
       have HM:=AK hm2
       clear hm2
       have hcut:=fun ao=>Sl.cut (k:=k+1) hv rfl (by omega) ao
       have HC:=AK hcut
       clear hcut
       have fin:∀(ao:Option Addr),c<128→(¬cap=k+1→ao=some ⟨blk,off+(k+1),none⟩)→(∃o,ao=some ⟨blk,o,none⟩)→∀n:Int,n=Ey Z →
           GR 164 L w R KQ (.ok l') Mn (.returned (.int .i64 n)) (w.setCell ⟨R,0,none⟩ (.slice ao (l'.length-(k+1)) (cap-(k+1)))):=by
         intro ao hc1 h1 h2 n hn
         obtain⟨h3,h4⟩:=HC.out ao h1 h2
         have hpi:KQ l'=.ok (Ey Z,l'.drop (k+1)):=by unfold KQ;rw[HN.out,if_pos hc1]
         have hr:=SC hb hpi
         refine⟨_,n,.ok (l'.drop (k+1)),rfl,⟨rfl,by rw[hn];exact hr.1,by rw[hn];exact hr.2⟩,BE w ⟨R,0,none⟩ _,RSt.next hrow h3 (LoR.of_eq (h4.trans rfl) hvb) (fun b hb'=>hb b (List.mem_of_mem_drop hb')) (by rw[List.length_drop];omega),?_⟩
         rw[hn]
         exact Rel.of_ok hpi
       have FIN:=AK fin
       clear fin
       rcases hC with ⟨h1,h2,h3⟩|h1|⟨h1,h2,h3⟩
       · have b9:((k:Int) == 9)=true:=Ks (by omega)
         have b1:decide (1<(c:Int))=false:=decide_eq_false (by omega)
         have b0:decide (0<k)=true:=decide_eq_true (by omega)
         have bc:((c:Int) == 0)=false:=I2 (by omega)
         clear h1
         have hc1:c<128:=by omega
         have hm3:m=0∨m=1:=by have:=HM.out;omega
         rcases hm3 with hm3|hm3
         · have bm:((m:Int) == 1)=false:=I2 (by omega)
           have hn:(Z:Int)/2=Ey Z:=by have:=HM.out;unfold Ey;rw[if_neg (by omega)];omega
           have HNN:=AK hn
           clear hn hm3
           by_cases hcap:cap=k+1
           · subst hcap
             have F:=FIN.out (some ⟨blk,off,none⟩) hc1 (by intro h;simp at h) ⟨_,rfl⟩ _ HNN.out
             rw[Nat.sub_self,show l'.length-(k+1)=0 by omega] at F
             have FF:=AK F
             clear F
             go_wp2
             all_goals go_ret
             all_goals exact FF.out
           · go_wp2
             all_goals go_ret
             all_goals exact FIN.out (some ⟨blk,off+(k+1),none⟩) hc1 (fun _=>rfl) ⟨_,rfl⟩ _ HNN.out
         · have bm:((m:Int) == 1)=true:=Ks (by omega)
           have hn:-1-(Z:Int)/2=Ey Z:=by have:=HM.out;unfold Ey;rw[if_pos (by omega)];omega
           have HNN:=AK hn
           clear hn hm3
           by_cases hcap:cap=k+1
           · subst hcap
             have F:=FIN.out (some ⟨blk,off,none⟩) hc1 (by intro h;simp at h) ⟨_,rfl⟩ _ HNN.out
             rw[Nat.sub_self,show l'.length-(k+1)=0 by omega] at F
             have FF:=AK F
             clear F
             go_wp2
             all_goals go_ret
             all_goals exact FF.out
           · go_wp2
             all_goals go_ret
             all_goals exact FIN.out (some ⟨blk,off+(k+1),none⟩) hc1 (fun _=>rfl) ⟨_,rfl⟩ _ HNN.out
       · have b9:((k:Int) == 9)=false:=I2 (by omega)
         have b0:decide (0<k)=false:=decide_eq_false (by omega)
         clear h1
         by_cases hc1:c<128
         · have hm3:m=0∨m=1:=by have:=HM.out;omega
           rcases hm3 with hm3|hm3
           · have bm:((m:Int) == 1)=false:=I2 (by omega)
             have hn:(Z:Int)/2=Ey Z:=by have:=HM.out;unfold Ey;rw[if_neg (by omega)];omega
             have HNN:=AK hn
             clear hn hm3
             by_cases hcap:cap=k+1
             · subst hcap
               have F:=FIN.out (some ⟨blk,off,none⟩) hc1 (by intro h;simp at h) ⟨_,rfl⟩ _ HNN.out
               rw[Nat.sub_self,show l'.length-(k+1)=0 by omega] at F
               have FF:=AK F
               clear F
               go_wp2
               all_goals go_ret
               all_goals exact FF.out
             · go_wp2
               all_goals go_ret
               all_goals exact FIN.out (some ⟨blk,off+(k+1),none⟩) hc1 (fun _=>rfl) ⟨_,rfl⟩ _ HNN.out
           · have bm:((m:Int) == 1)=true:=Ks (by omega)
             have hn:-1-(Z:Int)/2=Ey Z:=by have:=HM.out;unfold Ey;rw[if_pos (by omega)];omega
             have HNN:=AK hn
             clear hn hm3
             by_cases hcap:cap=k+1
             · subst hcap
               have F:=FIN.out (some ⟨blk,off,none⟩) hc1 (by intro h;simp at h) ⟨_,rfl⟩ _ HNN.out
               rw[Nat.sub_self,show l'.length-(k+1)=0 by omega] at F
               have FF:=AK F
               clear F
               go_wp2
               all_goals go_ret
               all_goals exact FF.out
             · go_wp2
               all_goals go_ret
               all_goals exact FIN.out (some ⟨blk,off+(k+1),none⟩) hc1 (fun _=>rfl) ⟨_,rfl⟩ _ HNN.out
         · have h8:=(HZ.out hc1).1
           go_wp2
           go_round
           case rel=>exact⟨k+1,Z,by omega,by omega,(HZ.out hc1).2,by rw[HN.out,if_neg hc1],by go_num,by go_num⟩
           case measure=>simp[intOf];omega
       · have b9:((k:Int) == 9)=false:=I2 (by omega)
         have b0:decide (0<k)=true:=decide_eq_true (by omega)
         have bc:((c:Int) == 0)=false:=I2 (by omega)
         by_cases hc1:c<128
         · have hm3:m=0∨m=1:=by have:=HM.out;omega
           rcases hm3 with hm3|hm3
           · have bm:((m:Int) == 1)=false:=I2 (by omega)
             have hn:(Z:Int)/2=Ey Z:=by have:=HM.out;unfold Ey;rw[if_neg (by omega)];omega
             have HNN:=AK hn
             clear hn hm3
             by_cases hcap:cap=k+1
             · subst hcap
               have F:=FIN.out (some ⟨blk,off,none⟩) hc1 (by intro h;simp at h) ⟨_,rfl⟩ _ HNN.out
               rw[Nat.sub_self,show l'.length-(k+1)=0 by omega] at F
               have FF:=AK F
               clear F
               go_wp2
               all_goals go_ret
               all_goals exact FF.out
             · go_wp2
               all_goals go_ret
               all_goals exact FIN.out (some ⟨blk,off+(k+1),none⟩) hc1 (fun _=>rfl) ⟨_,rfl⟩ _ HNN.out
           · have bm:((m:Int) == 1)=true:=Ks (by omega)
             have hn:-1-(Z:Int)/2=Ey Z:=by have:=HM.out;unfold Ey;rw[if_pos (by omega)];omega
             have HNN:=AK hn
             clear hn hm3
             by_cases hcap:cap=k+1
             · subst hcap
               have F:=FIN.out (some ⟨blk,off,none⟩) hc1 (by intro h;simp at h) ⟨_,rfl⟩ _ HNN.out
               rw[Nat.sub_self,show l'.length-(k+1)=0 by omega] at F
               have FF:=AK F
               clear F
               go_wp2
               all_goals go_ret
               all_goals exact FF.out
             · go_wp2
               all_goals go_ret
               all_goals exact FIN.out (some ⟨blk,off+(k+1),none⟩) hc1 (fun _=>rfl) ⟨_,rfl⟩ _ HNN.out
         · have h8:=(HZ.out hc1).1
           go_wp2
           go_round
           case rel=>exact⟨k+1,Z,by omega,by omega,(HZ.out hc1).2,by rw[HN.out,if_neg hc1],by go_num,by go_num⟩
           case measure=>simp[intOf];omega
   · obtain rfl:k=l'.length:=by omega
     go_wp2_with (go_at_call 159;refine(IW _ _ _ _ _ hrow).mono ?_;rintro e w' ⟨rfl,rfl⟩)
     go_ret
     exact⟨_,0,.error 100,rfl,⟨rfl,by decide,by decide⟩,BE w ⟨R,1,none⟩ _,RSt.fail hrow hv hvb hb hl 100 (by decide) (by decide),Rel.of_err (by unfold KQ;rw[←hrd,List.drop_length];rfl)⟩
end
section
open Go.RowKit
abbrev I64 (n:Int):Prop:=-9223372036854775808≤n∧n≤9223372036854775807
structure Cd {α:Type} (p:DU α) (b:List Nat) (x:α):Prop where
 rt:∀rest,p (b++rest)=.ok (x,rest)
 cut:∀l t,b=l++t→t≠[]→p l=.error 100
theorem Cd.bind {α β:Type} {p:DU α} {q:α→DU β} {b b':List Nat} {x:α} {y:β} (h:Cd p b x) (k:Cd (q x) b' y):Cd (LS p q) (b++b') y:=by
 refine⟨fun rest=>?_,fun l t hl ht=>?_⟩
 · unfold LS
   rw[List.append_assoc,h.rt]
   exact k.rt rest
 · unfold LS
   rcases List.append_eq_append_iff.1 hl with ⟨m,h1,h2⟩|⟨m,h1,h2⟩
   · subst h1
     rw[h.rt]
     exact k.cut m t h2 ht
   · by_cases hm:m=[]
     · subst hm
       simp only[List.append_nil] at h1
       have h2':b'=t:=by simpa using h2.symm
       subst h1
       have:=h.rt []
       rw[List.append_nil] at this
       rw[this]
       exact k.cut [] b' rfl (by rw[h2'];exact ht)
     · rw[h.cut l m h1 hm]
theorem Cd.pure {α:Type} (x:α):Cd (LU x) [] x:=
 ⟨fun _=>rfl,fun l t h ht=>by have:=congrArg List.length h;have:=List.length_pos_iff.2 ht;simp at *;omega⟩
theorem Cd.map {α β:Type} {p:DU α} {b:List Nat} {x:α} (f:α→β) (h:Cd p b x):Cd (LS p fun a=>LU (f a)) b (f x):=by
 have:=h.bind (q:=fun a=>LU (f a)) (Cd.pure (f x))
 rwa [List.append_nil] at this
theorem SD (i:Nat):2^(7*(i+1))=128*2^(7*i):=by rw[show 7*(i+1)=7+7*i by omega,Nat.pow_add]
theorem ALJ {u i:Nat} (hi:i=9) (h:u*2^(7*i)<18446744073709551616):u<2:=by
 subst hi
 have e:(2:Nat)^(7*9)=9223372036854775808:=by decide
 rw[e] at h;omega
theorem AJP (u:Nat):∀(i x:Nat) (rest:List Nat),i≤9→u*2^(7*i)<18446744073709551616→(0<i→0<u)→Qq (Vz u++rest) i x=.ok (x+u*2^(7*i),rest):=by
 induction u using Vz.induct with
 | case1 u h =>
  intro i x rest hi h1 h2
  have h9:=fun e=>ALJ (i:=i) (u:=u) e h1
  rw[IR h,List.singleton_append,Qq,if_neg (by omega),if_pos h,Nat.mod_eq_of_lt h]
 | case2 u h ih =>
  intro i x rest hi h1 h2
  have h9:=fun e=>ALJ (i:=i) (u:=u) e h1
  rw[Lr h,List.cons_append,Qq,if_neg (by omega),if_neg (by omega),ih (i+1) _ rest (by omega) ?_ (by omega),SD]
  · have e:(u%128+128)%128=u%128:=by omega
    rw[e]
    have e2:u=u%128+128*(u/128):=by omega
    generalize 2^(7*i)=P at *
    congr 2
    conv=>rhs;rw[e2]
    rw[Nat.add_mul,Nat.add_assoc,Nat.mul_comm 128 (u/128),Nat.mul_assoc]
  · rw[SD]
    generalize 2^(7*i)=P at *
    have:u/128*(128*P)≤u*P:=by
     rw[←Nat.mul_assoc]
     exact Nat.mul_le_mul_right _ (by omega)
    omega
theorem AJQ (u:Nat):∀(i x:Nat) (l t:List Nat),i≤9→u*2^(7*i)<18446744073709551616→Vz u=l++t→t≠[]→Qq l i x=.error 100:=by
 induction u using Vz.induct with
 | case1 u h =>
  intro i x l t hi h1 hl ht
  rw[IR h] at hl
  cases l with
  | nil=>rfl
  | cons c l =>
   simp only[List.cons_append,List.cons.injEq] at hl
   have:=hl.2
   simp at this
   exact absurd this.2 ht
 | case2 u h ih =>
  intro i x l t hi h1 hl ht
  have h9:=fun e=>ALJ (i:=i) (u:=u) e h1
  rw[Lr h] at hl
  cases l with
  | nil=>rfl
  | cons c l =>
   simp only[List.cons_append,List.cons.injEq] at hl
   obtain⟨rfl,hl⟩:=hl
   rw[Qq,if_neg (by omega),if_neg (by omega)]
   refine ih (i+1) _ l t (by omega) ?_ hl ht
   rw[SD]
   generalize 2^(7*i)=P at *
   have:u/128*(128*P)≤u*P:=by
    rw[←Nat.mul_assoc]
    exact Nat.mul_le_mul_right _ (by omega)
   omega
theorem AFT (n:Int):Ey (zig n)=n:=by
 unfold Ey zig
 split<;>split<;>omega
theorem ALK {n:Int} (h:I64 n):Cd KQ (enc n) n:=by
 have hz:=Wt h.1 h.2
 refine⟨fun rest=>?_,fun l t hl ht=>?_⟩
 · unfold KQ enc
   rw[AJP _ 0 0 rest (by omega) (by simpa using hz) (by omega)]
   simp[AFT]
 · unfold KQ
   rw[AJQ (zig n) 0 0 l t (by omega) (by simpa using hz) hl ht]
theorem AAA {a b n:Int} (h:I64 n) (ha:a≤n) (hb:n≤b):Cd (Dn a b) (enc n) n:=by
 have c:=ALK h
 refine⟨fun rest=>?_,fun l t hl ht=>?_⟩
 · unfold Dn
   rw[c.rt]
   simp only
   rw[if_neg (by omega)]
 · unfold Dn
   rw[c.cut l t hl ht]
theorem AHC (b:List Nat) (n:Nat) (hn:n=b.length):Cd (JF n) b b:=by
 subst hn
 refine⟨fun rest=>?_,fun l t hl ht=>?_⟩
 · unfold JF
   rw[if_pos (by simp)]
   simp
 · unfold JF
   rw[if_neg]
   have:=congrArg List.length hl
   have h2:0<t.length:=List.length_pos_iff.2 ht
   simp at this;omega
def AAB (most:Int):DU ByteArray:=LS (Dn 0 most) fun n=>LS (JF n.toNat) fun b=>LU (bs b)
theorem AJR (s:ByteArray) {most:Int} (h:(s.size:Int)≤most) (hm:(s.size:Int)≤9223372036854775807):Cd (AAB most) (Rm s) s:=by
 refine(AAA ⟨by omega,by omega⟩ (by omega) h).bind ?_
 have:=Cd.map bs (AHC (by_ s) (s.size:Int).toNat (by rw[Ww];omega))
 rwa [AKX] at this
end
section
open Go.RowKit
theorem UW (v:Value) (xs:List Nat) (w:World) (hv:Sl w 1 v xs.length (bv xs)) (hl:xs.length≤1099511627776) :
  Calls Tryz.prog 153 #[v] w fun e w'=>∃v',e=.returned v'∧Sl w' 1 v' xs.length (bv xs)∧Fresh w w' v':=by
 obtain⟨ao,cap,rfl,hnc,hcm⟩:=hv.shape
 have hE:=@Lib.run_eql_slice_nil Tryz.prog
 have hown:Own (w.alloc (.cells #[] 5)) 5 1 (.slice (some ⟨w.heap.size,0,none⟩) 0 0) 0 []:=World.ownsRow_lit w #[] 0 (Nat.zero_le _) (Nat.zero_le _) rfl
 have hv':=hv.kept (World.grownBy_alloc w (.cells #[] 5) none) (by cases h:(Value.slice ao xs.length cap).ownBlock<;>simp)
 cases ao with
 | none =>
  go_enter Tryz.func153,Tryz.ntmps153
  go_wp2
  go_ret
  have h0:xs.length=0:=by
   obtain⟨_,ao',cap',h1,h2,h3,h4,_⟩:=hv
   simp only[Value.slice.injEq] at h1
   obtain⟨rfl,_,rfl⟩:=h1
   have:=h4 rfl;omega
  obtain rfl:=List.eq_nil_of_length_eq_zero h0
  exact⟨Ph,rfl,Sl.nil _ _,Step.refl _ _⟩
 | some a =>
  go_enter Tryz.func153,Tryz.ntmps153
  go_wp2_with (at_builtin;go_must (refine Ea Di rfl _ _ rfl _ _ _ rfl hown _ _ _ rfl hv' (Dk _) (by omega) ?_;intro v' w' hown' hg'))
  go_ret
  exact⟨_,rfl,Sl.of_own (by simpa using hown'),(Fresh.lit _ _ _ _).trans hg'⟩
end
section
open Go.RowKit
theorem RSt.row {T:TypeId} {L:Nat} {w:World} {R:Nat} {s:FO} (h:RSt T L w R s):∃v e,w.heap[R]?=some (.cells #[v,.int .i64 e] T (0,0))∧(∀l,s=.ok l→e=0∧Sl w 1 v l.length (bv l)∧LoR v L R∧(∀b∈l,b<256)∧l.length≤1099511627776)∧(∀n,s=.error n→e=(n:Int)∧n≠0):=by
 obtain⟨v,l,h1,h2,h3,h4,h5⟩:=h
 cases s with
 | ok r=>obtain⟨rfl,h1⟩:=h1;exact⟨v,0,h1,fun l hl=>(by cases hl;exact⟨rfl,h2,h3,h4,h5⟩),fun n hn=>(by cases hn)⟩
 | error e=>exact⟨v,e,h1.2.2,fun l hl=>(by cases hl),fun n hn=>(by cases hn;exact⟨rfl,h1.1⟩)⟩
theorem RSt.fail' {T:TypeId} {L:Nat} {w:World} {R:Nat} {l:List Nat} (h:RSt T L w R (.ok l)) (e:Nat) (he:e≠0) (he2:e≤200):RSt T L (w.setCell ⟨R,1,none⟩ (.int .i64 e)) R (.error e):=by
 obtain⟨v,l',⟨rfl,h1⟩,h2,h3,h4,h5⟩:=h
 exact RSt.fail h1 h2 h3 h4 h5 e he he2
theorem Rel.inIn {a b n:Int} {s s1:FO} (h:Rel KQ s n s1):(∀r,s1=.ok r→a≤n∧n≤b→Rel (Dn a b) s n s1)∧(∀r,s1=.ok r→(n<a∨b<n)→∀x,Rel (Dn a b) s x (.error 1))∧(∀e,s1=.error e→∀x,Rel (Dn a b) s x s1):=by
 refine⟨fun r hr hn=>?_,fun r hr hn x=>?_,fun e he x=>?_⟩
 · subst hr
   cases s with
   | error e=>exact absurd h.dead (by simp)
   | ok l=>refine Rel.of_ok ?_;have:=h.ok;unfold Dn;rw[this];simp only;rw[if_neg (by omega)]
 · subst hr
   cases s with
   | error e=>exact absurd h.dead (by simp)
   | ok l=>refine Rel.of_err ?_;have:=h.ok;unfold Dn;rw[this];simp only;rw[if_pos hn]
 · subst he
   cases s with
   | error e'=>exact h
   | ok l=>refine Rel.of_err ?_;have:=h.err;unfold Dn;rw[this]
theorem OF {L:Nat} (R:Nat) (s:FO) (a b:Int) (w:World) (h:RSt 164 L w R s) :
  Calls Tryz.prog 154 #[.pointer (some ⟨R,0,none⟩),.int .i64 a,.int .i64 b] w (GR 164 L w R (Dn a b) s Mn):=by
 go_enter Tryz.func154,Tryz.ntmps154
 go_wp2_with fail
 refine(AHB R s _ h).mono ?_
 rintro e w1 ⟨v,n,s1,rfl,⟨rfl,hn⟩,hg,hst,hrel⟩
 obtain⟨r1,r2,r3⟩:=hrel.inIn (a:=a) (b:=b)
 have HG:=AK hg
 have HST:=AK hst
 cases s1 with
 | error er =>
  obtain⟨v3,l3,⟨he,he2,hrow⟩,_⟩:=hst
  obtain⟨c0,c1,f0,f1⟩:=D8 hrow
  have be:((er:Int) == 0)=false:=I2 (by omega)
  have be':((er:Int) != 0)=true:=by simp;omega
  have H3:=AK (r3 er rfl 0)
  clear r1 r2 r3 hrel hg hrow he he2
  go_wp2
  go_ret
  exact⟨_,0,_,rfl,⟨rfl,by decide,by decide⟩,HG.out,HST.out,H3.out⟩
 | ok l =>
  obtain⟨v3,l3,⟨rfl,hrow⟩,_⟩:=hst
  obtain⟨c0,c1,f0,f1⟩:=D8 hrow
  have H1:=AK (r1 l rfl)
  have H2:=AK (r2 l rfl)
  clear r1 r2 r3 hrel hg
  have HR:=AK hrow
  have fin:n<a∨b<n→GR 164 L w R (Dn a b) s Mn (.returned (.int .i64 0)) (w1.setCell ⟨R,1,none⟩ (.int .i64 1)):=fun hb =>
    ⟨_,0,.error 1,rfl,⟨rfl,by decide,by decide⟩,AA HG.out (BE w1 ⟨R,1,none⟩ _),HST.out.fail' 1 (by decide) (by decide),H2.out hb 0⟩
  have FIN:=AK fin
  clear fin
  by_cases ha:n<a
  · have d1:decide (n<a)=true:=decide_eq_true ha
    have F:=AK (FIN.out (.inl ha))
    clear FIN ha
    go_wp2_with (go_at_call 159;refine(IW _ _ _ _ _ hrow).mono ?_;rintro e w' ⟨rfl,rfl⟩)
    go_ret
    exact F.out
  · have d1:decide (n<a)=false:=decide_eq_false ha
    by_cases hb:b<n
    · have d2:decide (b<n)=true:=decide_eq_true hb
      have F:=AK (FIN.out (.inr hb))
      clear FIN ha hb
      go_wp2_with (go_at_call 159;refine(IW _ _ _ _ _ hrow).mono ?_;rintro e w' ⟨rfl,rfl⟩)
      go_ret
      exact F.out
    · have d2:decide (b<n)=false:=decide_eq_false hb
      have F:=AK (H1.out ⟨by omega,by omega⟩)
      clear FIN ha hb
      go_wp2
      go_ret
      exact⟨_,n,_,rfl,⟨rfl,hn⟩,HG.out,HST.out,F.out⟩
theorem Sl.drop {w:World} {ao:Option Addr} {cap k:Nat} {l:List Nat} (h:Sl w 1 (.slice ao l.length cap) l.length (bv l)) (hk:k≤l.length) :
   Sl w 1 (.slice (Option.map (fun x=>x.add k) ao) (l.length-k) (cap-k)) (l.drop k).length (bv (l.drop k))∧(.slice (Option.map (fun x=>x.add k) ao) (l.length-k) (cap-k):Value).ownBlock=(.slice ao l.length cap:Value).ownBlock:=by
 obtain⟨hl,ao',cap',hv,h1,h2,h3,h4⟩:=h
 simp only[Value.slice.injEq] at hv
 obtain⟨rfl,_,rfl⟩:=hv
 have hadd:∀a:Addr,a.spot=none→(a.add k).spot=none∧(a.add k).block=a.block∧(a.add k).off=a.off+k:=by
   intro a ha
   unfold Addr.add
   split
   · rename_i h0;subst h0;exact⟨ha,rfl,rfl⟩
   · exact⟨rfl,rfl,rfl⟩
 refine⟨⟨by simp[bv],_,_,by rw[List.length_drop],by simp;omega,by omega,fun h=>?_,fun a ha=>?_⟩,?_⟩
 · cases ao with
   | none=>have:=h3 rfl;omega
   | some a=>cases h
 · cases ao with
   | none=>cases ha
   | some b =>
     obtain⟨hs,hc⟩:=h4 b rfl
     obtain rfl:=Option.some.inj ha
     refine⟨fun h=>(hadd b (hs (by rw[List.length_drop] at h;omega))).1,fun j u hu=>?_⟩
     obtain⟨q1,q2,q3⟩:=hadd b (hs (by have:=(List.getElem?_eq_some_iff.1 hu).1;rw[AO,List.length_drop] at this;omega))
     have:=hc (k+j) u (by rw[←hu];simp[bv])
     rw[q2,q3]
     simpa [Nat.add_assoc] using this
 · cases ao with
   | none=>rfl
   | some b =>
     have e:(b.add k).block=b.block:=by unfold Addr.add;split<;>first|rfl|(split<;>rfl)
     simp[Value.ownBlock,e]
theorem Sl.drop0 {w:World} {ao:Option Addr} {k cap:Nat} {l:List Nat} (h:Sl w 1 (.slice ao l.length cap) l.length (bv l)) (hk:k≤l.length) (hck:cap=k) :
  Sl w 1 (.slice ao (l.length-k) 0) (l.drop k).length (bv (l.drop k))∧(.slice ao (l.length-k) 0:Value).ownBlock=(.slice ao l.length cap:Value).ownBlock:=by
 subst hck
 obtain⟨hl,ao',cap',hv,h1,h2,h3,h4⟩:=h
 simp only[Value.slice.injEq] at hv
 obtain⟨rfl,_,rfl⟩:=hv
 have e:l.drop cap=[]:=List.drop_of_length_le (by omega)
 refine⟨?_,by cases ao<;>rfl⟩
 rw[e]
 refine⟨rfl,ao,0,by simp;omega,Nat.le_refl _,Nat.zero_le _,fun _=>rfl,fun a ha=>⟨fun h=>absurd h (by simp),fun j u hu=>by simp at hu⟩⟩
theorem Sl.take {w:World} {ao:Option Addr} {cap k:Nat} {l:List Nat} (h:Sl w 1 (.slice ao l.length cap) l.length (bv l)) (hk:k≤l.length) :
  Sl w 1 (.slice ao k k) (l.take k).length (bv (l.take k))∧(.slice ao k k:Value).ownBlock=(.slice ao l.length cap:Value).ownBlock:=by
 obtain⟨hl,ao',cap',hv,h1,h2,h3,h4⟩:=h
 simp only[Value.slice.injEq] at hv
 obtain⟨rfl,_,rfl⟩:=hv
 have e:(l.take k).length=k:=by simp;omega
 refine⟨?_,by cases ao<;>rfl⟩
 rw[e]
 refine⟨by rw[AO,e];omega,ao,k,rfl,Nat.le_refl _,by omega,fun h=>by have:=h3 h;omega,fun a ha=>⟨fun h=>(h4 a ha).1 (by omega),fun j u hu=>(h4 a ha).2 j u ?_⟩⟩
 have hj:=(List.getElem?_eq_some_iff.1 hu).1
 rw[AO,e] at hj
 rw[←hu]
 simp[bv,List.getElem?_take]
 intro hjj;omega
theorem RSt.next' {T:TypeId} {L:Nat} {w:World} {R:Nat} {l l':List Nat} (h:RSt T L w R (.ok l)) (hl':∀b∈l',b<256) (hn:l'.length≤l.length) {v':Value} (hv:Sl w 1 v' l'.length (bv l')) (hvb:LoR v' L R):RSt T L (w.setCell ⟨R,0,none⟩ v') R (.ok l'):=by
 obtain⟨v,l0,⟨rfl,h1⟩,h2,h3,h4,h5⟩:=h
 exact RSt.next h1 hv hvb hl' (by omega)
def AAC (w:World) (v:Value) (x:List Nat):Prop:=Sl w 1 v x.length (bv x)∧(∀b∈x,b<256)∧x.length≤1099511627776
theorem UX {L:Nat} (R:Nat) (s:FO) (n:Int) (w:World) (h:RSt 164 L w R s) (hn:I64 n) (hs:∀l,s=.ok l→0≤n) :
  Calls Tryz.prog 160 #[.pointer (some ⟨R,0,none⟩),.int .i64 n] w (GR 164 L w R (JF n.toNat) s AAC):=by
 have HST:=AK h
 cases s with
 | error er =>
  obtain⟨v3,l3,⟨he,he2,hrow⟩,_⟩:=h
  obtain⟨c0,c1,f0,f1⟩:=D8 hrow
  have be:((er:Int) == 0)=false:=I2 (by omega)
  have be':((er:Int) != 0)=true:=by simp;omega
  clear hrow he he2 hs hn
  go_enter Tryz.func160,Tryz.ntmps160
  go_wp2
  go_ret
  exact⟨_,[],_,rfl,⟨Sl.nil _ _,by simp⟩,World.grownBy.refl _ _,HST.out,rfl⟩
 | ok l =>
  obtain⟨v3,l3,⟨rfl,hrow⟩,hsl,hvb,hb,hl⟩:=h
  obtain⟨c0,c1,f0,f1⟩:=D8 hrow
  obtain⟨k,rfl⟩:=Int.eq_ofNat_of_zero_le (hs _ rfl)
  clear hs
  rw[Int.toNat_natCast]
  obtain⟨ao,cap,rfl,hnc,hcm⟩:=hsl.shape
  by_cases hk:l.length<k
  · have d1:decide (l.length<k)=true:=decide_eq_true hk
    have HE:=AK hk
    clear hk
    go_enter Tryz.func160,Tryz.ntmps160
    go_wp2_with (go_at_call 159;refine(IW _ _ _ _ _ hrow).mono ?_;rintro e w' ⟨rfl,rfl⟩)
    go_ret
    exact⟨_,[],.error 100,rfl,⟨Sl.nil _ _,by simp⟩,BE w ⟨R,1,none⟩ _,HST.out.fail' 100 (by decide) (by decide),Rel.of_err (by unfold JF;rw[if_neg (by have:=HE.out;omega)])⟩
  · have d1:decide (l.length<k)=false:=decide_eq_false hk
    have hkl:k≤l.length:=by omega
    clear hk
    go_enter Tryz.func160,Tryz.ntmps160
    go_wp2
    all_goals go_ret
    all_goals
      have hb2:∀b∈l.drop k,b<256:=fun b hb'=>hb b (List.mem_of_mem_drop hb')
      have hb1:∀b∈l.take k,b<256:=fun b hb'=>hb b (List.mem_of_mem_take hb')
      obtain⟨t1,t2⟩:=hsl.take hkl
      have hvt:=LoR.of_eq t2 hvb
    · obtain⟨q1,q2⟩:=hsl.drop0 hkl (by assumption)
      have hg:=BE w ⟨R,0,none⟩ (.slice ao (l.length-k) 0)
      exact⟨_,l.take k,.ok (l.drop k),rfl,⟨t1.kept hg (.inr (hvt.ne (Nat.le_refl _))),hb1,by rw[List.length_take];omega⟩,hg,HST.out.next' hb2 (by simp) q1 (LoR.of_eq q2 hvb),Rel.of_ok (by unfold JF;rw[if_pos hkl])⟩
    · obtain⟨q1,q2⟩:=hsl.drop hkl
      have hg:=BE w ⟨R,0,none⟩ (.slice (Option.map (fun x=>x.add k) ao) (l.length-k) (cap-k))
      exact⟨_,l.take k,.ok (l.drop k),rfl,⟨t1.kept hg (.inr (hvt.ne (Nat.le_refl _))),hb1,by rw[List.length_take];omega⟩,hg,HST.out.next' hb2 (by simp) q1 (LoR.of_eq q2 hvb),Rel.of_ok (by unfold JF;rw[if_pos hkl])⟩
def XH (_:World) (v:Value) (t:ByteArray):Prop:=v=.string t∧t.size≤1099511627776
theorem AJS {a b n:Int} {s:FO} {r:List Nat} (h:Rel (Dn a b) s n (.ok r)):a≤n∧n≤b:=by
 cases s with
 | error e=>exact absurd h.dead (by simp)
 | ok l =>
  have h:=h.ok
  unfold Dn at h
  cases hp:KQ l with
  | error e=>rw[hp] at h;cases h
  | ok z =>
   obtain⟨m,q⟩:=z
   rw[hp] at h
   simp only at h
   split at h
   · cases h
   · simp only[Except.ok.injEq,Prod.mk.injEq] at h
     omega
theorem AFU {L:Nat} (R:Nat) (s:FO) (most:Int) (w:World) (h:RSt 164 L w R s) (_:I64 most) :
  Calls Tryz.prog 155 #[.pointer (some ⟨R,0,none⟩),.int .i64 most] w (GR 164 L w R (AAB most) s XH):=by
 go_enter Tryz.func155,Tryz.ntmps155
 go_wp2_with fail
 refine(OF R s 0 most _ h).mono ?_
 rintro e w1 ⟨v,n,s1,rfl,⟨rfl,hn⟩,hg,hst,hrel⟩
 have HR:=AK hrel
 have HG:=AK hg
 have hpos:∀l,s1=.ok l→0≤n:=fun l hl=>by subst hl;exact(AJS hrel).1
 clear hrel hg
 go_wp2_with fail
 refine(UX R s1 n _ hst hn hpos).mono ?_
 rintro e w2 ⟨v2,x,s2,rfl,⟨hx,hxb,hxl⟩,hg2,hst2,hrel2⟩
 have hc:=SB (P:=Tryz.prog) 29 9 5 Tryz.underlying29 Tryz.underlying5 Tryz.underlying9 hx
 have H2:=AK hrel2
 have HG2:=AK hg2
 have HST2:=AK hst2
 have HX:=AK hx
 clear hrel2 hg2 hst2 hx hpos hst
 go_wp2
 go_ret
 exact⟨_,bs x,s2,rfl,⟨rfl,by rw[XG];exact hxl⟩,AA HG.out HG2.out,HST2.out,HR.out.bind (H2.out.bind (Rel.pure _ _))⟩
end
section
open Go.RowKit
def pV:DU V:=LS (Dn 0 2) fun k=>if k=1 then LS (Dn (-4294967296) 4294967296) fun n=>LU ⟨k,n,ByteArray.empty⟩ else if k=2 then LS (AAB 32) fun t=>LU ⟨k,0,t⟩ else LU ⟨k,0,ByteArray.empty⟩
theorem AJT {k a b:Int} (h:I64 k) (ha:a≤k) (hb:k≤b):Cd (Dn a b) (enc k) k:=AAA h ha hb
theorem ANN {v:V} (h:v.ok):Cd pV (Pi v) v:=by
 obtain⟨k,n,t⟩:=v
 rcases h with ⟨h1,h2,h3⟩|⟨h1,h2,h3,h4⟩|⟨h1,h2,h3⟩
 · simp only at h1 h2 h3
   subst h1 h2 h3
   have c:Cd (Dn 0 2) (enc 0) 0:=AJT ⟨by omega,by omega⟩ (by omega) (by omega)
   exact c.bind (Cd.pure _)
 · simp only at h1 h2 h3 h4
   subst h1 h4
   have c:Cd (Dn 0 2) (enc 1) 1:=AJT ⟨by omega,by omega⟩ (by omega) (by omega)
   have d:Cd (Dn (-4294967296) 4294967296) (enc n) n:=AJT ⟨by omega,by omega⟩ h2 h3
   exact c.bind (Cd.map (fun n=>(⟨1,n,ByteArray.empty⟩:V)) d)
 · simp only at h1 h2 h3
   subst h1 h2
   have c:Cd (Dn 0 2) (enc 2) 2:=AJT ⟨by omega,by omega⟩ (by omega) (by omega)
   exact c.bind (Cd.map (fun t=>(⟨2,0,t⟩:V)) (AJR t (by omega) (by omega)))
theorem ANO (v:V):Cd pV (BQ v) v.clean:=ANN v.clean_ok
end
section
open Go.RowKit
structure Res3 (wz w:World) (B:Nat):Prop where
 os:w.os=wz.os
 tape:w.tape=wz.tape
 output:w.output=wz.output
 size:wz.heap.size≤w.heap.size
 block:∀k,k<wz.heap.size→k≠B→k≠B+1→k≠B+1+1→w.heap[k]?=wz.heap[k]?
theorem Res3.step {wz w w':World} {B:Nat} (h:Res3 wz w B) {row:Option Nat} (hg:w.grownBy w' row) (hr:row=none∨row=some B∨row=some (B+1)∨row=some (B+1+1)):Res3 wz w' B:=
 ⟨hg.os.trans h.os,hg.tape.trans h.tape,hg.output.trans h.output,Nat.le_trans h.size hg.size,fun k hk h0 h1 h2 =>
  (hg.block k (Nat.lt_of_lt_of_le hk h.size) (by rcases hr with rfl|rfl|rfl|rfl<;>simp<;>omega)).trans (h.block k hk h0 h1 h2)⟩
def AFV (ps:String) (T tS tR tE tP K:Nat):List Oper:=[
 { dst:=some 26,op:=.load T (.tmp 4),type:=T,pos:=ps,after:=#[],guard:=none },
 { dst:=some 27,op:=.move (.tmp 7),type:=tP,pos:=ps,after:=#[],guard:=none },
 { dst:=some 28,op:=.nilCheck (.tmp 27),type:=0,pos:=ps,after:=#[{ on:=1,ground:=.data }],guard:=none },
 { dst:=some 29,op:=.fieldAddr tR (.tmp 28) 0,type:=0,pos:=ps,after:=#[{ on:=2,ground:=.data }],guard:=none },
 { dst:=some 30,op:=.load tS (.tmp 29),type:=tS,pos:=ps,after:=#[{ on:=3,ground:=.data }],guard:=none },
 { dst:=some 31,op:=.call { callee:=.value (.func K),args:=#[.tmp 30],argTypes:=#[tS] },type:=tS,pos:=ps,after:=#[{ on:=4,ground:=.data }],guard:=none },
 { dst:=none,op:=.store T (.tmp 4) (.tmp 26),type:=0,pos:=ps,after:=#[{ on:=0,ground:=.data },{ on:=5,ground:=.chain },{ on:=0,ground:=.phase },{ on:=1,ground:=.textOnly .lateStoresUnsure },{ on:=2,ground:=.textOnly .lateStoresUnsure },{ on:=3,ground:=.textOnly .lateStoresUnsure },{ on:=4,ground:=.textOnly .lateStoresUnsure },{ on:=5,ground:=.textOnly .lateStoresUnsure }],guard:=none },
 { dst:=none,op:=.store tS (.tmp 5) (.tmp 31),type:=0,pos:=ps,after:=#[{ on:=5,ground:=.data },{ on:=6,ground:=.chain },{ on:=0,ground:=.phase },{ on:=1,ground:=.phase },{ on:=2,ground:=.phase },{ on:=3,ground:=.phase },{ on:=4,ground:=.phase },{ on:=5,ground:=.phase },{ on:=6,ground:=.phase }],guard:=none },
 { dst:=none,op:=.store tE (.tmp 6) (.const (.int .i64 0)),type:=0,pos:=ps,after:=#[{ on:=7,ground:=.chain },{ on:=0,ground:=.phase },{ on:=1,ground:=.phase },{ on:=2,ground:=.phase },{ on:=3,ground:=.phase },{ on:=4,ground:=.phase },{ on:=5,ground:=.phase },{ on:=6,ground:=.phase },{ on:=7,ground:=.phase }],guard:=none }]
theorem AHD (ps:String) (T tS tR tE tP K:Nat):AIx (AFV ps T tS tR tE tP K).toArray 32=true:=by kernel_rfl
def L7 (v1 v3:Value) (l:List Nat) (l0:List Value) (R:Nat) (wz:World) (t:Nat) (w:World) (v:Value):Prop:=match t with
 | 26=>v=v1
 | 27=>v=ptr R
 | 28=>v=ptr R
 | 29=>v=ptr R
 | 30=>v=v3
 | 31=>Sl w 1 v l.length (bv l)∧(∀k,v.ownBlock=some k→wz.heap.size≤k)∧(∃ao n c,v=.slice ao n c)
 | t=>t<9→v=l0.getD t undef
def J7 (c1:Array Value) (T tS tE B:Nat) (wz w:World):Prop:=Res3 wz w B∧w.heap[B]?=some (.cells c1 T (0,0))∧(∃y,w.heap[B+1]?=some (.cells #[y] tS (0,0)))∧(∃y,w.heap[B+1+1]?=some (.cells #[y] tE (0,0)))
def D7 (tS tE B:Nat) (l:List Nat) (wz:World) (i:Nat) (w:World):Prop:=match i with
 | 7=>∃v',w.heap[B+1]?=some (.cells #[v'] tS (0,0))∧Sl w 1 v' l.length (bv l)∧∀k,v'.ownBlock=some k→wz.heap.size≤k
 | 8=>w.heap[B+1+1]?=some (.cells #[.int .i64 0] tE (0,0))
 | _=>True
theorem LV {P:Program} {w w':World} {s:Sem Unit} (h:s.run P w=.ok () w'):(do s;pure Next.skip:Sem Next).run P w=.ok .skip w':=by
 simp only[Sem.run_bind,h,Sem.run_pure,Result.andThen_ok]
theorem AMM {ps:String} {P:Program} {Q:Exit→Act→World→Prop} (hm:P.follows .mixedOrders=true) (T tS tR tE tP K id B R:Nat) (v1 v3:Value) (cs:List Value) (l:List Nat) (l0:List Value) (ds:List Deferred) (wz:World)
   (hl0:l0.length=32) (h4:l0.getD 4 undef=ptr B) (h5:l0.getD 5 undef=ptr (B+1)) (h6:l0.getD 6 undef=ptr (B+1+1)) (h7:l0.getD 7 undef=ptr R)
   (hT:TY P T cs v1) (hS:∀ao n c,TY P tS [.slice ao n c] (.slice ao n c)) (hE:∀n,TY P tE [.int .i64 n] (.int .i64 n))
   (hB:wz.heap[B]?=some (.cells cs.toArray T (0,0))) (hB1:∃y,wz.heap[B+1]?=some (.cells #[y] tS (0,0))) (hB2:∃y,wz.heap[B+1+1]?=some (.cells #[y] tE (0,0))) (hR:wz.cell? ⟨R,0,none⟩=some v3) (hRB:B+1+1<R)
   (hs0:Sl wz 1 v3 l.length (bv l)) (hsb:∀k,v3.ownBlock=some k→k<B)
   (hfield:∀w,(Instr.fieldAt tR (ptr R) 0).run P w=.ok (ptr R) w)
   (hrun:∀(av:Array Value) w,((Deferred.ofValue (.func (.func K) #[] #[]) av).run P w).andThen (fun a w'=>(invoke a.target a.args).run P w')=.ok (.enter K av) w)
   (hclone:∀w v,Sl w 1 v l.length (bv l)→Calls P K #[v] w fun e w'=>∃v',e=.returned v'∧Sl w' 1 v' l.length (bv l)∧Fresh w w' v')
   (hQ:∀a w,Res3 wz w B→a.defers=ds→a.tmps.size=32→(∀t,t<9→a.tmps.getD t undef=l0.getD t undef)→w.heap[B]?=some (.cells cs.toArray T (0,0)) →
     (∃v',w.heap[B+1]?=some (.cells #[v'] tS (0,0))∧Sl w 1 v' l.length (bv l)∧∀k,v'.ownBlock=some k→wz.heap.size≤k)→w.heap[B+1+1]?=some (.cells #[.int .i64 0] tE (0,0))→Q .normal a w) :
   (Code.region id (AFV ps T tS tR tE tP K).toArray true).wp P Q ⟨l0.toArray,ds⟩ wz:=by
 have hlen:wz.heap.size > R:=AOR hR
 refine SA hm 32
   (L7 v1 v3 l l0 R wz) (J7 cs.toArray T tS tE B wz) (D7 tS tE B l wz)
   ⟨⟨rfl,rfl,rfl,Nat.le_refl _,fun _ _ _ _ _=>rfl⟩,hB,hB1,hB2⟩ (by simpa using hl0) (AHD ps T tS tR tE tP K) ?_ ?_ ?_
 · intro t ht hnd
   unfold L7
   split
   · exact absurd rfl (hnd 0 _ rfl)
   · exact absurd rfl (hnd 1 _ rfl)
   · exact absurd rfl (hnd 2 _ rfl)
   · exact absurd rfl (hnd 3 _ rfl)
   · exact absurd rfl (hnd 4 _ rfl)
   · exact absurd rfl (hnd 5 _ rfl)
   · intro _;simp[List.getD_eq_getElem?_getD]
 · have HO:OGAll P (AFV ps T tS tR tE tP K).toArray (L7 v1 v3 l l0 R wz) (J7 cs.toArray T tS tE B wz) (D7 tS tE B l wz) 32 0 (AFV ps T tS tR tE tP K):=by
     have keep:∀(w w':World) (row:Option Nat),J7 cs.toArray T tS tE B wz w→w.grownBy w' row→(row=none∨row=some B∨row=some (B+1)∨row=some (B+1+1))→∀t x,L7 v1 v3 l l0 R wz t w x→L7 v1 v3 l l0 R wz t w' x:=by
       intro w w' row hJ hg hr t x hx
       unfold L7 at hx ⊢
       split at hx
       all_goals first|exact hx|skip
       obtain⟨x1,x2,ao,n,c,rfl⟩:=hx
       refine⟨x1.kept hg ?_,x2,ao,n,c,rfl⟩
       rcases hr with rfl|rfl|rfl|rfl
       · cases h:(Value.slice ao n c).ownBlock<;>simp
       all_goals
         right
         intro e
         have:=x2 _ e
         omega
     have rd:∀(a:Act) (w:World) (t:Nat),L7 v1 v3 l l0 R wz t w (a.tmps.getD t undef)→L7 v1 v3 l l0 R wz t w (a.eval (.tmp t)):=fun _ _ _ h=>h
     have dk:∀(w w':World) (b:Nat),w.grownBy w' (some b)→b<R→∀j,(j=7→b≠B+1)→(j=8→b≠B+1+1)→D7 tS tE B l wz j w→D7 tS tE B l wz j w':=by
       intro w w' b hg hb j h7 h8 hD
       unfold D7 at hD ⊢
       split at hD
       · obtain⟨v'',d1,d2,d3⟩:=hD
         have:=h7 rfl
         exact⟨v'',AF hg d1 (by simp;omega),d2.kept hg (.inr fun e=>by have:=d3 _ e;omega),d3⟩
       · have:=h8 rfl
         exact AF hg hD (by simp;omega)
       · trivial
     refine⟨?_,?_,?_,?_,?_,?_,?_,?_,?_,AOW⟩
     · refine Kr trivial (fun _ _=>trivial) fun a w hJ hl hs=>⟨v1,?_,fun d hd=>by cases hd;rfl⟩
       have e4:a.eval (.tmp 4)=ptr B:=(rd a w 4 (hl 4 (by simp[Oper.looksAt,Op.operands]) (by decide)) (by decide)).trans h4
       simp only[execOp,e4,Sem.run_bind,Sem.run_pure,hT.loads hJ.2.1,Result.andThen]
     · refine Kr trivial (fun _ _=>trivial) fun a w hJ hl hs=>⟨ptr R,?_,fun d hd=>by cases hd;rfl⟩
       have e7:a.eval (.tmp 7)=ptr R:=(rd a w 7 (hl 7 (by simp[Oper.looksAt,Op.operands]) (by decide)) (by decide)).trans h7
       simp only[execOp,e7,Sem.run_pure]
     · refine Kr trivial (fun _ _=>trivial) fun a w hJ hl hs=>⟨ptr R,?_,fun d hd=>by cases hd;rfl⟩
       have e7:a.eval (.tmp 27)=ptr R:=rd a w 27 (hl 27 (by simp[Oper.looksAt,Op.operands]) (by decide))
       simp only[execOp,e7,ptr,Sem.run_pure]
     · refine Kr trivial (fun _ _=>trivial) fun a w hJ hl hs=>⟨ptr R,?_,fun d hd=>by cases hd;rfl⟩
       have e7:a.eval (.tmp 28)=ptr R:=rd a w 28 (hl 28 (by simp[Oper.looksAt,Op.operands]) (by decide))
       simp only[execOp,e7,Sem.run_bind,Sem.run_pure,hfield w,Result.andThen]
     · refine Kr trivial (fun _ _=>trivial) fun a w hJ hl hs=>⟨v3,?_,fun d hd=>by cases hd;rfl⟩
       have e7:a.eval (.tmp 29)=ptr R:=rd a w 29 (hl 29 (by simp[Oper.looksAt,Op.operands]) (by decide))
       have hc:w.cell? ⟨R,0,none⟩=some v3:=(World.cell?_of_block (w:=wz) (a:=⟨R,0,none⟩) (hJ.1.block R hlen (by omega) (by omega) (by omega))).trans hR
       obtain⟨ao,cap,rfl,_,_⟩:=hs0.shape
       have:=(hS ao l.length cap).load w R 0 (fun j v hj=>by
         cases j with
         | zero=>simp at hj;subst hj;exact hc
         | succ j=>simp at hj)
       simp only[execOp,e7,Instr.loadAt,ptr,Instr.sureAddr,Sem.run_bind,Sem.run_pure,Result.andThen_ok,this]
     · refine AJO K _ _ rfl trivial hrun fun a w hJ hl hs=>?_
       have e7:a.eval (.tmp 30)=v3:=rd a w 30 (hl 30 (by simp[Oper.looksAt,Op.operands,Call.operands]) (by decide))
       have hsw:Sl w 1 v3 l.length (bv l):=by
         obtain⟨q1,ao,cap,q2,q3,q4,q5,q6⟩:=hs0
         refine⟨q1,ao,cap,q2,q3,q4,q5,fun ad had=>?_⟩
         obtain⟨g1,g2⟩:=q6 ad had
         refine⟨g1,fun j u hu=>?_⟩
         have hc:=g2 j u hu
         have hb:=hsb ad.block (by rw[q2,had];rfl)
         exact(World.cell?_of_block (w:=wz) (a:=⟨ad.block,ad.off+j,none⟩) (hJ.1.block _ (AOR hc) (by simp;omega) (by simp;omega) (by simp;omega))).trans hc
       have ea:Array.map a.eval #[Operand.tmp 30]=#[v3]:=by simp only[List.map_toArray,List.map_cons,List.map_nil,e7]
       rw[ea]
       refine(hclone w v3 hsw).mono ?_
       rintro e w' ⟨v',rfl,hs',hf⟩
       refine⟨v',rfl,⟨hJ.1.step hf.1 (.inl rfl),AF hf.1 hJ.2.1 (by simp[Value.ownBlock]),?_,?_⟩,keep w w' none hJ hf.1 (.inl rfl),?_,trivial,fun d hd=>?_⟩
       · obtain⟨y,hy⟩:=hJ.2.2.1;exact⟨y,AF hf.1 hy (by simp[Value.ownBlock])⟩
       · obtain⟨y,hy⟩:=hJ.2.2.2;exact⟨y,AF hf.1 hy (by simp[Value.ownBlock])⟩
       · intro j hj hD
         unfold D7 at hD ⊢
         split at hD
         · obtain⟨v'',d1,d2,d3⟩:=hD
           exact⟨v'',AF hf.1 d1 (by simp[Value.ownBlock]),d2.kept hf.1 (by cases h:v''.ownBlock<;>simp[Value.ownBlock]),d3⟩
         · exact AF hf.1 hD (by simp[Value.ownBlock])
         · trivial
       · cases hd
         obtain⟨ao,cap,rfl,_,_⟩:=hs'.shape
         refine⟨hs',fun k hk=>?_,ao,_,cap,rfl⟩
         rcases hf.2 k hk with h|h
         · simp[Value.ownBlock] at h
         · exact Nat.le_trans hJ.1.size h
     · refine NP trivial rfl fun a w hJ hl hs=>?_
       have e4:a.eval (.tmp 4)=ptr B:=(rd a w 4 (hl 4 (by simp[Oper.looksAt,Op.operands]) (by decide)) (by decide)).trans h4
       have e26:a.eval (.tmp 26)=v1:=rd a w 26 (hl 26 (by simp[Oper.looksAt,Op.operands]) (by decide))
       obtain⟨s1,s2,s3⟩:=hT.stores hJ.2.1 (by simp)
       refine⟨_,by simp only[execOp,e4,e26];exact LV s1,⟨hJ.1.step s2 (.inr (.inl rfl)),s3,?_,?_⟩,keep w _ _ hJ s2 (.inr (.inl rfl)),fun j hj=>dk w _ B s2 (by omega) j (fun _=>by omega) (fun _=>by omega),AOW⟩
       · obtain⟨y,hy⟩:=hJ.2.2.1;exact⟨y,AF s2 hy (by simp)⟩
       · obtain⟨y,hy⟩:=hJ.2.2.2;exact⟨y,AF s2 hy (by simp;omega)⟩
     · refine NP trivial rfl fun a w hJ hl hs=>?_
       have e5:a.eval (.tmp 5)=ptr (B+1):=(rd a w 5 (hl 5 (by simp[Oper.looksAt,Op.operands]) (by decide)) (by decide)).trans h5
       obtain⟨x1,x2,ao,n,c,hx⟩:=rd a w 31 (hl 31 (by simp[Oper.looksAt,Op.operands]) (by decide))
       rw[hx] at x1 x2
       obtain⟨y,hy⟩:=hJ.2.2.1
       obtain⟨s1,s2,s3⟩:=(hS ao n c).stores hy rfl
       refine⟨_,by simp only[execOp,e5,hx];exact LV s1,⟨hJ.1.step s2 (.inr (.inr (.inl rfl))),AF s2 hJ.2.1 (by simp),⟨_,s3⟩,?_⟩,keep w _ _ hJ s2 (.inr (.inr (.inl rfl))),fun j hj=>dk w _ (B+1) s2 (by omega) j (fun h=>absurd h hj) (fun _=>by omega),?_⟩
       · obtain⟨y,hy⟩:=hJ.2.2.2;exact⟨y,AF s2 hy (by simp)⟩
       · exact⟨_,s3,x1.kept s2 (.inr fun e=>by have:=x2 _ e;omega),x2⟩
     · refine NP trivial rfl fun a w hJ hl hs=>?_
       have e6:a.eval (.tmp 6)=ptr (B+1+1):=(rd a w 6 (hl 6 (by simp[Oper.looksAt,Op.operands]) (by decide)) (by decide)).trans h6
       obtain⟨y,hy⟩:=hJ.2.2.2
       obtain⟨s1,s2,s3⟩:=(hE 0).stores hy rfl
       refine⟨_,by simp only[execOp,e6];exact LV s1,⟨hJ.1.step s2 (.inr (.inr (.inr rfl))),AF s2 hJ.2.1 (by simp;omega),?_,⟨_,s3⟩⟩,keep w _ _ hJ s2 (.inr (.inr (.inr rfl))),fun j hj=>dk w _ (B+1+1) s2 (by omega) j (fun _=>by omega) (fun h=>absurd h hj),s3⟩
       obtain⟨y,hy⟩:=hJ.2.2.1;exact⟨y,AF s2 hy (by simp)⟩
   intro i o hi
   have:=HO.at i o (by simpa using hi)
   rw[Nat.zero_add] at this
   exact this
 · intro a w hJ hd has hk hDD
   refine hQ a w hJ.1 hd has (fun t ht=>?_) hJ.2.1 (hDD 7 (by simp[AFV])) (hDD 8 (by simp[AFV]))
   have:=hk t (by omega)
   unfold L7 at this
   split at this
   all_goals first|omega|exact this ht
end
section
open Go.RowKit
def ACr (ps:String) (st:Bool) (T tS tR tE tP:Nat):List Oper:=[
 { dst:=some 21,op:=if st then .load T (.tmp 8) else .move (.tmp 8),type:=T,pos:=ps,after:=#[],guard:=none },
 { dst:=some 22,op:=.move (.tmp 7),type:=tP,pos:=ps,after:=#[],guard:=none },
 { dst:=some 23,op:=.nilCheck (.tmp 22),type:=0,pos:=ps,after:=#[{ on:=1,ground:=.data }],guard:=none },
 { dst:=some 24,op:=.fieldAddr tR (.tmp 23) 1,type:=0,pos:=ps,after:=#[{ on:=2,ground:=.data }],guard:=none },
 { dst:=some 25,op:=.load tE (.tmp 24),type:=tE,pos:=ps,after:=#[{ on:=3,ground:=.data }],guard:=none },
 { dst:=none,op:=.store T (.tmp 4) (.tmp 21),type:=0,pos:=ps,after:=#[{ on:=0,ground:=.data },{ on:=0,ground:=.phase },{ on:=1,ground:=.textOnly .lateStoresUnsure },{ on:=2,ground:=.textOnly .lateStoresUnsure },{ on:=3,ground:=.textOnly .lateStoresUnsure },{ on:=4,ground:=.textOnly .lateStoresUnsure }],guard:=none },
 { dst:=none,op:=.store tS (.tmp 5) (.const (.slice none 0 0)),type:=0,pos:=ps,after:=#[{ on:=5,ground:=.chain },{ on:=0,ground:=.phase },{ on:=1,ground:=.textOnly .lateStoresUnsure },{ on:=2,ground:=.textOnly .lateStoresUnsure },{ on:=3,ground:=.textOnly .lateStoresUnsure },{ on:=4,ground:=.textOnly .lateStoresUnsure },{ on:=5,ground:=.phase }],guard:=none },
 { dst:=none,op:=.store tE (.tmp 6) (.tmp 25),type:=0,pos:=ps,after:=#[{ on:=4,ground:=.data },{ on:=6,ground:=.chain },{ on:=0,ground:=.phase },{ on:=1,ground:=.phase },{ on:=2,ground:=.phase },{ on:=3,ground:=.phase },{ on:=4,ground:=.phase },{ on:=5,ground:=.phase },{ on:=6,ground:=.phase }],guard:=none }]
theorem AHE (ps:String) (st:Bool) (T tS tR tE tP:Nat):AIx (ACr ps st T tS tR tE tP).toArray 32=true:=by cases st<;>kernel_rfl
def L6 (v0:Value) (er:Int) (l0:List Value) (R:Nat) (t:Nat) (_:World) (v:Value):Prop:=match t with
 | 21=>v=v0
 | 22=>v=ptr R
 | 23=>v=ptr R
 | 24=>v=.pointer (some ⟨R,1,none⟩)
 | 25=>v=.int .i64 er
 | t=>t<9→v=l0.getD t undef
def J6 (n T tS tE B:Nat) (wz w:World):Prop:=Res3 wz w B∧(∃c:Array Value,c.size=n∧w.heap[B]?=some (.cells c T (0,0)))∧(∃y,w.heap[B+1]?=some (.cells #[y] tS (0,0)))∧(∃y,w.heap[B+1+1]?=some (.cells #[y] tE (0,0)))
def D6 (cs:List Value) (T tS tE B:Nat) (er:Int) (i:Nat) (w:World):Prop:=match i with
 | 5=>w.heap[B]?=some (.cells cs.toArray T (0,0))
 | 6=>w.heap[B+1]?=some (.cells #[.slice none 0 0] tS (0,0))
 | 7=>w.heap[B+1+1]?=some (.cells #[.int .i64 er] tE (0,0))
 | _=>True
theorem AMN {ps:String} {P:Program} {Q:Exit→Act→World→Prop} (hm:P.follows .mixedOrders=true) (st:Bool) (T tS tR tE tP id B R Z:Nat) (v0:Value) (er:Int) (cs:List Value) (l0:List Value) (ds:List Deferred) (wz:World)
   (hl0:l0.length=32) (h4:l0.getD 4 undef=ptr B) (h5:l0.getD 5 undef=ptr (B+1)) (h6:l0.getD 6 undef=ptr (B+1+1)) (h7:l0.getD 7 undef=ptr R)
   (h8:l0.getD 8 undef=if st then ptr Z else v0) (hZ:st=true→B+1+1<Z∧wz.heap[Z]?=some (.cells cs.toArray T (0,0)))
   (hT:TY P T cs v0) (hS:∀ao n c,TY P tS [.slice ao n c] (.slice ao n c)) (hE:∀n,TY P tE [.int .i64 n] (.int .i64 n))
   (hB:∃c:Array Value,c.size=cs.length∧wz.heap[B]?=some (.cells c T (0,0))) (hB1:∃y,wz.heap[B+1]?=some (.cells #[y] tS (0,0))) (hB2:∃y,wz.heap[B+1+1]?=some (.cells #[y] tE (0,0))) (hR:wz.cell? ⟨R,1,none⟩=some (.int .i64 er)) (hRB:B+1+1<R)
   (hfield:∀w,(Instr.fieldAt tR (ptr R) 1).run P w=.ok (.pointer (some ⟨R,1,none⟩)) w)
   (hQ:∀a w,Res3 wz w B→a.defers=ds→a.tmps.size=32→(∀t,t<9→a.tmps.getD t undef=l0.getD t undef)→w.heap[B]?=some (.cells cs.toArray T (0,0)) →
     w.heap[B+1]?=some (.cells #[.slice none 0 0] tS (0,0))→w.heap[B+1+1]?=some (.cells #[.int .i64 er] tE (0,0))→Q .normal a w) :
   (Code.region id (ACr ps st T tS tR tE tP).toArray true).wp P Q ⟨l0.toArray,ds⟩ wz:=by
 have hlen:wz.heap.size > R:=AOR hR
 refine SA hm 32
   (L6 v0 er l0 R) (J6 cs.length T tS tE B wz) (D6 cs T tS tE B er)
   ⟨⟨rfl,rfl,rfl,Nat.le_refl _,fun _ _ _ _ _=>rfl⟩,hB,hB1,hB2⟩ (by simpa using hl0) (AHE ps st T tS tR tE tP) ?_ ?_ ?_
 · intro t ht hnd
   unfold L6
   split
   · exact absurd rfl (hnd 0 _ rfl)
   · exact absurd rfl (hnd 1 _ rfl)
   · exact absurd rfl (hnd 2 _ rfl)
   · exact absurd rfl (hnd 3 _ rfl)
   · exact absurd rfl (hnd 4 _ rfl)
   · intro _;simp[List.getD_eq_getElem?_getD]
 · have HO:OGAll P (ACr ps st T tS tR tE tP).toArray (L6 v0 er l0 R) (J6 cs.length T tS tE B wz) (D6 cs T tS tE B er) 32 0 (ACr ps st T tS tR tE tP):=by
     have rd:∀(a:Act) (w:World) (t:Nat),L6 v0 er l0 R t w (a.tmps.getD t undef)→L6 v0 er l0 R t w (a.eval (.tmp t)):=fun _ _ _ h=>h
     have dk:∀(w w':World) (b:Nat),w.grownBy w' (some b)→∀j,(j=5→b≠B)→(j=6→b≠B+1)→(j=7→b≠B+1+1)→D6 cs T tS tE B er j w→D6 cs T tS tE B er j w':=by
       intro w w' b hg j h5 h6 h7 hD
       unfold D6 at hD ⊢
       split at hD
       · have:=h5 rfl;exact AF hg hD (by simp;omega)
       · have:=h6 rfl;exact AF hg hD (by simp;omega)
       · have:=h7 rfl;exact AF hg hD (by simp;omega)
       · trivial
     refine⟨?_,?_,?_,?_,?_,?_,?_,?_,AOW⟩
     · refine Kr trivial (fun _ _=>trivial) fun a w hJ hl hs=>⟨v0,?_,fun d hd=>by cases hd;rfl⟩
       have e8:a.eval (.tmp 8)=l0.getD 8 undef:=rd a w 8 (hl 8 (by cases st<;>simp[Oper.looksAt,Op.operands]) (by decide)) (by decide)
       rw[h8] at e8
       cases st with
       | false =>
         have e8:a.eval (.tmp 8)=v0:=e8
         simp only[execOp,Bool.false_eq_true,if_false,e8,Sem.run_pure]
       | true =>
         have e8:a.eval (.tmp 8)=ptr Z:=e8
         obtain⟨z1,z2⟩:=hZ rfl
         have z3:=(hJ.1.block Z (Array.getElem?_eq_some_iff.1 z2).1 (by omega) (by omega) (by omega)).trans z2
         simp only[execOp,if_true,e8,Sem.run_bind,Sem.run_pure,hT.loads z3,Result.andThen]
     · refine Kr trivial (fun _ _=>trivial) fun a w hJ hl hs=>⟨ptr R,?_,fun d hd=>by cases hd;rfl⟩
       have e7:a.eval (.tmp 7)=ptr R:=(rd a w 7 (hl 7 (by simp[Oper.looksAt,Op.operands]) (by decide)) (by decide)).trans h7
       simp only[execOp,e7,Sem.run_pure]
     · refine Kr trivial (fun _ _=>trivial) fun a w hJ hl hs=>⟨ptr R,?_,fun d hd=>by cases hd;rfl⟩
       have e7:a.eval (.tmp 22)=ptr R:=rd a w 22 (hl 22 (by simp[Oper.looksAt,Op.operands]) (by decide))
       simp only[execOp,e7,ptr,Sem.run_pure]
     · refine Kr trivial (fun _ _=>trivial) fun a w hJ hl hs=>⟨.pointer (some ⟨R,1,none⟩),?_,fun d hd=>by cases hd;rfl⟩
       have e7:a.eval (.tmp 23)=ptr R:=rd a w 23 (hl 23 (by simp[Oper.looksAt,Op.operands]) (by decide))
       simp only[execOp,e7,Sem.run_bind,Sem.run_pure,hfield w,Result.andThen]
     · refine Kr trivial (fun _ _=>trivial) fun a w hJ hl hs=>⟨.int .i64 er,?_,fun d hd=>by cases hd;rfl⟩
       have e7:a.eval (.tmp 24)=.pointer (some ⟨R,1,none⟩):=rd a w 24 (hl 24 (by simp[Oper.looksAt,Op.operands]) (by decide))
       have hc:w.cell? ⟨R,1,none⟩=some (.int .i64 er):=(World.cell?_of_block (w:=wz) (a:=⟨R,1,none⟩) (hJ.1.block R hlen (by omega) (by omega) (by omega))).trans hR
       have:=(hE er).load w R 1 (fun j v hj=>by
         cases j with
         | zero=>simp at hj;subst hj;exact hc
         | succ j=>simp at hj)
       simp only[execOp,e7,Instr.loadAt,Instr.sureAddr,Sem.run_bind,Sem.run_pure,Result.andThen_ok,this]
     · refine NP trivial rfl fun a w hJ hl hs=>?_
       have e4:a.eval (.tmp 4)=ptr B:=(rd a w 4 (hl 4 (by simp[Oper.looksAt,Op.operands]) (by decide)) (by decide)).trans h4
       have e26:a.eval (.tmp 21)=v0:=rd a w 21 (hl 21 (by simp[Oper.looksAt,Op.operands]) (by decide))
       obtain⟨c,hc,hb⟩:=hJ.2.1
       obtain⟨s1,s2,s3⟩:=hT.stores hb hc
       refine⟨_,by simp only[execOp,e4,e26];exact LV s1,⟨hJ.1.step s2 (.inr (.inl rfl)),⟨_,by simp,s3⟩,?_,?_⟩,fun _ _ h=>h,fun j hj=>dk w _ B s2 j (fun h=>absurd h hj) (fun _=>by omega) (fun _=>by omega),s3⟩
       · obtain⟨y,hy⟩:=hJ.2.2.1;exact⟨y,AF s2 hy (by simp)⟩
       · obtain⟨y,hy⟩:=hJ.2.2.2;exact⟨y,AF s2 hy (by simp;omega)⟩
     · refine NP trivial rfl fun a w hJ hl hs=>?_
       have e5:a.eval (.tmp 5)=ptr (B+1):=(rd a w 5 (hl 5 (by simp[Oper.looksAt,Op.operands]) (by decide)) (by decide)).trans h5
       obtain⟨y,hy⟩:=hJ.2.2.1
       obtain⟨s1,s2,s3⟩:=(hS none 0 0).stores hy rfl
       obtain⟨c,hc,hb⟩:=hJ.2.1
       refine⟨_,by simp only[execOp,e5];exact LV s1,⟨hJ.1.step s2 (.inr (.inr (.inl rfl))),⟨c,hc,AF s2 hb (by simp)⟩,⟨_,s3⟩,?_⟩,fun _ _ h=>h,fun j hj=>dk w _ (B+1) s2 j (fun _=>by omega) (fun h=>absurd h hj) (fun _=>by omega),s3⟩
       obtain⟨y,hy⟩:=hJ.2.2.2;exact⟨y,AF s2 hy (by simp)⟩
     · refine NP trivial rfl fun a w hJ hl hs=>?_
       have e6:a.eval (.tmp 6)=ptr (B+1+1):=(rd a w 6 (hl 6 (by simp[Oper.looksAt,Op.operands]) (by decide)) (by decide)).trans h6
       have e25:a.eval (.tmp 25)=.int .i64 er:=rd a w 25 (hl 25 (by simp[Oper.looksAt,Op.operands]) (by decide))
       obtain⟨y,hy⟩:=hJ.2.2.2
       obtain⟨s1,s2,s3⟩:=(hE er).stores hy rfl
       obtain⟨c,hc,hb⟩:=hJ.2.1
       refine⟨_,by simp only[execOp,e6,e25];exact LV s1,⟨hJ.1.step s2 (.inr (.inr (.inr rfl))),⟨c,hc,AF s2 hb (by simp;omega)⟩,?_,⟨_,s3⟩⟩,fun _ _ h=>h,fun j hj=>dk w _ (B+1+1) s2 j (fun _=>by omega) (fun _=>by omega) (fun h=>absurd h hj),s3⟩
       obtain⟨y,hy⟩:=hJ.2.2.1;exact⟨y,AF s2 hy (by simp)⟩
   intro i o hi
   have:=HO.at i o (by simpa using hi)
   rw[Nat.zero_add] at this
   exact this
 · intro a w hJ hd has hk hDD
   refine hQ a w hJ.1 hd has (fun t ht=>?_) (hDD 5 (by simp[ACr])) (hDD 6 (by simp[ACr])) (hDD 7 (by simp[ACr]))
   have:=hk t (by omega)
   unfold L6 at this
   split at this
   all_goals first|omega|exact this ht
end
section
open Go.RowKit
theorem AKe:Tryz.prog.follows .mixedOrders=true:=by kernel_rfl
theorem tyS:∀ao n c,TY Tryz.prog 29 [.slice ao n c] (.slice ao n c):=fun _ _ _=>TY.one' Tryz.underlying29 rfl (by kernel_rfl) rfl
theorem ALL:∀w R,(Instr.fieldAt 164 (ptr R) 0).run Tryz.prog w=.ok (ptr R) w:=fun w R=>by unfold ptr;go_simp
theorem ALM:∀w R,(Instr.fieldAt 164 (ptr R) 1).run Tryz.prog w=.ok (.pointer (some ⟨R,1,none⟩)) w:=fun w R=>by unfold ptr;go_simp
theorem ACs:∀(av:Array Value) (w:World),((Deferred.ofValue (.func (.func 153) #[] #[]) av).run Tryz.prog w).andThen (fun a w'=>(invoke a.target a.args).run Tryz.prog w')=.ok (.enter 153 av) w:=
 Ho Tryz.func153 (by kernel_rfl) rfl
theorem AAD {P:Program} {fn:Func} {p q r:Tmp} {T S E:TypeId} (h:fn.results=#[.cell p T,.cell q S,.cell r E]) {tmps:Array Value} {w:World} {b0 b1 b2:Nat} {c0 c1 c2:List Value} {v0 v1 v2:Value} {fr0 fr1 fr2:Nat×Nat} {u0 u1 u2:TypeId}
  (hp:tmps.getD p undef=ptr b0) (hq:tmps.getD q undef=ptr b1) (hr:tmps.getD r undef=ptr b2) (t0:TY P T c0 v0) (t1:TY P S c1 v1) (t2:TY P E c2 v2)
  (h0:w.heap[b0]?=some (.cells c0.toArray u0 fr0)) (h1:w.heap[b1]?=some (.cells c1.toArray u1 fr1)) (h2:w.heap[b2]?=some (.cells c2.toArray u2 fr2)) :
  (results fn tmps).run P w=.ok (.tuple #[v0,v1,v2]) w:=by
 have e0:=t0.load w b0 0 (Av h0)
 have e1:=t1.load w b1 0 (Av h1)
 have e2:=t2.load w b2 0 (Av h2)
 have hp':tmps[p]?.getD undef=.pointer (some ⟨b0,0,none⟩):=by simpa [ptr] using hp
 have hq':tmps[q]?.getD undef=.pointer (some ⟨b1,0,none⟩):=by simpa [ptr] using hq
 have hr':tmps[r]?.getD undef=.pointer (some ⟨b2,0,none⟩):=by simpa [ptr] using hr
 simp[results,h,hp',hq',hr',asAddr,e0,e1,e2]
def ReadPost {α:Type} (p:DU α) (xs:List Nat) (zero:Value) (rep:Nat→World→Value→α→Prop) (w:World) (en:Ending) (w':World):Prop:=
 w.grownBy w' none∧match p xs with
 | .ok (x,r)=>∃v rv,en=.returned (.tuple #[v,rv,.int .i64 0])∧rep w.heap.size w' v x∧Sl w' 1 rv r.length (bv r)∧∀k,rv.ownBlock=some k→w.heap.size≤k
 | .error n=>en=.returned (.tuple #[zero,Ph,.int .i64 n])∧n≠0
theorem ReadPost.mkErr {α:Type} {p:DU α} {xs:List Nat} {zero:Value} {rep:Nat→World→Value→α→Prop} {w w':World} {en:Ending} {n:Nat} (hg:w.grownBy w' none) (hp:p xs=.error n) (he:en=.returned (.tuple #[zero,Ph,.int .i64 n])) (hn:n≠0):ReadPost p xs zero rep w en w':=by
 unfold ReadPost
 rw[hp]
 exact⟨hg,he,hn⟩
theorem ReadPost.mkOk {α:Type} {p:DU α} {xs r:List Nat} {zero:Value} {rep:Nat→World→Value→α→Prop} {w w':World} {en:Ending} {x:α} {v rv:Value} (hg:w.grownBy w' none) (hp:p xs=.ok (x,r)) (he:en=.returned (.tuple #[v,rv,.int .i64 0]))
  (hr:rep w.heap.size w' v x) (hs:Sl w' 1 rv r.length (bv r)) (hk:∀k,rv.ownBlock=some k→w.heap.size≤k):ReadPost p xs zero rep w en w':=by
 unfold ReadPost
 rw[hp]
 exact⟨hg,v,rv,he,hr,hs,hk⟩
theorem Res3.grown {w W w1 wz w2:World} {R B B':Nat} (h1:w.grownBy W none) (h2:W.grownBy w1 (some R)) (h3:w1.grownBy wz (some B')) (h4:Res3 wz w2 B) (hR:w.heap.size≤R) (hB:B=w.heap.size) (hB':B'=w.heap.size):w.grownBy w2 none:=by
 subst hB hB'
 refine⟨h4.os.trans (h3.os.trans (h2.os.trans h1.os)),h4.tape.trans (h3.tape.trans (h2.tape.trans h1.tape)),h4.output.trans (h3.output.trans (h2.output.trans h1.output)),Nat.le_trans h1.size (Nat.le_trans h2.size (Nat.le_trans h3.size h4.size)),fun i hi _=>?_⟩
 have s1:=h1.size
 have s2:=h2.size
 have s3:=h3.size
 exact(h4.block i (by omega) (by omega) (by omega) (by omega)).trans ((h3.block i (by omega) (by simp;omega)).trans ((h2.block i (by omega) (by simp;omega)).trans (h1.block i hi (by simp))))
end
section
open Go.RowKit
theorem MT {P:Program} {ops:Array Oper} {rest:List Oper} {o:Oper} {a:Act} {w w':World} {Q:Exit→Act→World→Prop} (hgd:o.guard=none) {T:TypeId} (x y:Operand) (ho:o.op=.store T x y)
  {p v:Value} (hx:a.eval x=p) (hy:a.eval y=v) (hr:(Instr.storeAt T p v).run P w=.ok () w') (h:wpList P ops Q rest (a.put o.dst undef) w'):wpList P ops Q (o::rest) a w:=by
 refine wpList_plain hgd fun K hK=>?_
 unfold Oper.wp execOp
 simp only[ho,hx,hy,Sem.run_bind,hr,Result.andThen_ok,Sem.run_pure]
 exact hK _ _ h
theorem Nr (b:Nat):∀(vs:List Value) (o:Nat) (w:World),(w.setCells b o vs).heap.size=w.heap.size
 | [],_,_=>rfl
 | v::r,o,w=>by rw[World.setCells,Nr b r (o+1)];simp
end
section
open Go.RowKit
theorem RSt.lt {T:TypeId} {L:Nat} {w:World} {R:Nat} {s:FO} (h:RSt T L w R s):R<w.heap.size:=by
 obtain⟨v,e,h,_⟩:=h.row
 exact(Array.getElem?_eq_some_iff.1 h).1
theorem Gv {a b c:World} {R B:Nat} (h:a.grownBy b (some R)) (k:b.grownBy c (some B)) (hB:a.heap.size≤B):a.grownBy c (some R):=
 ⟨k.os.trans h.os,k.tape.trans h.tape,k.output.trans h.output,Nat.le_trans h.size k.size,fun i hi hne =>
  (k.block i (Nat.lt_of_lt_of_le hi h.size) (by simp;omega)).trans (h.block i hi hne)⟩
theorem On {a b:World} {R:Nat} (h:a.grownBy b none):a.grownBy b (some R):=E2 h
def AHF (_:World) (v:Value) (x:V):Prop:=v=Br x
theorem ACt {L:Nat} (R:Nat) (s:FO) (w:World) (h:RSt 164 L w R s) :
   Calls Tryz.prog 141 #[.pointer (some ⟨R,0,none⟩)] w (GR 164 L w R pV s AHF):=by
 have hR:=h.lt
 have ga:=World.grownBy_alloc w (.cells #[.int .i64 0,.int .i64 0,.string ⟨#[]⟩] 25) none
 have hst:=h.kept ga
 have GA:=AK ga
 have HST:=AK hst
 clear ga hst h
 go_enter Tryz.func141,Tryz.ntmps141
 go_wp2_with fail
 refine(OF R s 0 2 _ HST.out).mono ?_
 rintro e w1 ⟨v1,k,s1,rfl,⟨rfl,hk⟩,hg1,hst1,hrel1⟩
 have hA:=AF hg1 (Ak rfl) (by simp;omega)
 have hsz:=hg1.size
 have hR1:w.heap.size<w1.heap.size:=by simp at hsz;omega
 have hgW:w.grownBy (w1.alloc (.cells #[.int .i64 k,.int .i64 0,.string ⟨#[]⟩] 25)) (some R):=AA (AA (On GA.out) hg1) (World.grownBy_alloc _ _ _)
 have hAW:=(BZ (w:=w1) (o:=.cells #[.int .i64 k,.int .i64 0,.string ⟨#[]⟩] 25) hR1).trans hA
 have hBW:=Ak (w:=w1) (o:=.cells #[.int .i64 k,.int .i64 0,.string ⟨#[]⟩] 25) (n:=w1.heap.size) rfl
 have hstW:=hst1.kept (World.grownBy_alloc w1 (.cells #[.int .i64 k,.int .i64 0,.string ⟨#[]⟩] 25) none)
 have REL1:=AK hrel1
 have HA1:=AK hA
 have G1:=AK hg1
 have ST1:=AK hst1
 have GW:=AK hgW
 have AW:=AK hAW
 have BW:=AK hBW
 have SW:=AK hstW
 clear hg1 hst1 hrel1 hA hsz hgW hAW hBW hstW
 by_cases hk1:k=1
 · subst hk1
   go_wp2_with fail
   generalize w1.alloc (.cells #[.int .i64 1,.int .i64 0,.string ⟨#[]⟩] 25)=W at *
   refine(OF R s1 (-4294967296) 4294967296 _ SW.out).mono ?_
   rintro e w2 ⟨v2,n,s2,rfl,⟨rfl,hn⟩,hg2,hst2,hrel2⟩
   have hA2:=AF hg2 AW.out (by simp;omega)
   have hB2:=AF hg2 BW.out (by simp;omega)
   have a1:∀j,w2.cell? ⟨w.heap.size,j,none⟩=(#[Value.int .i64 0,.int .i64 0,.string ⟨#[]⟩]:Array Value)[j]?:=fun j=>AOS w2 _ j _ _ _ hA2
   have a2:∀j,w2.frozen? ⟨w.heap.size,j,none⟩=false:=fun j=>AOV w2 _ j _ _ hA2
   have b1:∀j,w2.cell? ⟨w1.heap.size,j,none⟩=(#[Value.int .i64 1,.int .i64 0,.string ⟨#[]⟩]:Array Value)[j]?:=fun j=>AOS w2 _ j _ _ _ hB2
   have b2:∀j,w2.frozen? ⟨w1.heap.size,j,none⟩=false:=fun j=>AOV w2 _ j _ _ hB2
   have HA2:=AK hA2
   have G2:=AK hg2
   have S2:=AK hst2
   have R2:=AK hrel2
   clear hA2 hB2 hg2 hst2 hrel2
   go_wp2
   have gX:=BE w2 ⟨w1.heap.size,1,none⟩ (.int .i64 n)
   have hAX:=AF gX HA2.out (by simp;omega)
   obtain⟨q1,q2⟩:=Ct [.int .i64 1,.int .i64 n,.string ⟨#[]⟩] hAX rfl
   exact CU rfl rfl (tyV ⟨1,n,ByteArray.empty⟩) q2 rfl ⟨_,⟨1,n,ByteArray.empty⟩,s2,rfl,rfl,Gv (Gv (AA GW.out G2.out) gX (by simp;omega)) q1 (by simp),(S2.out.past gX (by simp;omega)).past q1 (by omega),
    (by unfold pV;refine Rel.bind REL1.out ?_;rw[if_pos rfl];exact Rel.bind R2.out (Rel.pure _ _))⟩
 by_cases hk2:k=2
 · subst hk2
   go_wp2_with fail
   generalize w1.alloc (.cells #[.int .i64 2,.int .i64 0,.string ⟨#[]⟩] 25)=W at *
   refine(AFU R s1 32 _ SW.out (by decide)).mono ?_
   rintro e w2 ⟨v2,n,s2,rfl,⟨rfl,hn⟩,hg2,hst2,hrel2⟩
   have hA2:=AF hg2 AW.out (by simp;omega)
   have hB2:=AF hg2 BW.out (by simp;omega)
   have a1:∀j,w2.cell? ⟨w.heap.size,j,none⟩=(#[Value.int .i64 0,.int .i64 0,.string ⟨#[]⟩]:Array Value)[j]?:=fun j=>AOS w2 _ j _ _ _ hA2
   have a2:∀j,w2.frozen? ⟨w.heap.size,j,none⟩=false:=fun j=>AOV w2 _ j _ _ hA2
   have b1:∀j,w2.cell? ⟨w1.heap.size,j,none⟩=(#[Value.int .i64 2,.int .i64 0,.string ⟨#[]⟩]:Array Value)[j]?:=fun j=>AOS w2 _ j _ _ _ hB2
   have b2:∀j,w2.frozen? ⟨w1.heap.size,j,none⟩=false:=fun j=>AOV w2 _ j _ _ hB2
   have HA2:=AK hA2
   have G2:=AK hg2
   have S2:=AK hst2
   have R2:=AK hrel2
   clear hA2 hB2 hg2 hst2 hrel2
   go_wp2
   have gX:=BE w2 ⟨w1.heap.size,2,none⟩ (.string n)
   have hAX:=AF gX HA2.out (by simp;omega)
   obtain⟨q1,q2⟩:=Ct [.int .i64 2,.int .i64 0,.string n] hAX rfl
   exact CU rfl rfl (tyV ⟨2,0,n⟩) q2 rfl ⟨_,⟨2,0,n⟩,s2,rfl,rfl,Gv (Gv (AA GW.out G2.out) gX (by simp;omega)) q1 (by simp),(S2.out.past gX (by simp;omega)).past q1 (by omega),
    (by unfold pV;refine Rel.bind REL1.out ?_;rw[if_neg (by decide),if_pos rfl];exact Rel.bind R2.out (Rel.pure _ _))⟩
 have e1:(k == 1)=false:=by simpa using hk1
 have e2:(k == 2)=false:=by simpa using hk2
 have HK:=AK (And.intro hk1 hk2)
 have hA2:=HA1.out
 have a1:∀j,w1.cell? ⟨w.heap.size,j,none⟩=(#[Value.int .i64 0,.int .i64 0,.string ⟨#[]⟩]:Array Value)[j]?:=fun j=>AOS _ _ j _ _ _ hA2
 have a2:∀j,w1.frozen? ⟨w.heap.size,j,none⟩=false:=fun j=>AOV _ _ j _ _ hA2
 clear hk1 hk2 hA2
 go_wp2
 obtain⟨q1,q2⟩:=Ct [.int .i64 k,.int .i64 0,.string ⟨#[]⟩] HA1.out rfl
 have q3:=BZ (w:=w1.setCells w.heap.size 0 [.int .i64 k,.int .i64 0,.string ⟨#[]⟩]) (o:=.cells #[.int .i64 k,.int .i64 0,.string ⟨#[]⟩] 25) (Array.getElem?_eq_some_iff.1 q2).1
 have gA:=World.grownBy_alloc (w1.setCells w.heap.size 0 [.int .i64 k,.int .i64 0,.string ⟨#[]⟩]) (.cells #[.int .i64 k,.int .i64 0,.string ⟨#[]⟩] 25)
 exact CU rfl rfl (tyV ⟨k,0,ByteArray.empty⟩) (q3.trans q2) rfl ⟨_,⟨k,0,ByteArray.empty⟩,s1,rfl,rfl,AA (Gv (AA (On GA.out) G1.out) q1 (Nat.le_refl _)) (gA _),(ST1.out.past q1 (by omega)).kept (gA _),
   (by unfold pV;refine Rel.bind REL1.out ?_;rw[if_neg HK.out.1,if_neg HK.out.2];exact Rel.pure _ _)⟩
end
section
open Go.RowKit
theorem ACu:TY Tryz.prog 25 [(Value.int .i64 0),(Value.int .i64 0),(Value.string ⟨#[]⟩)] (.agg #[Value.int .i64 0,Value.int .i64 0,Value.string ⟨#[]⟩]):=TY.agg Tryz.underlying25 rfl (by kernel_rfl) (by simp[Value.oneCell'])
theorem QP (a b c:Value) (w:World):CallsD Tryz.prog 152 #[a,b,c] .returning w fun e u' w'=>e=.returned (.tuple #[])∧u'=.returning∧w'=w:=by
 refine callsD_of_wpS Tryz.func152 rfl fun c₀ cs hu=>?_
 apply wpS_seq
 apply wpS_region
 simp[wpOpsS,go_sem,recoverD,hu,Tryz.ntmps152]
 refine wpS_cond (t:=false) rfl ?_
 refine wpS_of_wp (AOU ?_)
 cases c₀
 simp_all [bodyPostS,results,Tryz.results152]
theorem XI {α:Type} (p:DU α) (rep:Nat→World→Value→α→Prop) (v:Value) (xs:List Nat) (w:World) (hv:Sl w 1 v xs.length (bv xs)) (hl:xs.length≤1099511627776) (hb:∀b∈xs,b<256) (hvb:Lo v w.heap.size)
  (hF:∀(w:World) (R L:Nat) (s:FO),RSt 164 L w R s→Calls Tryz.prog 141 #[.pointer (some ⟨R,0,none⟩)] w (GR 164 L w R p s (rep w.heap.size)))
  (hTY:∀(L:Nat) (w:World) (v:Value) (x:α),rep L w v x→∃cs,TY Tryz.prog 25 cs v∧cs.length=3)
  (hmono:∀(L:Nat) (w w':World) (v:Value) (x:α),rep L w v x→w.heap.size≤w'.heap.size→(∀k,L≤k→k<w.heap.size→w'.heap[k]?=w.heap[k]?)→∀L',L'≤L→rep L' w' v x) :
  Calls Tryz.prog 140 #[v,.func (.func 141) #[] #[]] w (ReadPost p xs (.agg #[Value.int .i64 0,Value.int .i64 0,Value.string ⟨#[]⟩]) rep w):=by
 obtain⟨ao,cap,rfl,hnc,hcm⟩:=hv.shape
 have HF:=AK hF
 have HTY:=AK hTY
 have HMO:=AK hmono
 clear hF hTY hmono
 have hmf:∀(fn:Fn) (first cap:Array Value) (w:World),(Instr.makeFunc fn first cap).run Tryz.prog w=.ok (.func fn first cap) w:=fun _ _ _ _=>rfl
 go_enter_defers Tryz.func140,Tryz.ntmps140
 go_wp2_with fail
 generalize hW:(((w.alloc (Obj.cells #[Value.int .i64 0,Value.int .i64 0,Value.string ⟨#[]⟩] 25)).alloc (Obj.cells #[Value.slice none 0 0] 29)).alloc (Obj.cells #[Value.int IntKind.i64 0] 38)).alloc (Obj.cells #[Value.slice ao xs.length cap,Value.int IntKind.i64 0] 164)=W
 have hWg:w.grownBy W none:=by rw[←hW];exact AA (AA (AA (World.grownBy_alloc _ _ _) (World.grownBy_alloc _ _ _)) (World.grownBy_alloc _ _ _)) (World.grownBy_alloc _ _ _)
 have h0:W.heap[w.heap.size]?=some (.cells #[Value.int .i64 0,Value.int .i64 0,Value.string ⟨#[]⟩] 25 (0,0)):=by rw[←hW,BZ (by simp<;>omega),BZ (by simp<;>omega),BZ (by simp<;>omega),Ak rfl]
 have h1:W.heap[w.heap.size+1]?=some (.cells #[.slice none 0 0] 29 (0,0)):=by rw[←hW,BZ (by simp<;>omega),BZ (by simp<;>omega),Ak (by simp<;>omega)]
 have h2:W.heap[w.heap.size+1+1]?=some (.cells #[.int .i64 0] 38 (0,0)):=by rw[←hW,BZ (by simp<;>omega),Ak (by simp<;>omega)]
 have h3:W.heap[w.heap.size+1+1+1]?=some (.cells #[.slice ao xs.length cap,.int .i64 0] 164 (0,0)):=by rw[←hW,Ak (by simp<;>omega)]
 have hsz:W.heap.size=w.heap.size+4:=by rw[←hW];simp
 clear hW
 have hst:RSt 164 w.heap.size W (w.heap.size+1+1+1) (.ok xs):=⟨_,xs,⟨rfl,h3⟩,hv.kept hWg (by cases h:(Value.slice ao xs.length cap).ownBlock<;>simp),⟨hvb,by omega⟩,hb,hl⟩
 refine(HF.out _ _ _ _ hst).mono ?_
 rintro e w1 ⟨v1,x,s',rfl,hrep,hg1,hst1,hrel⟩
 obtain⟨cs,hT,hcs⟩:=HTY.out _ _ _ _ hrep
 have k0:=AF hg1 h0 (by simp<;>omega)
 have k1:=AF hg1 h1 (by simp<;>omega)
 have k2:=AF hg1 h2 (by simp<;>omega)
 have hsz1:=hg1.size
 clear h0 h1 h2 h3 hst
 have K0:=AK k0
 have K1:=AK k1
 have K2:=AK k2
 have HS:=AK hst1
 obtain⟨e1,hgz,hz0⟩:=hT.stores k0 (by rw[hcs];rfl)
 have hlenz:(w1.setCells w.heap.size 0 cs).heap.size=w1.heap.size:=Nr _ _ _ _
 have hz1:=AF hgz K1.out (by simp)
 have hz2:=AF hgz K2.out (by simp<;>omega)
 have hz3:∀(k:Nat) (o:Obj),w1.heap[k]?=some o→k≠w.heap.size→(w1.setCells w.heap.size 0 cs).heap[k]?=some o:=fun k o h hk=>AF hgz h (by simp<;>omega)
 generalize w1.setCells w.heap.size 0 cs=wz at *
 have E1:=AK e1
 have HT:=AK hT
 have HR:=AK hrep
 clear k0 k1 k2 hT hrep e1
 cases s' with
 | error er =>
  obtain⟨v3,l3,⟨he,he2,hrow⟩,_⟩:=hst1
  have z3:=hz3 _ _ hrow (by omega)
  obtain⟨r0,r1,_,_⟩:=D8 z3
  have hne:((er:Int) != 0)=true:=by simp;omega
  have Z0:=AK hz0
  have Z1:=AK hz1
  have Z2:=AK hz2
  have Z3:=AK z3
  clear hrow hz0 hz1 hz2 hz3 z3
  go_wp2_with (refine MT rfl (.tmp 4) (.tmp 15) rfl rfl rfl E1.out ?_)
  refine AMN AKe true 25 _ _ _ _ 6 w.heap.size (w.heap.size+1+1+1) w1.heap.size (.agg #[Value.int .i64 0,Value.int .i64 0,Value.string ⟨#[]⟩]) er [(Value.int .i64 0),(Value.int .i64 0),(Value.string ⟨#[]⟩)] _ _ (wz.alloc (Obj.cells #[Value.int .i64 0,Value.int .i64 0,Value.string ⟨#[]⟩] 25)) rfl rfl rfl rfl rfl rfl (fun _=>⟨by omega,Ak hlenz.symm⟩) ACu tyS Gc ⟨_,by simp[hcs],(BZ (by have:=hgz.size;omega)).trans Z0.out⟩ ⟨_,(BZ (by have:=hgz.size;omega)).trans Z1.out⟩ ⟨_,(BZ (by have:=hgz.size;omega)).trans Z2.out⟩ (D8 ((BZ (by have:=hgz.size;have:=(Array.getElem?_eq_some_iff.1 Z3.out).1;omega)).trans Z3.out)).2.1 (by omega) (fun w=>ALM w _) ?_
  intro a w2 hres hd hs hl q0 q1 q2
  go_wp2
  obtain⟨tmps,ds⟩:=a
  simp only at hd hs hl
  subst hd
  refine leaves_cons (f:=152) (args:=#[.pointer (some ⟨w.heap.size,0,none⟩),.pointer (some ⟨w.heap.size+1,0,none⟩),.pointer (some ⟨w.heap.size+1+1,0,none⟩)]) (by simp) (by simp[go_sem]) ?_
  refine(QP _ _ _ _).mono ?_
  rintro e u' w'' ⟨rfl,rfl,rfl⟩
  have hrs:=Res3.grown hWg hg1 (AA hgz (World.grownBy_alloc wz (Obj.cells #[Value.int .i64 0,Value.int .i64 0,Value.string ⟨#[]⟩] 25) _)) hres (by omega) rfl rfl
  exact⟨_,AAD rfl (hl 4 (by decide)) (hl 5 (by decide)) (hl 6 (by decide)) ACu (tyS none 0 0) (Gc er) q0 q1 q2,ReadPost.mkErr hrs hrel.err rfl he⟩
 | ok l' =>
  obtain⟨v3,l3,⟨rfl,hrow⟩,hsl,hvl,hlb,hll⟩:=hst1
  have z3:=hz3 _ _ hrow (by omega)
  obtain⟨r0,r1,_,_⟩:=D8 z3
  have Z0:=AK hz0
  have Z1:=AK hz1
  have Z2:=AK hz2
  have Z3:=AK z3
  clear hrow hz0 hz1 hz2 hz3 z3
  go_wp2_with (refine MT rfl (.tmp 4) (.tmp 15) rfl rfl rfl E1.out ?_)
  refine AMM AKe 25 _ _ _ _ 153 7 w.heap.size (w.heap.size+1+1+1) v1 v3 cs l' _ _ _ rfl rfl rfl rfl rfl HT.out tyS Gc Z0.out ⟨_,Z1.out⟩ ⟨_,Z2.out⟩ (D8 Z3.out).1 (by omega) (hsl.kept hgz (.inr (hvl.1.ne (Nat.le_refl _)))) hvl.1 (fun w=>ALL w _) ACs (fun w v hv=>UW v l' w hv hll) ?_
  intro a w2 hres hd hs hl q0 q1 q2
  go_wp2
  obtain⟨tmps,ds⟩:=a
  simp only at hd hs hl
  subst hd
  refine leaves_cons (f:=152) (args:=#[.pointer (some ⟨w.heap.size,0,none⟩),.pointer (some ⟨w.heap.size+1,0,none⟩),.pointer (some ⟨w.heap.size+1+1,0,none⟩)]) (by simp) (by simp[go_sem]) ?_
  refine(QP _ _ _ _).mono ?_
  rintro e u' w'' ⟨rfl,rfl,rfl⟩
  have hrs:=Res3.grown hWg hg1 hgz hres (by omega) rfl rfl
  obtain⟨v',q1,qs,qk⟩:=q1
  obtain⟨ao',cap',rfl,_,_⟩:=qs.shape
  have hrep':rep w.heap.size w'' v1 x:=HMO.out _ _ _ _ _ HR.out (by have:=hgz.size;have:=hres.size;omega) (fun k hk1 hk2=>(hres.block k (by have:=hgz.size;omega) (by omega) (by omega) (by omega)).trans (hgz.block k hk2 (by simp<;>omega))) _ (by omega)
  exact⟨_,AAD rfl (hl 4 (by decide)) (hl 5 (by decide)) (hl 6 (by decide)) HT.out (tyS _ _ _) (Gc 0) q0 q1 q2,ReadPost.mkOk hrs hrel.ok rfl hrep' qs fun k hk=>by have:=qk k hk;have:=hgz.size;omega⟩
end
section
open Go.RowKit
theorem QQ {P:Program} {fn:Func} {p q r:Tmp} {T:TypeId} (h:fn.results=#[.cell p T,.tmp q,.tmp r]) {tmps:Array Value} {w:World} {b:Nat} {cs:List Value} {v:Value} {fr:Nat×Nat} {u:TypeId}
  (hp:tmps.getD p undef=ptr b) (t:TY P T cs v) (hb:w.heap[b]?=some (.cells cs.toArray u fr)) :
  (results fn tmps).run P w=.ok (.tuple #[v,tmps.getD q undef,tmps.getD r undef]) w:=by
 have e0:=t.load w b 0 (Av hb)
 have hp':tmps[p]?.getD undef=.pointer (some ⟨b,0,none⟩):=by simpa [ptr] using hp
 simp[results,h,hp',asAddr,e0]
theorem ReadPost.errS {α:Type} {p:DU α} {xs:List Nat} {zero:Value} {rep:Nat→World→Value→α→Prop} {w w':World} {o:Obj} {cs:List Value} {n:Nat} (hp:p xs=.error n) (hg:(w.alloc o).grownBy w' none) (hn:n≠0) :
  ReadPost p xs zero rep w (.returned (.tuple #[zero,Ph,.int .i64 n])) (w'.setCells w.heap.size 0 cs):=
 ReadPost.mkErr (AE (AA (World.grownBy_alloc w o none) hg) (Dw w.heap.size cs 0 w') (Nat.le_refl _)) hp rfl hn
theorem ReadPost.okS {α:Type} {p:DU α} {xs r:List Nat} {x:α} {zero:Value} {rep:Nat→World→Value→α→Prop} {w w':World} {o:Obj} {cs:List Value} {v rv:Value} (hp:p xs=.ok (x,r)) (hg:(w.alloc o).grownBy w' none)
  (hrep:rep (w.alloc o).heap.size w' v x) (hsl:Sl w' 1 rv r.length (bv r)) (hrv:∀k,rv.ownBlock=some k→(w.alloc o).heap.size≤k)
  (hmono:∀(L:Nat) (w w':World) (v:Value) (x:α),rep L w v x→w.heap.size≤w'.heap.size→(∀k,L≤k→k<w.heap.size→w'.heap[k]?=w.heap[k]?)→∀L',L'≤L→rep L' w' v x) :
  ReadPost p xs zero rep w (.returned (.tuple #[v,rv,.int .i64 0])) (w'.setCells w.heap.size 0 cs):=by
 have gs:=Dw w.heap.size cs 0 w'
 have hsz:(w.alloc o).heap.size=w.heap.size+1:=by simp
 unfold ReadPost
 rw[hp]
 refine⟨AE (AA (World.grownBy_alloc w o none) hg) gs (Nat.le_refl _),v,rv,rfl,hmono _ _ _ _ _ hrep gs.size (fun k h1 h2=>gs.block k h2 (by simp;omega)) _ (by omega),hsl.kept gs (.inr fun e=>by have:=hrv _ e;omega),fun k hk=>by have:=hrv k hk;omega⟩
end
section
open Go.RowKit
theorem UY (v:Value) (xs:List Nat) (w:World) (hv:Sl w 1 v xs.length (bv xs)) (hl:xs.length≤1099511627776) (hb:∀b∈xs,b<256) (hvb:Lo v w.heap.size) :
  Calls Tryz.prog 107 #[v] w (ReadPost pV xs (.agg #[(Value.int .i64 0),(Value.int .i64 0),(Value.string ⟨#[]⟩)]) (fun _=>AHF) w):=by
 obtain⟨ao,cap,rfl,hnc,hcm⟩:=hv.shape
 have hTY:∀(L:Nat) (w:World) (v:Value) (x:_),(fun _=>AHF) L w v x→∃cs,TY Tryz.prog 25 cs v∧cs.length=3:=by
  rintro L w v x rfl
  exact⟨_,tyV x,rfl⟩
 have hga:=World.grownBy_alloc w (.cells (List.toArray [(Value.int .i64 0),(Value.int .i64 0),(Value.string ⟨#[]⟩)]) 25) none
 have HV:=AK (hv.kept hga (by cases (Value.slice ao xs.length cap).ownBlock<;>simp))
 have HB:=AK hb
 have HVB:=AK (hvb.mono (R':=(w.alloc (.cells (List.toArray [(Value.int .i64 0),(Value.int .i64 0),(Value.string ⟨#[]⟩)]) 25)).heap.size) (by simp))
 clear hv hb hvb hga
 go_enter Tryz.func107,Tryz.ntmps107
 go_wp2_with fail
 refine(XI pV ((fun _=>AHF)) _ xs _ HV.out hl HB.out HVB.out (fun w R L s hst=>ACt R s w hst) hTY (fun _ _ _ _ _ h _ _ _ _=>h)).mono ?_
 intro e w' h
 have hz:=AF h.1 (Ak (w:=w) (o:=.cells (List.toArray [(Value.int .i64 0),(Value.int .i64 0),(Value.string ⟨#[]⟩)]) 25) rfl) (by simp)
 have HZ:=AK hz
 have H:=AK h
 unfold ReadPost at h
 obtain⟨hg,h⟩:=h
 clear hz
 cases hp:pV xs with
 | error n =>
  rw[hp] at h
  obtain⟨rfl,hn⟩:=h
  have HP:=AK hp
  have HG:=AK hg
  clear hp hg
  generalize hV:(Value.agg #[(Value.int .i64 0),(Value.int .i64 0),(Value.string ⟨#[]⟩)])=V
  obtain⟨cs,ht,hcl⟩:∃cs,TY Tryz.prog 25 cs V∧cs.length=3:=⟨[(Value.int .i64 0),(Value.int .i64 0),(Value.string ⟨#[]⟩)],by rw[←hV];exact ACu,rfl⟩
  have HT:=AK ht
  have hcl':(List.toArray [(Value.int .i64 0),(Value.int .i64 0),(Value.string ⟨#[]⟩)]).size=cs.length:=by rw[hcl];rfl
  have HVV:=AK hV
  clear ht hV hTY
  go_wp2_with (first|(refine Jp rfl 25 (.tmp 2) (.tmp 7) rfl rfl rfl HT.out HZ.out hcl' ?_)|fail)
  have hVV:=HVV.out
  clear HVV
  subst hVV
  exact bodyPost_ret (QQ rfl rfl HT.out (HT.out.stores HZ.out hcl').2.2) rfl (ReadPost.errS HP.out HG.out hn)
 | ok y =>
  obtain⟨x,r⟩:=y
  rw[hp] at h
  obtain⟨V,rv,rfl,h1,h2,h3⟩:=h
  obtain⟨cs,ht,hcl⟩:=hTY (w.alloc (.cells (List.toArray [(Value.int .i64 0),(Value.int .i64 0),(Value.string ⟨#[]⟩)]) 25)).heap.size _ _ _ h1
  have HT:=AK ht
  clear hTY
  have HC:=AK (And.intro h1 (And.intro h2 h3))
  have HP:=AK hp
  have HG:=AK hg
  clear hp hg h1 h2 h3 ht
  have hcl':(List.toArray [(Value.int .i64 0),(Value.int .i64 0),(Value.string ⟨#[]⟩)]).size=cs.length:=by rw[hcl];rfl
  go_wp2_with (first|(refine Jp rfl 25 (.tmp 2) (.tmp 7) rfl rfl rfl HT.out HZ.out hcl' ?_)|fail)
  exact bodyPost_ret (QQ rfl rfl HT.out (HT.out.stores HZ.out hcl').2.2) rfl (ReadPost.okS HP.out HG.out HC.out.1 HC.out.2.1 HC.out.2.2 (fun _ _ _ _ _ h _ _ _ _=>h))
end
end Go.Proofs.YtbfjfnbcmojpiaaGreat
