import Derived.Test.YtbfjfnbcmojpiaaGreatAlMK2
set_option linter.unusedSimpArgs false
set_option linter.unusedVariables false
namespace Go.Proofs.YtbfjfnbcmojpiaaGreat
open Go.RowKit Go.Shelf
theorem QA (k:Nat):(0:Int)<2^k:=Int.pow_pos (by decide)
theorem U3 {n:Nd} (h:M5 n=true):Et n=(lo n,hi n):=by unfold Et;rw[if_pos h]
theorem M9 (n:Nd):lo n<hi n:=by
 have h:=QA (34-n.d).toNat
 unfold lo hi
 rw[Int.add_mul]
 omega
theorem ACL {n:Nd} (h:M5 n=true):0≤lo n:=by
 obtain⟨_,_,h3,_⟩:=Ep.1 h
 exact Int.mul_nonneg h3 (Int.le_of_lt (QA _))
theorem AGO {n:Nd} (h:Et n≠(0,0)):M5 n=true:=by
 unfold Et at h
 by_cases ho:M5 n=true
 · exact ho
 · rw[if_neg ho] at h;exact absurd rfl h
theorem AD7 {c d:Int} {n:Nd} (h:Cj c n=some d):M5 n=true∧c≤lo n∧d=hi n:=by
 unfold Cj at h
 split at h
 · cases h
 · rename_i hs
   have ho:=AGO hs
   rw[U3 ho] at h
   simp only at h
   split at h
   · cases h
   · cases h
     exact⟨ho,by omega,rfl⟩
theorem AD8 {c:Int} {n:Nd} (ho:M5 n=true) (hc:c≤lo n) (h0:0≤c):Cj c n=some (hi n):=by
 have h1:=M9 n
 unfold Cj
 rw[U3 ho,if_neg (by intro e;simp only[Prod.mk.injEq] at e;omega)]
 simp only
 rw[if_neg (by omega)]
theorem ABH {c e:Int} {l:List Nd} (h:L3 c l=some e):∀n∈l,M5 n=true∧c≤lo n:=by
 induction l generalizing c with
 | nil=>intro n hn;cases hn
 | cons x l ih =>
  simp only[L3] at h
  cases hs:Cj c x with
  | none=>rw[hs] at h;cases h
  | some d =>
   rw[hs] at h
   obtain⟨h1,h2,h3⟩:=AD7 hs
   have:=M9 x
   intro n hn
   rcases List.mem_cons.1 hn with rfl|hn
   · exact⟨h1,h2⟩
   · obtain⟨h4,h5⟩:=ih h n hn
     exact⟨h4,by omega⟩
theorem XY {a:Int} {n:Nd} (h:M5 n=true):JP a n=Ly n a:=by
 have hq:=QA (34-n.d).toNat
 unfold JP Ly
 rw[U3 h]
 unfold lo hi
 have e1:=Int.le_ediv_iff_mul_le (a:=n.p) (b:=a) hq
 have e2:=Int.ediv_lt_iff_lt_mul (a:=a) (b:=n.p+1) hq
 rw[←Bool.decide_and]
 simp only[decide_eq_decide]
 constructor
 · rintro ⟨h1,h2⟩
   have:=e1.2 h1
   have:=e2.2 h2
   omega
 · intro h1
   exact⟨e1.1 (by omega),e2.1 (by omega)⟩
theorem ABI {l:List Nd} (h:GO l=true):l.length≤32768∧∃e,L3 0 l=some e:=by
 unfold GO at h
 simp only[Bool.and_eq_true,decide_eq_true_eq] at h
 exact⟨h.1,Option.isSome_iff_exists.1 h.2⟩
theorem AD9 (a:Int) {n:Nd} (hd:n.d≤33):a/2^(34-n.d).toNat=a/2^(33-n.d).toNat/2:=by
 rw[show(34-n.d).toNat=(33-n.d).toNat+1 by omega,Int.pow_succ,Int.ediv_ediv_of_nonneg (Int.le_of_lt (QA _))]
theorem UQ {a:Int} {n:Nd} {r:Bool} (hd:n.d≤33):Ly (A9 n r) a=decide (a/2^(33-n.d).toNat=2*n.p+if r then 1 else 0):=by
 unfold Ly A9
 simp only
 rw[show(34-(n.d+1)).toNat=(33-n.d).toNat by omega]
theorem XZ {a:Int} {n:Nd} (hd:n.d≤33):Ly n a=decide (a/2^(33-n.d).toNat/2=n.p):=by
 unfold Ly
 rw[AD9 a hd]
theorem Hu {a:Int} {n:Nd} {r:Bool} (hd:n.d≤33) (h:Ly (A9 n r) a=true):Ly n a=true:=by
 rw[UQ hd] at h
 rw[XZ hd]
 simp only[decide_eq_true_eq] at h ⊢
 cases r<;>simp at h<;>omega
theorem Lj {a:Int} {n:Nd} {r:Bool} (hd:n.d≤33) (h:Ly n a=true):Ly (A9 n r) a=(r == Pz n a):=by
 rw[XZ hd] at h
 rw[UQ hd]
 unfold Pz
 simp only[decide_eq_true_eq] at h
 generalize a/2^(33-n.d).toNat=x at *
 have h2:x%2=0∨x%2=1:=by omega
 cases r<;>rcases h2 with h2|h2<;>simp[h2]<;>omega
def Qf (S:List Int) (n:Nd):Bool:=S.any fun a=>Ly n a
theorem UR {S:List Int} {n:Nd} {r:Bool} (hd:n.d≤33) (h:Qf S n=false):Qf S (A9 n r)=false:=by
 unfold Qf at h ⊢
 rw[List.any_eq_false] at h ⊢
 exact fun a ha hc=>h a ha (Hu hd hc)
def DS (S:List Int):Nat→Nd→List Nd
 | 0,n=>if Qf S n then [] else [n]
 | k+1,n=>if Qf S n then DS S k (A9 n false)++DS S k (A9 n true) else [n]
def PR (a:Int):Nat→Nd→List Nd
 | 0,_=>[]
 | k+1,n=>if Pz n a then A9 n false::PR a k (A9 n true) else PR a k (A9 n false)++[A9 n true]
def pun (a:Int) (l:List Nd):List Nd:=l.flatMap fun n=>if Ly n a then PR a (34-n.d).toNat n else [n]
theorem De {S:List Int} {n:Nd} (k:Nat) (h:Qf S n=false):DS S k n=[n]:=by
 cases k<;>simp[DS,h]
theorem F4 (a:Int) (S:List Int) (n:Nd):Qf (a::S) n=(Ly n a||Qf S n):=by simp[Qf]
theorem ACM {S:List Int} {a:Int} (k:Nat):∀n:Nd,n.d=34-k→Qf S n=false→Ly n a=true→PR a k n=DS (a::S) k n:=by
 induction k with
 | zero=>intro n hd hs hc;simp[PR,DS,F4,hc]
 | succ k ih =>
  intro n hd hs hc
  have h33:n.d≤33:=by omega
  have c0:=Lj (r:=false) h33 hc
  have c1:=Lj (r:=true) h33 hc
  have s0:=UR (r:=false) h33 hs
  have s1:=UR (r:=true) h33 hs
  have d0:∀r,(A9 n r).d=34-(k:Int):=fun r=>by simp[A9];omega
  simp only[PR,DS,F4,hc,Bool.true_or,if_true]
  cases hb:Pz n a with
  | true =>
   rw[hb] at c0 c1
   simp only[if_true]
   rw[ih _ (d0 true) s1 (by rw[c1];rfl),De k (n:=A9 n false) (by rw[F4,c0,s0];rfl)]
   rfl
  | false =>
   rw[hb] at c0 c1
   simp only[Bool.false_eq_true,if_false]
   rw[ih _ (d0 false) s0 (by rw[c0];rfl),De k (n:=A9 n true) (by rw[F4,c1,s1];rfl)]
theorem ACN {S:List Int} {a:Int} (k:Nat):∀n:Nd,n.d=34-k→pun a (DS S k n)=DS (a::S) k n:=by
 induction k with
 | zero =>
  intro n hd
  cases hs:Qf S n with
  | true=>simp[DS,hs,F4,pun]
  | false =>
   rw[De 0 hs]
   cases hc:Ly n a with
   | true=>simp[pun,hc,hd,DS,F4,PR]
   | false=>simp[pun,hc,DS,F4,hs]
 | succ k ih =>
  intro n hd
  cases hs:Qf S n with
  | true =>
   have d0:∀r,(A9 n r).d=34-(k:Int):=fun r=>by simp[A9];omega
   have h0:=ih _ (d0 false)
   have h1:=ih _ (d0 true)
   simp only[DS,hs,F4,Bool.or_true,if_true]
   rw[←h0,←h1]
   simp[pun]
  | false =>
   rw[De _ hs]
   cases hc:Ly n a with
   | true =>
    rw[←ACM (k+1) n hd hs hc]
    simp only[pun,List.flatMap_cons,List.flatMap_nil,hc,if_true,List.append_nil]
    rw[show(34-n.d).toNat=k+1 by omega]
   | false =>
    rw[De _ (by rw[F4,hc,hs];rfl)]
    simp[pun,hc]
theorem ACO {S:List Int} {a:Int} (k:Nat):∀n:Nd,n.d=34-k→∀m∈DS S k n,Ly m a=true→Ly n a=true:=by
 induction k with
 | zero =>
  intro n hd m hm hc
  simp only[DS] at hm
  split at hm
  · cases hm
  · obtain rfl:=List.mem_singleton.1 hm;exact hc
 | succ k ih =>
  intro n hd m hm hc
  have d0:∀r,(A9 n r).d=34-(k:Int):=fun r=>by simp[A9];omega
  simp only[DS] at hm
  split at hm
  · rcases List.mem_append.1 hm with hm|hm
    · exact Hu (by omega) (ih _ (d0 false) m hm hc)
    · exact Hu (by omega) (ih _ (d0 true) m hm hc)
  · obtain rfl:=List.mem_singleton.1 hm;exact hc
theorem ACP {S:List Int} {a:Int} (ha:a∈S) (k:Nat):∀n:Nd,∀m∈DS S k n,Ly m a=false:=by
 induction k with
 | zero =>
  intro n m hm
  simp only[DS] at hm
  split at hm
  · cases hm
  · rename_i hs
    obtain rfl:=List.mem_singleton.1 hm
    simp only[Qf,Bool.not_eq_true,List.any_eq_false] at hs
    simpa using hs a ha
 | succ k ih =>
  intro n m hm
  simp only[DS] at hm
  split at hm
  · rcases List.mem_append.1 hm with hm|hm
    · exact ih _ m hm
    · exact ih _ m hm
  · rename_i hs
    obtain rfl:=List.mem_singleton.1 hm
    simp only[Qf,Bool.not_eq_true,List.any_eq_false] at hs
    simpa using hs a ha
theorem PS {S:List Int} {a:Int} (ha:a∈S) (k:Nat) (n:Nd):(DS S k n).find? (fun m=>Ly m a)=none:=
 List.find?_eq_none.2 fun m hm=>by rw[ACP ha k n m hm];simp
theorem Zp {S:List Int} {a:Int} (ha:a ∉ S) (k:Nat):∀n:Nd,n.d=34-k→Ly n a=true→∃m,(DS S k n).find? (fun m=>Ly m a)=some m∧Ny a (34-m.d).toNat m=Ny a k n:=by
 induction k with
 | zero =>
  intro n hd hc
  cases hs:Qf S n with
  | false=>exact⟨n,by simp[DS,hs,hc],by rw[show(34-n.d).toNat=0 by omega]⟩
  | true =>
   unfold Qf at hs
   obtain⟨x,hx,hxc⟩:=List.any_eq_true.1 hs
   unfold Ly at hc hxc
   rw[show(34-n.d).toNat=0 by omega] at hc hxc
   simp at hc hxc
   exact absurd (by rw[hc,←hxc];exact hx) ha
 | succ k ih =>
  intro n hd hc
  have d0:∀r,(A9 n r).d=34-(k:Int):=fun r=>by simp[A9];omega
  have c0:=Lj (r:=false) (n:=n) (by omega) hc
  have c1:=Lj (r:=true) (n:=n) (by omega) hc
  cases hs:Qf S n with
  | false=>exact⟨n,by rw[De _ hs];simp[hc],by rw[show(34-n.d).toNat=k+1 by omega]⟩
  | true =>
   simp only[DS,hs,if_true,List.find?_append,Ny]
   cases hb:Pz n a with
   | false =>
    rw[hb] at c0
    obtain⟨m,h1,h2⟩:=ih _ (d0 false) c0
    exact⟨m,by rw[h1];rfl,h2⟩
   | true =>
    rw[hb] at c0 c1
    obtain⟨m,h1,h2⟩:=ih _ (d0 true) c1
    refine⟨m,?_,h2⟩
    rw[List.find?_eq_none.2 (fun x hx=>by
     intro hxc
     have:=ACO k _ (d0 false) x hx hxc
     rw[c0] at this
     cases this),h1]
    rfl
def cnt (S:List Int) (n:Nd):Nat:=(S.filter fun a=>Ly n a).length
theorem Qg {S:List Int} {n:Nd}:cnt S n=0↔Qf S n=false:=by
 unfold cnt Qf
 rw[List.length_eq_zero_iff,List.filter_eq_nil_iff,List.any_eq_false]
theorem ACQ (S:List Int) {n:Nd} (hd:n.d≤33):cnt S (A9 n false)+cnt S (A9 n true)=cnt S n:=by
 induction S with
 | nil=>rfl
 | cons a S ih =>
  unfold cnt at ih ⊢
  simp only[List.filter_cons]
  cases hc:Ly n a with
  | false =>
   have h0:∀r,Ly (A9 n r) a=false:=fun r=>by
    cases h:Ly (A9 n r) a with
    | false=>rfl
    | true=>rw[Hu hd h] at hc;cases hc
   simp only[h0,Bool.false_eq_true,if_false]
   exact ih
  | true =>
   have c0:=Lj (r:=false) hd hc
   have c1:=Lj (r:=true) hd hc
   cases hb:Pz n a<;>rw[hb] at c0 c1<;>simp[c0,c1]<;>omega
theorem ACR {S:List Int} (k:Nat):∀n:Nd,n.d=34-k→(DS S k n).length≤if cnt S n=0 then 1 else k*cnt S n:=by
 induction k with
 | zero =>
  intro n hd
  cases hs:Qf S n with
  | false=>rw[De _ hs,if_pos (Qg.2 hs)];simp
  | true=>simp[DS,hs]
 | succ k ih =>
  intro n hd
  have d0:∀r,(A9 n r).d=34-(k:Int):=fun r=>by simp[A9];omega
  cases hs:Qf S n with
  | false=>rw[De _ hs,if_pos (Qg.2 hs)];simp
  | true =>
   have hz:cnt S n≠0:=fun h=>by rw[Qg.1 h] at hs;cases hs
   have h0:=ih _ (d0 false)
   have h1:=ih _ (d0 true)
   have hc:=ACQ S (n:=n) (by omega)
   rw[if_neg hz]
   simp only[DS,hs,if_true,List.length_append]
   rw[←hc] at hz ⊢
   generalize cnt S (A9 n false)=x at *
   generalize cnt S (A9 n true)=y at *
   rw[Nat.mul_add,Nat.succ_mul,Nat.succ_mul]
   split at h0<;>split at h1
   · omega
   · subst_vars;omega
   · subst_vars;omega
   · omega
theorem Zq (c:Int) (l m:List Nd):L3 c (l++m)=(L3 c l).bind fun c=>L3 c m:=by
 induction l generalizing c with
 | nil=>simp[L3]
 | cons x l ih =>
  simp only[List.cons_append,L3]
  cases Cj c x with
  | none=>rfl
  | some d=>simp[ih]
theorem Xa {n:Nd} (hd:n.d≤33):(2:Int)^(34-n.d).toNat=2*2^(33-n.d).toNat:=by
 rw[show(34-n.d).toNat=(33-n.d).toNat+1 by omega,Int.pow_succ,Int.mul_comm]
theorem Qh {n:Nd} (r:Bool) (hd:n.d≤33):lo (A9 n r)=lo n+(if r then 2^(33-n.d).toNat else 0):=by
 unfold lo A9
 simp only
 rw[show(34-(n.d+1)).toNat=(33-n.d).toNat by omega,Xa hd,Int.add_mul]
 have e:n.p*(2*2^(33-n.d).toNat)=2*n.p*2^(33-n.d).toNat:=by rw[←Int.mul_assoc,Int.mul_comm n.p 2]
 rw[e]
 cases r<;>simp
theorem AHu (n:Nd):hi n=lo n+2^(34-n.d).toNat:=by unfold hi lo;rw[Int.add_mul];simp
theorem Xb {n:Nd} (r:Bool) (hd:n.d≤33):hi (A9 n r)=lo n+(if r then 2^(34-n.d).toNat else 2^(33-n.d).toNat):=by
 rw[AHu,Qh r hd]
 rw[show(34-(A9 n r).d).toNat=(33-n.d).toNat by simp[A9];omega,Xa hd]
 cases r<;>simp<;>omega
theorem ACS {S:List Int} (k:Nat):∀(n:Nd) (c:Int),n.d=34-k→M5 n=true→0≤c→c≤lo n→∃e,L3 c (DS S k n)=some e∧c≤e∧e≤hi n:=by
 induction k with
 | zero =>
  intro n c hd ho h0 hc
  have:=M9 n
  cases hs:Qf S n with
  | false=>exact⟨hi n,by rw[De _ hs];simp[L3,AD8 ho hc h0],by omega,by omega⟩
  | true=>exact⟨c,by simp[DS,hs,L3],by omega,by omega⟩
 | succ k ih =>
  intro n c hd ho h0 hc
  have:=M9 n
  have h33:n.d≤33:=by omega
  have d0:∀r,(A9 n r).d=34-(k:Int):=fun r=>by simp[A9];omega
  cases hs:Qf S n with
  | false=>exact⟨hi n,by rw[De _ hs];simp[L3,AD8 ho hc h0],by omega,by omega⟩
  | true =>
   have l0:=Qh (n:=n) false h33
   have l1:=Qh (n:=n) true h33
   have e0:=Xb (n:=n) false h33
   have e1:=Xb (n:=n) true h33
   have hh:=AHu n
   simp only[Bool.false_eq_true,if_false,if_true] at l0 l1 e0 e1
   obtain⟨x,h1,h2,h3⟩:=ih _ c (d0 false) (D4 false ho h33) h0 (by omega)
   obtain⟨y,h4,h5,h6⟩:=ih _ x (d0 true) (D4 true ho h33) (by omega) (by omega)
   refine⟨y,?_,by omega,by omega⟩
   simp only[DS,hs,if_true,Zq,h1]
   exact h4
def L5 (k:List Nat):Nd:=⟨0,0,k⟩
theorem Qi (k:List Nat):M5 (L5 k)=true:=by rw[Ep];simp[L5]
theorem AEA {a:Int} (k:List Nat) (h:Br a=true):Ly (L5 k) a=true:=by
 unfold Br at h
 simp only[Bool.and_eq_true,decide_eq_true_eq] at h
 unfold Ly L5
 simp only[Int.sub_zero,decide_eq_true_eq]
 have e:(2:Int)^(34:Int).toNat=17179869184:=by decide
 rw[e]
 omega
def tree (k:List Nat) (S:List Int):List Nd:=DS S 34 (L5 k)
theorem Kv (k:List Nat):tree k []=[L5 k]:=De 34 rfl
theorem AEB (k:List Nat) (S:List Int) (a:Int):pun a (tree k S)=tree k (a::S):=ACN 34 _ rfl
theorem Xc (k:List Nat) (S:List Int):(tree k S).length≤if cnt S (L5 k)=0 then 1 else 34*cnt S (L5 k):=ACR 34 _ rfl
theorem AEC (k:List Nat) (S:List Int) (h:(tree k S).length≤32768):GO (tree k S)=true:=by
 obtain⟨e,h1,_,_⟩:=ACS (S:=S) 34 (L5 k) 0 rfl (Qi k) (by decide) (ACL (Qi k))
 unfold GO
 unfold tree at h ⊢
 rw[h1]
 simp[h]
theorem AED (S:List Int) (n:Nd):cnt S n≤S.length:=List.length_filter_le _ _
theorem Is (k:List Nat) (S:List Int) (h:S.length≤900):GO (tree k S)=true:=by
 have h1:=Xc k S
 have h2:=AED S (L5 k)
 refine AEC k S ?_
 split at h1<;>omega
theorem US (k:List Nat) (S:List Int) (a:Int) (hv:GO (tree k S)=true) (ha:Br a=true) :
   Cy (tree k S) a=if a∈S then (AR,10) else ((Ny a 34 (L5 k)).k,0):=by
 obtain⟨_,e,he⟩:=ABI hv
 have hf:(tree k S).find? (JP a)=(tree k S).find? (fun m=>Ly m a):=by
   have:∀m∈tree k S,JP a m=Ly m a:=fun m hm=>XY (ABH he m hm).1
   generalize tree k S=l at this
   induction l with
   | nil=>rfl
   | cons x l ih=>rw[List.find?_cons,List.find?_cons,this x (by simp),ih (fun m hm=>this m (by simp[hm]))]
 unfold Cy
 rw[ha,hv,if_pos (by rfl),hf]
 by_cases hm:a∈S
 · rw[if_pos hm]
   rw[show(tree k S).find? (fun m=>Ly m a)=none from PS hm 34 _]
 · rw[if_neg hm]
   obtain⟨m,h1,h2⟩:=Zp hm 34 (L5 k) rfl (AEA k ha)
   rw[show(tree k S).find? (fun m=>Ly m a)=some m from h1]
   simp only
   rw[h2]
def Io (a:Int) (l:List Nd):List Nd:=l.flatMap fun n=>if JP a n then PR a (34-n.d).toNat n else [n]
def Fy (l:List Nd) (a:Int):List Nd×Int:=if Br a&&GO l then (if 32768<(Io a l).length then ([],8) else (Io a l,0)) else ([],1)
theorem Qj {α β:Type} {f g:α→List β}:∀{l:List α},(∀x∈l,f x=g x)→l.flatMap f=l.flatMap g:=by
 intro l
 induction l with
 | nil=>intro _;rfl
 | cons x l ih =>
  intro h
  rw[List.flatMap_cons,List.flatMap_cons,h x (List.mem_cons.2 (.inl rfl)),ih fun y hy=>h y (List.mem_cons.2 (.inr hy))]
theorem AEE {l:List Nd} (hv:GO l=true) (a:Int):Io a l=pun a l:=by
 obtain⟨_,e,he⟩:=ABI hv
 have hall:=ABH he
 unfold Io pun
 exact Qj fun n hn=>by rw[XY (hall n hn).1]
theorem Zr (k:List Nat) (S:List Int) (h:S.length≤900):(tree k S).length≤32768:=by
 have h1:=Xc k S
 have h2:=AED S (L5 k)
 split at h1<;>omega
theorem Zs {k:List Nat} {S:List Int} {a:Int} (h:S.length≤800) (ha:Br a=true):Fy (tree k S) a=(tree k (a::S),0):=by
 have hv:=Is k S (by omega)
 have hs:=Zr k (a::S) (by simp;omega)
 unfold Fy
 rw[ha,hv,if_pos (by rfl),AEE hv,AEB,if_neg (by omega)]
theorem AD1 {n:Nd} (h:M5 n=true) (hk:Dg n.k):Nok n:=by
 have hp:=ADq h
 obtain⟨h1,h2,h3,h4⟩:=Ep.1 h
 exact⟨hk,⟨by omega,by omega⟩,⟨by omega,by omega⟩⟩
theorem FV (n:Nd) (r:Bool):Dg (A9 n r).k:=UN _ _
theorem AIf {a:Int} (k:Nat):∀n:Nd,n.d=34-k→M5 n=true→∀m∈PR a k n,M5 m=true∧Dg m.k:=by
 induction k with
 | zero=>intro n _ _ m hm;cases hm
 | succ k ih =>
  intro n hd ho m hm
  have h33:n.d≤33:=by omega
  have d0:∀r,(A9 n r).d=34-(k:Int):=fun r=>by simp[A9];omega
  rw[PR] at hm
  split at hm
  · rcases List.mem_cons.1 hm with rfl|hm
    · exact⟨D4 _ ho h33,FV _ _⟩
    · exact ih _ (d0 true) (D4 _ ho h33) m hm
  · rcases List.mem_append.1 hm with hm|hm
    · exact ih _ (d0 false) (D4 _ ho h33) m hm
    · obtain rfl:=List.mem_singleton.1 hm
      exact⟨D4 _ ho h33,FV _ _⟩
theorem U2 {a:Int} (k:Nat):∀n:Nd,(PR a k n).length=k:=by
 induction k with
 | zero=>intro n;rfl
 | succ k ih =>
  intro n
  rw[PR]
  split
  · rw[List.length_cons,ih]
  · rw[List.length_append,ih];rfl
theorem AEF {S:List Int} (k:Nat):∀n:Nd,n.d=34-k→M5 n=true→Dg n.k→∀m∈DS S k n,M5 m=true∧Dg m.k:=by
 induction k with
 | zero =>
  intro n hd ho hk m hm
  simp only[DS] at hm
  split at hm
  · cases hm
  · obtain rfl:=List.mem_singleton.1 hm;exact⟨ho,hk⟩
 | succ k ih =>
  intro n hd ho hk m hm
  have h33:n.d≤33:=by omega
  have d0:∀r,(A9 n r).d=34-(k:Int):=fun r=>by simp[A9];omega
  simp only[DS] at hm
  split at hm
  · rcases List.mem_append.1 hm with hm|hm
    · exact ih _ (d0 false) (D4 _ ho h33) (FV _ _) m hm
    · exact ih _ (d0 true) (D4 _ ho h33) (FV _ _) m hm
  · obtain rfl:=List.mem_singleton.1 hm;exact⟨ho,hk⟩
theorem AGK {k:List Nat} {S:List Int} (hk:Dg k):∀m∈tree k S,Nok m:=fun m hm =>
 let h:=AEF 34 (L5 k) rfl (Qi k) hk m hm
 AD1 h.1 h.2
def MH (a:Int):Nat→Nd→List Nd→List Nd→List Nd×List Nd
 | 0,_,L,R=>(L,R)
 | k+1,n,L,R=>if Pz n a then MH a k (A9 n true) (L++[A9 n false]) R else MH a k (A9 n false) L (R++[A9 n true])
theorem ACG (a:Int) (k:Nat):∀(n:Nd) (L R:List Nd),(MH a k n L R).1++(MH a k n L R).2.reverse=L++(PR a k n++R.reverse):=by
 induction k with
 | zero=>intro n L R;rfl
 | succ k ih =>
  intro n L R
  rw[MH,PR]
  split
  · rw[ih];simp
  · rw[ih];simp
end Go.Proofs.YtbfjfnbcmojpiaaGreat
