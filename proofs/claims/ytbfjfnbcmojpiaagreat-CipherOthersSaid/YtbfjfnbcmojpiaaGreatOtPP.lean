import Derived.Test.YtbfjfnbcmojpiaaGreatOtMK2
set_option linter.unusedSimpArgs false
set_option linter.unusedVariables false
namespace Go.Proofs.YtbfjfnbcmojpiaaGreat
open Go.RowKit Go.Shelf
theorem QG (k:Nat):(0:Int)<2^k:=Int.pow_pos (by decide)
theorem Ui {n:Nd} (h:NI n=true):Ez n=(lo n,hi n):=by unfold Ez;rw[if_pos h]
theorem NN (n:Nd):lo n<hi n:=by
 have h:=QG (34-n.d).toNat
 unfold lo hi
 rw[Int.add_mul]
 omega
theorem AB9 {n:Nd} (h:NI n=true):0≤lo n:=by
 obtain⟨_,_,h3,_⟩:=Ew.1 h
 exact Int.mul_nonneg h3 (Int.le_of_lt (QG _))
theorem AF9 {n:Nd} (h:Ez n≠(0,0)):NI n=true:=by
 unfold Ez at h
 by_cases ho:NI n=true
 · exact ho
 · rw[if_neg ho] at h;exact absurd rfl h
theorem ADu {c d:Int} {n:Nd} (h:Cl c n=some d):NI n=true∧c≤lo n∧d=hi n:=by
 unfold Cl at h
 split at h
 · cases h
 · rename_i hs
   have ho:=AF9 hs
   rw[Ui ho] at h
   simp only at h
   split at h
   · cases h
   · cases h
     exact⟨ho,by omega,rfl⟩
theorem ADv {c:Int} {n:Nd} (ho:NI n=true) (hc:c≤lo n) (h0:0≤c):Cl c n=some (hi n):=by
 have h1:=NN n
 unfold Cl
 rw[Ui ho,if_neg (by intro e;simp only[Prod.mk.injEq] at e;omega)]
 simp only
 rw[if_neg (by omega)]
theorem AA4 {c e:Int} {l:List Nd} (h:MP c l=some e):∀n∈l,NI n=true∧c≤lo n:=by
 induction l generalizing c with
 | nil=>intro n hn;cases hn
 | cons x l ih =>
  simp only[MP] at h
  cases hs:Cl c x with
  | none=>rw[hs] at h;cases h
  | some d =>
   rw[hs] at h
   obtain⟨h1,h2,h3⟩:=ADu hs
   have:=NN x
   intro n hn
   rcases List.mem_cons.1 hn with rfl|hn
   · exact⟨h1,h2⟩
   · obtain⟨h4,h5⟩:=ih h n hn
     exact⟨h4,by omega⟩
theorem XH {a:Int} {n:Nd} (h:NI n=true):Jk a n=MN n a:=by
 have hq:=QG (34-n.d).toNat
 unfold Jk MN
 rw[Ui h]
 unfold lo hi
 have e1:=Int.le_ediv_iff_mul_le (a:=n.p) (b:=a) hq
 have e2:=Int.ediv_lt_iff_lt_mul (a:=a) (b:=n.p+1) hq
 rw[←Bool.decide_and]
 simp only[decide_eq_decide]
 constructor
 · rintro ⟨h1,h2⟩
   have:=e1.2 h1
   have:=e2.2 h2
   omega
 · intro h1
   exact⟨e1.1 (by omega),e2.1 (by omega)⟩
theorem AA5 {l:List Nd} (h:GV l=true):l.length≤32768∧∃e,MP 0 l=some e:=by
 unfold GV at h
 simp only[Bool.and_eq_true,decide_eq_true_eq] at h
 exact⟨h.1,Option.isSome_iff_exists.1 h.2⟩
theorem ADw (a:Int) {n:Nd} (hd:n.d≤33):a/2^(34-n.d).toNat=a/2^(33-n.d).toNat/2:=by
 rw[show(34-n.d).toNat=(33-n.d).toNat+1 by omega,Int.pow_succ,Int.ediv_ediv_of_nonneg (Int.le_of_lt (QG _))]
theorem T6 {a:Int} {n:Nd} {r:Bool} (hd:n.d≤33):MN (BB n r) a=decide (a/2^(33-n.d).toNat=2*n.p+if r then 1 else 0):=by
 unfold MN BB
 simp only
 rw[show(34-(n.d+1)).toNat=(33-n.d).toNat by omega]
theorem XI {a:Int} {n:Nd} (hd:n.d≤33):MN n a=decide (a/2^(33-n.d).toNat/2=n.p):=by
 unfold MN
 rw[ADw a hd]
theorem IB {a:Int} {n:Nd} {r:Bool} (hd:n.d≤33) (h:MN (BB n r) a=true):MN n a=true:=by
 rw[T6 hd] at h
 rw[XI hd]
 simp only[decide_eq_true_eq] at h ⊢
 cases r<;>simp at h<;>omega
theorem L8 {a:Int} {n:Nd} {r:Bool} (hd:n.d≤33) (h:MN n a=true):MN (BB n r) a=(r == QD n a):=by
 rw[XI hd] at h
 rw[T6 hd]
 unfold QD
 simp only[decide_eq_true_eq] at h
 generalize a/2^(33-n.d).toNat=x at *
 have h2:x%2=0∨x%2=1:=by omega
 cases r<;>rcases h2 with h2|h2<;>simp[h2]<;>omega
def Qo (S:List Int) (n:Nd):Bool:=S.any fun a=>MN n a
theorem T7 {S:List Int} {n:Nd} {r:Bool} (hd:n.d≤33) (h:Qo S n=false):Qo S (BB n r)=false:=by
 unfold Qo at h ⊢
 rw[List.any_eq_false] at h ⊢
 exact fun a ha hc=>h a ha (IB hd hc)
def DR (S:List Int):Nat→Nd→List Nd
 | 0,n=>if Qo S n then [] else [n]
 | k+1,n=>if Qo S n then DR S k (BB n false)++DR S k (BB n true) else [n]
def Pd (a:Int):Nat→Nd→List Nd
 | 0,_=>[]
 | k+1,n=>if QD n a then BB n false::Pd a k (BB n true) else Pd a k (BB n false)++[BB n true]
def pun (a:Int) (l:List Nd):List Nd:=l.flatMap fun n=>if MN n a then Pd a (34-n.d).toNat n else [n]
theorem De {S:List Int} {n:Nd} (k:Nat) (h:Qo S n=false):DR S k n=[n]:=by
 cases k<;>simp[DR,h]
theorem Fz (a:Int) (S:List Int) (n:Nd):Qo (a::S) n=(MN n a||Qo S n):=by simp[Qo]
theorem ACA {S:List Int} {a:Int} (k:Nat):∀n:Nd,n.d=34-k→Qo S n=false→MN n a=true→Pd a k n=DR (a::S) k n:=by
 induction k with
 | zero=>intro n hd hs hc;simp[Pd,DR,Fz,hc]
 | succ k ih =>
  intro n hd hs hc
  have h33:n.d≤33:=by omega
  have c0:=L8 (r:=false) h33 hc
  have c1:=L8 (r:=true) h33 hc
  have s0:=T7 (r:=false) h33 hs
  have s1:=T7 (r:=true) h33 hs
  have d0:∀r,(BB n r).d=34-(k:Int):=fun r=>by simp[BB];omega
  simp only[Pd,DR,Fz,hc,Bool.true_or,if_true]
  cases hb:QD n a with
  | true =>
   rw[hb] at c0 c1
   simp only[if_true]
   rw[ih _ (d0 true) s1 (by rw[c1];rfl),De k (n:=BB n false) (by rw[Fz,c0,s0];rfl)]
   rfl
  | false =>
   rw[hb] at c0 c1
   simp only[Bool.false_eq_true,if_false]
   rw[ih _ (d0 false) s0 (by rw[c0];rfl),De k (n:=BB n true) (by rw[Fz,c1,s1];rfl)]
theorem ACB {S:List Int} {a:Int} (k:Nat):∀n:Nd,n.d=34-k→pun a (DR S k n)=DR (a::S) k n:=by
 induction k with
 | zero =>
  intro n hd
  cases hs:Qo S n with
  | true=>simp[DR,hs,Fz,pun]
  | false =>
   rw[De 0 hs]
   cases hc:MN n a with
   | true=>simp[pun,hc,hd,DR,Fz,Pd]
   | false=>simp[pun,hc,DR,Fz,hs]
 | succ k ih =>
  intro n hd
  cases hs:Qo S n with
  | true =>
   have d0:∀r,(BB n r).d=34-(k:Int):=fun r=>by simp[BB];omega
   have h0:=ih _ (d0 false)
   have h1:=ih _ (d0 true)
   simp only[DR,hs,Fz,Bool.or_true,if_true]
   rw[←h0,←h1]
   simp[pun]
  | false =>
   rw[De _ hs]
   cases hc:MN n a with
   | true =>
    rw[←ACA (k+1) n hd hs hc]
    simp only[pun,List.flatMap_cons,List.flatMap_nil,hc,if_true,List.append_nil]
    rw[show(34-n.d).toNat=k+1 by omega]
   | false =>
    rw[De _ (by rw[Fz,hc,hs];rfl)]
    simp[pun,hc]
theorem ACC {S:List Int} {a:Int} (k:Nat):∀n:Nd,n.d=34-k→∀m∈DR S k n,MN m a=true→MN n a=true:=by
 induction k with
 | zero =>
  intro n hd m hm hc
  simp only[DR] at hm
  split at hm
  · cases hm
  · obtain rfl:=List.mem_singleton.1 hm;exact hc
 | succ k ih =>
  intro n hd m hm hc
  have d0:∀r,(BB n r).d=34-(k:Int):=fun r=>by simp[BB];omega
  simp only[DR] at hm
  split at hm
  · rcases List.mem_append.1 hm with hm|hm
    · exact IB (by omega) (ih _ (d0 false) m hm hc)
    · exact IB (by omega) (ih _ (d0 true) m hm hc)
  · obtain rfl:=List.mem_singleton.1 hm;exact hc
theorem ACD {S:List Int} {a:Int} (ha:a∈S) (k:Nat):∀n:Nd,∀m∈DR S k n,MN m a=false:=by
 induction k with
 | zero =>
  intro n m hm
  simp only[DR] at hm
  split at hm
  · cases hm
  · rename_i hs
    obtain rfl:=List.mem_singleton.1 hm
    simp only[Qo,Bool.not_eq_true,List.any_eq_false] at hs
    simpa using hs a ha
 | succ k ih =>
  intro n m hm
  simp only[DR] at hm
  split at hm
  · rcases List.mem_append.1 hm with hm|hm
    · exact ih _ m hm
    · exact ih _ m hm
  · rename_i hs
    obtain rfl:=List.mem_singleton.1 hm
    simp only[Qo,Bool.not_eq_true,List.any_eq_false] at hs
    simpa using hs a ha
theorem Pe {S:List Int} {a:Int} (ha:a∈S) (k:Nat) (n:Nd):(DR S k n).find? (fun m=>MN m a)=none:=
 List.find?_eq_none.2 fun m hm=>by rw[ACD ha k n m hm];simp
theorem Zb {S:List Int} {a:Int} (ha:a ∉ S) (k:Nat):∀n:Nd,n.d=34-k→MN n a=true→∃m,(DR S k n).find? (fun m=>MN m a)=some m∧OK a (34-m.d).toNat m=OK a k n:=by
 induction k with
 | zero =>
  intro n hd hc
  cases hs:Qo S n with
  | false=>exact⟨n,by simp[DR,hs,hc],by rw[show(34-n.d).toNat=0 by omega]⟩
  | true =>
   unfold Qo at hs
   obtain⟨x,hx,hxc⟩:=List.any_eq_true.1 hs
   unfold MN at hc hxc
   rw[show(34-n.d).toNat=0 by omega] at hc hxc
   simp at hc hxc
   exact absurd (by rw[hc,←hxc];exact hx) ha
 | succ k ih =>
  intro n hd hc
  have d0:∀r,(BB n r).d=34-(k:Int):=fun r=>by simp[BB];omega
  have c0:=L8 (r:=false) (n:=n) (by omega) hc
  have c1:=L8 (r:=true) (n:=n) (by omega) hc
  cases hs:Qo S n with
  | false=>exact⟨n,by rw[De _ hs];simp[hc],by rw[show(34-n.d).toNat=k+1 by omega]⟩
  | true =>
   simp only[DR,hs,if_true,List.find?_append,OK]
   cases hb:QD n a with
   | false =>
    rw[hb] at c0
    obtain⟨m,h1,h2⟩:=ih _ (d0 false) c0
    exact⟨m,by rw[h1];rfl,h2⟩
   | true =>
    rw[hb] at c0 c1
    obtain⟨m,h1,h2⟩:=ih _ (d0 true) c1
    refine⟨m,?_,h2⟩
    rw[List.find?_eq_none.2 (fun x hx=>by
     intro hxc
     have:=ACC k _ (d0 false) x hx hxc
     rw[c0] at this
     cases this),h1]
    rfl
def cnt (S:List Int) (n:Nd):Nat:=(S.filter fun a=>MN n a).length
theorem Qp {S:List Int} {n:Nd}:cnt S n=0↔Qo S n=false:=by
 unfold cnt Qo
 rw[List.length_eq_zero_iff,List.filter_eq_nil_iff,List.any_eq_false]
theorem ACE (S:List Int) {n:Nd} (hd:n.d≤33):cnt S (BB n false)+cnt S (BB n true)=cnt S n:=by
 induction S with
 | nil=>rfl
 | cons a S ih =>
  unfold cnt at ih ⊢
  simp only[List.filter_cons]
  cases hc:MN n a with
  | false =>
   have h0:∀r,MN (BB n r) a=false:=fun r=>by
    cases h:MN (BB n r) a with
    | false=>rfl
    | true=>rw[IB hd h] at hc;cases hc
   simp only[h0,Bool.false_eq_true,if_false]
   exact ih
  | true =>
   have c0:=L8 (r:=false) hd hc
   have c1:=L8 (r:=true) hd hc
   cases hb:QD n a<;>rw[hb] at c0 c1<;>simp[c0,c1]<;>omega
theorem ACF {S:List Int} (k:Nat):∀n:Nd,n.d=34-k→(DR S k n).length≤if cnt S n=0 then 1 else k*cnt S n:=by
 induction k with
 | zero =>
  intro n hd
  cases hs:Qo S n with
  | false=>rw[De _ hs,if_pos (Qp.2 hs)];simp
  | true=>simp[DR,hs]
 | succ k ih =>
  intro n hd
  have d0:∀r,(BB n r).d=34-(k:Int):=fun r=>by simp[BB];omega
  cases hs:Qo S n with
  | false=>rw[De _ hs,if_pos (Qp.2 hs)];simp
  | true =>
   have hz:cnt S n≠0:=fun h=>by rw[Qp.1 h] at hs;cases hs
   have h0:=ih _ (d0 false)
   have h1:=ih _ (d0 true)
   have hc:=ACE S (n:=n) (by omega)
   rw[if_neg hz]
   simp only[DR,hs,if_true,List.length_append]
   rw[←hc] at hz ⊢
   generalize cnt S (BB n false)=x at *
   generalize cnt S (BB n true)=y at *
   rw[Nat.mul_add,Nat.succ_mul,Nat.succ_mul]
   split at h0<;>split at h1
   · omega
   · subst_vars;omega
   · subst_vars;omega
   · omega
theorem Zc (c:Int) (l m:List Nd):MP c (l++m)=(MP c l).bind fun c=>MP c m:=by
 induction l generalizing c with
 | nil=>simp[MP]
 | cons x l ih =>
  simp only[List.cons_append,MP]
  cases Cl c x with
  | none=>rfl
  | some d=>simp[ih]
theorem XJ {n:Nd} (hd:n.d≤33):(2:Int)^(34-n.d).toNat=2*2^(33-n.d).toNat:=by
 rw[show(34-n.d).toNat=(33-n.d).toNat+1 by omega,Int.pow_succ,Int.mul_comm]
theorem Qq {n:Nd} (r:Bool) (hd:n.d≤33):lo (BB n r)=lo n+(if r then 2^(33-n.d).toNat else 0):=by
 unfold lo BB
 simp only
 rw[show(34-(n.d+1)).toNat=(33-n.d).toNat by omega,XJ hd,Int.add_mul]
 have e:n.p*(2*2^(33-n.d).toNat)=2*n.p*2^(33-n.d).toNat:=by rw[←Int.mul_assoc,Int.mul_comm n.p 2]
 rw[e]
 cases r<;>simp
theorem AHa (n:Nd):hi n=lo n+2^(34-n.d).toNat:=by unfold hi lo;rw[Int.add_mul];simp
theorem XK {n:Nd} (r:Bool) (hd:n.d≤33):hi (BB n r)=lo n+(if r then 2^(34-n.d).toNat else 2^(33-n.d).toNat):=by
 rw[AHa,Qq r hd]
 rw[show(34-(BB n r).d).toNat=(33-n.d).toNat by simp[BB];omega,XJ hd]
 cases r<;>simp<;>omega
theorem ACG {S:List Int} (k:Nat):∀(n:Nd) (c:Int),n.d=34-k→NI n=true→0≤c→c≤lo n→∃e,MP c (DR S k n)=some e∧c≤e∧e≤hi n:=by
 induction k with
 | zero =>
  intro n c hd ho h0 hc
  have:=NN n
  cases hs:Qo S n with
  | false=>exact⟨hi n,by rw[De _ hs];simp[MP,ADv ho hc h0],by omega,by omega⟩
  | true=>exact⟨c,by simp[DR,hs,MP],by omega,by omega⟩
 | succ k ih =>
  intro n c hd ho h0 hc
  have:=NN n
  have h33:n.d≤33:=by omega
  have d0:∀r,(BB n r).d=34-(k:Int):=fun r=>by simp[BB];omega
  cases hs:Qo S n with
  | false=>exact⟨hi n,by rw[De _ hs];simp[MP,ADv ho hc h0],by omega,by omega⟩
  | true =>
   have l0:=Qq (n:=n) false h33
   have l1:=Qq (n:=n) true h33
   have e0:=XK (n:=n) false h33
   have e1:=XK (n:=n) true h33
   have hh:=AHa n
   simp only[Bool.false_eq_true,if_false,if_true] at l0 l1 e0 e1
   obtain⟨x,h1,h2,h3⟩:=ih _ c (d0 false) (EB false ho h33) h0 (by omega)
   obtain⟨y,h4,h5,h6⟩:=ih _ x (d0 true) (EB true ho h33) (by omega) (by omega)
   refine⟨y,?_,by omega,by omega⟩
   simp only[DR,hs,if_true,Zc,h1]
   exact h4
def MR (k:List Nat):Nd:=⟨0,0,k⟩
theorem Qr (k:List Nat):NI (MR k)=true:=by rw[Ew];simp[MR]
theorem ADx {a:Int} (k:List Nat) (h:Bn a=true):MN (MR k) a=true:=by
 unfold Bn at h
 simp only[Bool.and_eq_true,decide_eq_true_eq] at h
 unfold MN MR
 simp only[Int.sub_zero,decide_eq_true_eq]
 have e:(2:Int)^(34:Int).toNat=17179869184:=by decide
 rw[e]
 omega
def tree (k:List Nat) (S:List Int):List Nd:=DR S 34 (MR k)
theorem LJ (k:List Nat):tree k []=[MR k]:=De 34 rfl
theorem ADy (k:List Nat) (S:List Int) (a:Int):pun a (tree k S)=tree k (a::S):=ACB 34 _ rfl
theorem XL (k:List Nat) (S:List Int):(tree k S).length≤if cnt S (MR k)=0 then 1 else 34*cnt S (MR k):=ACF 34 _ rfl
theorem ADz (k:List Nat) (S:List Int) (h:(tree k S).length≤32768):GV (tree k S)=true:=by
 obtain⟨e,h1,_,_⟩:=ACG (S:=S) 34 (MR k) 0 rfl (Qr k) (by decide) (AB9 (Qr k))
 unfold GV
 unfold tree at h ⊢
 rw[h1]
 simp[h]
theorem AD0 (S:List Int) (n:Nd):cnt S n≤S.length:=List.length_filter_le _ _
theorem JC (k:List Nat) (S:List Int) (h:S.length≤900):GV (tree k S)=true:=by
 have h1:=XL k S
 have h2:=AD0 S (MR k)
 refine ADz k S ?_
 split at h1<;>omega
theorem OP (k:List Nat) (S:List Int) (a:Int) (hv:GV (tree k S)=true) (ha:Bn a=true) :
   C4 (tree k S) a=if a∈S then (AS,10) else ((OK a 34 (MR k)).k,0):=by
 obtain⟨_,e,he⟩:=AA5 hv
 have hf:(tree k S).find? (Jk a)=(tree k S).find? (fun m=>MN m a):=by
   have:∀m∈tree k S,Jk a m=MN m a:=fun m hm=>XH (AA4 he m hm).1
   generalize tree k S=l at this
   induction l with
   | nil=>rfl
   | cons x l ih=>rw[List.find?_cons,List.find?_cons,this x (by simp),ih (fun m hm=>this m (by simp[hm]))]
 unfold C4
 rw[ha,hv,if_pos (by rfl),hf]
 by_cases hm:a∈S
 · rw[if_pos hm]
   rw[show(tree k S).find? (fun m=>MN m a)=none from Pe hm 34 _]
 · rw[if_neg hm]
   obtain⟨m,h1,h2⟩:=Zb hm 34 (MR k) rfl (ADx k ha)
   rw[show(tree k S).find? (fun m=>MN m a)=some m from h1]
   simp only
   rw[h2]
def I2 (a:Int) (l:List Nd):List Nd:=l.flatMap fun n=>if Jk a n then Pd a (34-n.d).toNat n else [n]
def GY (l:List Nd) (a:Int):List Nd×Int:=if Bn a&&GV l then (if 32768<(I2 a l).length then ([],8) else (I2 a l,0)) else ([],1)
theorem Qs {α β:Type} {f g:α→List β}:∀{l:List α},(∀x∈l,f x=g x)→l.flatMap f=l.flatMap g:=by
 intro l
 induction l with
 | nil=>intro _;rfl
 | cons x l ih =>
  intro h
  rw[List.flatMap_cons,List.flatMap_cons,h x (List.mem_cons.2 (.inl rfl)),ih fun y hy=>h y (List.mem_cons.2 (.inr hy))]
theorem AD1 {l:List Nd} (hv:GV l=true) (a:Int):I2 a l=pun a l:=by
 obtain⟨_,e,he⟩:=AA5 hv
 have hall:=AA4 he
 unfold I2 pun
 exact Qs fun n hn=>by rw[XH (hall n hn).1]
theorem Zd (k:List Nat) (S:List Int) (h:S.length≤900):(tree k S).length≤32768:=by
 have h1:=XL k S
 have h2:=AD0 S (MR k)
 split at h1<;>omega
theorem Ze {k:List Nat} {S:List Int} {a:Int} (h:S.length≤800) (ha:Bn a=true):GY (tree k S) a=(tree k (a::S),0):=by
 have hv:=JC k S (by omega)
 have hs:=Zd k (a::S) (by simp;omega)
 unfold GY
 rw[ha,hv,if_pos (by rfl),AD1 hv,ADy,if_neg (by omega)]
theorem ADo {n:Nd} (h:NI n=true) (hk:Dg n.k):Nok n:=by
 have hp:=ADd h
 obtain⟨h1,h2,h3,h4⟩:=Ew.1 h
 exact⟨hk,⟨by omega,by omega⟩,⟨by omega,by omega⟩⟩
theorem FY (n:Nd) (r:Bool):Dg (BB n r).k:=Tx _ _
theorem AII {a:Int} (k:Nat):∀n:Nd,n.d=34-k→NI n=true→∀m∈Pd a k n,NI m=true∧Dg m.k:=by
 induction k with
 | zero=>intro n _ _ m hm;cases hm
 | succ k ih =>
  intro n hd ho m hm
  have h33:n.d≤33:=by omega
  have d0:∀r,(BB n r).d=34-(k:Int):=fun r=>by simp[BB];omega
  rw[Pd] at hm
  split at hm
  · rcases List.mem_cons.1 hm with rfl|hm
    · exact⟨EB _ ho h33,FY _ _⟩
    · exact ih _ (d0 true) (EB _ ho h33) m hm
  · rcases List.mem_append.1 hm with hm|hm
    · exact ih _ (d0 false) (EB _ ho h33) m hm
    · obtain rfl:=List.mem_singleton.1 hm
      exact⟨EB _ ho h33,FY _ _⟩
theorem Uh {a:Int} (k:Nat):∀n:Nd,(Pd a k n).length=k:=by
 induction k with
 | zero=>intro n;rfl
 | succ k ih =>
  intro n
  rw[Pd]
  split
  · rw[List.length_cons,ih]
  · rw[List.length_append,ih];rfl
theorem AD2 {S:List Int} (k:Nat):∀n:Nd,n.d=34-k→NI n=true→Dg n.k→∀m∈DR S k n,NI m=true∧Dg m.k:=by
 induction k with
 | zero =>
  intro n hd ho hk m hm
  simp only[DR] at hm
  split at hm
  · cases hm
  · obtain rfl:=List.mem_singleton.1 hm;exact⟨ho,hk⟩
 | succ k ih =>
  intro n hd ho hk m hm
  have h33:n.d≤33:=by omega
  have d0:∀r,(BB n r).d=34-(k:Int):=fun r=>by simp[BB];omega
  simp only[DR] at hm
  split at hm
  · rcases List.mem_append.1 hm with hm|hm
    · exact ih _ (d0 false) (EB _ ho h33) (FY _ _) m hm
    · exact ih _ (d0 true) (EB _ ho h33) (FY _ _) m hm
  · obtain rfl:=List.mem_singleton.1 hm;exact⟨ho,hk⟩
theorem AF6 {k:List Nat} {S:List Int} (hk:Dg k):∀m∈tree k S,Nok m:=fun m hm =>
 let h:=AD2 34 (MR k) rfl (Qr k) hk m hm
 ADo h.1 h.2
def MZ (a:Int):Nat→Nd→List Nd→List Nd→List Nd×List Nd
 | 0,_,L,R=>(L,R)
 | k+1,n,L,R=>if QD n a then MZ a k (BB n true) (L++[BB n false]) R else MZ a k (BB n false) L (R++[BB n true])
theorem AB4 (a:Int) (k:Nat):∀(n:Nd) (L R:List Nd),(MZ a k n L R).1++(MZ a k n L R).2.reverse=L++(Pd a k n++R.reverse):=by
 induction k with
 | zero=>intro n L R;rfl
 | succ k ih =>
  intro n L R
  rw[MZ,Pd]
  split
  · rw[ih];simp
  · rw[ih];simp
end Go.Proofs.YtbfjfnbcmojpiaaGreat
