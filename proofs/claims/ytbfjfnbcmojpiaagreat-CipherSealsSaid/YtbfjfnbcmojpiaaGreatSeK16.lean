import Derived.Test.YtbfjfnbcmojpiaaGreatSeMK2
import Derived.Test.YtbfjfnbcmojpiaaGreatSeMQ
set_option linter.unusedSimpArgs false
set_option linter.unusedVariables false
set_option maxRecDepth 100000
set_option maxHeartbeats 4000000
namespace Go.Proofs.YtbfjfnbcmojpiaaGreat
open Go.RowKit Go.Shelf
theorem PW (k:Nat):(0:Int)<2^k:=Int.pow_pos (by decide)
theorem Uf {n:Nd} (h:Nn n=true):GB n=(lo n,hi n):=by unfold GB;rw[if_pos h]
theorem M6 (n:Nd):lo n<hi n:=by
 have h:=PW (34-n.d).toNat
 unfold lo hi
 rw[Int.add_mul]
 omega
theorem ACK {n:Nd} (h:Nn n=true):0≤lo n:=by
 obtain⟨_,_,h3,_⟩:=IP.1 h
 exact Int.mul_nonneg h3 (Int.le_of_lt (PW _))
theorem AGH {n:Nd} (h:GB n≠(0,0)):Nn n=true:=by
 unfold GB at h
 by_cases ho:Nn n=true
 · exact ho
 · rw[if_neg ho] at h;exact absurd rfl h
theorem AD5 {c d:Int} {n:Nd} (h:Bh c n=some d):Nn n=true∧c≤lo n∧d=hi n:=by
 unfold Bh at h
 split at h
 · cases h
 · rename_i hs
   have ho:=AGH hs
   rw[Uf ho] at h
   simp only at h
   split at h
   · cases h
   · cases h
     exact⟨ho,by omega,rfl⟩
theorem AD6 {c:Int} {n:Nd} (ho:Nn n=true) (hc:c≤lo n) (h0:0≤c):Bh c n=some (hi n):=by
 have h1:=M6 n
 unfold Bh
 rw[Uf ho,if_neg (by intro e;simp only[Prod.mk.injEq] at e;omega)]
 simp only
 rw[if_neg (by omega)]
theorem ABF {c e:Int} {l:List Nd} (h:MB c l=some e):∀n∈l,Nn n=true∧c≤lo n:=by
 induction l generalizing c with
 | nil=>intro n hn;cases hn
 | cons x l ih =>
  simp only[MB] at h
  cases hs:Bh c x with
  | none=>rw[hs] at h;cases h
  | some d =>
   rw[hs] at h
   obtain⟨h1,h2,h3⟩:=AD5 hs
   have:=M6 x
   intro n hn
   rcases List.mem_cons.1 hn with rfl|hn
   · exact⟨h1,h2⟩
   · obtain⟨h4,h5⟩:=ih h n hn
     exact⟨h4,by omega⟩
theorem XG {a:Int} {n:Nd} (h:Nn n=true):MC a n=Gp n a:=by
 have hq:=PW (34-n.d).toNat
 unfold MC Gp
 rw[Uf h]
 unfold lo hi
 have e1:=Int.le_ediv_iff_mul_le (a:=n.p) (b:=a) hq
 have e2:=Int.ediv_lt_iff_lt_mul (a:=a) (b:=n.p+1) hq
 rw[←Bool.decide_and]
 simp only[decide_eq_decide]
 constructor
 · rintro ⟨h1,h2⟩
   have:=e1.2 h1
   have:=e2.2 h2
   omega
 · intro h1
   exact⟨e1.1 (by omega),e2.1 (by omega)⟩
theorem ABE {l:List Nd} (h:Ho l=true):l.length≤32768∧∃e,MB 0 l=some e:=by
 unfold Ho at h
 simp only[Bool.and_eq_true,decide_eq_true_eq] at h
 exact⟨h.1,Option.isSome_iff_exists.1 h.2⟩
theorem AD7 (a:Int) {n:Nd} (hd:n.d≤33):a/2^(34-n.d).toNat=a/2^(33-n.d).toNat/2:=by
 rw[show(34-n.d).toNat=(33-n.d).toNat+1 by omega,Int.pow_succ,Int.ediv_ediv_of_nonneg (Int.le_of_lt (PW _))]
theorem Tk {a:Int} {n:Nd} {r:Bool} (hd:n.d≤33):Gp (Bt n r) a=decide (a/2^(33-n.d).toNat=2*n.p+if r then 1 else 0):=by
 unfold Gp Bt
 simp only
 rw[show(34-(n.d+1)).toNat=(33-n.d).toNat by omega]
theorem XJ {a:Int} {n:Nd} (hd:n.d≤33):Gp n a=decide (a/2^(33-n.d).toNat/2=n.p):=by
 unfold Gp
 rw[AD7 a hd]
theorem IQ {a:Int} {n:Nd} {r:Bool} (hd:n.d≤33) (h:Gp (Bt n r) a=true):Gp n a=true:=by
 rw[Tk hd] at h
 rw[XJ hd]
 simp only[decide_eq_true_eq] at h ⊢
 cases r<;>simp at h<;>omega
theorem Ln {a:Int} {n:Nd} {r:Bool} (hd:n.d≤33) (h:Gp n a=true):Gp (Bt n r) a=(r == Ri n a):=by
 rw[XJ hd] at h
 rw[Tk hd]
 unfold Ri
 simp only[decide_eq_true_eq] at h
 generalize a/2^(33-n.d).toNat=x at *
 have h2:x%2=0∨x%2=1:=by omega
 cases r<;>rcases h2 with h2|h2<;>simp[h2]<;>omega
def P4 (S:List Int) (n:Nd):Bool:=S.any fun a=>Gp n a
theorem Tl {S:List Int} {n:Nd} {r:Bool} (hd:n.d≤33) (h:P4 S n=false):P4 S (Bt n r)=false:=by
 unfold P4 at h ⊢
 rw[List.any_eq_false] at h ⊢
 exact fun a ha hc=>h a ha (IQ hd hc)
def Db (S:List Int):Nat→Nd→List Nd
 | 0,n=>if P4 S n then [] else [n]
 | k+1,n=>if P4 S n then Db S k (Bt n false)++Db S k (Bt n true) else [n]
def oth (a:Int):Nat→Nd→List Nd
 | 0,_=>[]
 | k+1,n=>if Ri n a then Bt n false::oth a k (Bt n true) else oth a k (Bt n false)++[Bt n true]
def pun (a:Int) (l:List Nd):List Nd:=l.flatMap fun n=>if Gp n a then oth a (34-n.d).toNat n else [n]
theorem Dk {S:List Int} {n:Nd} (k:Nat) (h:P4 S n=false):Db S k n=[n]:=by
 cases k<;>simp[Db,h]
theorem GO (a:Int) (S:List Int) (n:Nd):P4 (a::S) n=(Gp n a||P4 S n):=by simp[P4]
theorem ACL {S:List Int} {a:Int} (k:Nat):∀n:Nd,n.d=34-k→P4 S n=false→Gp n a=true→oth a k n=Db (a::S) k n:=by
 induction k with
 | zero=>intro n hd hs hc;simp[oth,Db,GO,hc]
 | succ k ih =>
  intro n hd hs hc
  have h33:n.d≤33:=by omega
  have c0:=Ln (r:=false) h33 hc
  have c1:=Ln (r:=true) h33 hc
  have s0:=Tl (r:=false) h33 hs
  have s1:=Tl (r:=true) h33 hs
  have d0:∀r,(Bt n r).d=34-(k:Int):=fun r=>by simp[Bt];omega
  simp only[oth,Db,GO,hc,Bool.true_or,if_true]
  cases hb:Ri n a with
  | true =>
   rw[hb] at c0 c1
   simp only[if_true]
   rw[ih _ (d0 true) s1 (by rw[c1];rfl),Dk k (n:=Bt n false) (by rw[GO,c0,s0];rfl)]
   rfl
  | false =>
   rw[hb] at c0 c1
   simp only[Bool.false_eq_true,if_false]
   rw[ih _ (d0 false) s0 (by rw[c0];rfl),Dk k (n:=Bt n true) (by rw[GO,c1,s1];rfl)]
theorem AJK {S:List Int} {a:Int} (k:Nat):∀n:Nd,n.d=34-k→pun a (Db S k n)=Db (a::S) k n:=by
 induction k with
 | zero =>
  intro n hd
  cases hs:P4 S n with
  | true=>simp[Db,hs,GO,pun]
  | false =>
   rw[Dk 0 hs]
   cases hc:Gp n a with
   | true=>simp[pun,hc,hd,Db,GO,oth]
   | false=>simp[pun,hc,Db,GO,hs]
 | succ k ih =>
  intro n hd
  cases hs:P4 S n with
  | true =>
   have d0:∀r,(Bt n r).d=34-(k:Int):=fun r=>by simp[Bt];omega
   have h0:=ih _ (d0 false)
   have h1:=ih _ (d0 true)
   simp only[Db,hs,GO,Bool.or_true,if_true]
   rw[←h0,←h1]
   simp[pun]
  | false =>
   rw[Dk _ hs]
   cases hc:Gp n a with
   | true =>
    rw[←ACL (k+1) n hd hs hc]
    simp only[pun,List.flatMap_cons,List.flatMap_nil,hc,if_true,List.append_nil]
    rw[show(34-n.d).toNat=k+1 by omega]
   | false =>
    rw[Dk _ (by rw[GO,hc,hs];rfl)]
    simp[pun,hc]
theorem ACM {S:List Int} {a:Int} (k:Nat):∀n:Nd,n.d=34-k→∀m∈Db S k n,Gp m a=true→Gp n a=true:=by
 induction k with
 | zero =>
  intro n hd m hm hc
  simp only[Db] at hm
  split at hm
  · cases hm
  · obtain rfl:=List.mem_singleton.1 hm;exact hc
 | succ k ih =>
  intro n hd m hm hc
  have d0:∀r,(Bt n r).d=34-(k:Int):=fun r=>by simp[Bt];omega
  simp only[Db] at hm
  split at hm
  · rcases List.mem_append.1 hm with hm|hm
    · exact IQ (by omega) (ih _ (d0 false) m hm hc)
    · exact IQ (by omega) (ih _ (d0 true) m hm hc)
  · obtain rfl:=List.mem_singleton.1 hm;exact hc
theorem ACN {S:List Int} {a:Int} (ha:a∈S) (k:Nat):∀n:Nd,∀m∈Db S k n,Gp m a=false:=by
 induction k with
 | zero =>
  intro n m hm
  simp only[Db] at hm
  split at hm
  · cases hm
  · rename_i hs
    obtain rfl:=List.mem_singleton.1 hm
    simp only[P4,Bool.not_eq_true,List.any_eq_false] at hs
    simpa using hs a ha
 | succ k ih =>
  intro n m hm
  simp only[Db] at hm
  split at hm
  · rcases List.mem_append.1 hm with hm|hm
    · exact ih _ m hm
    · exact ih _ m hm
  · rename_i hs
    obtain rfl:=List.mem_singleton.1 hm
    simp only[P4,Bool.not_eq_true,List.any_eq_false] at hs
    simpa using hs a ha
theorem Oy {S:List Int} {a:Int} (ha:a∈S) (k:Nat) (n:Nd):(Db S k n).find? (fun m=>Gp m a)=none:=
 List.find?_eq_none.2 fun m hm=>by rw[ACN ha k n m hm];simp
theorem Zq {S:List Int} {a:Int} (ha:a ∉ S) (k:Nat):∀n:Nd,n.d=34-k→Gp n a=true→∃m,(Db S k n).find? (fun m=>Gp m a)=some m∧Kp a (34-m.d).toNat m=Kp a k n:=by
 induction k with
 | zero =>
  intro n hd hc
  cases hs:P4 S n with
  | false=>exact⟨n,by simp[Db,hs,hc],by rw[show(34-n.d).toNat=0 by omega]⟩
  | true =>
   unfold P4 at hs
   obtain⟨x,hx,hxc⟩:=List.any_eq_true.1 hs
   unfold Gp at hc hxc
   rw[show(34-n.d).toNat=0 by omega] at hc hxc
   simp at hc hxc
   exact absurd (by rw[hc,←hxc];exact hx) ha
 | succ k ih =>
  intro n hd hc
  have d0:∀r,(Bt n r).d=34-(k:Int):=fun r=>by simp[Bt];omega
  have c0:=Ln (r:=false) (n:=n) (by omega) hc
  have c1:=Ln (r:=true) (n:=n) (by omega) hc
  cases hs:P4 S n with
  | false=>exact⟨n,by rw[Dk _ hs];simp[hc],by rw[show(34-n.d).toNat=k+1 by omega]⟩
  | true =>
   simp only[Db,hs,if_true,List.find?_append,Kp]
   cases hb:Ri n a with
   | false =>
    rw[hb] at c0
    obtain⟨m,h1,h2⟩:=ih _ (d0 false) c0
    exact⟨m,by rw[h1];rfl,h2⟩
   | true =>
    rw[hb] at c0 c1
    obtain⟨m,h1,h2⟩:=ih _ (d0 true) c1
    refine⟨m,?_,h2⟩
    rw[List.find?_eq_none.2 (fun x hx=>by
     intro hxc
     have:=ACM k _ (d0 false) x hx hxc
     rw[c0] at this
     cases this),h1]
    rfl
def cnt (S:List Int) (n:Nd):Nat:=(S.filter fun a=>Gp n a).length
theorem P7 {S:List Int} {n:Nd}:cnt S n=0↔P4 S n=false:=by
 unfold cnt P4
 rw[List.length_eq_zero_iff,List.filter_eq_nil_iff,List.any_eq_false]
theorem ACO (S:List Int) {n:Nd} (hd:n.d≤33):cnt S (Bt n false)+cnt S (Bt n true)=cnt S n:=by
 induction S with
 | nil=>rfl
 | cons a S ih =>
  unfold cnt at ih ⊢
  simp only[List.filter_cons]
  cases hc:Gp n a with
  | false =>
   have h0:∀r,Gp (Bt n r) a=false:=fun r=>by
    cases h:Gp (Bt n r) a with
    | false=>rfl
    | true=>rw[IQ hd h] at hc;cases hc
   simp only[h0,Bool.false_eq_true,if_false]
   exact ih
  | true =>
   have c0:=Ln (r:=false) hd hc
   have c1:=Ln (r:=true) hd hc
   cases hb:Ri n a<;>rw[hb] at c0 c1<;>simp[c0,c1]<;>omega
theorem ACP {S:List Int} (k:Nat):∀n:Nd,n.d=34-k→(Db S k n).length≤if cnt S n=0 then 1 else k*cnt S n:=by
 induction k with
 | zero =>
  intro n hd
  cases hs:P4 S n with
  | false=>rw[Dk _ hs,if_pos (P7.2 hs)];simp
  | true=>simp[Db,hs]
 | succ k ih =>
  intro n hd
  have d0:∀r,(Bt n r).d=34-(k:Int):=fun r=>by simp[Bt];omega
  cases hs:P4 S n with
  | false=>rw[Dk _ hs,if_pos (P7.2 hs)];simp
  | true =>
   have hz:cnt S n≠0:=fun h=>by rw[P7.1 h] at hs;cases hs
   have h0:=ih _ (d0 false)
   have h1:=ih _ (d0 true)
   have hc:=ACO S (n:=n) (by omega)
   rw[if_neg hz]
   simp only[Db,hs,if_true,List.length_append]
   rw[←hc] at hz ⊢
   generalize cnt S (Bt n false)=x at *
   generalize cnt S (Bt n true)=y at *
   rw[Nat.mul_add,Nat.succ_mul,Nat.succ_mul]
   split at h0<;>split at h1
   · omega
   · subst_vars;omega
   · subst_vars;omega
   · omega
theorem Zr (c:Int) (l m:List Nd):MB c (l++m)=(MB c l).bind fun c=>MB c m:=by
 induction l generalizing c with
 | nil=>simp[MB]
 | cons x l ih =>
  simp only[List.cons_append,MB]
  cases Bh c x with
  | none=>rfl
  | some d=>simp[ih]
theorem XK {n:Nd} (hd:n.d≤33):(2:Int)^(34-n.d).toNat=2*2^(33-n.d).toNat:=by
 rw[show(34-n.d).toNat=(33-n.d).toNat+1 by omega,Int.pow_succ,Int.mul_comm]
theorem P8 {n:Nd} (r:Bool) (hd:n.d≤33):lo (Bt n r)=lo n+(if r then 2^(33-n.d).toNat else 0):=by
 unfold lo Bt
 simp only
 rw[show(34-(n.d+1)).toNat=(33-n.d).toNat by omega,XK hd,Int.add_mul]
 have e:n.p*(2*2^(33-n.d).toNat)=2*n.p*2^(33-n.d).toNat:=by rw[←Int.mul_assoc,Int.mul_comm n.p 2]
 rw[e]
 cases r<;>simp
theorem AHh (n:Nd):hi n=lo n+2^(34-n.d).toNat:=by unfold hi lo;rw[Int.add_mul];simp
theorem XL {n:Nd} (r:Bool) (hd:n.d≤33):hi (Bt n r)=lo n+(if r then 2^(34-n.d).toNat else 2^(33-n.d).toNat):=by
 rw[AHh,P8 r hd]
 rw[show(34-(Bt n r).d).toNat=(33-n.d).toNat by simp[Bt];omega,XK hd]
 cases r<;>simp<;>omega
theorem ACQ {S:List Int} (k:Nat):∀(n:Nd) (c:Int),n.d=34-k→Nn n=true→0≤c→c≤lo n→∃e,MB c (Db S k n)=some e∧c≤e∧e≤hi n:=by
 induction k with
 | zero =>
  intro n c hd ho h0 hc
  have:=M6 n
  cases hs:P4 S n with
  | false=>exact⟨hi n,by rw[Dk _ hs];simp[MB,AD6 ho hc h0],by omega,by omega⟩
  | true=>exact⟨c,by simp[Db,hs,MB],by omega,by omega⟩
 | succ k ih =>
  intro n c hd ho h0 hc
  have:=M6 n
  have h33:n.d≤33:=by omega
  have d0:∀r,(Bt n r).d=34-(k:Int):=fun r=>by simp[Bt];omega
  cases hs:P4 S n with
  | false=>exact⟨hi n,by rw[Dk _ hs];simp[MB,AD6 ho hc h0],by omega,by omega⟩
  | true =>
   have l0:=P8 (n:=n) false h33
   have l1:=P8 (n:=n) true h33
   have e0:=XL (n:=n) false h33
   have e1:=XL (n:=n) true h33
   have hh:=AHh n
   simp only[Bool.false_eq_true,if_false,if_true] at l0 l1 e0 e1
   obtain⟨x,h1,h2,h3⟩:=ih _ c (d0 false) (IX false ho h33) h0 (by omega)
   obtain⟨y,h4,h5,h6⟩:=ih _ x (d0 true) (IX true ho h33) (by omega) (by omega)
   refine⟨y,?_,by omega,by omega⟩
   simp only[Db,hs,if_true,Zr,h1]
   exact h4
def Md (k:List Nat):Nd:=⟨0,0,k⟩
theorem P9 (k:List Nat):Nn (Md k)=true:=by rw[IP];simp[Md]
theorem AD8 {a:Int} (k:List Nat) (h:Cg a=true):Gp (Md k) a=true:=by
 unfold Cg at h
 simp only[Bool.and_eq_true,decide_eq_true_eq] at h
 unfold Gp Md
 simp only[Int.sub_zero,decide_eq_true_eq]
 have e:(2:Int)^(34:Int).toNat=17179869184:=by decide
 rw[e]
 omega
def tree (k:List Nat) (S:List Int):List Nd:=Db S 34 (Md k)
theorem LB (k:List Nat):tree k []=[Md k]:=Dk 34 rfl
theorem AD9 (k:List Nat) (S:List Int):(tree k S).length≤if cnt S (Md k)=0 then 1 else 34*cnt S (Md k):=ACP 34 _ rfl
theorem AEA (k:List Nat) (S:List Int) (h:(tree k S).length≤32768):Ho (tree k S)=true:=by
 obtain⟨e,h1,_,_⟩:=ACQ (S:=S) 34 (Md k) 0 rfl (P9 k) (by decide) (ACK (P9 k))
 unfold Ho
 unfold tree at h ⊢
 rw[h1]
 simp[h]
theorem AIO (S:List Int) (n:Nd):cnt S n≤S.length:=List.length_filter_le _ _
theorem XM (k:List Nat) (S:List Int) (h:S.length≤900):Ho (tree k S)=true:=by
 have h1:=AD9 k S
 have h2:=AIO S (Md k)
 refine AEA k S ?_
 split at h1<;>omega
theorem ACR (k:List Nat) (S:List Int) (a:Int) (hv:Ho (tree k S)=true) (ha:Cg a=true) :
   CF (tree k S) a=if a∈S then (AM,10) else ((Kp a 34 (Md k)).k,0):=by
 obtain⟨_,e,he⟩:=ABE hv
 have hf:(tree k S).find? (MC a)=(tree k S).find? (fun m=>Gp m a):=by
   have:∀m∈tree k S,MC a m=Gp m a:=fun m hm=>XG (ABF he m hm).1
   generalize tree k S=l at this
   induction l with
   | nil=>rfl
   | cons x l ih=>rw[List.find?_cons,List.find?_cons,this x (by simp),ih (fun m hm=>this m (by simp[hm]))]
 unfold CF
 rw[ha,hv,if_pos (by rfl),hf]
 by_cases hm:a∈S
 · rw[if_pos hm]
   rw[show(tree k S).find? (fun m=>Gp m a)=none from Oy hm 34 _]
 · rw[if_neg hm]
   obtain⟨m,h1,h2⟩:=Zq hm 34 (Md k) rfl (AD8 k ha)
   rw[show(tree k S).find? (fun m=>Gp m a)=some m from h1]
   simp only
   rw[h2]
theorem AIP {n:Nd} (h:Nn n=true) (hk:Dg n.k):Nok n:=by
 have hp:=ADu h
 obtain⟨h1,h2,h3,h4⟩:=IP.1 h
 exact⟨hk,⟨by omega,by omega⟩,⟨by omega,by omega⟩⟩
theorem P3 (n:Nd) (r:Bool):Dg (Bt n r).k:=Tg _ _
theorem AEB {S:List Int} (k:Nat):∀n:Nd,n.d=34-k→Nn n=true→Dg n.k→∀m∈Db S k n,Nn m=true∧Dg m.k:=by
 induction k with
 | zero =>
  intro n hd ho hk m hm
  simp only[Db] at hm
  split at hm
  · cases hm
  · obtain rfl:=List.mem_singleton.1 hm;exact⟨ho,hk⟩
 | succ k ih =>
  intro n hd ho hk m hm
  have h33:n.d≤33:=by omega
  have d0:∀r,(Bt n r).d=34-(k:Int):=fun r=>by simp[Bt];omega
  simp only[Db] at hm
  split at hm
  · rcases List.mem_append.1 hm with hm|hm
    · exact ih _ (d0 false) (IX _ ho h33) (P3 _ _) m hm
    · exact ih _ (d0 true) (IX _ ho h33) (P3 _ _) m hm
  · obtain rfl:=List.mem_singleton.1 hm;exact⟨ho,hk⟩
theorem AGD {k:List Nat} {S:List Int} (hk:Dg k):∀m∈tree k S,Nok m:=fun m hm =>
 let h:=AEB 34 (Md k) rfl (P9 k) hk m hm
 AIP h.1 h.2
theorem AD0 {a:Int} {l:List Nd} (h:l.find? (fun n=>Gp n a)=none):XD a l=-1:=
 Tj fun j hj=>by
  have:=List.find?_eq_none.1 h l[j] (List.getElem_mem hj)
  simpa using this
theorem AD1 {a:Int} {l:List Nd} {n:Nd} (h:l.find? (fun n=>Gp n a)=some n):∃(i:Nat) (hi:i<l.length),XD a l=i∧l[i]=n:=by
 obtain⟨h1,i,hi,h2,h3⟩:=List.find?_eq_some_iff_getElem.1 h
 refine⟨i,hi,Ti hi (fun j hj=>?_) (by rw[h2];exact h1),h2⟩
 have:=h3 j hj
 simpa using this
end Go.Proofs.YtbfjfnbcmojpiaaGreat
namespace Go.Proofs.YtbfjfnbcmojpiaaGreat
section
open Go.RowKit Go.Shelf
attribute [local go_sem] Oper.semAt_some
theorem AIJ:ET Tryz.prog 54 132 (GL ⟨0,0,zs 32⟩) 34 48:=⟨Tryz.underlying54,info_parts (by kernel_rfl),rfl,by decide,by decide⟩
theorem Zi (n:Nd):(Cf n).all Value.oneCell'=true:=by
 unfold Cf
 rw[List.all_cons,List.all_cons,List.all_eq_true.2 (fun v hv=>IK n.k v hv)]
 rfl
theorem Own.skip {w w':World} {e:TypeId} {sz:Nat} {v:Value} {n:Nat} {xs:List Value} {row:Option Nat} (h:Own w e sz v n xs) (g:w.grownBy w' row) (hne:∀k,v.ownBlock=some k→row≠some k):Own w' e sz v n xs:=
 h.kept g (by
  cases hv:v.ownBlock with
  | none=>exact .inl rfl
  | some k=>exact .inr (fun e=>hne k hv e.symm))
end
section
open Go.RowKit Go.Shelf
attribute [local go_sem] Oper.semAt_some
theorem AKb (v:Value) (h:v.oneCell'=true):TY Tryz.prog 54 [v] v:=TY.one' Tryz.underlying54 rfl (by kernel_rfl) h
theorem XE (l:List Nd):(Gq l).all Value.oneCell'=true:=by unfold Gq;rw[List.all_flatMap];simp[Zi]
end
section
open Go.RowKit
def ACG (ops:Array Oper) (n:Nat):Bool:=
 (List.range ops.size).all fun i=>match ops[i]? with
  | none=>true
  | some o =>
   (o.after.toList.all fun e=>!Region.binds .any e||decide (e.on<i)) &&
   (match o.dst with|none=>true|some d=>decide (d<n)) &&
   (List.range ops.size).all fun j=>match ops[j]? with
    | none=>true
    | some oj=>match oj.dst with
     | none=>true
     | some d=>(i == j||o.dst != some d)&&(!(o.looksAt ops).contains d||o.after.toList.any fun e=>e.on == j&&Region.binds .any e)
theorem Jg {ops:Array Oper} {n:Nat} (h:ACG ops n=true) {i:Nat} {o:Oper} (hi:ops[i]?=some o) :
   (∀e∈o.after.toList,Region.binds .any e=true→e.on<i)∧(∀d,o.dst=some d→d<n) ∧
   (∀j oj d,ops[j]?=some oj→oj.dst=some d→(i=j∨o.dst≠some d)∧(d∈o.looksAt ops→∃e∈o.after.toList,e.on=j∧Region.binds .any e=true)):=by
 have hlt:i<ops.size:=(Array.getElem?_eq_some_iff.1 hi).1
 have h1:=List.all_eq_true.1 h i (List.mem_range.2 hlt)
 simp only[hi,Bool.and_eq_true] at h1
 obtain⟨⟨h2,h3⟩,h4⟩:=h1
 refine⟨fun e he hb=>?_,fun d hd=>by simpa [hd] using h3,fun j oj d hj hd=>?_⟩
 · have h5:=List.all_eq_true.1 h2 e he
   rw[hb] at h5
   simpa using h5
 have hjl:j<ops.size:=(Array.getElem?_eq_some_iff.1 hj).1
 have h5:=List.all_eq_true.1 h4 j (List.mem_range.2 hjl)
 simp only[hj,hd,Bool.and_eq_true,Bool.or_eq_true,beq_iff_eq,bne_iff_ne,Bool.not_eq_true'] at h5
 refine⟨h5.1,fun hl=>?_⟩
 rcases h5.2 with h6|h6
 · rw[List.contains_iff_mem.2 hl] at h6;cases h6
 · obtain⟨e,he,h7⟩:=List.any_eq_true.1 h6
   simp only[Bool.and_eq_true,beq_iff_eq] at h7
   exact⟨e,he,h7⟩
def AIK (ops:Array Oper) (i:Nat):Array Bool:=((List.range ops.size).map fun j=>match ops[i]? with|some oi=>oi.after.toList.any fun e=>Region.binds .any e&&e.on == j|none=>false).toArray
def ABD (ops:Array Oper) (i:Nat):Bool:=Region.free .any ops (AIK ops i) i
theorem Zj {ops:Array Oper} {i:Nat} {o:Oper} (ho:ops[i]?=some o) (h:ABD ops i=true) (listed:Array Bool) (hl:∀e∈o.after.toList,Region.binds .any e=true→listed.getD e.on false=true):Region.free .any ops listed i=true:=by
 unfold ABD Region.free at h
 unfold Region.free
 simp only[ho] at h ⊢
 rw[List.all_eq_true] at h ⊢
 intro j hj
 have h1:=h j hj
 have hjl:=List.mem_range.1 hj
 have e:(AIK ops i).getD j true=o.after.toList.any fun e=>Region.binds .any e&&e.on == j:=by
   unfold AIK
   simp[Array.getD_eq_getD_getElem?,List.getElem?_range hjl,ho]
 rw[e] at h1
 simp only[Bool.or_eq_true] at h1 ⊢
 rcases h1 with (h1|h1)|h1
 · exact .inl (.inl h1)
 · obtain⟨e,he,h2⟩:=List.any_eq_true.1 h1
   simp only[Bool.and_eq_true,beq_iff_eq] at h2
   have h3:=hl e he h2.1
   rw[h2.2] at h3
   refine .inl (.inr ?_)
   rw[Array.getD_eq_getD_getElem?] at h3 ⊢
   cases h4:listed[j]? with
   | none=>rfl
   | some x=>rw[h4] at h3;simpa using h3
 · exact .inr h1
def ADw (ops:Array Oper) (k:Nat) (pu:List Nat):Bool:=
 decide (k<ops.size)&&AHf .any ops k ((List.range k).filter fun i=>!pu.contains i)&&Region.chainB .any ops k&&Region.seqB .any ops (ops.size-k) k ((List.range ops.size).map fun i=>decide (i<k)).toArray&&Region.noSelect ops&&pu.all fun i=>decide (i<k)&&ABD ops i
section
variable {P:Program} {Q:Exit→Act→World→Prop} {ops:Array Oper}
theorem ADx {a0:Act} {w0:World} {l:List Oper} (hl:ops=l.toArray) (n k:Nat) (L:List Sp) (hn:a0.tmps.size=n) (hB:ACG ops n=true) (pu:List Nat) (hT:ADw ops k pu=true)
   (hQp:∀c a d v w,Q (.panic c) (Act.put a d v) w→Q (.panic c) a w)
   (al:List Nat) (hal:∀t∈al,t<n∧(∀w u,At L t w u→∃A,u=.pointer (some ⟨A,0,none⟩)∧A<w.heap.size)∧∃(i:Nat) (o:Oper),i<k∧ops[i]?=some o∧o.dst=some t)
   (hrun:∀(i:Nat) (o:Oper),i<k→ops[i]?=some o→∀d∈al,o.dst=some d→Lays P o)
   (hpal:∀i∈pu,∀(o:Oper),ops[i]?=some o→∀d∈al,o.dst≠some d)
   (obp:∀i∈pu,∀(o:Oper),ops[i]?=some o→∀a w,w0.grownBy w none→(∀t∈o.looksAt ops,t<n→At L t w (a.tmps.getD t undef))→a.tmps.size=n→∃v,Yields P ops o v a∧∀d,o.dst=some d→At L d w v)
   (h0:∀t,t<n→(∀(i:Nat) (o:Oper),i<k→ops[i]?=some o→o.dst≠some t)→At L t w0 (a0.tmps.getD t undef))
   (ob:∀(i:Nat) (o:Oper),i<k→ops[i]?=some o→∀a w,w0.grownBy w none→(∀t∈o.looksAt ops,t<n→At L t w (a.tmps.getD t undef))→a.tmps.size=n →
     OpSays P ops o a w fun v w'=>w.grownBy w' none∧∀d,o.dst=some d→At L d w' v)
   (hQ:∀a w,w0.grownBy w none→a.defers=a0.defers→a.tmps.size=n→(∀t,t<n→At L t w (a.tmps.getD t undef))→(∀t∈al,∀u∈al,t≠u→a.tmps.getD t undef≠a.tmps.getD u undef)→wpList P ops Q (l.drop k) a w) :
   wpAny P .any ops Q ops.size (Array.replicate ops.size false) a0 { w0 with drawn:=w0.drawn+1 }:=by
 unfold ADw at hT
 simp only[Bool.and_eq_true,decide_eq_true_eq] at hT
 obtain⟨⟨⟨⟨⟨hk,hs⟩,hc⟩,hseq⟩,hsel⟩,hpu⟩:=hT
 have hput:∀i∈pu,i<k∧ABD ops i=true:=fun i hi=>by
   have h1:=List.all_eq_true.1 hpu i hi
   simp only[Bool.and_eq_true,decide_eq_true_eq] at h1
   exact h1
 have key:∀(f:Nat) (listed:Array Bool) (a:Act) (w:World),HeadInv .any ops k listed→(∃l:List Nat,l.Nodup∧l.length=f∧∀i,i∈l↔i<k∧listed.getD i true=false) →
     w0.grownBy w none→a.defers=a0.defers→a.tmps.size=n →
     (∀t,t<n→((∀(i:Nat) (o:Oper),i<k→ops[i]?=some o→o.dst≠some t)∨Lst ops k listed t)→At L t w (a.tmps.getD t undef)) →
     (∀t∈al,∀u∈al,t≠u→Lst ops k listed t→Lst ops k listed u→a.tmps.getD t undef≠a.tmps.getD u undef) →
     wpAny P .any ops Q (f+(ops.size-k)) listed a w:=by
   intro f
   induction f with
   | zero =>
     intro listed a w inv hf hg hd has hkn hdi
     obtain⟨u,hu1,hu2,hu3⟩:=hf
     obtain rfl:=List.eq_nil_of_length_eq_zero hu2
     have all:∀i,i<k→listed.getD i false=true:=fun i hi=>by
       cases h:listed.getD i false with
       | true=>rfl
       | false =>
         have h1:=getD_in (by rw[inv.size];omega) h
         have h2:=(hu3 i).2 ⟨hi,h1⟩
         cases h2
     have he:listed=((List.range ops.size).map fun i=>decide (i<k)).toArray:=by
       apply Array.ext
       · simp[inv.size]
       · intro i h1 h2
         have hi:i<ops.size:=by rw[←inv.size];exact h1
         simp only[List.getElem_toArray,List.getElem_map,List.getElem_range]
         by_cases hik:i<k
         · have:=all i hik
           simp[h1] at this
           simp[hik,this]
         · have:=inv.tail i (by omega) hi
           simp[h1] at this
           simp[hik,this]
     rw[Nat.zero_add]
     have hdl:(l.drop k).length=ops.size-k:=by rw[hl];simp
     have hq:=hQ a w hg hd has (fun t ht=>hkn t ht (by
       by_cases hex:∃(j:Nat) (oj:Oper),j<k∧ops[j]?=some oj∧oj.dst=some t
       · obtain⟨j,oj,hj,hjo,hdj⟩:=hex
         exact .inr ⟨j,oj,hj,hjo,hdj,all j hj⟩
       · exact .inl fun j oj hj hjo hdj=>hex ⟨j,oj,hj,hjo,hdj⟩)) (fun t ht u hu htu=>hdi t ht u hu htu
         (by obtain⟨i,o,h1,h2,h3⟩:=(hal t ht).2.2;exact⟨i,o,h1,h2,h3,all i h1⟩) (by obtain⟨i,o,h1,h2,h3⟩:=(hal u hu).2.2;exact⟨i,o,h1,h2,h3,all i h1⟩))
     have:=wpAny_of_seq (md:=.any) (Q':=Q) (l.drop k) k listed a w (fun j=>by rw[hl];simp[List.getElem?_drop]) (by rw[hdl,he];exact hseq) hq
     rwa [hdl] at this
   | succ f ih =>
     intro listed a w inv hf hg hd has hkn hdi
     obtain⟨u,hu1,hu2,hu3⟩:=hf
     obtain⟨z0,hz0⟩:∃z,z∈u:=List.exists_mem_of_length_pos (by omega)
     have hz03:=(hu3 z0).1 hz0
     obtain⟨z,hzk,hzl,hzr⟩:∃z,z<k∧listed.getD z true=false∧z∈Region.ready .any ops listed:=by
       have key2:∀i,i<k→listed.getD i true=false→∃z,z<k∧listed.getD z true=false∧z∈Region.ready .any ops listed:=by
         intro i
         induction i using Nat.strongRecOn with
         | _ i ih2 =>
           intro hi hli
           by_cases hex:∃j,j<i∧listed.getD j true=false
           · obtain⟨j,hj,hlj⟩:=hex
             exact ih2 j hj (by omega) hlj
           · have hio:i<ops.size:=by omega
             have ho:ops[i]?=some ops[i]:=Array.getElem?_eq_getElem hio
             refine⟨i,hi,hli,mem_ready.2 ⟨hli,ops[i],ho,fun e he hb=>?_⟩⟩
             have hlt:=(Jg hB ho).1 e (by simpa using he) hb
             cases hle:listed.getD e.on false with
             | true=>rfl
             | false=>exact absurd ⟨e.on,hlt,getD_in (by rw[inv.size];omega) hle⟩ hex
       exact key2 z0 hz03.1 hz03.2
     have hne:Region.ready .any ops listed≠[]:=fun hr=>by rw[hr] at hzr;cases hzr
     rw[show f+1+(ops.size-k)=(f+(ops.size-k))+1 by omega]
     by_cases hpr:∃i∈pu,i∈Region.ready .any ops listed
     · obtain⟨i,hipu,hi⟩:=hpr
       obtain⟨h1,o,ho,hready⟩:=mem_ready.1 hi
       have hik:=(hput i hipu).1
       obtain⟨s1,s2,s3⟩:=Jg hB ho
       obtain⟨v,hy,hv⟩:=obp i hipu o ho a w hg (fun t ht htn=>hkn t htn (by
         by_cases hex:∃(j:Nat) (oj:Oper),j<k∧ops[j]?=some oj∧oj.dst=some t
         · obtain⟨j,oj,hjz,hj,hdj⟩:=hex
           obtain⟨e,he,rfl,hb⟩:=(s3 j oj t hj hdj).2 ht
           exact .inr ⟨e.on,oj,hjz,hj,hdj,hready e (by simpa using he) hb⟩
         · exact .inl fun j oj hjz hj hdj=>hex ⟨j,oj,hjz,hj,hdj⟩)) has
       refine wpAny_take ho hsel (Zj ho (hput i hipu).2 listed fun e he hb=>hready e (by simpa using he) hb) (by simpa using hi) (fun c a w h=>hQp c a _ _ w h) hy ?_
       have hlst:∀t,o.dst≠some t→Lst ops k (listed.setIfInBounds i true) t→Lst ops k listed t:=fun t hdt ⟨j,oj,hjz,hj,hdj,hlj⟩=>by
         refine⟨j,oj,hjz,hj,hdj,?_⟩
         have hne:i≠j:=fun e=>hdt (by subst e;rw[ho] at hj;obtain rfl:=Option.some.inj hj;exact hdj)
         rwa [getD_set_ne false hne] at hlj
       refine ih _ _ _ (inv.set hi hik) ⟨u.erase i,hu1.erase i,?_,fun j=>?_⟩ hg (by cases ho':o.dst<;>simp[Act.put,hd]) (by cases ho':o.dst<;>simp[Act.put,has]) ?_ ?_
       · rw[List.length_erase_of_mem ((hu3 i).2 ⟨hik,h1⟩),hu2];rfl
       · rw[hu1.mem_erase_iff,hu3 j]
         by_cases hji:j=i
         · subst hji
           constructor
           · rintro ⟨h,_⟩;exact absurd rfl h
           · rintro ⟨_,h⟩
             rw[Array.getD_eq_getD_getElem?,Array.getElem?_setIfInBounds_self_of_lt (by rw[inv.size];omega)] at h
             cases h
         · rw[getD_set_ne true (Ne.symm hji)]
           exact⟨fun h=>h.2,fun h=>⟨hji,h⟩⟩
       · intro t htn hor
         rw[E5 a o.dst v t (fun d hd=>has▸s2 d hd)]
         by_cases hdt:o.dst=some t
         · rw[if_pos hdt]
           exact hv t hdt
         · rw[if_neg hdt]
           exact hkn t htn (hor.elim .inl fun h=>.inr (hlst t hdt h))
       · intro t ht x hx htx hlt hlx
         have n1:=hpal i hipu o ho t ht
         have n2:=hpal i hipu o ho x hx
         rw[E5 a o.dst v t (fun d hd=>has▸s2 d hd),E5 a o.dst v x (fun d hd=>has▸s2 d hd),if_neg n1,if_neg n2]
         exact hdi t ht x hx htx (hlst t n1 hlt) (hlst x n2 hlx)
     refine⟨fun hr=>absurd hr hne,fun i hi=>?_⟩
     obtain⟨h1,o,ho,hready⟩:=mem_ready.1 hi
     have hzn:z ∉ pu:=fun h=>hpr ⟨z,h,hzr⟩
     have hik:i<k:=by
       rcases Nat.lt_or_ge i k with h|h
       · exact h
       · exact absurd hi (XF hs hc hk inv _ z rfl (List.mem_filter.2 ⟨List.mem_range.2 hzk,by simpa using hzn⟩) hzk hzl i h)
     obtain⟨s1,s2,s3⟩:=Jg hB ho
     have hsay:=ob i o hik ho a w hg (fun t ht htn=>hkn t htn (by
       by_cases hex:∃(j:Nat) (oj:Oper),j<k∧ops[j]?=some oj∧oj.dst=some t
       · obtain⟨j,oj,hjz,hj,hdj⟩:=hex
         obtain⟨e,he,rfl,hb⟩:=(s3 j oj t hj hdj).2 ht
         exact .inr ⟨e.on,oj,hjz,hj,hdj,hready e (by simpa using he) hb⟩
       · exact .inl fun j oj hjz hj hdj=>hex ⟨j,oj,hjz,hj,hdj⟩)) has
     have hsay2:OpSays P ops o a w fun v w'=>(w.grownBy w' none∧∀d,o.dst=some d→At L d w' v)∧∀d∈al,o.dst=some d→v=.pointer (some ⟨w.heap.size,0,none⟩):=by
       by_cases hex:∃d∈al,o.dst=some d
       · obtain⟨d,hda,hdd⟩:=hex
         exact((hrun i o hik ho d hda hdd).says hsay).mono fun v w' h=>⟨h.1,fun _ _ _=>h.2⟩
       · exact hsay.mono fun v w' h=>⟨h,fun d hda hdd=>absurd ⟨d,hda,hdd⟩ hex⟩
     refine OpSays.wpOp ho hsay2 ?_
     · rintro v w' ⟨⟨hg',hv⟩,hva⟩
       have hlst:∀t,o.dst≠some t→Lst ops k (listed.setIfInBounds i true) t→Lst ops k listed t:=fun t hdt ⟨j,oj,hjz,hj,hdj,hlj⟩=>by
         refine⟨j,oj,hjz,hj,hdj,?_⟩
         have hne:i≠j:=fun e=>hdt (by subst e;rw[ho] at hj;obtain rfl:=Option.some.inj hj;exact hdj)
         rwa [getD_set_ne false hne] at hlj
       refine ih _ _ _ (inv.set hi hik) ⟨u.erase i,hu1.erase i,?_,fun j=>?_⟩ (AA hg hg') (by cases ho':o.dst<;>simp[Act.put,hd]) (by cases ho':o.dst<;>simp[Act.put,has]) ?_ ?_
       · rw[List.length_erase_of_mem ((hu3 i).2 ⟨hik,h1⟩),hu2];rfl
       · rw[hu1.mem_erase_iff,hu3 j]
         by_cases hji:j=i
         · subst hji
           constructor
           · rintro ⟨h,_⟩;exact absurd rfl h
           · rintro ⟨_,h⟩
             rw[Array.getD_eq_getD_getElem?,Array.getElem?_setIfInBounds_self_of_lt (by rw[inv.size];omega)] at h
             cases h
         · rw[getD_set_ne true (Ne.symm hji)]
           exact⟨fun h=>h.2,fun h=>⟨hji,h⟩⟩
       · intro t htn hor
         rw[E5 a o.dst v t (fun d hd=>has▸s2 d hd)]
         by_cases hdt:o.dst=some t
         · rw[if_pos hdt]
           exact hv t hdt
         · rw[if_neg hdt]
           exact(L.getD t Sp.any).mono _ _ _ hg' (hkn t htn (hor.elim .inl fun h=>.inr (hlst t hdt h)))
       · have old:∀t∈al,o.dst≠some t→Lst ops k (listed.setIfInBounds i true) t→∀d∈al,o.dst=some d→a.tmps.getD t undef≠v:=fun t ht hdt hl d hda hdd e=>by
           obtain⟨A,hA,hlt⟩:=(hal t ht).2.1 w _ (hkn t (hal t ht).1 (.inr (hlst t hdt hl)))
           rw[hA,hva d hda hdd] at e
           exact absurd e (by simp<;>omega)
         intro t ht x hx htx hlt hlx
         rw[E5 a o.dst v t (fun d hd=>has▸s2 d hd),E5 a o.dst v x (fun d hd=>has▸s2 d hd)]
         by_cases h1:o.dst=some t
         · rw[if_pos h1,if_neg (fun h=>htx (Option.some.inj (h1.symm.trans h)))]
           exact fun e=>old x hx (fun h=>htx (Option.some.inj (h1.symm.trans h))) hlx t ht h1 e.symm
         · rw[if_neg h1]
           by_cases h2:o.dst=some x
           · rw[if_pos h2];exact old t ht h1 hlt x hx h2
           · rw[if_neg h2];exact hdi t ht x hx htx (hlst t h1 hlt) (hlst x h2 hlx)
 have inv0:HeadInv .any ops k (Array.replicate ops.size false):=
   ⟨by simp,fun j oj _ hl=>(by rw[getD_replicate_false] at hl;cases hl),fun t _ ht=>getD_in (by simpa using ht) (getD_replicate_false _ _)⟩
 have:=key k (Array.replicate ops.size false) a0 { w0 with drawn:=w0.drawn+1 } inv0 ⟨List.range k,List.nodup_range,List.length_range,fun i=>by
   rw[List.mem_range]
   exact⟨fun h=>⟨h,getD_in (by simp;omega) (getD_replicate_false _ _)⟩,fun h=>h.1⟩⟩ (Cn w0) rfl hn (fun t ht hor=>by
   refine(L.getD t Sp.any).mono w0 _ _ (Cn w0) (h0 t ht ?_)
   rcases hor with h|⟨i,o,_,hi,_,hl⟩
   · exact h
   · rw[getD_replicate_false] at hl;cases hl) (fun t ht x hx htx ⟨i,o,_,hi,_,hl⟩=>by rw[getD_replicate_false] at hl;cases hl)
 rwa [show k+(ops.size-k)=ops.size by omega] at this
end
end
section
open Go.RowKit Go.Shelf
attribute [local go_sem] Oper.semAt_some
theorem AGC (c:Int) (n:Nd):Bh c n=if Nn n=true∧¬lo n<c then some (hi n) else none:=by
 unfold Bh GB
 by_cases ho:Nn n=true
 · rw[if_pos ho]
   have h1:lo n<hi n:=by
     have hq:(0:Int)<2^(34-n.d).toNat:=Int.pow_pos (by decide)
     unfold lo hi
     rw[Int.add_mul,Int.one_mul]
     omega
   rw[if_neg (fun e=>by rw[Prod.mk.injEq] at e;omega)]
   by_cases h2:lo n<c
   · rw[if_pos h2,if_neg (fun h=>h.2 h2)]
   · rw[if_neg h2,if_pos ⟨ho,h2⟩]
 · rw[if_neg ho,if_pos rfl,if_neg (fun h=>ho h.1)]
theorem ADy {l:List Nd} {k:Nat} {c:Int} (hk:k<l.length) (h:MB 0 (l.take k)=some c) (hs:Bh c l[k]=none):Ho l=false:=by
 have h1:MB 0 (l.take (k+1))=none:=by rw[List.take_succ_eq_append_getElem hk,Pz,h];exact hs
 have h2:MB 0 l=none:=by
  conv=>lhs;rw[←List.take_append_drop (k+1) l]
  exact XA h1
 unfold Ho
 rw[h2]
 simp
theorem ADz {l:List Nd} {k:Nat} {c d:Int} (hk:k<l.length) (h:MB 0 (l.take k)=some c) (hs:Bh c l[k]=some d):MB 0 (l.take (k+1))=some d:=by
 rw[List.take_succ_eq_append_getElem hk,Pz,h];exact hs
theorem Od (l:List Py) (s:Value) (w:World) (hR:RdL w s l) :
   Calls Tryz.prog 87 #[.agg #[s]] w fun e w'=>e=.returned (.bool (Ho (l.map (·.1))))∧w.grownBy w' none:=by
 obtain⟨ao,cap,rfl,p1,p2⟩:=hR.shape
 have HR:=AI hR
 obtain⟨vl,hvl⟩:∃v,v=Ho (l.map (·.1)):=⟨_,rfl⟩
 rw[←hvl]
 have HV:=AI hvl
 obtain⟨m,hm⟩:∃m,m=l.length:=⟨_,rfl⟩
 have hm0:m≤1099511627776:=by rw[hm];exact hR.2.2
 rw[←hm] at HR p1 ⊢
 have HM:=AI hm
 obtain⟨w1,hw1⟩:∃x,x=w.alloc (.cells #[.slice ao m cap] 56):=⟨_,rfl⟩
 have HG1:=AI (show w.grownBy w1 none by rw[hw1];exact World.grownBy_alloc _ _ _)
 have c0:w1.cell? ⟨w.heap.size,0,none⟩=some (.slice ao m cap):=by rw[hw1,ALc _ _ _ _ _ _ (World.alloc_heap_new w _)];rfl
 have y0:=ALb c0
 have C0:=AI c0
 have HG0:=AI (World.grownBy.refl w1 none)
 have HRUN:=AI (show MB 0 ((l.map (·.1)).take 0)=some 0 from rfl)
 clear hR hvl hm
 go_enter Tryz.func87,Tryz.ntmps87
 refine ALa fun K0 k0=>?_
 have HK0:=AI k0
 clear k0
 go_wp2
 rw[←hw1]
 refine HK0.out _ _ ?_
 clear HK0 hw1
 by_cases h1:32768<m
 · have t1:decide ((32768:Int)<(m:Int))=true:=by simp;omega
   have HZ:=AI (show vl=false by rw[HV.out];unfold Ho;rw[List.length_map,←HM.out];simp;omega)
   clear h1
   go_wp2
   go_ret
   exact⟨by rw[HZ.out];rfl,HG1.out⟩
 have t1:decide ((32768:Int)<(m:Int))=false:=by simp;omega
 have HL3:=AI (show m≤32768 by omega)
 clear h1
 go_wp2
 clear t1
 go_loopw [3,4] (fun f i wr=>∃(k:Nat) (c:Int),k≤m∧f=.int .i64 c∧i=.int .i64 k∧Hid (w1.grownBy wr none)∧Hid (MB 0 ((l.map (·.1)).take k)=some c)) (fun _ i _=>(m-intOf i).toNat)
 case atStart=>exact⟨0,0,by omega,rfl,rfl,HG0,HRUN⟩
 case round =>
   clear HG0 HRUN c0 y0
   obtain⟨k,c,hk,rfl,rfl,HG,HRN⟩:=hrel
   have c0:=HG.out.cell C0.out (by simp)
   have y0:=ALb c0
   by_cases hlt:k<m
   · have hkl:k<(l.map (·.1)).length:=by rw[List.length_map,←HM.out];exact hlt
     have hsr:=(HR.out.kn HG1.out).kn HG.out
     obtain⟨b,off,rfl,hrg⟩:=hsr.1.range (i:=k) hkl
     have HRG:=AI hrg
     have HNK:=AI (hsr.1.2 _ (List.getElem_mem hkl))
     have HS1:=AI (show Bh c (l.map (·.1))[k]=none→vl=false from fun h=>by rw[HV.out];exact ADy hkl HRN.out h)
     have HS2:=AI (show ∀d,Bh c (l.map (·.1))[k]=some d→MB 0 ((l.map (·.1)).take (k+1))=some d from fun d h=>ADz hkl HRN.out h)
     rw[AGC] at HS1 HS2
     generalize (l.map (·.1))[k]=x at *
     have TN:=AI (Wc x HNK.out.1.1)
     have NL:=AI (CA x HNK.out.1.1)
     obtain⟨C,hC⟩:∃C,C=Cf x:=⟨_,rfl⟩
     have HC:=AI hC
     have i0:(0:Int)≤(k:Int):=by omega
     have i1:(k:Int)<(m:Int):=by omega
     clear hsr hrg hkl hC
     refine ALa fun Ka ka=>?_
     have HKa:=AI ka
     clear ka
     refine ALa fun Kb kb=>?_
     have HKb:=AI kb
     clear kb
     go_wp2
     refine HKb.out _ _ ?_
     clear HKb
     go_wp2
     refine HKa.out _ _ ?_
     clear HKa
     refine ALa fun Kc kc=>?_
     have HKc:=AI kc
     clear kc
     refine wp_block ?_
     refine ALa fun Kd kd=>?_
     have HKd:=AI kd
     clear kd
     go_wp2_with (first
       | (refine Dd rfl 132 (.tmp 20) rfl rfl TN.out HRG.out ?_)
       | (refine AV rfl 132 (.tmp 5) (.tmp 21) rfl rfl rfl TN.out (Aj rfl) (by rw[NL.out];rfl) ?_;intro W2 g2 h2;have G2:=AI (AD (World.grownBy_alloc wr _ none) g2 (Nat.le_refl _));have H2:=AI h2;clear g2 h2)
       | fail)
     refine HKd.out _ _ ?_
     clear HKd
     go_frame
     refine ALa fun Ke ke=>?_
     have HKe:=AI ke
     clear ke
     refine ALa fun Kf kf=>?_
     have HKf:=AI kf
     clear kf
     obtain⟨c3,c4,y3⟩:=J2 H2.out
     obtain⟨d,p,kk⟩:=x
     simp only at c3 c4 HNK
     have hd:=HNK.out.2.1
     have hp:=HNK.out.2.2
     simp only at hd hp
     have hoi:=@IP ⟨d,p,kk⟩
     simp only at hoi
     have HOI:=AI hoi
     have P2:∀m:Nat,m<35→wrap64 ((2:Int)^m)=2^m:=by decide +kernel
     clear hoi
     by_cases h1:d<0
     · have t1:decide (d<0)=true:=by simp;omega
       have HE:=AI (HS1.out (by rw[if_neg (fun h=>by have:=HOI.out.1 h.1;omega)]))
       clear HS1 HS2 P2 h1
       go_quiet ((exact Calls.quiet_of_same (IW 0 (by decide) _)))
       refine HKf.out _ _ ?_
       clear HKe HKf HKc
       go_wp2
       go_ret
       exact⟨by rw[HE.out];rfl,AA HG1.out (AA HG.out (AA G2.out (Bu _ _)))⟩
     by_cases h2:34<d
     · have t1:decide (d<0)=false:=by simp;omega
       have t2:decide (34<d)=true:=by simp;omega
       have HE:=AI (HS1.out (by rw[if_neg (fun h=>by have:=HOI.out.1 h.1;omega)]))
       clear HS1 HS2 P2 h1 h2
       go_quiet ((exact Calls.quiet_of_same (IW 0 (by decide) _)))
       refine HKf.out _ _ ?_
       clear HKe HKf HKc
       go_wp2
       go_ret
       exact⟨by rw[HE.out];rfl,AA HG1.out (AA HG.out (AA G2.out (Bu _ _)))⟩
     by_cases h3:p<0
     · have t1:decide (d<0)=false:=by simp;omega
       have t2:decide (34<d)=false:=by simp;omega
       have t3:decide (p<0)=true:=by simp;omega
       have HE:=AI (HS1.out (by rw[if_neg (fun h=>by have:=HOI.out.1 h.1;omega)]))
       clear HS1 HS2 P2 h1 h2 h3
       go_quiet ((exact Calls.quiet_of_same (IW 0 (by decide) _)))
       refine HKf.out _ _ ?_
       clear HKe HKf HKc
       go_wp2
       go_ret
       exact⟨by rw[HE.out];rfl,AA HG1.out (AA HG.out (AA G2.out (Bu _ _)))⟩
     obtain⟨e,rfl⟩:∃e:Nat,d=e:=⟨d.toNat,by omega⟩
     have he:e≤34:=by omega
     have t1:decide ((e:Int)<0)=false:=by simp
     have t2:decide ((34:Int)<(e:Int))=false:=by simp;omega
     have t3:decide (p<0)=false:=by simp;omega
     have i2:(0:Int)≤(e:Int):=by omega
     have i3:(e:Int)≤34:=by omega
     have hp2:=P2 e (by omega)
     have HSZ:=AI (fun w=>IW e he w)
     have j1:(e:Int)<64:=by omega
     by_cases h4:(2:Int)^e≤p
     · have t4:decide (wrap64 ((2:Int)^e)≤p)=true:=by rw[hp2];simp[h4]
       have HE:=AI (HS1.out (by rw[if_neg (fun h=>by have:=HOI.out.1 h.1;rw[Int.toNat_natCast] at this;omega)]))
       clear HS1 HS2 P2 hp2 h1 h2 h3 h4
       go_quiet ((exact Calls.quiet_of_same (HSZ.out _)))
       refine HKf.out _ _ ?_
       clear HKe HKf HKc
       go_wp2
       go_ret
       exact⟨by rw[HE.out];rfl,AA HG1.out (AA HG.out (AA G2.out (Bu _ _)))⟩
     have t4:decide (wrap64 ((2:Int)^e)≤p)=false:=by rw[hp2];simp;omega
     have i4:(0:Int)≤p:=by omega
     have HOK:=AI (HOI.out.2 ⟨i2,i3,i4,by rw[Int.toNat_natCast];omega⟩)
     have HLO:=AI (show lo ⟨(e:Int),p,kk⟩=p*2^(34-e) by unfold lo;simp only;rw[show(34-(e:Int)).toNat=34-e by omega])
     have HHI:=AI (show hi ⟨(e:Int),p,kk⟩=(p+1)*2^(34-e) by unfold hi;simp only;rw[show(34-(e:Int)).toNat=34-e by omega])
     have hb1:p*2^(34-e)≤17179869184∧0≤p*2^(34-e)∧(p+1)*2^(34-e)≤17179869184∧0≤(p+1)*2^(34-e)∧p≤17179869184:=by
       have hq:(0:Int)<2^(34-e):=Int.pow_pos (by decide)
       have h5:(p+1)*2^(34-e)≤2^e*2^(34-e):=Int.mul_le_mul_of_nonneg_right (by omega) (Int.le_of_lt hq)
       rw[←Int.pow_add,show e+(34-e)=34 by omega] at h5
       have h6:0≤p*2^(34-e):=Int.mul_nonneg i4 (Int.le_of_lt hq)
       have h7:(p+1)*2^(34-e)=p*2^(34-e)+2^(34-e):=by rw[Int.add_mul,Int.one_mul]
       have h8:(2:Int)^e≤2^34:=by exact_mod_cast Nat.pow_le_pow_right (n:=2) (by decide) he
       omega
     have w1:IntKind.i64.wrap (p+1)=p+1:=by rw[IntKind.wrap_i64];omega
     have w2:IntKind.i64.wrap (p*2^(34-e))=p*2^(34-e):=by rw[IntKind.wrap_i64];omega
     have w3:IntKind.i64.wrap ((p+1)*2^(34-e))=(p+1)*2^(34-e):=by rw[IntKind.wrap_i64];omega
     obtain⟨q,hq⟩:∃q:Int,q=2^(34-e):=⟨_,rfl⟩
     rw[←hq] at HSZ HLO HHI w2 w3
     have w4:wrap64 (p*q)=p*q:=by unfold wrap64;rw[hq];omega
     have W3E:=AI (show Value.int .i64 (wrap64 (wrap64 (p+1)*q))=.int .i64 ((p+1)*q) by rw[show wrap64 (p+1)=p+1 by unfold wrap64;omega,show wrap64 ((p+1)*q)=(p+1)*q by unfold wrap64;rw[hq];omega])
     by_cases h5:p*q<c
     · have t5:decide (wrap64 (p*q)<c)=true:=by rw[w4];simp[h5]
       have HE:=AI (HS1.out (by rw[if_neg (fun h=>by have:=h.2;rw[HLO.out] at this;omega)]))
       clear HS1 HS2 P2 hp2 h1 h2 h3 h4 h5 hb1 w1 w2 w3 w4 hq
       go_quiet ((exact Calls.quiet_of_same (HSZ.out _)))
       refine HKf.out _ _ ?_
       clear HKe HKf HKc
       go_wp2
       go_ret
       exact⟨by rw[HE.out];rfl,AA HG1.out (AA HG.out (AA G2.out (Bu _ _)))⟩
     · have t5:decide (wrap64 (p*q)<c)=false:=by rw[w4];simp;omega
       have HE:=AI (HS2.out _ (by rw[if_pos ⟨HOK.out,by rw[HLO.out];omega⟩]))
       rw[HHI.out] at HE
       clear HS1 HS2 P2 hp2 h1 h2 h3 h4 h5 hb1 w1 w2 w3 w4 hq
       go_quiet ((exact Calls.quiet_of_same (HSZ.out _)))
       refine HKf.out _ _ ?_
       clear HKf
       go_wp2
       refine HKe.out _ _ ?_
       clear HKe
       obtain⟨W3,hW3⟩:∃x,x=W2.drewN nq:=⟨_,rfl⟩
       have HG3:=AI (show wr.grownBy W3 none from by rw[hW3];exact AA G2.out (Bu _ _))
       have c5:W3.cell? ⟨wr.heap.size,0,none⟩=some (.int .i64 (e:Int)):=by rw[hW3];exact c3
       have c6:W3.cell? ⟨wr.heap.size,1,none⟩=some (.int .i64 p):=by rw[hW3];exact c4
       have y5:=ALb c5
       rw[←hW3]
       clear hW3 c3 c4 y3
       go_quiet ((exact Calls.quiet_of_same (HSZ.out _)))
       refine HKc.out _ _ ?_
       clear HKc
       go_wp2
       go_roundw
       case rel=>exact⟨k+1,(p+1)*q,by omega,W3E.out,by go_num,AI (AA HG.out (AA HG3.out (Bu _ _))),HE⟩
       case measure=>simp[intOf];omega
   · obtain rfl:k=m:=by omega
     have HE:=AI (show vl=true by
       have h:=HRN.out
       rw[List.take_of_length_le (by rw[List.length_map,←HM.out];exact Nat.le_refl _)] at h
       rw[HV.out];unfold Ho;rw[h,List.length_map,←HM.out];simp;exact HL3.out)
     go_wp2
     go_ret
     exact⟨by rw[HE.out];rfl,AA HG1.out HG.out⟩
end
section
open Go.RowKit Go.Shelf
attribute [local go_sem] Oper.semAt_some
theorem Ij {P:Program} {fn:Func} {p q:Tmp} {T:TypeId} (h:fn.results=#[.cell p T,.tmp q]) {tmps:Array Value} {w:World} {b0:Nat} {c0:List Value} {v0 v1:Value} {fr0:Nat×Nat} {u0:TypeId}
  (hp:tmps.getD p undef=ptr b0) (hq:tmps.getD q undef=v1) (t0:TY P T c0 v0) (h0:w.heap[b0]?=some (.cells c0.toArray u0 fr0)) :
  (results fn tmps).run P w=.ok (.tuple #[v0,v1]) w:=by
 have e0:=t0.load w b0 0 (Am h0)
 have hp':tmps[p]?.getD undef=.pointer (some ⟨b0,0,none⟩):=by simpa [ptr] using hp
 have hq':tmps[q]?.getD undef=v1:=by simpa using hq
 simp[results,h,hp',hq',asAddr,e0]
theorem P1 {α:Type} {p q:α→Bool}:∀{l:List α},(∀x∈l,p x=q x)→l.find? p=l.find? q:=by
 intro l
 induction l with
 | nil=>intro _;rfl
 | cons x l ih =>
  intro h
  rw[List.find?_cons,List.find?_cons,h x (List.mem_cons.2 (.inl rfl)),ih fun y hy=>h y (List.mem_cons.2 (.inr hy))]
theorem Zk {l:List Nd} (hv:Ho l=true):∀n∈l,Nn n=true:=fun n hn=>by
 obtain⟨_,e,he⟩:=ABE hv
 exact(ABF he n hn).1
theorem ACH {l:List Nd} (hv:Ho l=true) (a:Int):l.find? (MC a)=l.find? (fun n=>Gp n a):=
 P1 fun n hn=>XG (Zk hv n hn)
theorem Mc {a:Int}:Cg a=true↔0≤a∧a<17179869184:=by unfold Cg;simp
theorem Zl (l:List Py) (s:Value) (a:Int) (w:World) (hR:RdL w s l) :
   Calls Tryz.prog 89 #[.agg #[s],.int .i64 a] w fun e w'=>e=.returned (.tuple #[AO (CF (l.map (·.1)) a).1,.int .i64 (CF (l.map (·.1)) a).2])∧w.grownBy w' none:=by
 obtain⟨ao,cap,rfl,p1,p2⟩:=hR.shape
 have HR:=AI hR
 obtain⟨gl,hgl⟩:∃v,v=CF (l.map (·.1)) a:=⟨_,rfl⟩
 rw[←hgl]
 have HV:=AI hgl
 obtain⟨m,hm⟩:∃m,m=l.length:=⟨_,rfl⟩
 have hm0:m≤1099511627776:=by rw[hm];exact hR.2.2
 rw[←hm] at HR p1 ⊢
 have HM:=AI hm
 obtain⟨w0,hw0⟩:∃x,x=(w.alloc (.cells #[.slice ao m cap] 56)).alloc (.cells (bv AM).toArray 23):=⟨_,rfl⟩
 have HG0:=AI (show w.grownBy w0 none by rw[hw0];exact AA (World.grownBy_alloc _ _ _) (World.grownBy_alloc _ _ _))
 have Z0:=AI (show w0.heap[w.heap.size]?=some (.cells #[.slice ao m cap] 56 (0,0)) by rw[hw0,BJ (by simp<;>omega),Aj (by simp<;>omega)])
 have Z1:=AI (show w0.heap[w.heap.size+1]?=some (.cells (bv AM).toArray 23 (0,0)) by rw[hw0,Aj (by simp)])
 have HS0:=AI (show w0.heap.size=w.heap.size+2 by rw[hw0];simp)
 have HW0:=AI hw0
 clear hR hgl hm hw0
 go_enter Tryz.func89,Tryz.ntmps89
 refine ALa fun K0 k0=>?_
 have HK0:=AI k0
 clear k0
 go_wp2
 refine HK0.out _ _ ?_
 clear HK0
 have hbv:(#[.int .u8 0,.int .u8 0,.int .u8 0,.int .u8 0,.int .u8 0,.int .u8 0,.int .u8 0,.int .u8 0,.int .u8 0,.int .u8 0,.int .u8 0,.int .u8 0,.int .u8 0,.int .u8 0,.int .u8 0,.int .u8 0,.int .u8 0,.int .u8 0,.int .u8 0,.int .u8 0,.int .u8 0,.int .u8 0,.int .u8 0,.int .u8 0,.int .u8 0,.int .u8 0,.int .u8 0,.int .u8 0,.int .u8 0,.int .u8 0,.int .u8 0,.int .u8 0]:Array Value)=(bv AM).toArray:=by kernel_rfl
 rw[hbv,←HW0.out]
 clear hbv HW0
 have c0:w0.cell? ⟨w.heap.size,0,none⟩=some (.slice ao m cap):=by rw[ALc _ _ _ _ _ _ Z0.out];rfl
 have y0:=ALb c0
 go_wp2_with fail
 refine(Od l (.slice ao m cap) _ (HR.out.kn HG0.out)).mono ?_
 rintro e w2 ⟨rfl,g2⟩
 have G2:=AI (AA HG0.out g2)
 have c0:=g2.cell c0 (by simp)
 have y0:=ALb c0
 have Z1:=AI (AF g2 Z1.out (by simp))
 have Z0:=AI (AF g2 Z0.out (by simp))
 have H2S:=AI g2.size
 clear g2
 by_cases hv:Ho (l.map (·.1))=true
 · have HVL:=AI hv
   simp only[hv]
   clear hv
   by_cases h1:a<0
   · have t1:decide (a<0)=true:=by simp;omega
     have HZ:=AI (show gl=(AM,1) by rw[HV.out];unfold CF;rw[if_neg (by rw[Bool.and_eq_true,Mc];omega)])
     clear h1
     go_wp2_with (first
      | (refine Bg rfl 23 _ rfl #[] (by simp) (XC _) ?_)
      | (refine AV rfl 23 (.tmp 4) (.tmp 19) rfl rfl rfl (BV AM rfl) Z1.out rfl ?_;intro w5 g5 h5;have G5:=AI g5;have H5:=AI h5;clear g5 h5)
      | fail)
     exact bodyPost_ret (Ij (p:=4) (q:=5) (b0:=w.heap.size+1) rfl rfl rfl (BV AM rfl) H5.out) rfl ⟨by rw[HZ.out];rfl,AD G2.out G5.out (by omega)⟩
   have t1:decide (a<0)=false:=by simp;omega
   by_cases h2:17179869184≤a
   · have t2:decide ((17179869184:Int)≤a)=true:=by simp;omega
     have HZ:=AI (show gl=(AM,1) by rw[HV.out];unfold CF;rw[if_neg (by rw[Bool.and_eq_true,Mc];omega)])
     clear h1 h2
     go_wp2_with (first
      | (refine Bg rfl 23 _ rfl #[] (by simp) (XC _) ?_)
      | (refine AV rfl 23 (.tmp 4) (.tmp 19) rfl rfl rfl (BV AM rfl) Z1.out rfl ?_;intro w5 g5 h5;have G5:=AI g5;have H5:=AI h5;clear g5 h5)
      | fail)
     exact bodyPost_ret (Ij (p:=4) (q:=5) (b0:=w.heap.size+1) rfl rfl rfl (BV AM rfl) H5.out) rfl ⟨by rw[HZ.out];rfl,AD G2.out G5.out (by omega)⟩
   have t2:decide ((17179869184:Int)≤a)=false:=by simp;omega
   have AB:=AI (show 0≤a∧a<17179869184 by omega)
   have HLO:=AI (show gl=(match (l.map (·.1)).find? (fun n=>Gp n a) with|some n=>((Kp a (34-n.d).toNat n).k,0)|none=>(AM,10)) by
     rw[HV.out];unfold CF;rw[if_pos (by rw[Bool.and_eq_true,Mc];exact⟨AB.out,HVL.out⟩),ACH HVL.out];cases (l.map (·.1)).find? (fun n=>Gp n a)<;>rfl)
   have HND:=AI (show ∀n∈l,0≤n.1.d∧n.1.d≤34 from fun n hn=>by
     have h:=IP.1 (Zk HVL.out n.1 (List.mem_map.2 ⟨n,hn,rfl⟩))
     exact⟨h.1,h.2.1⟩)
   go_wp2_with fail
   refine(Zh l (.slice ao m cap) a _ (HR.out.kn G2.out) HND.out AB.out).mono ?_
   rintro e w3 ⟨rfl,g3⟩
   have G3:=AI (AA G2.out g3)
   have c0:=g3.cell c0 (by simp)
   have y0:=ALb c0
   have Z1:=AI (AF g3 Z1.out (by simp))
   have H3S:=AI g3.size
   clear g3 h1 h2 t1 t2
   rcases hfi:(l.map (·.1)).find? (fun n=>Gp n a) with _|n0
   · have hf:=AD0 hfi
     have HZ:=AI (show gl=(AM,10) by rw[HLO.out,hfi])
     rw[hf]
     clear hf hfi
     go_wp2_with (first
      | (refine Bg rfl 23 _ rfl #[] (by simp) (XC _) ?_)
      | (refine AV rfl 23 (.tmp 4) (.tmp 25) rfl rfl rfl (BV AM rfl) Z1.out rfl ?_;intro w5 g5 h5;have G5:=AI g5;have H5:=AI h5;clear g5 h5)
      | fail)
     exact bodyPost_ret (Ij (p:=4) (q:=5) (b0:=w.heap.size+1) rfl rfl rfl (BV AM rfl) H5.out) rfl ⟨by rw[HZ.out];rfl,AD G3.out G5.out (by omega)⟩
   · obtain⟨i,hi,hf,hn0⟩:=AD1 hfi
     have HZ:=AI (show gl=((Kp a (34-n0.d).toNat n0).k,0) by rw[HLO.out,hfi])
     have hsr:=HR.out.kn G3.out
     have hil:i<m:=by rw[HM.out];rw[List.length_map] at hi;exact hi
     obtain⟨b,off,rfl,hrg⟩:=hsr.1.range hi
     have HNK:=AI (hsr.1.2 _ (List.getElem_mem hi))
     have HNO:=AI (Zk HVL.out _ (List.getElem_mem hi))
     rw[hn0] at hrg HNK HNO
     have HRG:=AI hrg
     have TN:=AI (Wc n0 HNK.out.1.1)
     have NL:=AI (CA n0 HNK.out.1.1)
     have i0:(0:Int)≤(i:Int):=by omega
     have i1:(i:Int)<(m:Int):=by omega
     obtain⟨DN,hDN⟩:∃D,D=Kp a (34-n0.d).toNat n0:=⟨_,rfl⟩
     rw[←hDN] at HZ
     have HDN:=AI hDN
     have HDK:=AI (show Dg DN.k by rw[hDN];exact M3 a _ _ HNK.out.1)
     rw[hf]
     clear hf hfi hsr hrg hn0 hi hil hDN
     obtain⟨B,hB⟩:∃B,B=w3.heap.size:=⟨_,rfl⟩
     have HB:=AI hB
     clear hB
     go_wp2_with (first
      | (refine Dd rfl 132 (.tmp 29) rfl rfl TN.out HRG.out ?_)
      | (refine AV rfl 132 (.tmp 7) (.tmp 30) rfl rfl rfl TN.out (Aj rfl) (by rw[NL.out];rfl) ?_;intro W4 g4 h4;rw[←HB.out] at h4;have G4:=AI (AD (World.grownBy_alloc w3 _ none) g4 (Nat.le_refl _));have H4:=AI h4;clear g4 h4)
      | fail)
     try go_frame
     rw[←HB.out]
     go_loopw [] (fun wr=>∃n':Nd,Hid (Nn n'=true∧Dg n'.k∧Kp a (34-n'.d).toNat n'=DN∧W4.grownBy wr (some B)∧wr.heap[B]?=some (.cells (Cf n').toArray 132 (0,0)))) (fun wr=>(34-intOf ((wr.cell? ⟨B,0,none⟩).getD undef)).toNat)
     case atStart=>exact⟨n0,AI ⟨HNO.out,HNK.out.1,HDN.out.symm,World.grownBy.refl _ _,H4.out⟩⟩
     case round =>
      obtain⟨n',HI⟩:=hrel
      obtain⟨d,p,kk⟩:=n'
      obtain⟨o1,o2,o3,o4⟩:=IP.1 HI.out.1
      have o5:=ADu HI.out.1
      obtain⟨c8,c9,y8⟩:=J2 HI.out.2.2.2.2
      simp only at c8 c9 o1 o2 o3 o5
      obtain⟨e,rfl⟩:∃e:Nat,d=e:=⟨d.toNat,by omega⟩
      have MU:=AI (show intOf ((wr.cell? ⟨B,0,none⟩).getD undef)=(e:Int) by rw[c8];rfl)
      by_cases hlt:e<34
      · have t1:decide ((e:Int)<34)=true:=by simp;omega
        have TX:=AI (Wc ⟨(e:Int),p,kk⟩ HI.out.2.1.1)
        have HL:=AI (show ∀w',(∃s:Gw wr,w'=s.val)→(Instr.loadAt 132 (.pointer (some ⟨B,0,none⟩))).run Tryz.prog w'=.ok (GL ⟨(e:Int),p,kk⟩) w' from fun w' ⟨s,h⟩=>by subst h;exact Ab TX.out (Am (AF s.g HI.out.2.2.2.2 (by simp))))
        have cD:∀s:Gw wr,s.val.cell? ⟨B,0,none⟩=some (.int .i64 (e:Int)):=fun s=>s.cell c8
        obtain⟨q,hq⟩:∃q:Int,q=2^(33-e):=⟨_,rfl⟩
        have hq0:0<q:=by rw[hq];exact Int.pow_pos (by decide)
        have HSZ:=AI (show ∀W,Calls Tryz.prog 126 #[.int .i64 (IntKind.i64.wrap ((e:Int)+1))] W fun e' w'=>e'=.returned (.int .i64 q)∧w'=W from fun W=>by
         have h:=IW (e+1) (by omega) W
         rw[show 34-(e+1)=33-e by omega,←hq] at h
         rw[show IntKind.i64.wrap ((e:Int)+1)=((e+1:Nat):Int) by rw[IntKind.wrap_i64];omega]
         exact h)
        obtain⟨r,hr⟩:∃r,r=Ri ⟨(e:Int),p,kk⟩ a:=⟨_,rfl⟩
        have hdq:0≤a/q∧a/q<17179869184:=by rw[hq];exact ADs AB.out (33-e)
        have HRR:=AI (show a/q%2=if r then 1 else 0 by
         rw[hr];unfold Ri;simp only
         rw[show(33-(e:Int)).toNat=33-e by omega,←hq]
         by_cases h:a/q%2=1
         · simp[h]
         · simp[h];omega)
        have hqn:¬q=0:=by omega
        have htd:a.tdiv q=a/q:=Int.tdiv_eq_ediv_of_nonneg AB.out.1
        have htm:(a/q).tmod 2=a/q%2:=Int.tmod_eq_emod_of_nonneg hdq.1
        have hw1:IntKind.i64.wrap (a/q)=a/q:=by rw[IntKind.wrap_i64];omega
        have hw2:IntKind.i64.wrap (a/q%2)=a/q%2:=by rw[IntKind.wrap_i64];omega
        have a1:0≤a:=AB.out.1
        have a2:a<17179869184:=AB.out.2
        have HCH:=AI (fun(R:Int) (hR:R=a/q%2) (W:World)=>W8 ⟨(e:Int),p,kk⟩ r (R:=R) (hR.trans HRR.out) HI.out.2.1 ⟨o1,o2⟩ ⟨o3,o5⟩ W)
        obtain⟨CN,hCN⟩:∃c,c=Bt ⟨(e:Int),p,kk⟩ r:=⟨_,rfl⟩
        rw[←hCN] at HCH
        have HCN:=AI hCN
        have HNX:=AI (show Nn CN=true∧Dg CN.k∧Kp a (34-CN.d).toNat CN=DN∧CN.d=(e:Int)+1 from by
         rw[hCN,hr]
         refine⟨IX _ HI.out.1 (by simp only;omega),P3 _ _,?_,rfl⟩
         rw[←HI.out.2.2.1,show(34-(⟨(e:Int),p,kk⟩:Nd).d).toNat=(34-(Bt ⟨(e:Int),p,kk⟩ (Ri ⟨(e:Int),p,kk⟩ a)).d).toNat+1 by simp[Bt];omega]
         rfl)
        clear hq hr hCN c9 o1 o2 o3 o4 o5
        go_wp2
        clear c8 y8
        refine Hn 9 (by kernel_rfl) (by kernel_rfl) ?_
        simp only[List.take_succ_cons,List.take_zero,List.drop_succ_cons,List.drop_zero]
        refine FM rfl 132 (.tmp 7) rfl rfl HL.out ?_
        iterate 4 (quiet_step (fail))
        quiet_step ((exact Calls.grown_of_same (HSZ.out _)))
        iterate 2 (quiet_step (fail))
        quiet_step ((exact Calls.grown_of (HCH.out _ rfl _)))
        refine wpQuiet_nil ?_
        rintro _ ⟨s,rfl⟩
        have B2:=AI (AF s.g HI.out.2.2.2.2 (by simp))
        have GS:=AI s.g
        generalize s.val=W5 at *
        clear cD HL
        go_wp2_with (first
         | (refine AV rfl 132 (.tmp 7) (.tmp 42) rfl rfl rfl (Wc CN HNX.out.2.1.1) B2.out (by rw[CA _ HNX.out.2.1.1,List.size_toArray,CA _ HI.out.2.1.1]) ?_;intro W6 g6 h6;have G6:=AI g6;have H6:=AI h6;clear g6 h6)
         | fail)
        have c10:=(J2 H6.out).1
        go_frame
        go_roundw
        case rel=>exact⟨CN,AI ⟨HNX.out.1,HNX.out.2.1,HNX.out.2.2.1,AA (AA HI.out.2.2.2.1 (EX GS.out)) G6.out,H6.out⟩⟩
        case measure =>
         rw[MU.out,c10]
         show(34-CN.d).toNat<(34-(e:Int)).toNat
         rw[HNX.out.2.2.2]
         omega
      · have t1:decide ((e:Int)<34)=false:=by simp;omega
        have hde:DN=⟨(e:Int),p,kk⟩:=by
         have h:=HI.out.2.2.1
         simp only at h
         rw[show(34-(e:Int)).toNat=0 by omega] at h
         exact h.symm
        have HDE:=AI (show DN.k=kk by rw[hde])
        have Z5:=AI (AF HI.out.2.2.2.1 (AF G4.out Z1.out (by simp)) (by have:=HB.out;have:=HS0.out;have:=H2S.out;have:=H3S.out;simp;omega))
        clear hde
        go_wp2_with (first
         | (refine Dd rfl 23 (.tmp 43) rfl rfl (BV kk HI.out.2.1.1) (Jd HI.out.2.2.2.2) ?_)
         | (refine AV rfl 23 (.tmp 4) (.tmp 44) rfl rfl rfl (BV kk HI.out.2.1.1) Z5.out (by rw[AL,HI.out.2.1.1];rfl) ?_;intro w7 g7 h7;have G7:=AI g7;have H7:=AI h7;clear g7 h7)
         | fail)
        exact bodyPost_ret (Ij (p:=4) (q:=5) (b0:=w.heap.size+1) rfl rfl rfl (BV kk HI.out.2.1.1) H7.out) rfl ⟨by rw[HZ.out];show _=Ending.returned (.tuple #[AO DN.k,_]);rw[HDE.out];rfl,AD (AD (AA G3.out G4.out) HI.out.2.2.2.1 (by have:=HB.out;have:=G3.out.size;omega)) G7.out (by omega)⟩
 · have HVL:=AI hv
   simp only[Bool.not_eq_true] at hv
   simp only[hv]
   clear hv
   have HZ:=AI (show gl=(AM,1) by rw[HV.out];unfold CF;rw[if_neg (by rw[Bool.and_eq_true];exact fun h=>HVL.out h.2)])
   go_wp2_with (first
     | (refine Bg rfl 23 _ rfl #[] (by simp) (XC _) ?_)
     | (refine AV rfl 23 (.tmp 4) (.tmp 19) rfl rfl rfl (BV AM rfl) Z1.out rfl ?_;intro w5 g5 h5;have G5:=AI g5;have H5:=AI h5;clear g5 h5)
     | fail)
   exact bodyPost_ret (Ij (p:=4) (q:=5) (b0:=w.heap.size+1) rfl rfl rfl (BV AM rfl) H5.out) rfl ⟨by rw[HZ.out];rfl,AD G2.out G5.out (by omega)⟩
end
end Go.Proofs.YtbfjfnbcmojpiaaGreat
namespace Go.Proofs.YtbfjfnbcmojpiaaGreat
open Go.RowKit Go.Shelf
attribute [local go_sem] Oper.semAt_some
end Go.Proofs.YtbfjfnbcmojpiaaGreat
