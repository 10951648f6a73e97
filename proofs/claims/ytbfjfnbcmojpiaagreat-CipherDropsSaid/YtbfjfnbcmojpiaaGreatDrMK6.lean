import Derived.Test.YtbfjfnbcmojpiaaGreatDrMK2
import Derived.DeepKeys
import Derived.WalkKit
import Derived.ProofKit
import Derived.OpenShut
import Derived.ShutString
import Derived.ChangeOld
import Derived.Below
import Derived.Deep.Slices
set_option linter.unusedSimpArgs false
set_option linter.unusedVariables false
set_option maxRecDepth 100000
set_option maxHeartbeats 4000000
namespace Go.Proofs.YtbfjfnbcmojpiaaGreat
open Go.RowKit Go.Shelf
theorem Nz (k:Nat):(0:Int)<2^k:=Int.pow_pos (by decide)
theorem Ro {n:Nd} (h:NZ n=true):E3 n=(lo n,hi n):=by unfold E3;rw[if_pos h]
theorem Lm (n:Nd):lo n<hi n:=by
 have h:=Nz (34-n.d).toNat
 unfold lo hi
 rw[Int.add_mul]
 omega
theorem ZE {n:Nd} (h:NZ n=true):0≤lo n:=by
 obtain⟨_,_,h3,_⟩:=Ii.1 h
 exact Int.mul_nonneg h3 (Int.le_of_lt (Nz _))
theorem AC4 {n:Nd} (h:E3 n≠(0,0)):NZ n=true:=by
 unfold E3 at h
 by_cases ho:NZ n=true
 · exact ho
 · rw[if_neg ho] at h;exact absurd rfl h
theorem AAr {c d:Int} {n:Nd} (h:CR c n=some d):NZ n=true∧c≤lo n∧d=hi n:=by
 unfold CR at h
 split at h
 · cases h
 · rename_i hs
   have ho:=AC4 hs
   rw[Ro ho] at h
   simp only at h
   split at h
   · cases h
   · cases h
     exact⟨ho,by omega,rfl⟩
theorem AAs {c:Int} {n:Nd} (ho:NZ n=true) (hc:c≤lo n) (h0:0≤c):CR c n=some (hi n):=by
 have h1:=Lm n
 unfold CR
 rw[Ro ho,if_neg (by intro e;simp only[Prod.mk.injEq] at e;omega)]
 simp only
 rw[if_neg (by omega)]
theorem AC5 {c e:Int} {l:List Nd} (h:KY c l=some e):∀n∈l,NZ n=true∧c≤lo n:=by
 induction l generalizing c with
 | nil=>intro n hn;cases hn
 | cons x l ih =>
  simp only[KY] at h
  cases hs:CR c x with
  | none=>rw[hs] at h;cases h
  | some d =>
   rw[hs] at h
   obtain⟨h1,h2,h3⟩:=AAr hs
   have:=Lm x
   intro n hn
   rcases List.mem_cons.1 hn with rfl|hn
   · exact⟨h1,h2⟩
   · obtain⟨h4,h5⟩:=ih h n hn
     exact⟨h4,by omega⟩
theorem AAt {a:Int} {n:Nd} (h:NZ n=true):LD a n=KW n a:=by
 have hq:=Nz (34-n.d).toNat
 unfold LD KW
 rw[Ro h]
 unfold lo hi
 have e1:=Int.le_ediv_iff_mul_le (a:=n.p) (b:=a) hq
 have e2:=Int.ediv_lt_iff_lt_mul (a:=a) (b:=n.p+1) hq
 rw[←Bool.decide_and]
 simp only[decide_eq_decide]
 constructor
 · rintro ⟨h1,h2⟩
   have:=e1.2 h1
   have:=e2.2 h2
   omega
 · intro h1
   exact⟨e1.1 (by omega),e2.1 (by omega)⟩
theorem AC6 {l:List Nd} (h:GB l=true):l.length≤32768∧∃e,KY 0 l=some e:=by
 unfold GB at h
 simp only[Bool.and_eq_true,decide_eq_true_eq] at h
 exact⟨h.1,Option.isSome_iff_exists.1 h.2⟩
theorem AAu (a:Int) {n:Nd} (hd:n.d≤33):a/2^(34-n.d).toNat=a/2^(33-n.d).toNat/2:=by
 rw[show(34-n.d).toNat=(33-n.d).toNat+1 by omega,Int.pow_succ,Int.ediv_ediv_of_nonneg (Int.le_of_lt (Nz _))]
theorem RA {a:Int} {n:Nd} {r:Bool} (hd:n.d≤33):KW (Bj n r) a=decide (a/2^(33-n.d).toNat=2*n.p+if r then 1 else 0):=by
 unfold KW Bj
 simp only
 rw[show(34-(n.d+1)).toNat=(33-n.d).toNat by omega]
theorem UB {a:Int} {n:Nd} (hd:n.d≤33):KW n a=decide (a/2^(33-n.d).toNat/2=n.p):=by
 unfold KW
 rw[AAu a hd]
theorem GJ {a:Int} {n:Nd} {r:Bool} (hd:n.d≤33) (h:KW (Bj n r) a=true):KW n a=true:=by
 rw[RA hd] at h
 rw[UB hd]
 simp only[decide_eq_true_eq] at h ⊢
 cases r<;>simp at h<;>omega
theorem KF {a:Int} {n:Nd} {r:Bool} (hd:n.d≤33) (h:KW n a=true):KW (Bj n r) a=(r == Rl n a):=by
 rw[UB hd] at h
 rw[RA hd]
 unfold Rl
 simp only[decide_eq_true_eq] at h
 generalize a/2^(33-n.d).toNat=x at *
 have h2:x%2=0∨x%2=1:=by omega
 cases r<;>rcases h2 with h2|h2<;>simp[h2]<;>omega
def OT (S:List Int) (n:Nd):Bool:=S.any fun a=>KW n a
theorem RB {S:List Int} {n:Nd} {r:Bool} (hd:n.d≤33) (h:OT S n=false):OT S (Bj n r)=false:=by
 unfold OT at h ⊢
 rw[List.any_eq_false] at h ⊢
 exact fun a ha hc=>h a ha (GJ hd hc)
def Cu (S:List Int):Nat→Nd→List Nd
 | 0,n=>if OT S n then [] else [n]
 | k+1,n=>if OT S n then Cu S k (Bj n false)++Cu S k (Bj n true) else [n]
def oth (a:Int):Nat→Nd→List Nd
 | 0,_=>[]
 | k+1,n=>if Rl n a then Bj n false::oth a k (Bj n true) else oth a k (Bj n false)++[Bj n true]
def pun (a:Int) (l:List Nd):List Nd:=l.flatMap fun n=>if KW n a then oth a (34-n.d).toNat n else [n]
theorem Cy {S:List Int} {n:Nd} (k:Nat) (h:OT S n=false):Cu S k n=[n]:=by
 cases k<;>simp[Cu,h]
theorem FB (a:Int) (S:List Int) (n:Nd):OT (a::S) n=(KW n a||OT S n):=by simp[OT]
theorem ZF {S:List Int} {a:Int} (k:Nat):∀n:Nd,n.d=34-k→OT S n=false→KW n a=true→oth a k n=Cu (a::S) k n:=by
 induction k with
 | zero=>intro n hd hs hc;simp[oth,Cu,FB,hc]
 | succ k ih =>
  intro n hd hs hc
  have h33:n.d≤33:=by omega
  have c0:=KF (r:=false) h33 hc
  have c1:=KF (r:=true) h33 hc
  have s0:=RB (r:=false) h33 hs
  have s1:=RB (r:=true) h33 hs
  have d0:∀r,(Bj n r).d=34-(k:Int):=fun r=>by simp[Bj];omega
  simp only[oth,Cu,FB,hc,Bool.true_or,if_true]
  cases hb:Rl n a with
  | true =>
   rw[hb] at c0 c1
   simp only[if_true]
   rw[ih _ (d0 true) s1 (by rw[c1];rfl),Cy k (n:=Bj n false) (by rw[FB,c0,s0];rfl)]
   rfl
  | false =>
   rw[hb] at c0 c1
   simp only[Bool.false_eq_true,if_false]
   rw[ih _ (d0 false) s0 (by rw[c0];rfl),Cy k (n:=Bj n true) (by rw[FB,c1,s1];rfl)]
theorem AGK {S:List Int} {a:Int} (k:Nat):∀n:Nd,n.d=34-k→pun a (Cu S k n)=Cu (a::S) k n:=by
 induction k with
 | zero =>
  intro n hd
  cases hs:OT S n with
  | true=>simp[Cu,hs,FB,pun]
  | false =>
   rw[Cy 0 hs]
   cases hc:KW n a with
   | true=>simp[pun,hc,hd,Cu,FB,oth]
   | false=>simp[pun,hc,Cu,FB,hs]
 | succ k ih =>
  intro n hd
  cases hs:OT S n with
  | true =>
   have d0:∀r,(Bj n r).d=34-(k:Int):=fun r=>by simp[Bj];omega
   have h0:=ih _ (d0 false)
   have h1:=ih _ (d0 true)
   simp only[Cu,hs,FB,Bool.or_true,if_true]
   rw[←h0,←h1]
   simp[pun]
  | false =>
   rw[Cy _ hs]
   cases hc:KW n a with
   | true =>
    rw[←ZF (k+1) n hd hs hc]
    simp only[pun,List.flatMap_cons,List.flatMap_nil,hc,if_true,List.append_nil]
    rw[show(34-n.d).toNat=k+1 by omega]
   | false =>
    rw[Cy _ (by rw[FB,hc,hs];rfl)]
    simp[pun,hc]
theorem ZG {S:List Int} {a:Int} (k:Nat):∀n:Nd,n.d=34-k→∀m∈Cu S k n,KW m a=true→KW n a=true:=by
 induction k with
 | zero =>
  intro n hd m hm hc
  simp only[Cu] at hm
  split at hm
  · cases hm
  · obtain rfl:=List.mem_singleton.1 hm;exact hc
 | succ k ih =>
  intro n hd m hm hc
  have d0:∀r,(Bj n r).d=34-(k:Int):=fun r=>by simp[Bj];omega
  simp only[Cu] at hm
  split at hm
  · rcases List.mem_append.1 hm with hm|hm
    · exact GJ (by omega) (ih _ (d0 false) m hm hc)
    · exact GJ (by omega) (ih _ (d0 true) m hm hc)
  · obtain rfl:=List.mem_singleton.1 hm;exact hc
theorem ZH {S:List Int} {a:Int} (ha:a∈S) (k:Nat):∀n:Nd,∀m∈Cu S k n,KW m a=false:=by
 induction k with
 | zero =>
  intro n m hm
  simp only[Cu] at hm
  split at hm
  · cases hm
  · rename_i hs
    obtain rfl:=List.mem_singleton.1 hm
    simp only[OT,Bool.not_eq_true,List.any_eq_false] at hs
    simpa using hs a ha
 | succ k ih =>
  intro n m hm
  simp only[Cu] at hm
  split at hm
  · rcases List.mem_append.1 hm with hm|hm
    · exact ih _ m hm
    · exact ih _ m hm
  · rename_i hs
    obtain rfl:=List.mem_singleton.1 hm
    simp only[OT,Bool.not_eq_true,List.any_eq_false] at hs
    simpa using hs a ha
theorem Nc {S:List Int} {a:Int} (ha:a∈S) (k:Nat) (n:Nd):(Cu S k n).find? (fun m=>KW m a)=none:=
 List.find?_eq_none.2 fun m hm=>by rw[ZH ha k n m hm];simp
theorem WM {S:List Int} {a:Int} (ha:a ∉ S) (k:Nat):∀n:Nd,n.d=34-k→KW n a=true→∃m,(Cu S k n).find? (fun m=>KW m a)=some m∧Mm a (34-m.d).toNat m=Mm a k n:=by
 induction k with
 | zero =>
  intro n hd hc
  cases hs:OT S n with
  | false=>exact⟨n,by simp[Cu,hs,hc],by rw[show(34-n.d).toNat=0 by omega]⟩
  | true =>
   unfold OT at hs
   obtain⟨x,hx,hxc⟩:=List.any_eq_true.1 hs
   unfold KW at hc hxc
   rw[show(34-n.d).toNat=0 by omega] at hc hxc
   simp at hc hxc
   exact absurd (by rw[hc,←hxc];exact hx) ha
 | succ k ih =>
  intro n hd hc
  have d0:∀r,(Bj n r).d=34-(k:Int):=fun r=>by simp[Bj];omega
  have c0:=KF (r:=false) (n:=n) (by omega) hc
  have c1:=KF (r:=true) (n:=n) (by omega) hc
  cases hs:OT S n with
  | false=>exact⟨n,by rw[Cy _ hs];simp[hc],by rw[show(34-n.d).toNat=k+1 by omega]⟩
  | true =>
   simp only[Cu,hs,if_true,List.find?_append,Mm]
   cases hb:Rl n a with
   | false =>
    rw[hb] at c0
    obtain⟨m,h1,h2⟩:=ih _ (d0 false) c0
    exact⟨m,by rw[h1];rfl,h2⟩
   | true =>
    rw[hb] at c0 c1
    obtain⟨m,h1,h2⟩:=ih _ (d0 true) c1
    refine⟨m,?_,h2⟩
    rw[List.find?_eq_none.2 (fun x hx=>by
     intro hxc
     have:=ZG k _ (d0 false) x hx hxc
     rw[c0] at this
     cases this),h1]
    rfl
def Xk (S:List Int) (n:Nd):Nat:=(S.filter fun a=>KW n a).length
theorem OU {S:List Int} {n:Nd}:Xk S n=0↔OT S n=false:=by
 unfold Xk OT
 rw[List.length_eq_zero_iff,List.filter_eq_nil_iff,List.any_eq_false]
theorem ZI (S:List Int) {n:Nd} (hd:n.d≤33):Xk S (Bj n false)+Xk S (Bj n true)=Xk S n:=by
 induction S with
 | nil=>rfl
 | cons a S ih =>
  unfold Xk at ih ⊢
  simp only[List.filter_cons]
  cases hc:KW n a with
  | false =>
   have h0:∀r,KW (Bj n r) a=false:=fun r=>by
    cases h:KW (Bj n r) a with
    | false=>rfl
    | true=>rw[GJ hd h] at hc;cases hc
   simp only[h0,Bool.false_eq_true,if_false]
   exact ih
  | true =>
   have c0:=KF (r:=false) hd hc
   have c1:=KF (r:=true) hd hc
   cases hb:Rl n a<;>rw[hb] at c0 c1<;>simp[c0,c1]<;>omega
theorem ZJ {S:List Int} (k:Nat):∀n:Nd,n.d=34-k→(Cu S k n).length≤if Xk S n=0 then 1 else k*Xk S n:=by
 induction k with
 | zero =>
  intro n hd
  cases hs:OT S n with
  | false=>rw[Cy _ hs,if_pos (OU.2 hs)];simp
  | true=>simp[Cu,hs]
 | succ k ih =>
  intro n hd
  have d0:∀r,(Bj n r).d=34-(k:Int):=fun r=>by simp[Bj];omega
  cases hs:OT S n with
  | false=>rw[Cy _ hs,if_pos (OU.2 hs)];simp
  | true =>
   have hz:Xk S n≠0:=fun h=>by rw[OU.1 h] at hs;cases hs
   have h0:=ih _ (d0 false)
   have h1:=ih _ (d0 true)
   have hc:=ZI S (n:=n) (by omega)
   rw[if_neg hz]
   simp only[Cu,hs,if_true,List.length_append]
   rw[←hc] at hz ⊢
   generalize Xk S (Bj n false)=x at *
   generalize Xk S (Bj n true)=y at *
   rw[Nat.mul_add,Nat.succ_mul,Nat.succ_mul]
   split at h0<;>split at h1
   · omega
   · subst_vars;omega
   · subst_vars;omega
   · omega
theorem WN (c:Int) (l m:List Nd):KY c (l++m)=(KY c l).bind fun c=>KY c m:=by
 induction l generalizing c with
 | nil=>simp[KY]
 | cons x l ih =>
  simp only[List.cons_append,KY]
  cases CR c x with
  | none=>rfl
  | some d=>simp[ih]
theorem UC {n:Nd} (hd:n.d≤33):(2:Int)^(34-n.d).toNat=2*2^(33-n.d).toNat:=by
 rw[show(34-n.d).toNat=(33-n.d).toNat+1 by omega,Int.pow_succ,Int.mul_comm]
theorem OY {n:Nd} (r:Bool) (hd:n.d≤33):lo (Bj n r)=lo n+(if r then 2^(33-n.d).toNat else 0):=by
 unfold lo Bj
 simp only
 rw[show(34-(n.d+1)).toNat=(33-n.d).toNat by omega,UC hd,Int.add_mul]
 have e:n.p*(2*2^(33-n.d).toNat)=2*n.p*2^(33-n.d).toNat:=by rw[←Int.mul_assoc,Int.mul_comm n.p 2]
 rw[e]
 cases r<;>simp
theorem AEa (n:Nd):hi n=lo n+2^(34-n.d).toNat:=by unfold hi lo;rw[Int.add_mul];simp
theorem UD {n:Nd} (r:Bool) (hd:n.d≤33):hi (Bj n r)=lo n+(if r then 2^(34-n.d).toNat else 2^(33-n.d).toNat):=by
 rw[AEa,OY r hd]
 rw[show(34-(Bj n r).d).toNat=(33-n.d).toNat by simp[Bj];omega,UC hd]
 cases r<;>simp<;>omega
theorem ZK {S:List Int} (k:Nat):∀(n:Nd) (c:Int),n.d=34-k→NZ n=true→0≤c→c≤lo n→∃e,KY c (Cu S k n)=some e∧c≤e∧e≤hi n:=by
 induction k with
 | zero =>
  intro n c hd ho h0 hc
  have:=Lm n
  cases hs:OT S n with
  | false=>exact⟨hi n,by rw[Cy _ hs];simp[KY,AAs ho hc h0],by omega,by omega⟩
  | true=>exact⟨c,by simp[Cu,hs,KY],by omega,by omega⟩
 | succ k ih =>
  intro n c hd ho h0 hc
  have:=Lm n
  have h33:n.d≤33:=by omega
  have d0:∀r,(Bj n r).d=34-(k:Int):=fun r=>by simp[Bj];omega
  cases hs:OT S n with
  | false=>exact⟨hi n,by rw[Cy _ hs];simp[KY,AAs ho hc h0],by omega,by omega⟩
  | true =>
   have l0:=OY (n:=n) false h33
   have l1:=OY (n:=n) true h33
   have e0:=UD (n:=n) false h33
   have e1:=UD (n:=n) true h33
   have hh:=AEa n
   simp only[Bool.false_eq_true,if_false,if_true] at l0 l1 e0 e1
   obtain⟨x,h1,h2,h3⟩:=ih _ c (d0 false) (IP false ho h33) h0 (by omega)
   obtain⟨y,h4,h5,h6⟩:=ih _ x (d0 true) (IP true ho h33) (by omega) (by omega)
   refine⟨y,?_,by omega,by omega⟩
   simp only[Cu,hs,if_true,WN,h1]
   exact h4
def LF (k:List Nat):Nd:=⟨0,0,k⟩
theorem OZ (k:List Nat):NZ (LF k)=true:=by rw[Ii];simp[LF]
theorem AAv {a:Int} (k:List Nat) (h:CV a=true):KW (LF k) a=true:=by
 unfold CV at h
 simp only[Bool.and_eq_true,decide_eq_true_eq] at h
 unfold KW LF
 simp only[Int.sub_zero,decide_eq_true_eq]
 have e:(2:Int)^(34:Int).toNat=17179869184:=by decide
 rw[e]
 omega
def tree (k:List Nat) (S:List Int):List Nd:=Cu S 34 (LF k)
theorem JW (k:List Nat):tree k []=[LF k]:=Cy 34 rfl
theorem AAw (k:List Nat) (S:List Int):(tree k S).length≤if Xk S (LF k)=0 then 1 else 34*Xk S (LF k):=ZJ 34 _ rfl
theorem AAx (k:List Nat) (S:List Int) (h:(tree k S).length≤32768):GB (tree k S)=true:=by
 obtain⟨e,h1,_,_⟩:=ZK (S:=S) 34 (LF k) 0 rfl (OZ k) (by decide) (ZE (OZ k))
 unfold GB
 unfold tree at h ⊢
 rw[h1]
 simp[h]
theorem AFK (S:List Int) (n:Nd):Xk S n≤S.length:=List.length_filter_le _ _
theorem UE (k:List Nat) (S:List Int) (h:S.length≤900):GB (tree k S)=true:=by
 have h1:=AAw k S
 have h2:=AFK S (LF k)
 refine AAx k S ?_
 split at h1<;>omega
theorem ZL (k:List Nat) (S:List Int) (a:Int) (hv:GB (tree k S)=true) (ha:CV a=true) :
   Cs (tree k S) a=if a∈S then (AS,10) else ((Mm a 34 (LF k)).k,0):=by
 obtain⟨_,e,he⟩:=AC6 hv
 have hf:(tree k S).find? (LD a)=(tree k S).find? (fun m=>KW m a):=by
   have:∀m∈tree k S,LD a m=KW m a:=fun m hm=>AAt (AC5 he m hm).1
   generalize tree k S=l at this
   induction l with
   | nil=>rfl
   | cons x l ih=>rw[List.find?_cons,List.find?_cons,this x (by simp),ih (fun m hm=>this m (by simp[hm]))]
 unfold Cs
 rw[ha,hv,if_pos (by rfl),hf]
 by_cases hm:a∈S
 · rw[if_pos hm]
   rw[show(tree k S).find? (fun m=>KW m a)=none from Nc hm 34 _]
 · rw[if_neg hm]
   obtain⟨m,h1,h2⟩:=WM hm 34 (LF k) rfl (AAv k ha)
   rw[show(tree k S).find? (fun m=>KW m a)=some m from h1]
   simp only
   rw[h2]
theorem AFL {n:Nd} (h:NZ n=true) (hk:Dg n.k):Nok n:=by
 have hp:=AEX h
 obtain⟨h1,h2,h3,h4⟩:=Ii.1 h
 exact⟨hk,⟨by omega,by omega⟩,⟨by omega,by omega⟩⟩
theorem UF (n:Nd) (r:Bool):Dg (Bj n r).k:=Q4 _ _
theorem AAy {S:List Int} (k:Nat):∀n:Nd,n.d=34-k→NZ n=true→Dg n.k→∀m∈Cu S k n,NZ m=true∧Dg m.k:=by
 induction k with
 | zero =>
  intro n hd ho hk m hm
  simp only[Cu] at hm
  split at hm
  · cases hm
  · obtain rfl:=List.mem_singleton.1 hm;exact⟨ho,hk⟩
 | succ k ih =>
  intro n hd ho hk m hm
  have h33:n.d≤33:=by omega
  have d0:∀r,(Bj n r).d=34-(k:Int):=fun r=>by simp[Bj];omega
  simp only[Cu] at hm
  split at hm
  · rcases List.mem_append.1 hm with hm|hm
    · exact ih _ (d0 false) (IP _ ho h33) (UF _ _) m hm
    · exact ih _ (d0 true) (IP _ ho h33) (UF _ _) m hm
  · obtain rfl:=List.mem_singleton.1 hm;exact⟨ho,hk⟩
theorem AC0 {k:List Nat} {S:List Int} (hk:Dg k):∀m∈tree k S,Nok m:=fun m hm =>
 let h:=AAy 34 (LF k) rfl (OZ k) hk m hm
 AFL h.1 h.2
end Go.Proofs.YtbfjfnbcmojpiaaGreat
namespace Go.Proofs.YtbfjfnbcmojpiaaGreat
section
open Go.RowKit Go.Shelf
end
section
open Go.RowKit Go.Shelf
attribute [local go_sem] Oper.semAt_some
theorem AFF:ET Tryz.prog 54 132 (Fo ⟨0,0,zs 32⟩) 34 48:=⟨Tryz.underlying54,info_parts (by kernel_rfl),rfl,by decide,by decide⟩
theorem WH (n:Nd):(CO n).all Value.oneCell'=true:=by
 unfold CO
 rw[List.all_cons,List.all_cons,List.all_eq_true.2 (fun v hv=>GF n.k v hv)]
 rfl
theorem Own.skip {w w':World} {e:TypeId} {sz:Nat} {v:Value} {n:Nat} {xs:List Value} {row:Option Nat} (h:Own w e sz v n xs) (g:w.grownBy w' row) (hne:∀k,v.ownBlock=some k→row≠some k):Own w' e sz v n xs:=
 h.kept g (by
  cases hv:v.ownBlock with
  | none=>exact .inl rfl
  | some k=>exact .inr (fun e=>hne k hv e.symm))
end
section
open Go.RowKit Go.Shelf
attribute [local go_sem] Oper.semAt_some
theorem AHj (v:Value) (h:v.oneCell'=true):TY Tryz.prog 54 [v] v:=TY.one' Tryz.underlying54 rfl (by kernel_rfl) h
theorem T6 (l:List Nd):(FT l).all Value.oneCell'=true:=by unfold FT;rw[List.all_flatMap];simp[WH]
end
section
open Go.RowKit
def ZB (ops:Array Oper) (n:Nat):Bool:=
 (List.range ops.size).all fun i=>match ops[i]? with
  | none=>true
  | some o =>
   (o.after.toList.all fun e=>!Region.binds .any e||decide (e.on<i)) &&
   (match o.dst with|none=>true|some d=>decide (d<n)) &&
   (List.range ops.size).all fun j=>match ops[j]? with
    | none=>true
    | some oj=>match oj.dst with
     | none=>true
     | some d=>(i == j||o.dst != some d)&&(!(o.looksAt ops).contains d||o.after.toList.any fun e=>e.on == j&&Region.binds .any e)
theorem IQ {ops:Array Oper} {n:Nat} (h:ZB ops n=true) {i:Nat} {o:Oper} (hi:ops[i]?=some o) :
   (∀e∈o.after.toList,Region.binds .any e=true→e.on<i)∧(∀d,o.dst=some d→d<n) ∧
   (∀j oj d,ops[j]?=some oj→oj.dst=some d→(i=j∨o.dst≠some d)∧(d∈o.looksAt ops→∃e∈o.after.toList,e.on=j∧Region.binds .any e=true)):=by
 have hlt:i<ops.size:=(Array.getElem?_eq_some_iff.1 hi).1
 have h1:=List.all_eq_true.1 h i (List.mem_range.2 hlt)
 simp only[hi,Bool.and_eq_true] at h1
 obtain⟨⟨h2,h3⟩,h4⟩:=h1
 refine⟨fun e he hb=>?_,fun d hd=>by simpa [hd] using h3,fun j oj d hj hd=>?_⟩
 · have h5:=List.all_eq_true.1 h2 e he
   rw[hb] at h5
   simpa using h5
 have hjl:j<ops.size:=(Array.getElem?_eq_some_iff.1 hj).1
 have h5:=List.all_eq_true.1 h4 j (List.mem_range.2 hjl)
 simp only[hj,hd,Bool.and_eq_true,Bool.or_eq_true,beq_iff_eq,bne_iff_ne,Bool.not_eq_true'] at h5
 refine⟨h5.1,fun hl=>?_⟩
 rcases h5.2 with h6|h6
 · rw[List.contains_iff_mem.2 hl] at h6;cases h6
 · obtain⟨e,he,h7⟩:=List.any_eq_true.1 h6
   simp only[Bool.and_eq_true,beq_iff_eq] at h7
   exact⟨e,he,h7⟩
def AFG (ops:Array Oper) (i:Nat):Array Bool:=((List.range ops.size).map fun j=>match ops[i]? with|some oi=>oi.after.toList.any fun e=>Region.binds .any e&&e.on == j|none=>false).toArray
def Xh (ops:Array Oper) (i:Nat):Bool:=Region.free .any ops (AFG ops i) i
theorem WI {ops:Array Oper} {i:Nat} {o:Oper} (ho:ops[i]?=some o) (h:Xh ops i=true) (listed:Array Bool) (hl:∀e∈o.after.toList,Region.binds .any e=true→listed.getD e.on false=true):Region.free .any ops listed i=true:=by
 unfold Xh Region.free at h
 unfold Region.free
 simp only[ho] at h ⊢
 rw[List.all_eq_true] at h ⊢
 intro j hj
 have h1:=h j hj
 have hjl:=List.mem_range.1 hj
 have e:(AFG ops i).getD j true=o.after.toList.any fun e=>Region.binds .any e&&e.on == j:=by
   unfold AFG
   simp[Array.getD_eq_getD_getElem?,List.getElem?_range hjl,ho]
 rw[e] at h1
 simp only[Bool.or_eq_true] at h1 ⊢
 rcases h1 with (h1|h1)|h1
 · exact .inl (.inl h1)
 · obtain⟨e,he,h2⟩:=List.any_eq_true.1 h1
   simp only[Bool.and_eq_true,beq_iff_eq] at h2
   have h3:=hl e he h2.1
   rw[h2.2] at h3
   refine .inl (.inr ?_)
   rw[Array.getD_eq_getD_getElem?] at h3 ⊢
   cases h4:listed[j]? with
   | none=>rfl
   | some x=>rw[h4] at h3;simpa using h3
 · exact .inr h1
def AAk (ops:Array Oper) (k:Nat) (pu:List Nat):Bool:=
 decide (k<ops.size)&&AEY .any ops k ((List.range k).filter fun i=>!pu.contains i)&&Region.chainB .any ops k&&Region.seqB .any ops (ops.size-k) k ((List.range ops.size).map fun i=>decide (i<k)).toArray&&Region.noSelect ops&&pu.all fun i=>decide (i<k)&&Xh ops i
section
variable {P:Program} {Q:Exit→Act→World→Prop} {ops:Array Oper}
theorem AAl {a0:Act} {w0:World} {l:List Oper} (hl:ops=l.toArray) (n k:Nat) (L:List Sp) (hn:a0.tmps.size=n) (hB:ZB ops n=true) (pu:List Nat) (hT:AAk ops k pu=true)
   (hQp:∀c a d v w,Q (.panic c) (Act.put a d v) w→Q (.panic c) a w)
   (al:List Nat) (hal:∀t∈al,t<n∧(∀w u,At L t w u→∃A,u=.pointer (some ⟨A,0,none⟩)∧A<w.heap.size)∧∃(i:Nat) (o:Oper),i<k∧ops[i]?=some o∧o.dst=some t)
   (hrun:∀(i:Nat) (o:Oper),i<k→ops[i]?=some o→∀d∈al,o.dst=some d→Lays P o)
   (hpal:∀i∈pu,∀(o:Oper),ops[i]?=some o→∀d∈al,o.dst≠some d)
   (obp:∀i∈pu,∀(o:Oper),ops[i]?=some o→∀a w,w0.grownBy w none→(∀t∈o.looksAt ops,t<n→At L t w (a.tmps.getD t undef))→a.tmps.size=n→∃v,Yields P ops o v a∧∀d,o.dst=some d→At L d w v)
   (h0:∀t,t<n→(∀(i:Nat) (o:Oper),i<k→ops[i]?=some o→o.dst≠some t)→At L t w0 (a0.tmps.getD t undef))
   (ob:∀(i:Nat) (o:Oper),i<k→ops[i]?=some o→∀a w,w0.grownBy w none→(∀t∈o.looksAt ops,t<n→At L t w (a.tmps.getD t undef))→a.tmps.size=n →
     OpSays P ops o a w fun v w'=>w.grownBy w' none∧∀d,o.dst=some d→At L d w' v)
   (hQ:∀a w,w0.grownBy w none→a.defers=a0.defers→a.tmps.size=n→(∀t,t<n→At L t w (a.tmps.getD t undef))→(∀t∈al,∀u∈al,t≠u→a.tmps.getD t undef≠a.tmps.getD u undef)→wpList P ops Q (l.drop k) a w) :
   wpAny P .any ops Q ops.size (Array.replicate ops.size false) a0 { w0 with drawn:=w0.drawn+1 }:=by
 unfold AAk at hT
 simp only[Bool.and_eq_true,decide_eq_true_eq] at hT
 obtain⟨⟨⟨⟨⟨hk,hs⟩,hc⟩,hseq⟩,hsel⟩,hpu⟩:=hT
 have hput:∀i∈pu,i<k∧Xh ops i=true:=fun i hi=>by
   have h1:=List.all_eq_true.1 hpu i hi
   simp only[Bool.and_eq_true,decide_eq_true_eq] at h1
   exact h1
 have key:∀(f:Nat) (listed:Array Bool) (a:Act) (w:World),HeadInv .any ops k listed→(∃l:List Nat,l.Nodup∧l.length=f∧∀i,i∈l↔i<k∧listed.getD i true=false) →
     w0.grownBy w none→a.defers=a0.defers→a.tmps.size=n →
     (∀t,t<n→((∀(i:Nat) (o:Oper),i<k→ops[i]?=some o→o.dst≠some t)∨Lst ops k listed t)→At L t w (a.tmps.getD t undef)) →
     (∀t∈al,∀u∈al,t≠u→Lst ops k listed t→Lst ops k listed u→a.tmps.getD t undef≠a.tmps.getD u undef) →
     wpAny P .any ops Q (f+(ops.size-k)) listed a w:=by
   intro f
   induction f with
   | zero =>
     intro listed a w inv hf hg hd has hkn hdi
     obtain⟨u,hu1,hu2,hu3⟩:=hf
     obtain rfl:=List.eq_nil_of_length_eq_zero hu2
     have all:∀i,i<k→listed.getD i false=true:=fun i hi=>by
       cases h:listed.getD i false with
       | true=>rfl
       | false =>
         have h1:=getD_in (by rw[inv.size];omega) h
         have h2:=(hu3 i).2 ⟨hi,h1⟩
         cases h2
     have he:listed=((List.range ops.size).map fun i=>decide (i<k)).toArray:=by
       apply Array.ext
       · simp[inv.size]
       · intro i h1 h2
         have hi:i<ops.size:=by rw[←inv.size];exact h1
         simp only[List.getElem_toArray,List.getElem_map,List.getElem_range]
         by_cases hik:i<k
         · have:=all i hik
           simp[h1] at this
           simp[hik,this]
         · have:=inv.tail i (by omega) hi
           simp[h1] at this
           simp[hik,this]
     rw[Nat.zero_add]
     have hdl:(l.drop k).length=ops.size-k:=by rw[hl];simp
     have hq:=hQ a w hg hd has (fun t ht=>hkn t ht (by
       by_cases hex:∃(j:Nat) (oj:Oper),j<k∧ops[j]?=some oj∧oj.dst=some t
       · obtain⟨j,oj,hj,hjo,hdj⟩:=hex
         exact .inr ⟨j,oj,hj,hjo,hdj,all j hj⟩
       · exact .inl fun j oj hj hjo hdj=>hex ⟨j,oj,hj,hjo,hdj⟩)) (fun t ht u hu htu=>hdi t ht u hu htu
         (by obtain⟨i,o,h1,h2,h3⟩:=(hal t ht).2.2;exact⟨i,o,h1,h2,h3,all i h1⟩) (by obtain⟨i,o,h1,h2,h3⟩:=(hal u hu).2.2;exact⟨i,o,h1,h2,h3,all i h1⟩))
     have:=wpAny_of_seq (md:=.any) (Q':=Q) (l.drop k) k listed a w (fun j=>by rw[hl];simp[List.getElem?_drop]) (by rw[hdl,he];exact hseq) hq
     rwa [hdl] at this
   | succ f ih =>
     intro listed a w inv hf hg hd has hkn hdi
     obtain⟨u,hu1,hu2,hu3⟩:=hf
     obtain⟨z0,hz0⟩:∃z,z∈u:=List.exists_mem_of_length_pos (by omega)
     have hz03:=(hu3 z0).1 hz0
     obtain⟨z,hzk,hzl,hzr⟩:∃z,z<k∧listed.getD z true=false∧z∈Region.ready .any ops listed:=by
       have key2:∀i,i<k→listed.getD i true=false→∃z,z<k∧listed.getD z true=false∧z∈Region.ready .any ops listed:=by
         intro i
         induction i using Nat.strongRecOn with
         | _ i ih2 =>
           intro hi hli
           by_cases hex:∃j,j<i∧listed.getD j true=false
           · obtain⟨j,hj,hlj⟩:=hex
             exact ih2 j hj (by omega) hlj
           · have hio:i<ops.size:=by omega
             have ho:ops[i]?=some ops[i]:=Array.getElem?_eq_getElem hio
             refine⟨i,hi,hli,mem_ready.2 ⟨hli,ops[i],ho,fun e he hb=>?_⟩⟩
             have hlt:=(IQ hB ho).1 e (by simpa using he) hb
             cases hle:listed.getD e.on false with
             | true=>rfl
             | false=>exact absurd ⟨e.on,hlt,getD_in (by rw[inv.size];omega) hle⟩ hex
       exact key2 z0 hz03.1 hz03.2
     have hne:Region.ready .any ops listed≠[]:=fun hr=>by rw[hr] at hzr;cases hzr
     rw[show f+1+(ops.size-k)=(f+(ops.size-k))+1 by omega]
     by_cases hpr:∃i∈pu,i∈Region.ready .any ops listed
     · obtain⟨i,hipu,hi⟩:=hpr
       obtain⟨h1,o,ho,hready⟩:=mem_ready.1 hi
       have hik:=(hput i hipu).1
       obtain⟨s1,s2,s3⟩:=IQ hB ho
       obtain⟨v,hy,hv⟩:=obp i hipu o ho a w hg (fun t ht htn=>hkn t htn (by
         by_cases hex:∃(j:Nat) (oj:Oper),j<k∧ops[j]?=some oj∧oj.dst=some t
         · obtain⟨j,oj,hjz,hj,hdj⟩:=hex
           obtain⟨e,he,rfl,hb⟩:=(s3 j oj t hj hdj).2 ht
           exact .inr ⟨e.on,oj,hjz,hj,hdj,hready e (by simpa using he) hb⟩
         · exact .inl fun j oj hjz hj hdj=>hex ⟨j,oj,hjz,hj,hdj⟩)) has
       refine wpAny_take ho hsel (WI ho (hput i hipu).2 listed fun e he hb=>hready e (by simpa using he) hb) (by simpa using hi) (fun c a w h=>hQp c a _ _ w h) hy ?_
       have hlst:∀t,o.dst≠some t→Lst ops k (listed.setIfInBounds i true) t→Lst ops k listed t:=fun t hdt ⟨j,oj,hjz,hj,hdj,hlj⟩=>by
         refine⟨j,oj,hjz,hj,hdj,?_⟩
         have hne:i≠j:=fun e=>hdt (by subst e;rw[ho] at hj;obtain rfl:=Option.some.inj hj;exact hdj)
         rwa [getD_set_ne false hne] at hlj
       refine ih _ _ _ (inv.set hi hik) ⟨u.erase i,hu1.erase i,?_,fun j=>?_⟩ hg (by cases ho':o.dst<;>simp[Act.put,hd]) (by cases ho':o.dst<;>simp[Act.put,has]) ?_ ?_
       · rw[List.length_erase_of_mem ((hu3 i).2 ⟨hik,h1⟩),hu2];rfl
       · rw[hu1.mem_erase_iff,hu3 j]
         by_cases hji:j=i
         · subst hji
           constructor
           · rintro ⟨h,_⟩;exact absurd rfl h
           · rintro ⟨_,h⟩
             rw[Array.getD_eq_getD_getElem?,Array.getElem?_setIfInBounds_self_of_lt (by rw[inv.size];omega)] at h
             cases h
         · rw[getD_set_ne true (Ne.symm hji)]
           exact⟨fun h=>h.2,fun h=>⟨hji,h⟩⟩
       · intro t htn hor
         rw[EG a o.dst v t (fun d hd=>has▸s2 d hd)]
         by_cases hdt:o.dst=some t
         · rw[if_pos hdt]
           exact hv t hdt
         · rw[if_neg hdt]
           exact hkn t htn (hor.elim .inl fun h=>.inr (hlst t hdt h))
       · intro t ht x hx htx hlt hlx
         have n1:=hpal i hipu o ho t ht
         have n2:=hpal i hipu o ho x hx
         rw[EG a o.dst v t (fun d hd=>has▸s2 d hd),EG a o.dst v x (fun d hd=>has▸s2 d hd),if_neg n1,if_neg n2]
         exact hdi t ht x hx htx (hlst t n1 hlt) (hlst x n2 hlx)
     refine⟨fun hr=>absurd hr hne,fun i hi=>?_⟩
     obtain⟨h1,o,ho,hready⟩:=mem_ready.1 hi
     have hzn:z ∉ pu:=fun h=>hpr ⟨z,h,hzr⟩
     have hik:i<k:=by
       rcases Nat.lt_or_ge i k with h|h
       · exact h
       · exact absurd hi (T7 hs hc hk inv _ z rfl (List.mem_filter.2 ⟨List.mem_range.2 hzk,by simpa using hzn⟩) hzk hzl i h)
     obtain⟨s1,s2,s3⟩:=IQ hB ho
     have hsay:=ob i o hik ho a w hg (fun t ht htn=>hkn t htn (by
       by_cases hex:∃(j:Nat) (oj:Oper),j<k∧ops[j]?=some oj∧oj.dst=some t
       · obtain⟨j,oj,hjz,hj,hdj⟩:=hex
         obtain⟨e,he,rfl,hb⟩:=(s3 j oj t hj hdj).2 ht
         exact .inr ⟨e.on,oj,hjz,hj,hdj,hready e (by simpa using he) hb⟩
       · exact .inl fun j oj hjz hj hdj=>hex ⟨j,oj,hjz,hj,hdj⟩)) has
     have hsay2:OpSays P ops o a w fun v w'=>(w.grownBy w' none∧∀d,o.dst=some d→At L d w' v)∧∀d∈al,o.dst=some d→v=.pointer (some ⟨w.heap.size,0,none⟩):=by
       by_cases hex:∃d∈al,o.dst=some d
       · obtain⟨d,hda,hdd⟩:=hex
         exact((hrun i o hik ho d hda hdd).says hsay).mono fun v w' h=>⟨h.1,fun _ _ _=>h.2⟩
       · exact hsay.mono fun v w' h=>⟨h,fun d hda hdd=>absurd ⟨d,hda,hdd⟩ hex⟩
     refine OpSays.wpOp ho hsay2 ?_
     · rintro v w' ⟨⟨hg',hv⟩,hva⟩
       have hlst:∀t,o.dst≠some t→Lst ops k (listed.setIfInBounds i true) t→Lst ops k listed t:=fun t hdt ⟨j,oj,hjz,hj,hdj,hlj⟩=>by
         refine⟨j,oj,hjz,hj,hdj,?_⟩
         have hne:i≠j:=fun e=>hdt (by subst e;rw[ho] at hj;obtain rfl:=Option.some.inj hj;exact hdj)
         rwa [getD_set_ne false hne] at hlj
       refine ih _ _ _ (inv.set hi hik) ⟨u.erase i,hu1.erase i,?_,fun j=>?_⟩ (AA hg hg') (by cases ho':o.dst<;>simp[Act.put,hd]) (by cases ho':o.dst<;>simp[Act.put,has]) ?_ ?_
       · rw[List.length_erase_of_mem ((hu3 i).2 ⟨hik,h1⟩),hu2];rfl
       · rw[hu1.mem_erase_iff,hu3 j]
         by_cases hji:j=i
         · subst hji
           constructor
           · rintro ⟨h,_⟩;exact absurd rfl h
           · rintro ⟨_,h⟩
             rw[Array.getD_eq_getD_getElem?,Array.getElem?_setIfInBounds_self_of_lt (by rw[inv.size];omega)] at h
             cases h
         · rw[getD_set_ne true (Ne.symm hji)]
           exact⟨fun h=>h.2,fun h=>⟨hji,h⟩⟩
       · intro t htn hor
         rw[EG a o.dst v t (fun d hd=>has▸s2 d hd)]
         by_cases hdt:o.dst=some t
         · rw[if_pos hdt]
           exact hv t hdt
         · rw[if_neg hdt]
           exact(L.getD t Sp.any).mono _ _ _ hg' (hkn t htn (hor.elim .inl fun h=>.inr (hlst t hdt h)))
       · have old:∀t∈al,o.dst≠some t→Lst ops k (listed.setIfInBounds i true) t→∀d∈al,o.dst=some d→a.tmps.getD t undef≠v:=fun t ht hdt hl d hda hdd e=>by
           obtain⟨A,hA,hlt⟩:=(hal t ht).2.1 w _ (hkn t (hal t ht).1 (.inr (hlst t hdt hl)))
           rw[hA,hva d hda hdd] at e
           exact absurd e (by simp<;>omega)
         intro t ht x hx htx hlt hlx
         rw[EG a o.dst v t (fun d hd=>has▸s2 d hd),EG a o.dst v x (fun d hd=>has▸s2 d hd)]
         by_cases h1:o.dst=some t
         · rw[if_pos h1,if_neg (fun h=>htx (Option.some.inj (h1.symm.trans h)))]
           exact fun e=>old x hx (fun h=>htx (Option.some.inj (h1.symm.trans h))) hlx t ht h1 e.symm
         · rw[if_neg h1]
           by_cases h2:o.dst=some x
           · rw[if_pos h2];exact old t ht h1 hlt x hx h2
           · rw[if_neg h2];exact hdi t ht x hx htx (hlst t h1 hlt) (hlst x h2 hlx)
 have inv0:HeadInv .any ops k (Array.replicate ops.size false):=
   ⟨by simp,fun j oj _ hl=>(by rw[getD_replicate_false] at hl;cases hl),fun t _ ht=>getD_in (by simpa using ht) (getD_replicate_false _ _)⟩
 have:=key k (Array.replicate ops.size false) a0 { w0 with drawn:=w0.drawn+1 } inv0 ⟨List.range k,List.nodup_range,List.length_range,fun i=>by
   rw[List.mem_range]
   exact⟨fun h=>⟨h,getD_in (by simp;omega) (getD_replicate_false _ _)⟩,fun h=>h.1⟩⟩ (CZ w0) rfl hn (fun t ht hor=>by
   refine(L.getD t Sp.any).mono w0 _ _ (CZ w0) (h0 t ht ?_)
   rcases hor with h|⟨i,o,_,hi,_,hl⟩
   · exact h
   · rw[getD_replicate_false] at hl;cases hl) (fun t ht x hx htx ⟨i,o,_,hi,_,hl⟩=>by rw[getD_replicate_false] at hl;cases hl)
 rwa [show k+(ops.size-k)=ops.size by omega] at this
end
end
section
open Go.RowKit Go.Shelf
attribute [local go_sem] Oper.semAt_some
theorem ACz (c:Int) (n:Nd):CR c n=if NZ n=true∧¬lo n<c then some (hi n) else none:=by
 unfold CR E3
 by_cases ho:NZ n=true
 · rw[if_pos ho]
   have h1:lo n<hi n:=by
     have hq:(0:Int)<2^(34-n.d).toNat:=Int.pow_pos (by decide)
     unfold lo hi
     rw[Int.add_mul,Int.one_mul]
     omega
   rw[if_neg (fun e=>by rw[Prod.mk.injEq] at e;omega)]
   by_cases h2:lo n<c
   · rw[if_pos h2,if_neg (fun h=>h.2 h2)]
   · rw[if_neg h2,if_pos ⟨ho,h2⟩]
 · rw[if_neg ho,if_pos rfl,if_neg (fun h=>ho h.1)]
theorem AAm {l:List Nd} {k:Nat} {c:Int} (hk:k<l.length) (h:KY 0 (l.take k)=some c) (hs:CR c l[k]=none):GB l=false:=by
 have h1:KY 0 (l.take (k+1))=none:=by rw[List.take_succ_eq_append_getElem hk,OQ,h];exact hs
 have h2:KY 0 l=none:=by
  conv=>lhs;rw[←List.take_append_drop (k+1) l]
  exact Tz h1
 unfold GB
 rw[h2]
 simp
theorem AAn {l:List Nd} {k:Nat} {c d:Int} (hk:k<l.length) (h:KY 0 (l.take k)=some c) (hs:CR c l[k]=some d):KY 0 (l.take (k+1))=some d:=by
 rw[List.take_succ_eq_append_getElem hk,OQ,h];exact hs
theorem T8 (l:List Px) (s:Value) (w:World) (hR:RdL w s l) :
   Calls Tryz.prog 87 #[.agg #[s]] w fun e w'=>e=.returned (.bool (GB (l.map (·.1))))∧w.grownBy w' none:=by
 obtain⟨ao,cap,rfl,p1,p2⟩:=hR.shape
 have HR:=AH hR
 obtain⟨vl,hvl⟩:∃v,v=GB (l.map (·.1)):=⟨_,rfl⟩
 rw[←hvl]
 have HV:=AH hvl
 obtain⟨m,hm⟩:∃m,m=l.length:=⟨_,rfl⟩
 have hm0:m≤1099511627776:=by rw[hm];exact hR.2.2
 rw[←hm] at HR p1 ⊢
 have HM:=AH hm
 obtain⟨w1,hw1⟩:∃x,x=w.alloc (.cells #[.slice ao m cap] 56):=⟨_,rfl⟩
 have HG1:=AH (show w.grownBy w1 none by rw[hw1];exact World.grownBy_alloc _ _ _)
 have c0:w1.cell? ⟨w.heap.size,0,none⟩=some (.slice ao m cap):=by rw[hw1,AIk _ _ _ _ _ _ (World.alloc_heap_new w _)];rfl
 have y0:=AIj c0
 have C0:=AH c0
 have HG0:=AH (World.grownBy.refl w1 none)
 have HRUN:=AH (show KY 0 ((l.map (·.1)).take 0)=some 0 from rfl)
 clear hR hvl hm
 go_enter Tryz.func87,Tryz.ntmps87
 refine AIi fun K0 k0=>?_
 have HK0:=AH k0
 clear k0
 go_wp2
 rw[←hw1]
 refine HK0.out _ _ ?_
 clear HK0 hw1
 by_cases h1:32768<m
 · have t1:decide ((32768:Int)<(m:Int))=true:=by simp;omega
   have HZ:=AH (show vl=false by rw[HV.out];unfold GB;rw[List.length_map,←HM.out];simp;omega)
   clear h1
   go_wp2
   go_ret
   exact⟨by rw[HZ.out];rfl,HG1.out⟩
 have t1:decide ((32768:Int)<(m:Int))=false:=by simp;omega
 have HL3:=AH (show m≤32768 by omega)
 clear h1
 go_wp2
 clear t1
 go_loopw [3,4] (fun f i wr=>∃(k:Nat) (c:Int),k≤m∧f=.int .i64 c∧i=.int .i64 k∧Hid (w1.grownBy wr none)∧Hid (KY 0 ((l.map (·.1)).take k)=some c)) (fun _ i _=>(m-intOf i).toNat)
 case atStart=>exact⟨0,0,by omega,rfl,rfl,HG0,HRUN⟩
 case round =>
   clear HG0 HRUN c0 y0
   obtain⟨k,c,hk,rfl,rfl,HG,HRN⟩:=hrel
   have c0:=HG.out.cell C0.out (by simp)
   have y0:=AIj c0
   by_cases hlt:k<m
   · have hkl:k<(l.map (·.1)).length:=by rw[List.length_map,←HM.out];exact hlt
     have hsr:=(HR.out.kn HG1.out).kn HG.out
     obtain⟨b,off,rfl,hrg⟩:=hsr.1.range (i:=k) hkl
     have HRG:=AH hrg
     have HNK:=AH (hsr.1.2 _ (List.getElem_mem hkl))
     have HS1:=AH (show CR c (l.map (·.1))[k]=none→vl=false from fun h=>by rw[HV.out];exact AAm hkl HRN.out h)
     have HS2:=AH (show ∀d,CR c (l.map (·.1))[k]=some d→KY 0 ((l.map (·.1)).take (k+1))=some d from fun d h=>AAn hkl HRN.out h)
     rw[ACz] at HS1 HS2
     generalize (l.map (·.1))[k]=x at *
     have TN:=AH (Xe x HNK.out.1.1)
     have NL:=AH (CA x HNK.out.1.1)
     obtain⟨C,hC⟩:∃C,C=CO x:=⟨_,rfl⟩
     have HC:=AH hC
     have i0:(0:Int)≤(k:Int):=by omega
     have i1:(k:Int)<(m:Int):=by omega
     clear hsr hrg hkl hC
     refine AIi fun Ka ka=>?_
     have HKa:=AH ka
     clear ka
     refine AIi fun Kb kb=>?_
     have HKb:=AH kb
     clear kb
     go_wp2
     refine HKb.out _ _ ?_
     clear HKb
     go_wp2
     refine HKa.out _ _ ?_
     clear HKa
     refine AIi fun Kc kc=>?_
     have HKc:=AH kc
     clear kc
     refine wp_block ?_
     refine AIi fun Kd kd=>?_
     have HKd:=AH kd
     clear kd
     go_wp2_with (first
       | (refine Eg rfl 132 (.tmp 20) rfl rfl TN.out HRG.out ?_)
       | (refine AV rfl 132 (.tmp 5) (.tmp 21) rfl rfl rfl TN.out (Ah rfl) (by rw[NL.out];rfl) ?_;intro W2 g2 h2;have G2:=AH (AD (World.grownBy_alloc wr _ none) g2 (Nat.le_refl _));have H2:=AH h2;clear g2 h2)
       | fail)
     refine HKd.out _ _ ?_
     clear HKd
     go_frame
     refine AIi fun Ke ke=>?_
     have HKe:=AH ke
     clear ke
     refine AIi fun Kf kf=>?_
     have HKf:=AH kf
     clear kf
     obtain⟨c3,c4,y3⟩:=Mj H2.out
     obtain⟨d,p,kk⟩:=x
     simp only at c3 c4 HNK
     have hd:=HNK.out.2.1
     have hp:=HNK.out.2.2
     simp only at hd hp
     have hoi:=@Ii ⟨d,p,kk⟩
     simp only at hoi
     have HOI:=AH hoi
     have P2:∀m:Nat,m<35→wrap64 ((2:Int)^m)=2^m:=by decide +kernel
     clear hoi
     by_cases h1:d<0
     · have t1:decide (d<0)=true:=by simp;omega
       have HE:=AH (HS1.out (by rw[if_neg (fun h=>by have:=HOI.out.1 h.1;omega)]))
       clear HS1 HS2 P2 h1
       go_quiet ((exact Calls.quiet_of_same (J9 0 (by decide) _)))
       refine HKf.out _ _ ?_
       clear HKe HKf HKc
       go_wp2
       go_ret
       exact⟨by rw[HE.out];rfl,AA HG1.out (AA HG.out (AA G2.out (Bm _ _)))⟩
     by_cases h2:34<d
     · have t1:decide (d<0)=false:=by simp;omega
       have t2:decide (34<d)=true:=by simp;omega
       have HE:=AH (HS1.out (by rw[if_neg (fun h=>by have:=HOI.out.1 h.1;omega)]))
       clear HS1 HS2 P2 h1 h2
       go_quiet ((exact Calls.quiet_of_same (J9 0 (by decide) _)))
       refine HKf.out _ _ ?_
       clear HKe HKf HKc
       go_wp2
       go_ret
       exact⟨by rw[HE.out];rfl,AA HG1.out (AA HG.out (AA G2.out (Bm _ _)))⟩
     by_cases h3:p<0
     · have t1:decide (d<0)=false:=by simp;omega
       have t2:decide (34<d)=false:=by simp;omega
       have t3:decide (p<0)=true:=by simp;omega
       have HE:=AH (HS1.out (by rw[if_neg (fun h=>by have:=HOI.out.1 h.1;omega)]))
       clear HS1 HS2 P2 h1 h2 h3
       go_quiet ((exact Calls.quiet_of_same (J9 0 (by decide) _)))
       refine HKf.out _ _ ?_
       clear HKe HKf HKc
       go_wp2
       go_ret
       exact⟨by rw[HE.out];rfl,AA HG1.out (AA HG.out (AA G2.out (Bm _ _)))⟩
     obtain⟨e,rfl⟩:∃e:Nat,d=e:=⟨d.toNat,by omega⟩
     have he:e≤34:=by omega
     have t1:decide ((e:Int)<0)=false:=by simp
     have t2:decide ((34:Int)<(e:Int))=false:=by simp;omega
     have t3:decide (p<0)=false:=by simp;omega
     have i2:(0:Int)≤(e:Int):=by omega
     have i3:(e:Int)≤34:=by omega
     have hp2:=P2 e (by omega)
     have HSZ:=AH (fun w=>J9 e he w)
     have j1:(e:Int)<64:=by omega
     by_cases h4:(2:Int)^e≤p
     · have t4:decide (wrap64 ((2:Int)^e)≤p)=true:=by rw[hp2];simp[h4]
       have HE:=AH (HS1.out (by rw[if_neg (fun h=>by have:=HOI.out.1 h.1;rw[Int.toNat_natCast] at this;omega)]))
       clear HS1 HS2 P2 hp2 h1 h2 h3 h4
       go_quiet ((exact Calls.quiet_of_same (HSZ.out _)))
       refine HKf.out _ _ ?_
       clear HKe HKf HKc
       go_wp2
       go_ret
       exact⟨by rw[HE.out];rfl,AA HG1.out (AA HG.out (AA G2.out (Bm _ _)))⟩
     have t4:decide (wrap64 ((2:Int)^e)≤p)=false:=by rw[hp2];simp;omega
     have i4:(0:Int)≤p:=by omega
     have HOK:=AH (HOI.out.2 ⟨i2,i3,i4,by rw[Int.toNat_natCast];omega⟩)
     have HLO:=AH (show lo ⟨(e:Int),p,kk⟩=p*2^(34-e) by unfold lo;simp only;rw[show(34-(e:Int)).toNat=34-e by omega])
     have HHI:=AH (show hi ⟨(e:Int),p,kk⟩=(p+1)*2^(34-e) by unfold hi;simp only;rw[show(34-(e:Int)).toNat=34-e by omega])
     have hb1:p*2^(34-e)≤17179869184∧0≤p*2^(34-e)∧(p+1)*2^(34-e)≤17179869184∧0≤(p+1)*2^(34-e)∧p≤17179869184:=by
       have hq:(0:Int)<2^(34-e):=Int.pow_pos (by decide)
       have h5:(p+1)*2^(34-e)≤2^e*2^(34-e):=Int.mul_le_mul_of_nonneg_right (by omega) (Int.le_of_lt hq)
       rw[←Int.pow_add,show e+(34-e)=34 by omega] at h5
       have h6:0≤p*2^(34-e):=Int.mul_nonneg i4 (Int.le_of_lt hq)
       have h7:(p+1)*2^(34-e)=p*2^(34-e)+2^(34-e):=by rw[Int.add_mul,Int.one_mul]
       have h8:(2:Int)^e≤2^34:=by exact_mod_cast Nat.pow_le_pow_right (n:=2) (by decide) he
       omega
     have w1:IntKind.i64.wrap (p+1)=p+1:=by rw[IntKind.wrap_i64];omega
     have w2:IntKind.i64.wrap (p*2^(34-e))=p*2^(34-e):=by rw[IntKind.wrap_i64];omega
     have w3:IntKind.i64.wrap ((p+1)*2^(34-e))=(p+1)*2^(34-e):=by rw[IntKind.wrap_i64];omega
     obtain⟨q,hq⟩:∃q:Int,q=2^(34-e):=⟨_,rfl⟩
     rw[←hq] at HSZ HLO HHI w2 w3
     have w4:wrap64 (p*q)=p*q:=by unfold wrap64;rw[hq];omega
     have W3E:=AH (show Value.int .i64 (wrap64 (wrap64 (p+1)*q))=.int .i64 ((p+1)*q) by rw[show wrap64 (p+1)=p+1 by unfold wrap64;omega,show wrap64 ((p+1)*q)=(p+1)*q by unfold wrap64;rw[hq];omega])
     by_cases h5:p*q<c
     · have t5:decide (wrap64 (p*q)<c)=true:=by rw[w4];simp[h5]
       have HE:=AH (HS1.out (by rw[if_neg (fun h=>by have:=h.2;rw[HLO.out] at this;omega)]))
       clear HS1 HS2 P2 hp2 h1 h2 h3 h4 h5 hb1 w1 w2 w3 w4 hq
       go_quiet ((exact Calls.quiet_of_same (HSZ.out _)))
       refine HKf.out _ _ ?_
       clear HKe HKf HKc
       go_wp2
       go_ret
       exact⟨by rw[HE.out];rfl,AA HG1.out (AA HG.out (AA G2.out (Bm _ _)))⟩
     · have t5:decide (wrap64 (p*q)<c)=false:=by rw[w4];simp;omega
       have HE:=AH (HS2.out _ (by rw[if_pos ⟨HOK.out,by rw[HLO.out];omega⟩]))
       rw[HHI.out] at HE
       clear HS1 HS2 P2 hp2 h1 h2 h3 h4 h5 hb1 w1 w2 w3 w4 hq
       go_quiet ((exact Calls.quiet_of_same (HSZ.out _)))
       refine HKf.out _ _ ?_
       clear HKf
       go_wp2
       refine HKe.out _ _ ?_
       clear HKe
       obtain⟨W3,hW3⟩:∃x,x=W2.drewN nq:=⟨_,rfl⟩
       have HG3:=AH (show wr.grownBy W3 none from by rw[hW3];exact AA G2.out (Bm _ _))
       have c5:W3.cell? ⟨wr.heap.size,0,none⟩=some (.int .i64 (e:Int)):=by rw[hW3];exact c3
       have c6:W3.cell? ⟨wr.heap.size,1,none⟩=some (.int .i64 p):=by rw[hW3];exact c4
       have y5:=AIj c5
       rw[←hW3]
       clear hW3 c3 c4 y3
       go_quiet ((exact Calls.quiet_of_same (HSZ.out _)))
       refine HKc.out _ _ ?_
       clear HKc
       go_wp2
       go_roundw
       case rel=>exact⟨k+1,(p+1)*q,by omega,W3E.out,by go_num,AH (AA HG.out (AA HG3.out (Bm _ _))),HE⟩
       case measure=>simp[intOf];omega
   · obtain rfl:k=m:=by omega
     have HE:=AH (show vl=true by
       have h:=HRN.out
       rw[List.take_of_length_le (by rw[List.length_map,←HM.out];exact Nat.le_refl _)] at h
       rw[HV.out];unfold GB;rw[h,List.length_map,←HM.out];simp;exact HL3.out)
     go_wp2
     go_ret
     exact⟨by rw[HE.out];rfl,AA HG1.out HG.out⟩
end
section
open Go.RowKit Go.Shelf
attribute [local go_sem] Oper.semAt_some
end
end Go.Proofs.YtbfjfnbcmojpiaaGreat
namespace Go.Proofs.YtbfjfnbcmojpiaaGreat
open Go.RowKit Go.Shelf
attribute [local go_sem] Oper.semAt_some
end Go.Proofs.YtbfjfnbcmojpiaaGreat
namespace Go.Proofs.YtbfjfnbcmojpiaaGreat
section
open Go.RowKit Go.Shelf
def RdT (w:World) (s:Value) (l:List Nd):Prop:=Sl w 34 s l.length (FT l)∧(∀n∈l,Nok n)∧(∀k,Lc s k→k<w.heap.size)∧l.length≤1099511627776
theorem RdT.kn {w w':World} {s:Value} {l:List Nd} (h:RdT w s l) (g:w.grownBy w' none):RdT w' s l:=⟨Sl.kn h.1 g,h.2.1,fun k hk=>Nat.lt_of_lt_of_le (h.2.2.1 k hk) g.size,h.2.2.2⟩
theorem RdT.shape {w:World} {s:Value} {l:List Nd} (h:RdT w s l):∃ao cap,s=.slice ao l.length cap:=by
 obtain⟨ao,cap,e,_,_⟩:=Sl.shape h.1
 exact⟨ao,cap,e⟩
theorem toK:∀(l:List Nd),(∀n∈l,Nok n)→∃L:List Px,L.map (·.1)=l
 | [],_=>⟨[],rfl⟩
 | n::l,h=>by
  obtain⟨L,hL⟩:=toK l fun m hm=>h m (List.mem_cons.2 (.inr hm))
  exact⟨⟨n,h n (List.mem_cons.2 (.inl rfl))⟩::L,by rw[List.map_cons,hL]⟩
theorem RdT.k {w:World} {s:Value} {l:List Nd} (h:RdT w s l):∃L:List Px,L.map (·.1)=l∧RdL w s L:=by
 obtain⟨L,rfl⟩:=toK l h.2.1
 exact⟨L,rfl,⟨h.1,h.2.1⟩,h.2.2.1,by have:=h.2.2.2;rwa [List.length_map] at this⟩
theorem WJ {w:World} {s:Value} {l:List Nd} (h:RdT w s l):Calls Tryz.prog 97 #[.agg #[s]] w fun e w'=>e=.returned (.bool (GB l))∧w.grownBy w' none:=by
 obtain⟨L,rfl,hL⟩:=h.k
 exact OS L s w hL
theorem T9 {w:World} {s:Value} {l:List Nd} (h:RdT w s l):Calls Tryz.prog 87 #[.agg #[s]] w fun e w'=>e=.returned (.bool (GB l))∧w.grownBy w' none:=by
 obtain⟨L,rfl,hL⟩:=h.k
 exact T8 L s w hL
theorem ZC {w:World} {s:Value} {l:List Nd} {a:Int} {r:List Nat×Int} (hr:Cs l a=r) (h:RdT w s l):Calls Tryz.prog 78 #[.agg #[s],.int .i64 a] w fun e w'=>e=.returned (.tuple #[AO r.1,.int .i64 r.2])∧w.grownBy w' none:=by
 subst hr
 obtain⟨L,rfl,hL⟩:=h.k
 exact Y0 L s a w hL
theorem KD {l:List Nd} (h:∀n∈l,Nok n) (a:Int):Dg (Cs l a).1:=by
 have hz:Dg AS:=⟨rfl,by intro x hx;simp[AS,zs] at hx;omega⟩
 unfold Cs
 split
 · split
   · rename_i n hn;exact Ny _ _ _ (h n (List.mem_of_find?_eq_some hn)).1
   · exact hz
 · exact hz
theorem AGa {w w':World} {k:List Nat} (hk:Dg k) {s:Value} (ho:Own w' 132 34 s 1 (CO ⟨0,0,k⟩)) (hf:Fresh w w' s):∃ao cap,s=.slice ao 1 cap∧RdT w' (.slice ao 1 cap) (tree k [])∧w.grownBy w' none:=by
 obtain⟨ao,cap,rfl,_⟩:=(Sl.of_own ho).shape
 refine⟨ao,cap,rfl,⟨?_,AC0 hk,fun k hk=>Own.lt ho k hk.1,by rw[JW];simp⟩,hf.none⟩
 rw[JW]
 exact by have:=Sl.of_own ho;unfold FT;simpa [LF] using this
end
section
open Go.RowKit
theorem WK {α β:Type} {f:α→Option β} {g:α→β}:∀{l:List α},(∀x∈l,f x=some (g x))→l.mapM f=some (l.map g):=by
 intro l
 induction l with
 | nil=>intro _;rfl
 | cons x l ih =>
  intro h
  rw[List.mapM_cons,h x (List.mem_cons.2 (.inl rfl)),ih fun y hy=>h y (List.mem_cons.2 (.inr hy))]
  rfl
def lbv (l:List Nat):List Lit:=l.map fun x:Nat=>.int .u8 (x:Int)
theorem AC1 {l m:List Nat}:lbv l=lbv m↔l=m:=by
 refine⟨fun h=>?_,fun h=>by rw[h]⟩
 unfold lbv at h
 exact(List.map_inj_right (fun a b hab=>by
  injection hab with _ h2
  exact Int.ofNat.inj h2)).1 h
theorem XY:Tryz.prog.cellsOf 5=1:=by kernel_rfl
theorem Ra:Tryz.prog.cellsOf 23=32:=by kernel_rfl
theorem AFH:Tryz.prog.cellsOf 3=1:=by kernel_rfl
theorem AC2:Tryz.prog.cellsOf 2=1:=by kernel_rfl
theorem AC3 (d:Nat) (x:Nat) (h:x<256):Tryz.prog.keyLits (d+1) 5 [.int .u8 (x:Int)]=some [.int .u8 (x:Int)]:=by
 unfold Program.keyLits
 rw[Tryz.underlying5]
 simp[Lit.wf,IntKind.min,IntKind.max,IntKind.signed,IntKind.bits]
 omega
theorem Xi (d:Nat) (l:List Nat) (h:Dg l):Tryz.prog.keyLits (d+2) 23 (bv l)=some (lbv l):=by
 unfold Program.keyLits
 rw[Tryz.underlying23]
 simp only
 rw[if_pos (by rw[AI,h.1,Ra])]
 have hm:∀i∈List.range 32,Tryz.prog.keyLits (d+1) 5 (((bv l).drop (i*Tryz.prog.cellsOf 5)).take (Tryz.prog.cellsOf 5))=some [.int .u8 ((l.getD i 0:Nat):Int)]:=fun i hi=>by
  have hil:i<l.length:=by rw[h.1];exact List.mem_range.1 hi
  rw[XY,Nat.mul_one]
  have e:((bv l).drop i).take 1=[.int .u8 ((l[i]:Nat):Int)]:=by
   unfold bv
   rw[List.drop_eq_getElem_cons (by rw[List.length_map];exact hil),List.take_succ_cons,List.take_zero,List.getElem_map]
  rw[e,AC3 d _ (h.2 _ (List.getElem_mem hil)),List.getD_eq_getElem?_getD,List.getElem?_eq_getElem hil]
  rfl
 rw[WK hm]
 obtain⟨x0,x1,x2,x3,x4,x5,x6,x7,x8,x9,x10,x11,x12,x13,x14,x15,x16,x17,x18,x19,x20,x21,x22,x23,x24,x25,x26,x27,x28,x29,x30,x31,rfl⟩:=Gc l h.1
 rfl
theorem AAo (T:TypeId) (m:Nat) (hm:m≤10000) (hk:Tryz.prog.keyTypeAt m T=true) (hg:Tryz.prog.eqGuardType Tryz.prog.depth T=false) {xs ys:List Value} {D:Nat} {la lb:List Lit}
   (fx:(Value.agg xs.toArray).formed Tryz.prog T=true) (fy:(Value.agg ys.toArray).formed Tryz.prog T=true) (hx:Tryz.prog.keyLits D T xs=some la) (hy:Tryz.prog.keyLits D T ys=some lb) {r:Bool} (hr:r=true↔la=lb) (px py:Operand) (w:World) :
   (do eqGuard .eql T px py (.agg xs.toArray) (.agg ys.toArray);binOp .eql T (.agg xs.toArray) (.agg ys.toArray):Sem Value).run Tryz.prog w=.ok (.bool r) w ∧
   (do eqGuard .neq T px py (.agg xs.toArray) (.agg ys.toArray);binOp .neq T (.agg xs.toArray) (.agg ys.toArray):Sem Value).run Tryz.prog w=.ok (.bool (!r)) w:=by
 obtain⟨b,hb,hiff⟩:=run_equalIn_deep (P:=Tryz.prog) (10000-m) m T hk w D D (.agg xs.toArray) (.agg ys.toArray) la lb fx fy (by simpa [Value.cells] using hx) (by simpa [Value.cells] using hy)
 rw[show 10000-m+m=10000 by omega] at hb
 have hbr:b=r:=by rw[Bool.eq_iff_iff,hiff,hr]
 subst hbr
 constructor
 · rw[Sem.run_bind,run_eqGuard_agg (hm:=hg),Result.andThen_ok,run_eql_struct,hb];rfl
 · rw[Sem.run_bind,run_eqGuard_agg (hm:=hg),Result.andThen_ok,run_neq_struct,hb];rfl
theorem KE {x y:List Nat} (hx:Dg x) (hy:Dg y) (px py:Operand) (w:World) :
  (do eqGuard .eql 23 px py (AO x) (AO y);binOp .eql 23 (AO x) (AO y):Sem Value).run Tryz.prog w=.ok (.bool (decide (x=y))) w ∧
  (do eqGuard .neq 23 px py (AO x) (AO y);binOp .neq 23 (AO x) (AO y):Sem Value).run Tryz.prog w=.ok (.bool (!decide (x=y))) w:=
 AAo 23 6 (by decide) (by kernel_rfl) (by kernel_rfl) (by simp[Value.formed,Tryz.underlying23,Ra,AI,hx.1]) (by simp[Value.formed,Tryz.underlying23,Ra,AI,hy.1]) (Xi 0 x hx) (Xi 0 y hy) (by rw[AC1];simp) px py w
end
section
open Go.RowKit Go.Shelf
attribute [local go_sem] Oper.semAt_some
def k1:List Nat:=1::zs 31
end
end Go.Proofs.YtbfjfnbcmojpiaaGreat
namespace Go.Proofs.YtbfjfnbcmojpiaaGreat
open Go.ChangeShapes Go.WideShapes Go.ChangeAt Go.RowKit Go.Deep
open Go.ChangeMaps (open_string shut_string)
theorem own:ownKnob Tryz.prog.godebug=none:=by kernel_rfl
theorem XX {α:Type} (p:Nat→α→Prop):∀n,(∀i,i<n→∃x,p i x)→∃l:List α,l.length=n∧∀i (h:i<l.length),p i l[i]
 | 0,_=>⟨[],rfl,fun i h=>by simp at h⟩
 | n+1,h=>by
  obtain⟨l,hl,hp⟩:=XX p n fun i hi=>h i (by omega)
  obtain⟨x,hx⟩:=h n (by omega)
  refine⟨l++[x],by simp[hl],fun i hi=>?_⟩
  by_cases hin:i<l.length
  · rw[List.getElem_append_left hin];exact hp i hin
  · have:i=l.length:=by simp at hi;omega
    subst this
    rw[List.getElem_append_right (Nat.le_refl _)]
    simpa [hl] using hx
theorem fld {P:Program} {H:Type} {enc:TypeId×Value→H} {W:World} {b0 k:Nat} {fs:Array Field} {cs:List Value} {xs:List (DataW H×List MemPlace)} (hxl:xs.length=fs.size)
  (hf:∀(i:Nat) (f:Field),fs[i]?=some f→DataW.trod enc P W b0 (fun _=>true) true k f.type ((cs.drop f.offset).take (P.cellsOf f.type))=xs[i]?) (i:Nat) (f:Field) (hi:fs[i]?=some f) (c:Nat) (hc:P.cellsOf f.type=c) :
  ∃y,DataW.trod enc P W b0 (fun _=>true) true k f.type ((cs.drop f.offset).take c)=some y:=by
 have h:=hf i f hi
 rw[hc] at h
 have hl:i<xs.length:=by rw[hxl];exact(Array.getElem?_eq_some_iff.1 hi).1
 exact⟨xs[i],by rw[h,List.getElem?_eq_getElem hl]⟩
theorem Kz {P:Program} {H:Type} {enc:TypeId×Value→H} {W:World} {b0 k:Nat} {fs:Array Field} {cs:List Value} {xs:List (DataW H×List MemPlace)} (hxl:xs.length=fs.size)
  (hf:∀(i:Nat) (f:Field),fs[i]?=some f→DataW.trod enc P W b0 (fun _=>true) true k f.type ((cs.drop f.offset).take (P.cellsOf f.type))=xs[i]?) (i:Nat) (f:Field) (hi:fs[i]?=some f) (T:TypeId) (ht:f.type=T) (c:Nat) (hc:P.cellsOf T=c) :
  ∃y,DataW.trod enc P W b0 (fun _=>true) true k T ((cs.drop f.offset).take c)=some y:=by
 subst ht
 exact fld hxl hf i f hi c hc
theorem Pn {P:Program} {w:World} {r:Reach} {base:Nat} {t:TypeId} {v:Value} {fs:Array Field} (ht:P.underlying t=some (.struct fs)) (h:Value.okWide P w r base t v) :
  ∃cs:Array Value,v=.agg cs∧∀(i:Nat) (c:Value),cs[i]?=some c→∃u,Cell.okWide P w r base u c:=by
 simp only[Value.okWide,ht] at h
 obtain⟨cs,h1,_,ts,_,_,h2⟩:=h
 exact⟨cs,h1,fun i c hc=>let ⟨u,_,hu⟩:=h2 i c hc;⟨u,hu⟩⟩
theorem RZ {P:Program} {w:World} {r:Reach} {base:Nat} {t:TypeId} {v:Value} {n:Nat} {e:TypeId} (ht:P.underlying t=some (.array n e)) (h:Value.okWide P w r base t v):∃cs,v=.agg cs:=by
 simp only[Value.okWide,ht] at h
 obtain⟨cs,h1,_⟩:=h
 exact⟨cs,h1⟩
theorem AAU {a:Int} (h:(Lit.int .u8 a).wf=true):0≤a∧a<256:=by
 simp[Lit.wf] at h
 have e1:IntKind.u8.min=0:=by decide
 have e2:IntKind.u8.max=255:=by decide
 omega
theorem AE7 {H:Type} {enc:TypeId×Value→H} {W:World} {b0:Nat}:∀fuel cs y,DataW.trod enc Tryz.prog W b0 (fun _=>true) true fuel 23 cs=some y→∃x:List Nat,cs=bv x∧x.length=32∧∀b∈x,b<256:=by
 intro fuel cs y h
 obtain⟨xs,k,_,_,hl,hxl,hf⟩:=DataW.trod_array Tryz.underlying23 h
 rw[Ra] at hl
 rw[XY] at hf
 obtain⟨L,hL,hp⟩:=XX (fun i (b:Nat)=>cs[i]?=some (.int .u8 (b:Int))∧b<256) 32 fun i hi=>by
   have h1:=hf i hi
   rw[List.getElem?_eq_getElem (by omega)] at h1
   obtain⟨n,h2,_,h3⟩:=DataW.trod_int Tryz.underlying5 h1
   have hr:=AAU h3
   refine⟨n.toNat,?_,by omega⟩
   have h4:((cs.drop (i*1)).take 1)[0]?=some (.int .u8 n):=by rw[h2];rfl
   rw[List.getElem?_take,if_pos (by omega),List.getElem?_drop,Nat.mul_one,Nat.add_zero] at h4
   rw[h4]
   congr 2
   omega
 refine⟨L,?_,hL,fun b hb=>?_⟩
 · apply List.ext_getElem?
   intro i
   by_cases hi:i<L.length
   · rw[(hp i hi).1]
     simp[bv,List.getElem?_eq_getElem hi]
   · rw[List.getElem?_eq_none (by omega),List.getElem?_eq_none (by rw[AI];omega)]
 · obtain⟨i,hi,rfl⟩:=List.getElem_of_mem hb
   exact(hp i hi).2
theorem AAO {H:Type} {enc:TypeId×Value→H} {W:World} {r:Reach} {base b0:Nat} {v:Value} {d:DataW H} {p:List MemPlace} (hv:Value.okWide Tryz.prog W r base 23 v) (h:DataW.Trod enc Tryz.prog W b0 (fun _=>true) true 23 v d p):∃x:List Nat,v=AO x∧Dg x:=by
 obtain⟨cs,rfl⟩:=RZ Tryz.underlying23 hv
 obtain⟨fuel,hf⟩:=h
 obtain⟨x,h1,h2,h3⟩:=AE7 _ _ _ hf
 refine⟨x,?_,h2,h3⟩
 unfold AO
 rw[←h1]
 rfl
end Go.Proofs.YtbfjfnbcmojpiaaGreat
namespace Go.Proofs.YtbfjfnbcmojpiaaGreat
section
open Go.RowKit Go.Shelf
attribute [local go_sem] Oper.semAt_some
end
section
open Go.RowKit Go.Shelf
attribute [local go_sem] Oper.semAt_some
end
section
open Go.RowKit Go.Shelf
attribute [local go_sem] Oper.semAt_some
end
section
open Go.RowKit Go.Shelf
section
variable {P:Program} {ops:Array Oper} {L:List Sp} {n:Nat} {w0:World} {o:Oper}
theorem NJ {a:Act} {s i:Nat} {vs:Array Value} {v:Value} (ho:o.op=.extract (.tmp s) i) (hx:a.tmps.getD s undef=.tuple vs) (hi:vs[i]?=some v) (w:World):(execOp a.eval o).run P w=.ok (.value v) w:=by
 have hx':a.eval (.tmp s)=.tuple vs:=hx
 simp only[execOp,ho,hx']
 simp[Instr.extract,hi]
end
end
section
open Go.RowKit Go.Shelf
attribute [local go_sem] Oper.semAt_some
end
end Go.Proofs.YtbfjfnbcmojpiaaGreat
