import Derived.Test.YtbfjfnbcmojpiaaGreatShMK2
set_option linter.unusedSimpArgs false
set_option linter.unusedVariables false
namespace Go.Proofs.YtbfjfnbcmojpiaaGreat
open Go.RowKit Go.Shelf
theorem Ql (k:Nat):(0:Int)<2^k:=Int.pow_pos (by decide)
theorem U8 {n:Nd} (h:N3 n=true):E9 n=(lo n,hi n):=by unfold E9;rw[if_pos h]
theorem N9 (n:Nd):lo n<hi n:=by
 have h:=Ql (34-n.d).toNat
 unfold lo hi
 rw[Int.add_mul]
 omega
theorem ACP {n:Nd} (h:N3 n=true):0≤lo n:=by
 obtain⟨_,_,h3,_⟩:=E5.1 h
 exact Int.mul_nonneg h3 (Int.le_of_lt (Ql _))
theorem AGQ {n:Nd} (h:E9 n≠(0,0)):N3 n=true:=by
 unfold E9 at h
 by_cases ho:N3 n=true
 · exact ho
 · rw[if_neg ho] at h;exact absurd rfl h
theorem AEA {c d:Int} {n:Nd} (h:Cq c n=some d):N3 n=true∧c≤lo n∧d=hi n:=by
 unfold Cq at h
 split at h
 · cases h
 · rename_i hs
   have ho:=AGQ hs
   rw[U8 ho] at h
   simp only at h
   split at h
   · cases h
   · cases h
     exact⟨ho,by omega,rfl⟩
theorem AEB {c:Int} {n:Nd} (ho:N3 n=true) (hc:c≤lo n) (h0:0≤c):Cq c n=some (hi n):=by
 have h1:=N9 n
 unfold Cq
 rw[U8 ho,if_neg (by intro e;simp only[Prod.mk.injEq] at e;omega)]
 simp only
 rw[if_neg (by omega)]
theorem ABN {c e:Int} {l:List Nd} (h:Mz c l=some e):∀n∈l,N3 n=true∧c≤lo n:=by
 induction l generalizing c with
 | nil=>intro n hn;cases hn
 | cons x l ih =>
  simp only[Mz] at h
  cases hs:Cq c x with
  | none=>rw[hs] at h;cases h
  | some d =>
   rw[hs] at h
   obtain⟨h1,h2,h3⟩:=AEA hs
   have:=N9 x
   intro n hn
   rcases List.mem_cons.1 hn with rfl|hn
   · exact⟨h1,h2⟩
   · obtain⟨h4,h5⟩:=ih h n hn
     exact⟨h4,by omega⟩
theorem XX {a:Int} {n:Nd} (h:N3 n=true):J5 a n=Mx n a:=by
 have hq:=Ql (34-n.d).toNat
 unfold J5 Mx
 rw[U8 h]
 unfold lo hi
 have e1:=Int.le_ediv_iff_mul_le (a:=n.p) (b:=a) hq
 have e2:=Int.ediv_lt_iff_lt_mul (a:=a) (b:=n.p+1) hq
 rw[←Bool.decide_and]
 simp only[decide_eq_decide]
 constructor
 · rintro ⟨h1,h2⟩
   have:=e1.2 h1
   have:=e2.2 h2
   omega
 · intro h1
   exact⟨e1.1 (by omega),e2.1 (by omega)⟩
theorem ABO {l:List Nd} (h:Gh l=true):l.length≤32768∧∃e,Mz 0 l=some e:=by
 unfold Gh at h
 simp only[Bool.and_eq_true,decide_eq_true_eq] at h
 exact⟨h.1,Option.isSome_iff_exists.1 h.2⟩
theorem AEC (a:Int) {n:Nd} (hd:n.d≤33):a/2^(34-n.d).toNat=a/2^(33-n.d).toNat/2:=by
 rw[show(34-n.d).toNat=(33-n.d).toNat+1 by omega,Int.pow_succ,Int.ediv_ediv_of_nonneg (Int.le_of_lt (Ql _))]
theorem UT {a:Int} {n:Nd} {r:Bool} (hd:n.d≤33):Mx (BK n r) a=decide (a/2^(33-n.d).toNat=2*n.p+if r then 1 else 0):=by
 unfold Mx BK
 simp only
 rw[show(34-(n.d+1)).toNat=(33-n.d).toNat by omega]
theorem XY {a:Int} {n:Nd} (hd:n.d≤33):Mx n a=decide (a/2^(33-n.d).toNat/2=n.p):=by
 unfold Mx
 rw[AEC a hd]
theorem IY {a:Int} {n:Nd} {r:Bool} (hd:n.d≤33) (h:Mx (BK n r) a=true):Mx n a=true:=by
 rw[UT hd] at h
 rw[XY hd]
 simp only[decide_eq_true_eq] at h ⊢
 cases r<;>simp at h<;>omega
theorem Mj {a:Int} {n:Nd} {r:Bool} (hd:n.d≤33) (h:Mx n a=true):Mx (BK n r) a=(r == Qi n a):=by
 rw[XY hd] at h
 rw[UT hd]
 unfold Qi
 simp only[decide_eq_true_eq] at h
 generalize a/2^(33-n.d).toNat=x at *
 have h2:x%2=0∨x%2=1:=by omega
 cases r<;>rcases h2 with h2|h2<;>simp[h2]<;>omega
def RU (S:List Int) (n:Nd):Bool:=S.any fun a=>Mx n a
theorem UV {S:List Int} {n:Nd} {r:Bool} (hd:n.d≤33) (h:RU S n=false):RU S (BK n r)=false:=by
 unfold RU at h ⊢
 rw[List.any_eq_false] at h ⊢
 exact fun a ha hc=>h a ha (IY hd hc)
def DW (S:List Int):Nat→Nd→List Nd
 | 0,n=>if RU S n then [] else [n]
 | k+1,n=>if RU S n then DW S k (BK n false)++DW S k (BK n true) else [n]
def QL (a:Int):Nat→Nd→List Nd
 | 0,_=>[]
 | k+1,n=>if Qi n a then BK n false::QL a k (BK n true) else QL a k (BK n false)++[BK n true]
def pun (a:Int) (l:List Nd):List Nd:=l.flatMap fun n=>if Mx n a then QL a (34-n.d).toNat n else [n]
theorem Dp {S:List Int} {n:Nd} (k:Nat) (h:RU S n=false):DW S k n=[n]:=by
 cases k<;>simp[DW,h]
theorem GC (a:Int) (S:List Int) (n:Nd):RU (a::S) n=(Mx n a||RU S n):=by simp[RU]
theorem ACQ {S:List Int} {a:Int} (k:Nat):∀n:Nd,n.d=34-k→RU S n=false→Mx n a=true→QL a k n=DW (a::S) k n:=by
 induction k with
 | zero=>intro n hd hs hc;simp[QL,DW,GC,hc]
 | succ k ih =>
  intro n hd hs hc
  have h33:n.d≤33:=by omega
  have c0:=Mj (r:=false) h33 hc
  have c1:=Mj (r:=true) h33 hc
  have s0:=UV (r:=false) h33 hs
  have s1:=UV (r:=true) h33 hs
  have d0:∀r,(BK n r).d=34-(k:Int):=fun r=>by simp[BK];omega
  simp only[QL,DW,GC,hc,Bool.true_or,if_true]
  cases hb:Qi n a with
  | true =>
   rw[hb] at c0 c1
   simp only[if_true]
   rw[ih _ (d0 true) s1 (by rw[c1];rfl),Dp k (n:=BK n false) (by rw[GC,c0,s0];rfl)]
   rfl
  | false =>
   rw[hb] at c0 c1
   simp only[Bool.false_eq_true,if_false]
   rw[ih _ (d0 false) s0 (by rw[c0];rfl),Dp k (n:=BK n true) (by rw[GC,c1,s1];rfl)]
theorem ACR {S:List Int} {a:Int} (k:Nat):∀n:Nd,n.d=34-k→pun a (DW S k n)=DW (a::S) k n:=by
 induction k with
 | zero =>
  intro n hd
  cases hs:RU S n with
  | true=>simp[DW,hs,GC,pun]
  | false =>
   rw[Dp 0 hs]
   cases hc:Mx n a with
   | true=>simp[pun,hc,hd,DW,GC,QL]
   | false=>simp[pun,hc,DW,GC,hs]
 | succ k ih =>
  intro n hd
  cases hs:RU S n with
  | true =>
   have d0:∀r,(BK n r).d=34-(k:Int):=fun r=>by simp[BK];omega
   have h0:=ih _ (d0 false)
   have h1:=ih _ (d0 true)
   simp only[DW,hs,GC,Bool.or_true,if_true]
   rw[←h0,←h1]
   simp[pun]
  | false =>
   rw[Dp _ hs]
   cases hc:Mx n a with
   | true =>
    rw[←ACQ (k+1) n hd hs hc]
    simp only[pun,List.flatMap_cons,List.flatMap_nil,hc,if_true,List.append_nil]
    rw[show(34-n.d).toNat=k+1 by omega]
   | false =>
    rw[Dp _ (by rw[GC,hc,hs];rfl)]
    simp[pun,hc]
theorem ACS {S:List Int} {a:Int} (k:Nat):∀n:Nd,n.d=34-k→∀m∈DW S k n,Mx m a=true→Mx n a=true:=by
 induction k with
 | zero =>
  intro n hd m hm hc
  simp only[DW] at hm
  split at hm
  · cases hm
  · obtain rfl:=List.mem_singleton.1 hm;exact hc
 | succ k ih =>
  intro n hd m hm hc
  have d0:∀r,(BK n r).d=34-(k:Int):=fun r=>by simp[BK];omega
  simp only[DW] at hm
  split at hm
  · rcases List.mem_append.1 hm with hm|hm
    · exact IY (by omega) (ih _ (d0 false) m hm hc)
    · exact IY (by omega) (ih _ (d0 true) m hm hc)
  · obtain rfl:=List.mem_singleton.1 hm;exact hc
theorem ACT {S:List Int} {a:Int} (ha:a∈S) (k:Nat):∀n:Nd,∀m∈DW S k n,Mx m a=false:=by
 induction k with
 | zero =>
  intro n m hm
  simp only[DW] at hm
  split at hm
  · cases hm
  · rename_i hs
    obtain rfl:=List.mem_singleton.1 hm
    simp only[RU,Bool.not_eq_true,List.any_eq_false] at hs
    simpa using hs a ha
 | succ k ih =>
  intro n m hm
  simp only[DW] at hm
  split at hm
  · rcases List.mem_append.1 hm with hm|hm
    · exact ih _ m hm
    · exact ih _ m hm
  · rename_i hs
    obtain rfl:=List.mem_singleton.1 hm
    simp only[RU,Bool.not_eq_true,List.any_eq_false] at hs
    simpa using hs a ha
theorem QM {S:List Int} {a:Int} (ha:a∈S) (k:Nat) (n:Nd):(DW S k n).find? (fun m=>Mx m a)=none:=
 List.find?_eq_none.2 fun m hm=>by rw[ACT ha k n m hm];simp
theorem Zx {S:List Int} {a:Int} (ha:a ∉ S) (k:Nat):∀n:Nd,n.d=34-k→Mx n a=true→∃m,(DW S k n).find? (fun m=>Mx m a)=some m∧PH a (34-m.d).toNat m=PH a k n:=by
 induction k with
 | zero =>
  intro n hd hc
  cases hs:RU S n with
  | false=>exact⟨n,by simp[DW,hs,hc],by rw[show(34-n.d).toNat=0 by omega]⟩
  | true =>
   unfold RU at hs
   obtain⟨x,hx,hxc⟩:=List.any_eq_true.1 hs
   unfold Mx at hc hxc
   rw[show(34-n.d).toNat=0 by omega] at hc hxc
   simp at hc hxc
   exact absurd (by rw[hc,←hxc];exact hx) ha
 | succ k ih =>
  intro n hd hc
  have d0:∀r,(BK n r).d=34-(k:Int):=fun r=>by simp[BK];omega
  have c0:=Mj (r:=false) (n:=n) (by omega) hc
  have c1:=Mj (r:=true) (n:=n) (by omega) hc
  cases hs:RU S n with
  | false=>exact⟨n,by rw[Dp _ hs];simp[hc],by rw[show(34-n.d).toNat=k+1 by omega]⟩
  | true =>
   simp only[DW,hs,if_true,List.find?_append,PH]
   cases hb:Qi n a with
   | false =>
    rw[hb] at c0
    obtain⟨m,h1,h2⟩:=ih _ (d0 false) c0
    exact⟨m,by rw[h1];rfl,h2⟩
   | true =>
    rw[hb] at c0 c1
    obtain⟨m,h1,h2⟩:=ih _ (d0 true) c1
    refine⟨m,?_,h2⟩
    rw[List.find?_eq_none.2 (fun x hx=>by
     intro hxc
     have:=ACS k _ (d0 false) x hx hxc
     rw[c0] at this
     cases this),h1]
    rfl
def cnt (S:List Int) (n:Nd):Nat:=(S.filter fun a=>Mx n a).length
theorem RV {S:List Int} {n:Nd}:cnt S n=0↔RU S n=false:=by
 unfold cnt RU
 rw[List.length_eq_zero_iff,List.filter_eq_nil_iff,List.any_eq_false]
theorem ACU (S:List Int) {n:Nd} (hd:n.d≤33):cnt S (BK n false)+cnt S (BK n true)=cnt S n:=by
 induction S with
 | nil=>rfl
 | cons a S ih =>
  unfold cnt at ih ⊢
  simp only[List.filter_cons]
  cases hc:Mx n a with
  | false =>
   have h0:∀r,Mx (BK n r) a=false:=fun r=>by
    cases h:Mx (BK n r) a with
    | false=>rfl
    | true=>rw[IY hd h] at hc;cases hc
   simp only[h0,Bool.false_eq_true,if_false]
   exact ih
  | true =>
   have c0:=Mj (r:=false) hd hc
   have c1:=Mj (r:=true) hd hc
   cases hb:Qi n a<;>rw[hb] at c0 c1<;>simp[c0,c1]<;>omega
theorem ACV {S:List Int} (k:Nat):∀n:Nd,n.d=34-k→(DW S k n).length≤if cnt S n=0 then 1 else k*cnt S n:=by
 induction k with
 | zero =>
  intro n hd
  cases hs:RU S n with
  | false=>rw[Dp _ hs,if_pos (RV.2 hs)];simp
  | true=>simp[DW,hs]
 | succ k ih =>
  intro n hd
  have d0:∀r,(BK n r).d=34-(k:Int):=fun r=>by simp[BK];omega
  cases hs:RU S n with
  | false=>rw[Dp _ hs,if_pos (RV.2 hs)];simp
  | true =>
   have hz:cnt S n≠0:=fun h=>by rw[RV.1 h] at hs;cases hs
   have h0:=ih _ (d0 false)
   have h1:=ih _ (d0 true)
   have hc:=ACU S (n:=n) (by omega)
   rw[if_neg hz]
   simp only[DW,hs,if_true,List.length_append]
   rw[←hc] at hz ⊢
   generalize cnt S (BK n false)=x at *
   generalize cnt S (BK n true)=y at *
   rw[Nat.mul_add,Nat.succ_mul,Nat.succ_mul]
   split at h0<;>split at h1
   · omega
   · subst_vars;omega
   · subst_vars;omega
   · omega
theorem Zy (c:Int) (l m:List Nd):Mz c (l++m)=(Mz c l).bind fun c=>Mz c m:=by
 induction l generalizing c with
 | nil=>simp[Mz]
 | cons x l ih =>
  simp only[List.cons_append,Mz]
  cases Cq c x with
  | none=>rfl
  | some d=>simp[ih]
theorem XZ {n:Nd} (hd:n.d≤33):(2:Int)^(34-n.d).toNat=2*2^(33-n.d).toNat:=by
 rw[show(34-n.d).toNat=(33-n.d).toNat+1 by omega,Int.pow_succ,Int.mul_comm]
theorem RX {n:Nd} (r:Bool) (hd:n.d≤33):lo (BK n r)=lo n+(if r then 2^(33-n.d).toNat else 0):=by
 unfold lo BK
 simp only
 rw[show(34-(n.d+1)).toNat=(33-n.d).toNat by omega,XZ hd,Int.add_mul]
 have e:n.p*(2*2^(33-n.d).toNat)=2*n.p*2^(33-n.d).toNat:=by rw[←Int.mul_assoc,Int.mul_comm n.p 2]
 rw[e]
 cases r<;>simp
theorem AHn (n:Nd):hi n=lo n+2^(34-n.d).toNat:=by unfold hi lo;rw[Int.add_mul];simp
theorem Xa {n:Nd} (r:Bool) (hd:n.d≤33):hi (BK n r)=lo n+(if r then 2^(34-n.d).toNat else 2^(33-n.d).toNat):=by
 rw[AHn,RX r hd]
 rw[show(34-(BK n r).d).toNat=(33-n.d).toNat by simp[BK];omega,XZ hd]
 cases r<;>simp<;>omega
theorem ACW {S:List Int} (k:Nat):∀(n:Nd) (c:Int),n.d=34-k→N3 n=true→0≤c→c≤lo n→∃e,Mz c (DW S k n)=some e∧c≤e∧e≤hi n:=by
 induction k with
 | zero =>
  intro n c hd ho h0 hc
  have:=N9 n
  cases hs:RU S n with
  | false=>exact⟨hi n,by rw[Dp _ hs];simp[Mz,AEB ho hc h0],by omega,by omega⟩
  | true=>exact⟨c,by simp[DW,hs,Mz],by omega,by omega⟩
 | succ k ih =>
  intro n c hd ho h0 hc
  have:=N9 n
  have h33:n.d≤33:=by omega
  have d0:∀r,(BK n r).d=34-(k:Int):=fun r=>by simp[BK];omega
  cases hs:RU S n with
  | false=>exact⟨hi n,by rw[Dp _ hs];simp[Mz,AEB ho hc h0],by omega,by omega⟩
  | true =>
   have l0:=RX (n:=n) false h33
   have l1:=RX (n:=n) true h33
   have e0:=Xa (n:=n) false h33
   have e1:=Xa (n:=n) true h33
   have hh:=AHn n
   simp only[Bool.false_eq_true,if_false,if_true] at l0 l1 e0 e1
   obtain⟨x,h1,h2,h3⟩:=ih _ c (d0 false) (EF false ho h33) h0 (by omega)
   obtain⟨y,h4,h5,h6⟩:=ih _ x (d0 true) (EF true ho h33) (by omega) (by omega)
   refine⟨y,?_,by omega,by omega⟩
   simp only[DW,hs,if_true,Zy,h1]
   exact h4
def M0 (k:List Nat):Nd:=⟨0,0,k⟩
theorem RY (k:List Nat):N3 (M0 k)=true:=by rw[E5];simp[M0]
theorem AED {a:Int} (k:List Nat) (h:Br a=true):Mx (M0 k) a=true:=by
 unfold Br at h
 simp only[Bool.and_eq_true,decide_eq_true_eq] at h
 unfold Mx M0
 simp only[Int.sub_zero,decide_eq_true_eq]
 have e:(2:Int)^(34:Int).toNat=17179869184:=by decide
 rw[e]
 omega
def tree (k:List Nat) (S:List Int):List Nd:=DW S 34 (M0 k)
theorem Ls (k:List Nat):tree k []=[M0 k]:=Dp 34 rfl
theorem AEE (k:List Nat) (S:List Int) (a:Int):pun a (tree k S)=tree k (a::S):=ACR 34 _ rfl
theorem Xb (k:List Nat) (S:List Int):(tree k S).length≤if cnt S (M0 k)=0 then 1 else 34*cnt S (M0 k):=ACV 34 _ rfl
theorem AEF (k:List Nat) (S:List Int) (h:(tree k S).length≤32768):Gh (tree k S)=true:=by
 obtain⟨e,h1,_,_⟩:=ACW (S:=S) 34 (M0 k) 0 rfl (RY k) (by decide) (ACP (RY k))
 unfold Gh
 unfold tree at h ⊢
 rw[h1]
 simp[h]
theorem AEG (S:List Int) (n:Nd):cnt S n≤S.length:=List.length_filter_le _ _
theorem JX (k:List Nat) (S:List Int) (h:S.length≤900):Gh (tree k S)=true:=by
 have h1:=Xb k S
 have h2:=AEG S (M0 k)
 refine AEF k S ?_
 split at h1<;>omega
theorem UW (k:List Nat) (S:List Int) (a:Int) (hv:Gh (tree k S)=true) (ha:Br a=true) :
   DM (tree k S) a=if a∈S then (AQ,10) else ((PH a 34 (M0 k)).k,0):=by
 obtain⟨_,e,he⟩:=ABO hv
 have hf:(tree k S).find? (J5 a)=(tree k S).find? (fun m=>Mx m a):=by
   have:∀m∈tree k S,J5 a m=Mx m a:=fun m hm=>XX (ABN he m hm).1
   generalize tree k S=l at this
   induction l with
   | nil=>rfl
   | cons x l ih=>rw[List.find?_cons,List.find?_cons,this x (by simp),ih (fun m hm=>this m (by simp[hm]))]
 unfold DM
 rw[ha,hv,if_pos (by rfl),hf]
 by_cases hm:a∈S
 · rw[if_pos hm]
   rw[show(tree k S).find? (fun m=>Mx m a)=none from QM hm 34 _]
 · rw[if_neg hm]
   obtain⟨m,h1,h2⟩:=Zx hm 34 (M0 k) rfl (AED k ha)
   rw[show(tree k S).find? (fun m=>Mx m a)=some m from h1]
   simp only
   rw[h2]
def JU (a:Int) (l:List Nd):List Nd:=l.flatMap fun n=>if J5 a n then QL a (34-n.d).toNat n else [n]
def F8 (l:List Nd) (a:Int):List Nd×Int:=if Br a&&Gh l then (if 32768<(JU a l).length then ([],8) else (JU a l,0)) else ([],1)
theorem RZ {α β:Type} {f g:α→List β}:∀{l:List α},(∀x∈l,f x=g x)→l.flatMap f=l.flatMap g:=by
 intro l
 induction l with
 | nil=>intro _;rfl
 | cons x l ih =>
  intro h
  rw[List.flatMap_cons,List.flatMap_cons,h x (List.mem_cons.2 (.inl rfl)),ih fun y hy=>h y (List.mem_cons.2 (.inr hy))]
theorem AEH {l:List Nd} (hv:Gh l=true) (a:Int):JU a l=pun a l:=by
 obtain⟨_,e,he⟩:=ABO hv
 have hall:=ABN he
 unfold JU pun
 exact RZ fun n hn=>by rw[XX (hall n hn).1]
theorem Zz (k:List Nat) (S:List Int) (h:S.length≤900):(tree k S).length≤32768:=by
 have h1:=Xb k S
 have h2:=AEG S (M0 k)
 split at h1<;>omega
theorem Z6 {k:List Nat} {S:List Int} {a:Int} (h:S.length≤800) (ha:Br a=true):F8 (tree k S) a=(tree k (a::S),0):=by
 have hv:=JX k S (by omega)
 have hs:=Zz k (a::S) (by simp;omega)
 unfold F8
 rw[ha,hv,if_pos (by rfl),AEH hv,AEE,if_neg (by omega)]
theorem AD4 {n:Nd} (h:N3 n=true) (hk:Dg n.k):Nok n:=by
 have hp:=ADt h
 obtain⟨h1,h2,h3,h4⟩:=E5.1 h
 exact⟨hk,⟨by omega,by omega⟩,⟨by omega,by omega⟩⟩
theorem Fb (n:Nd) (r:Bool):Dg (BK n r).k:=UQ _ _
theorem AIY {a:Int} (k:Nat):∀n:Nd,n.d=34-k→N3 n=true→∀m∈QL a k n,N3 m=true∧Dg m.k:=by
 induction k with
 | zero=>intro n _ _ m hm;cases hm
 | succ k ih =>
  intro n hd ho m hm
  have h33:n.d≤33:=by omega
  have d0:∀r,(BK n r).d=34-(k:Int):=fun r=>by simp[BK];omega
  rw[QL] at hm
  split at hm
  · rcases List.mem_cons.1 hm with rfl|hm
    · exact⟨EF _ ho h33,Fb _ _⟩
    · exact ih _ (d0 true) (EF _ ho h33) m hm
  · rcases List.mem_append.1 hm with hm|hm
    · exact ih _ (d0 false) (EF _ ho h33) m hm
    · obtain rfl:=List.mem_singleton.1 hm
      exact⟨EF _ ho h33,Fb _ _⟩
theorem U7 {a:Int} (k:Nat):∀n:Nd,(QL a k n).length=k:=by
 induction k with
 | zero=>intro n;rfl
 | succ k ih =>
  intro n
  rw[QL]
  split
  · rw[List.length_cons,ih]
  · rw[List.length_append,ih];rfl
theorem AEI {S:List Int} (k:Nat):∀n:Nd,n.d=34-k→N3 n=true→Dg n.k→∀m∈DW S k n,N3 m=true∧Dg m.k:=by
 induction k with
 | zero =>
  intro n hd ho hk m hm
  simp only[DW] at hm
  split at hm
  · cases hm
  · obtain rfl:=List.mem_singleton.1 hm;exact⟨ho,hk⟩
 | succ k ih =>
  intro n hd ho hk m hm
  have h33:n.d≤33:=by omega
  have d0:∀r,(BK n r).d=34-(k:Int):=fun r=>by simp[BK];omega
  simp only[DW] at hm
  split at hm
  · rcases List.mem_append.1 hm with hm|hm
    · exact ih _ (d0 false) (EF _ ho h33) (Fb _ _) m hm
    · exact ih _ (d0 true) (EF _ ho h33) (Fb _ _) m hm
  · obtain rfl:=List.mem_singleton.1 hm;exact⟨ho,hk⟩
theorem AGM {k:List Nat} {S:List Int} (hk:Dg k):∀m∈tree k S,Nok m:=fun m hm =>
 let h:=AEI 34 (M0 k) rfl (RY k) hk m hm
 AD4 h.1 h.2
def M8 (a:Int):Nat→Nd→List Nd→List Nd→List Nd×List Nd
 | 0,_,L,R=>(L,R)
 | k+1,n,L,R=>if Qi n a then M8 a k (BK n true) (L++[BK n false]) R else M8 a k (BK n false) L (R++[BK n true])
theorem ACK (a:Int) (k:Nat):∀(n:Nd) (L R:List Nd),(M8 a k n L R).1++(M8 a k n L R).2.reverse=L++(QL a k n++R.reverse):=by
 induction k with
 | zero=>intro n L R;rfl
 | succ k ih =>
  intro n L R
  rw[M8,QL]
  split
  · rw[ih];simp
  · rw[ih];simp
end Go.Proofs.YtbfjfnbcmojpiaaGreat
