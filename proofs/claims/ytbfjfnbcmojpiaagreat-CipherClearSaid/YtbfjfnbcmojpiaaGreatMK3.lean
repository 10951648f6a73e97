import Derived.Test.YtbfjfnbcmojpiaaGreatMK2
import Derived.Test.YtbfjfnbcmojpiaaGreatMQ
namespace Go.Proofs.YtbfjfnbcmojpiaaGreat
open Go.RowKit Go.Shelf
set_option linter.unusedSimpArgs false
set_option linter.unusedVariables false
theorem two_pos (k:Nat):(0:Int) < 2 ^ k:=Int.pow_pos (by decide)
theorem span_ok {n:Nd} (h:okN n=true):span n=(lo n,hi n):=by unfold span;rw [if_pos h]
theorem lo_lt_hi (n:Nd):lo n < hi n:=by
 have h:=two_pos (34 - n.d).toNat
 unfold lo hi
 rw [Int.add_mul]
 omega
theorem lo_nonneg {n:Nd} (h:okN n=true):0≤lo n:=by
 obtain ⟨_,_,h3,_⟩:=okN_iff.1 h
 exact Int.mul_nonneg h3 (Int.le_of_lt (two_pos _))
theorem span_ne {n:Nd} (h:span n≠(0,0)):okN n=true:=by
 unfold span at h
 by_cases ho:okN n=true
 · exact ho
 · rw [if_neg ho] at h;exact absurd rfl h
theorem stp_some {c d:Int} {n:Nd} (h:stp c n=some d):okN n=true∧c≤lo n∧d=hi n:=by
 unfold stp at h
 split at h
 · cases h
 · rename_i hs
   have ho:=span_ne hs
   rw [span_ok ho] at h
   simp only at h
   split at h
   · cases h
   · cases h
     exact ⟨ho,by omega,rfl⟩
theorem stp_ok {c:Int} {n:Nd} (ho:okN n=true) (hc:c≤lo n) (h0:0≤c):stp c n=some (hi n):=by
 have h1:=lo_lt_hi n
 unfold stp
 rw [span_ok ho,if_neg (by intro e;simp only [Prod.mk.injEq] at e;omega)]
 simp only
 rw [if_neg (by omega)]
theorem run_all {c e:Int} {l:List Nd} (h:run c l=some e):∀ n ∈ l,okN n=true∧c≤lo n:=by
 induction l generalizing c with
 | nil=>intro n hn;cases hn
 | cons x l ih =>
   simp only [run] at h
   cases hs:stp c x with
   | none=>rw [hs] at h;cases h
   | some d =>
     rw [hs] at h
     obtain ⟨h1,h2,h3⟩:=stp_some hs
     have:=lo_lt_hi x
     intro n hn
     rcases List.mem_cons.1 hn with rfl | hn
     · exact ⟨h1,h2⟩
     · obtain ⟨h4,h5⟩:=ih h n hn
       exact ⟨h4,by omega⟩
theorem hasA_cov {a:Int} {n:Nd} (h:okN n=true):hasA a n=cov n a:=by
 have hq:=two_pos (34 - n.d).toNat
 unfold hasA cov
 rw [span_ok h]
 unfold lo hi
 have e1:=Int.le_ediv_iff_mul_le (a:=n.p) (b:=a) hq
 have e2:=Int.ediv_lt_iff_lt_mul (a:=a) (b:=n.p+1) hq
 rw [← Bool.decide_and]
 simp only [decide_eq_decide]
 constructor
 · rintro ⟨h1,h2⟩
   have:=e1.2 h1
   have:=e2.2 h2
   omega
 · intro h1
   exact ⟨e1.1 (by omega),e2.1 (by omega)⟩
theorem vld_run {l:List Nd} (h:vld l=true):l.length≤32768∧∃ e,run 0 l=some e:=by
 unfold vld at h
 simp only [Bool.and_eq_true,decide_eq_true_eq] at h
 exact ⟨h.1,Option.isSome_iff_exists.1 h.2⟩
theorem half_div (a:Int) {n:Nd} (hd:n.d≤33):a / 2 ^ (34 - n.d).toNat=a / 2 ^ (33 - n.d).toNat / 2:=by
 rw [show (34 - n.d).toNat=(33 - n.d).toNat+1 by omega,Int.pow_succ,Int.ediv_ediv_of_nonneg (Int.le_of_lt (two_pos _))]
theorem cov_child {a:Int} {n:Nd} {r:Bool} (hd:n.d≤33):cov (child n r) a=decide (a / 2 ^ (33 - n.d).toNat=2 * n.p+if r then 1 else 0):=by
 unfold cov child
 simp only
 rw [show (34 - (n.d+1)).toNat=(33 - n.d).toNat by omega]
theorem cov_half {a:Int} {n:Nd} (hd:n.d≤33):cov n a=decide (a / 2 ^ (33 - n.d).toNat / 2=n.p):=by
 unfold cov
 rw [half_div a hd]
theorem cov_of_child {a:Int} {n:Nd} {r:Bool} (hd:n.d≤33) (h:cov (child n r) a=true):cov n a=true:=by
 rw [cov_child hd] at h
 rw [cov_half hd]
 simp only [decide_eq_true_eq] at h ⊢
 cases r <;> simp at h <;> omega
theorem cov_bit {a:Int} {n:Nd} {r:Bool} (hd:n.d≤33) (h:cov n a=true):cov (child n r) a=(r == bit n a):=by
 rw [cov_half hd] at h
 rw [cov_child hd]
 unfold bit
 simp only [decide_eq_true_eq] at h
 generalize a / 2 ^ (33 - n.d).toNat=x at *
 have h2:x % 2=0∨x % 2=1:=by omega
 cases r <;> rcases h2 with h2 | h2 <;> simp [h2] <;> omega
def hit (S:List Int) (n:Nd):Bool:=S.any fun a=>cov n a
def cover (S:List Int):Nat→Nd→List Nd
 | 0,n=>if hit S n then [] else [n]
 | k+1,n=>if hit S n then cover S k (child n false) ++ cover S k (child n true) else [n]
def oth (a:Int):Nat→Nd→List Nd
 | 0,_=>[]
 | k+1,n=>if bit n a then child n false :: oth a k (child n true) else oth a k (child n false) ++ [child n true]
theorem cover_free {S:List Int} {n:Nd} (k:Nat) (h:hit S n=false):cover S k n=[n]:=by
 cases k <;> simp [cover,h]
theorem cover_sub {S:List Int} {a:Int} (k:Nat):∀ n:Nd,n.d=34 - k→∀ m ∈ cover S k n,cov m a=true→cov n a=true:=by
 induction k with
 | zero =>
   intro n hd m hm hc
   simp only [cover] at hm
   split at hm
   · cases hm
   · obtain rfl:=List.mem_singleton.1 hm;exact hc
 | succ k ih =>
   intro n hd m hm hc
   have d0:∀ r,(child n r).d=34 - (k:Int):=fun r=>by simp [child];omega
   simp only [cover] at hm
   split at hm
   · rcases List.mem_append.1 hm with hm | hm
     · exact cov_of_child (by omega) (ih _ (d0 false) m hm hc)
     · exact cov_of_child (by omega) (ih _ (d0 true) m hm hc)
   · obtain rfl:=List.mem_singleton.1 hm;exact hc
theorem cover_out {S:List Int} {a:Int} (ha:a ∈ S) (k:Nat):∀ n:Nd,∀ m ∈ cover S k n,cov m a=false:=by
 induction k with
 | zero =>
   intro n m hm
   simp only [cover] at hm
   split at hm
   · cases hm
   · rename_i hs
     obtain rfl:=List.mem_singleton.1 hm
     simp only [hit,Bool.not_eq_true,List.any_eq_false] at hs
     simpa using hs a ha
 | succ k ih =>
   intro n m hm
   simp only [cover] at hm
   split at hm
   · rcases List.mem_append.1 hm with hm | hm
     · exact ih _ m hm
     · exact ih _ m hm
   · rename_i hs
     obtain rfl:=List.mem_singleton.1 hm
     simp only [hit,Bool.not_eq_true,List.any_eq_false] at hs
     simpa using hs a ha
theorem cover_find_none {S:List Int} {a:Int} (ha:a ∈ S) (k:Nat) (n:Nd):(cover S k n).find? (fun m=>cov m a)=none:=
 List.find?_eq_none.2 fun m hm=>by rw [cover_out ha k n m hm];simp
theorem cover_find {S:List Int} {a:Int} (ha:a ∉ S) (k:Nat):∀ n:Nd,n.d=34 - k→cov n a=true→∃ m,(cover S k n).find? (fun m=>cov m a)=some m∧desc a (34 - m.d).toNat m=desc a k n:=by
 induction k with
 | zero =>
   intro n hd hc
   cases hs:hit S n with
   | false=>exact ⟨n,by simp [cover,hs,hc],by rw [show (34 - n.d).toNat=0 by omega]⟩
   | true =>
     unfold hit at hs
     obtain ⟨x,hx,hxc⟩:=List.any_eq_true.1 hs
     unfold cov at hc hxc
     rw [show (34 - n.d).toNat=0 by omega] at hc hxc
     simp at hc hxc
     exact absurd (by rw [hc,← hxc];exact hx) ha
 | succ k ih =>
   intro n hd hc
   have d0:∀ r,(child n r).d=34 - (k:Int):=fun r=>by simp [child];omega
   have c0:=cov_bit (r:=false) (n:=n) (by omega) hc
   have c1:=cov_bit (r:=true) (n:=n) (by omega) hc
   cases hs:hit S n with
   | false=>exact ⟨n,by rw [cover_free _ hs];simp [hc],by rw [show (34 - n.d).toNat=k+1 by omega]⟩
   | true =>
     simp only [cover,hs,if_true,List.find?_append,desc]
     cases hb:bit n a with
     | false =>
       rw [hb] at c0
       obtain ⟨m,h1,h2⟩:=ih _ (d0 false) c0
       exact ⟨m,by rw [h1];rfl,h2⟩
     | true =>
       rw [hb] at c0 c1
       obtain ⟨m,h1,h2⟩:=ih _ (d0 true) c1
       refine ⟨m,?_,h2⟩
       rw [List.find?_eq_none.2 (fun x hx=>by
         intro hxc
         have:=cover_sub k _ (d0 false) x hx hxc
         rw [c0] at this
         cases this),h1]
       rfl
def cnt (S:List Int) (n:Nd):Nat:=(S.filter fun a=>cov n a).length
theorem cnt_zero {S:List Int} {n:Nd}:cnt S n=0↔hit S n=false:=by
 unfold cnt hit
 rw [List.length_eq_zero_iff,List.filter_eq_nil_iff,List.any_eq_false]
theorem cnt_child (S:List Int) {n:Nd} (hd:n.d≤33):cnt S (child n false)+cnt S (child n true)=cnt S n:=by
 induction S with
 | nil=>rfl
 | cons a S ih =>
   unfold cnt at ih ⊢
   simp only [List.filter_cons]
   cases hc:cov n a with
   | false =>
     have h0:∀ r,cov (child n r) a=false:=fun r=>by
       cases h:cov (child n r) a with
       | false=>rfl
       | true=>rw [cov_of_child hd h] at hc;cases hc
     simp only [h0,Bool.false_eq_true,if_false]
     exact ih
   | true =>
     have c0:=cov_bit (r:=false) hd hc
     have c1:=cov_bit (r:=true) hd hc
     cases hb:bit n a <;> rw [hb] at c0 c1 <;> simp [c0,c1] <;> omega
theorem cover_len {S:List Int} (k:Nat):∀ n:Nd,n.d=34 - k→(cover S k n).length≤if cnt S n=0 then 1 else k * cnt S n:=by
 induction k with
 | zero =>
   intro n hd
   cases hs:hit S n with
   | false=>rw [cover_free _ hs,if_pos (cnt_zero.2 hs)];simp
   | true=>simp [cover,hs]
 | succ k ih =>
   intro n hd
   have d0:∀ r,(child n r).d=34 - (k:Int):=fun r=>by simp [child];omega
   cases hs:hit S n with
   | false=>rw [cover_free _ hs,if_pos (cnt_zero.2 hs)];simp
   | true =>
     have hz:cnt S n≠0:=fun h=>by rw [cnt_zero.1 h] at hs;cases hs
     have h0:=ih _ (d0 false)
     have h1:=ih _ (d0 true)
     have hc:=cnt_child S (n:=n) (by omega)
     rw [if_neg hz]
     simp only [cover,hs,if_true,List.length_append]
     rw [← hc] at hz ⊢
     generalize cnt S (child n false)=x at *
     generalize cnt S (child n true)=y at *
     rw [Nat.mul_add,Nat.succ_mul,Nat.succ_mul]
     split at h0 <;> split at h1
     · omega
     · subst_vars;omega
     · subst_vars;omega
     · omega
theorem run_append (c:Int) (l m:List Nd):run c (l ++ m)=(run c l).bind fun c=>run c m:=by
 induction l generalizing c with
 | nil=>simp [run]
 | cons x l ih =>
   simp only [List.cons_append,run]
   cases stp c x with
   | none=>rfl
   | some d=>simp [ih]
theorem pow_half {n:Nd} (hd:n.d≤33):(2:Int) ^ (34 - n.d).toNat=2 * 2 ^ (33 - n.d).toNat:=by
 rw [show (34 - n.d).toNat=(33 - n.d).toNat+1 by omega,Int.pow_succ,Int.mul_comm]
theorem lo_child {n:Nd} (r:Bool) (hd:n.d≤33):lo (child n r)=lo n+(if r then 2 ^ (33 - n.d).toNat else 0):=by
 unfold lo child
 simp only
 rw [show (34 - (n.d+1)).toNat=(33 - n.d).toNat by omega,pow_half hd,Int.add_mul]
 have e:n.p * (2 * 2 ^ (33 - n.d).toNat)=2 * n.p * 2 ^ (33 - n.d).toNat:=by rw [← Int.mul_assoc,Int.mul_comm n.p 2]
 rw [e]
 cases r <;> simp
theorem hi_lo (n:Nd):hi n=lo n+2 ^ (34 - n.d).toNat:=by unfold hi lo;rw [Int.add_mul];simp
theorem hi_child {n:Nd} (r:Bool) (hd:n.d≤33):hi (child n r)=lo n+(if r then 2 ^ (34 - n.d).toNat else 2 ^ (33 - n.d).toNat):=by
 rw [hi_lo,lo_child r hd]
 rw [show (34 - (child n r).d).toNat=(33 - n.d).toNat by simp [child];omega,pow_half hd]
 cases r <;> simp <;> omega
theorem cover_run {S:List Int} (k:Nat):∀ (n:Nd) (c:Int),n.d=34 - k→okN n=true→0≤c→c≤lo n→∃ e,run c (cover S k n)=some e∧c≤e∧e≤hi n:=by
 induction k with
 | zero =>
   intro n c hd ho h0 hc
   have:=lo_lt_hi n
   cases hs:hit S n with
   | false=>exact ⟨hi n,by rw [cover_free _ hs];simp [run,stp_ok ho hc h0],by omega,by omega⟩
   | true=>exact ⟨c,by simp [cover,hs,run],by omega,by omega⟩
 | succ k ih =>
   intro n c hd ho h0 hc
   have:=lo_lt_hi n
   have h33:n.d≤33:=by omega
   have d0:∀ r,(child n r).d=34 - (k:Int):=fun r=>by simp [child];omega
   cases hs:hit S n with
   | false=>exact ⟨hi n,by rw [cover_free _ hs];simp [run,stp_ok ho hc h0],by omega,by omega⟩
   | true =>
     have l0:=lo_child (n:=n) false h33
     have l1:=lo_child (n:=n) true h33
     have e0:=hi_child (n:=n) false h33
     have e1:=hi_child (n:=n) true h33
     have hh:=hi_lo n
     simp only [Bool.false_eq_true,if_false,if_true] at l0 l1 e0 e1
     obtain ⟨x,h1,h2,h3⟩:=ih _ c (d0 false) (okN_child false ho h33) h0 (by omega)
     obtain ⟨y,h4,h5,h6⟩:=ih _ x (d0 true) (okN_child true ho h33) (by omega) (by omega)
     refine ⟨y,?_,by omega,by omega⟩
     simp only [cover,hs,if_true,run_append,h1]
     exact h4
def root (k:List Nat):Nd:=⟨0,0,k⟩
theorem okN_root (k:List Nat):okN (root k)=true:=by rw [okN_iff];simp [root]
theorem cov_root {a:Int} (k:List Nat) (h:isAddr a=true):cov (root k) a=true:=by
 unfold isAddr at h
 simp only [Bool.and_eq_true,decide_eq_true_eq] at h
 unfold cov root
 simp only [Int.sub_zero,decide_eq_true_eq]
 have e:(2:Int) ^ (34:Int).toNat=17179869184:=by decide
 rw [e]
 omega
def tree (k:List Nat) (S:List Int):List Nd:=cover S 34 (root k)
theorem tree_nil (k:List Nat):tree k []=[root k]:=cover_free 34 rfl
theorem tree_len (k:List Nat) (S:List Int):(tree k S).length≤if cnt S (root k)=0 then 1 else 34 * cnt S (root k):=cover_len 34 _ rfl
theorem tree_vld (k:List Nat) (S:List Int) (h:(tree k S).length≤32768):vld (tree k S)=true:=by
 obtain ⟨e,h1,_,_⟩:=cover_run (S:=S) 34 (root k) 0 rfl (okN_root k) (by decide) (lo_nonneg (okN_root k))
 unfold vld
 unfold tree at h ⊢
 rw [h1]
 simp [h]
theorem cnt_le (S:List Int) (n:Nd):cnt S n≤S.length:=List.length_filter_le _ _
theorem tree_vld_of (k:List Nat) (S:List Int) (h:S.length≤900):vld (tree k S)=true:=by
 have h1:=tree_len k S
 have h2:=cnt_le S (root k)
 refine tree_vld k S ?_
 split at h1 <;> omega
theorem leaf_tree (k:List Nat) (S:List Int) (a:Int) (hv:vld (tree k S)=true) (ha:isAddr a=true) :
   leafOf (tree k S) a=if a ∈ S then (zero32,10) else ((desc a 34 (root k)).k,0):=by
 obtain ⟨_,e,he⟩:=vld_run hv
 have hf:(tree k S).find? (hasA a)=(tree k S).find? (fun m=>cov m a):=by
   have:∀ m ∈ tree k S,hasA a m=cov m a:=fun m hm=>hasA_cov (run_all he m hm).1
   generalize tree k S=l at this
   induction l with
   | nil=>rfl
   | cons x l ih=>rw [List.find?_cons,List.find?_cons,this x (by simp),ih (fun m hm=>this m (by simp [hm]))]
 unfold leafOf
 rw [ha,hv,if_pos (by rfl),hf]
 by_cases hm:a ∈ S
 · rw [if_pos hm]
   rw [show (tree k S).find? (fun m=>cov m a)=none from cover_find_none hm 34 _]
 · rw [if_neg hm]
   obtain ⟨m,h1,h2⟩:=cover_find hm 34 (root k) rfl (cov_root k ha)
   rw [show (tree k S).find? (fun m=>cov m a)=some m from h1]
   simp only
   rw [h2]
def inG (g:List (Int×Int)) (x:Int):Prop:=∃ p ∈ g,p.1≤x∧x < p.2
def Norm (g:List (Int×Int)):Prop:=(∀ p ∈ g,p.1 < p.2)∧g.Pairwise fun p q=>p.2 < q.1
theorem Norm.tail {p:Int×Int} {g:List (Int×Int)} (h:Norm (p :: g)):Norm g:=⟨fun q hq=>h.1 q (List.mem_cons.2 (.inr hq)),(List.pairwise_cons.1 h.2).2⟩
theorem Norm.head {p:Int×Int} {g:List (Int×Int)} (h:Norm (p :: g)):p.1 < p.2:=h.1 p (List.mem_cons.2 (.inl rfl))
theorem Norm.past {p:Int×Int} {g:List (Int×Int)} (h:Norm (p :: g)) {x:Int} (hx:inG g x):p.2 < x:=by
 obtain ⟨q,hq,h1,h2⟩:=hx
 have:=(List.pairwise_cons.1 h.2).1 q hq
 omega
def punP (a:Int) (l:List Nd):List Nd:=l.flatMap fun n=>if hasA a n then oth a (34 - n.d).toNat n else [n]
def punOf (l:List Nd) (a:Int):List Nd×Int:=if isAddr a && vld l then (if 32768 < (punP a l).length then ([],8) else (punP a l,0)) else ([],1)
theorem Nok_of {n:Nd} (h:okN n=true) (hk:Dg n.k):Nok n:=by
 have hp:=okN_p h
 obtain ⟨h1,h2,h3,h4⟩:=okN_iff.1 h
 exact ⟨hk,⟨by omega,by omega⟩,⟨by omega,by omega⟩⟩
theorem child_dg (n:Nd) (r:Bool):Dg (child n r).k:=ck_dg _ _
theorem oth_ok {a:Int} (k:Nat):∀ n:Nd,n.d=34 - k→okN n=true→∀ m ∈ oth a k n,okN m=true∧Dg m.k:=by
 induction k with
 | zero=>intro n _ _ m hm;cases hm
 | succ k ih =>
   intro n hd ho m hm
   have h33:n.d≤33:=by omega
   have d0:∀ r,(child n r).d=34 - (k:Int):=fun r=>by simp [child];omega
   rw [oth] at hm
   split at hm
   · rcases List.mem_cons.1 hm with rfl | hm
     · exact ⟨okN_child _ ho h33,child_dg _ _⟩
     · exact ih _ (d0 true) (okN_child _ ho h33) m hm
   · rcases List.mem_append.1 hm with hm | hm
     · exact ih _ (d0 false) (okN_child _ ho h33) m hm
     · obtain rfl:=List.mem_singleton.1 hm
       exact ⟨okN_child _ ho h33,child_dg _ _⟩
theorem cover_ok {S:List Int} (k:Nat):∀ n:Nd,n.d=34 - k→okN n=true→Dg n.k→∀ m ∈ cover S k n,okN m=true∧Dg m.k:=by
 induction k with
 | zero =>
   intro n hd ho hk m hm
   simp only [cover] at hm
   split at hm
   · cases hm
   · obtain rfl:=List.mem_singleton.1 hm;exact ⟨ho,hk⟩
 | succ k ih =>
   intro n hd ho hk m hm
   have h33:n.d≤33:=by omega
   have d0:∀ r,(child n r).d=34 - (k:Int):=fun r=>by simp [child];omega
   simp only [cover] at hm
   split at hm
   · rcases List.mem_append.1 hm with hm | hm
     · exact ih _ (d0 false) (okN_child _ ho h33) (child_dg _ _) m hm
     · exact ih _ (d0 true) (okN_child _ ho h33) (child_dg _ _) m hm
   · obtain rfl:=List.mem_singleton.1 hm;exact ⟨ho,hk⟩
theorem tree_ok {k:List Nat} {S:List Int} (hk:Dg k):∀ m ∈ tree k S,Nok m:=fun m hm =>
 let h:=cover_ok 34 (root k) rfl (okN_root k) hk m hm
 Nok_of h.1 h.2
def downP (a:Int):Nat→Nd→List Nd→List Nd→List Nd×List Nd
 | 0,_,L,R=>(L,R)
 | k+1,n,L,R=>if bit n a then downP a k (child n true) (L ++ [child n false]) R else downP a k (child n false) L (R ++ [child n true])
def downR (a:Int):Nat→Nd→List Nd→List Nd→List Nd×List Nd
 | 0,_,L,R=>(L,R)
 | k+1,n,L,R=>if cov (child n false) a then downR a k (child n false) L (child n true :: R) else downR a k (child n true) (L ++ [child n false]) R
end Go.Proofs.YtbfjfnbcmojpiaaGreat

namespace Go.Proofs.YtbfjfnbcmojpiaaGreat
section
open Go.RowKit Go.Shelf
set_option linter.unusedSimpArgs false
set_option linter.unusedVariables false
theorem tcells_append (l m:List Nd):tcells (l ++ m)=tcells l ++ tcells m:=by unfold tcells;rw [List.flatMap_append]
theorem tcells_one (n:Nd):tcells [n]=ncells n:=by unfold tcells;simp
def Rvd (R L:List Nd) (k:Nat):Prop:=L.length=R.length∧∀ j,L[j]?=if j < k∨(R.length - k≤j) then R.reverse[j]? else R[j]?
theorem Rvd.zero (R:List Nd):Rvd R R 0:=⟨rfl,fun j=>by
 by_cases h:R.length≤j
 · rw [if_pos (.inr (by omega)),List.getElem?_eq_none (by simpa using h),List.getElem?_eq_none (by simpa using h)]
 · rw [if_neg (by omega)]⟩
theorem Rvd.step {R L:List Nd} {k:Nat} (h:Rvd R L k) (hk:k+1 < R.length - k) (hi:k < L.length) (hj:R.length - 1 - k < L.length):Rvd R ((L.set k L[R.length - 1 - k]).set (R.length - 1 - k) L[k]) (k+1):=by
 obtain ⟨h1,h2⟩:=h
 refine ⟨by simp [h1],fun j=>?_⟩
 have a1:=h2 k
 have a2:=h2 (R.length - 1 - k)
 rw [if_neg (by omega),List.getElem?_eq_getElem hi,List.getElem?_eq_getElem (show k < R.length by omega)] at a1
 rw [if_neg (by omega),List.getElem?_eq_getElem hj,List.getElem?_eq_getElem (show R.length - 1 - k < R.length by omega)] at a2
 have b1:=Option.some.inj a1
 have b2:=Option.some.inj a2
 rw [List.getElem?_set,List.getElem?_set]
 by_cases e1:R.length - 1 - k=j
 · subst e1
   rw [if_pos rfl,if_pos (by simp;omega),if_pos (.inr (by omega)),List.getElem?_reverse (by omega),b1,show R.length - 1 - (R.length - 1 - k)=k by omega,List.getElem?_eq_getElem (by omega)]
 · rw [if_neg e1]
   by_cases e2:k=j
   · subst e2
     rw [if_pos rfl,if_pos hi,if_pos (.inl (by omega)),List.getElem?_reverse (by omega),b2,List.getElem?_eq_getElem (by omega)]
   · rw [if_neg e2,h2 j]
     by_cases e3:j < k∨R.length - k≤j
     · rw [if_pos e3,if_pos (by omega)]
     · rw [if_neg e3,if_neg (by omega)]
theorem Rvd.done {R L:List Nd} {k:Nat} (h:Rvd R L k) (hk:R.length≤2 * k+1):L=R.reverse:=by
 obtain ⟨h1,h2⟩:=h
 refine List.ext_getElem? fun j=>?_
 rw [h2 j]
 split
 · rfl
 · rename_i hn
   by_cases hj:j < R.length
   · rw [List.getElem?_reverse hj,show R.length - 1 - j=j by omega]
   · omega
end
section
open Go.RowKit Go.Shelf
set_option linter.unusedSimpArgs false
set_option linter.unusedVariables false
attribute [local go_sem] Oper.semAt_some
theorem nodesT:ET Tryz.prog 54 132 (nval ⟨0,0,zs 32⟩) 34 48:=⟨Tryz.underlying54,info_parts (by kernel_rfl),rfl,by decide,by decide⟩
theorem ncells_one (n:Nd):(ncells n).all Value.oneCell'=true:=by
 unfold ncells
 rw [List.all_cons,List.all_cons,List.all_eq_true.2 (fun v hv=>bv_ones n.k v hv)]
 rfl
structure OI (w:World) (B:Nat) (a:Int) (n0:Nd) (n:Nd) (L R:List Nd) (s g:Value) (wr:World):Prop where
 ok:okN n=true
 dg:Dg n.k
 dn:downP a (34 - n.d).toNat n L R=downP a (34 - n0.d).toNat n0 [] []
 len:L.length+R.length+(34 - n.d).toNat≤34
 dl:∀ x ∈ L,Dg x.k
 dr:∀ x ∈ R,Dg x.k
 gr:w.grownBy wr none
 hb:wr.heap[B]?=some (.cells (ncells n).toArray 132 (0,0))
 os:Own wr 132 34 s L.length (tcells L)
 og:Own wr 132 34 g R.length (tcells R)
 bs:∀ k,s.ownBlock=some k→w.heap.size≤k∧k≠B
 bg:∀ k,g.ownBlock=some k→w.heap.size≤k∧k≠B
 sg:∀ k,s.ownBlock=some k→g.ownBlock≠some k
theorem Own.skip {w w':World} {e:TypeId} {sz:Nat} {v:Value} {n:Nat} {xs:List Value} {row:Option Nat} (h:Own w e sz v n xs) (g:w.grownBy w' row) (hne:∀ k,v.ownBlock=some k→row≠some k):Own w' e sz v n xs:=
 h.kept g (by
   cases hv:v.ownBlock with
   | none=>exact .inl rfl
   | some k=>exact .inr (fun e=>hne k hv e.symm))
theorem OI.kn {w wr W:World} {B:Nat} {a:Int} {n0 n:Nd} {L R:List Nd} {s g:Value} (h:OI w B a n0 n L R s g wr) (k:wr.grownBy W none):OI w B a n0 n L R s g W:=
 ⟨h.ok,h.dg,h.dn,h.len,h.dl,h.dr,grown_trans h.gr k,row_of k h.hb (by simp),h.os.kn k,h.og.kn k,h.bs,h.bg,h.sg⟩
theorem OI.right {w wr W4 W5:World} {B:Nat} {a:Int} {n0 n:Nd} {L R:List Nd} {s g s':Value} (hB:w.heap.size≤B) (h:OI w B a n0 n L R s g wr) (hbit:bit n a=true) (hd:n.d < 34)
   (o4:Own W4 132 34 s' (L.length+1) (tcells L ++ ncells (child n false))) (s4:Step wr s W4 s') (g5:W4.grownBy W5 (some B)) (h5:W5.heap[B]?=some (.cells (ncells (child n true)).toArray 132 (0,0))) :
   OI w B a n0 (child n true) (L ++ [child n false]) R s' g W5:=by
 have hB2:B < wr.heap.size:=(ncell0 h.hb).2.2
 have hs':∀ k,s'.ownBlock=some k→s.ownBlock=some k∨wr.heap.size≤k:=s4.2
 obtain ⟨o1,o2,o3,o4'⟩:=okN_iff.1 h.ok
 have hk:(34 - n.d).toNat=(34 - (child n true).d).toNat+1:=by simp [child];omega
 refine ⟨okN_child _ h.ok (by omega),child_dg _ _,?_,?_,?_,h.dr,?_,h5,?_,?_,?_,h.bg,?_⟩
 · rw [← h.dn,hk,downP,if_pos hbit]
 · have:=h.len;rw [hk] at this;rw [List.length_append,List.length_singleton];omega
 · intro x hx
   rcases List.mem_append.1 hx with hx | hx
   · exact h.dl x hx
   · obtain rfl:=List.mem_singleton.1 hx;exact child_dg _ _
 · refine grown_from (grown_from h.gr s4.1 fun r e=>(h.bs r e).1) g5 fun r e=>by cases e;exact hB
 · rw [List.length_append,List.length_singleton,tcells_append,tcells_one]
   refine o4.skip g5 fun k hk e=>?_
   cases e
   rcases hs' _ hk with h0 | h0
   · exact (h.bs _ h0).2 rfl
   · omega
 · refine (h.og.skip s4.1 fun k hk e=>h.sg k e hk).skip g5 fun k hk e=>?_
   cases e
   exact (h.bg _ hk).2 rfl
 · intro k hk
   rcases hs' k hk with h0 | h0
   · exact h.bs k h0
   · have:=h.gr.size;omega
 · intro k hk e
   rcases hs' k hk with h0 | h0
   · exact h.sg k h0 e
   · have:=Own.lt h.og k e;omega
theorem OI.left {w wr W4 W5:World} {B:Nat} {a:Int} {n0 n:Nd} {L R:List Nd} {s g g':Value} (hB:w.heap.size≤B) (h:OI w B a n0 n L R s g wr) (hbit:bit n a=false) (hd:n.d < 34)
   (o4:Own W4 132 34 g' (R.length+1) (tcells R ++ ncells (child n true))) (s4:Step wr g W4 g') (g5:W4.grownBy W5 (some B)) (h5:W5.heap[B]?=some (.cells (ncells (child n false)).toArray 132 (0,0))) :
   OI w B a n0 (child n false) L (R ++ [child n true]) s g' W5:=by
 have hB2:B < wr.heap.size:=(ncell0 h.hb).2.2
 have hs':∀ k,g'.ownBlock=some k→g.ownBlock=some k∨wr.heap.size≤k:=s4.2
 obtain ⟨o1,o2,o3,o4'⟩:=okN_iff.1 h.ok
 have hk:(34 - n.d).toNat=(34 - (child n false).d).toNat+1:=by simp [child];omega
 refine ⟨okN_child _ h.ok (by omega),child_dg _ _,?_,?_,h.dl,?_,?_,h5,?_,?_,h.bs,?_,?_⟩
 · rw [← h.dn,hk,downP,if_neg (by rw [hbit];decide)]
 · have:=h.len;rw [hk] at this;rw [List.length_append,List.length_singleton];omega
 · intro x hx
   rcases List.mem_append.1 hx with hx | hx
   · exact h.dr x hx
   · obtain rfl:=List.mem_singleton.1 hx;exact child_dg _ _
 · refine grown_from (grown_from h.gr s4.1 fun r e=>(h.bg r e).1) g5 fun r e=>by cases e;exact hB
 · refine (h.os.skip s4.1 fun k hk e=>h.sg k hk e).skip g5 fun k hk e=>?_
   cases e
   exact (h.bs _ hk).2 rfl
 · rw [List.length_append,List.length_singleton,tcells_append,tcells_one]
   refine o4.skip g5 fun k hk e=>?_
   cases e
   rcases hs' _ hk with h0 | h0
   · exact (h.bg _ h0).2 rfl
   · omega
 · intro k hk
   rcases hs' k hk with h0 | h0
   · exact h.bg k h0
   · have:=h.gr.size;omega
 · intro k hk e
   rcases hs' k e with h0 | h0
   · exact h.sg k hk h0
   · have:=Own.lt h.os k hk;omega
end
section
open Go.RowKit Go.Shelf
set_option linter.unusedSimpArgs false
set_option linter.unusedVariables false
attribute [local go_sem] Oper.semAt_some
def Sp.own (B:Nat) (e:TypeId) (sz n:Nat) (xs:List Value):Sp:=⟨fun w v=>Own w e sz v n xs∧∀ k,v.ownBlock=some k→B≤k,fun _ _ _ hg h=>⟨h.1.kn hg,h.2⟩⟩
theorem tyNs (v:Value) (h:v.oneCell'=true):TY Tryz.prog 54 [v] v:=TY.one' Tryz.underlying54 rfl (by kernel_rfl) h
theorem tcells_one' (l:List Nd):(tcells l).all Value.oneCell'=true:=by unfold tcells;rw [List.all_flatMap];simp [ncells_one]
structure PI (w:World) (a:Int) (S T:Nat) (pre:List NdK) (V:World):Prop where
 h1:V.heap[w.heap.size+1]?=some (.cells #[.int .i64 a] 2 (0,0))
 h2:V.heap[w.heap.size+2]?=some (.cells #[.slice none 0 0] 56 (0,0))
 h3:V.heap[w.heap.size+3]?=some (.cells #[.int .i64 0] 38 (0,0))
 ho:∃ v,V.heap[T]?=some (.cells #[v] 54 (0,0))∧Own V 132 34 v (punP a (pre.map (·.1))).length (tcells (punP a (pre.map (·.1))))∧∀ k,v.ownBlock=some k→w.heap.size≤k
 gr:w.grownBy V none
 sz:S≤V.heap.size
theorem PI.kn {w V V':World} {a:Int} {S T:Nat} {pre:List NdK} (h:PI w a S T pre V) (g:V.grownBy V' none):PI w a S T pre V':=by
 obtain ⟨h1,h2,h3,⟨v,v1,v2,v3⟩,h4,h5⟩:=h
 exact ⟨row_of g h1 (by simp),row_of g h2 (by simp),row_of g h3 (by simp),⟨v,row_of g v1 (by simp),v2.kn g,v3⟩,grown_trans h4 g,Nat.le_trans h5 g.size⟩
theorem PI.own {w:World} {a:Int} {S T:Nat} (hs:w.heap.size+4≤S) (hT:T < S):OwnFrom S (PI w a S T):=fun pre X Y row ⟨h1,h2,h3,⟨v,v1,v2,v3⟩,h4,h5⟩ hg hr =>
 ⟨row_of hg h1 (fun e=>by have:=(hr _ e.symm).1;omega),row_of hg h2 (fun e=>by have:=(hr _ e.symm).1;omega),row_of hg h3 (fun e=>by have:=(hr _ e.symm).1;omega),
   ⟨v,row_of hg v1 (fun e=>by have:=(hr _ e.symm).1;omega),v2.kept hg (by
     cases hrow:row with
     | none=>cases v.ownBlock <;> simp
     | some r=>obtain ⟨_,o,ho,hc⟩:=hr r hrow;exact Own.cellsRow v2 ho hc),v3⟩,grown_from h4 hg (fun r e=>by have:=(hr r e).1;omega),Nat.le_trans h5 hg.size⟩
theorem PI.next {w V V3 V4:World} {a:Int} {S T:Nat} {pre:List NdK} {x:NdK} {v v3:Value} {PL m:List Nd} {n0 k:Nat} {cs:List Value} (hT0:w.heap.size+3 < T) (h:PI w a S T pre V) (hv:V.heap[T]?=some (.cells #[v] 54 (0,0)))
   (hob:∀ k,v.ownBlock=some k→w.heap.size≤k) (hm:punP a ((pre ++ [x]).map (·.1))=PL ++ m)
   (hown:Own V 132 34 v n0 (tcells PL)) (hn:n0=PL.length) (hk:k=m.length) (hcs:cs=tcells m)
   (o3:Own V3 132 34 v3 (n0+k) (tcells PL ++ cs)) (s3:Step V v V3 v3)
   (g4:V3.grownBy V4 (some T)) (h4:V4.heap[T]?=some (.cells #[v3] 54 (0,0))):PI w a S T (pre ++ [x]) V4:=by
 subst hn hk hcs
 have z1:V3.heap[T]?=some (.cells #[v] 54 (0,0)):=row_of s3.1 hv (fun e=>Own.ne hown hv (by decide) e.symm)
 refine ⟨row_of g4 (row_of s3.1 h.h1 (fun e=>Own.ne hown h.h1 (by decide) e.symm)) (by simp;omega),row_of g4 (row_of s3.1 h.h2 (fun e=>Own.ne hown h.h2 (by decide) e.symm)) (by simp;omega),row_of g4 (row_of s3.1 h.h3 (fun e=>Own.ne hown h.h3 (by decide) e.symm)) (by simp;omega),
   ⟨v3,h4,?_,fun k hk=>?_⟩,?_,Nat.le_trans h.sz (Nat.le_trans s3.1.size g4.size)⟩
 · rw [hm,List.length_append,tcells_append]
   exact o3.past g4 z1 (by decide)
 · rcases s3.2 k hk with h0 | h0
   · exact hob k h0
   · exact Nat.le_trans h.gr.size h0
 · exact grown_newR (grown_from h.gr s3.1 hob) g4 (by omega)
def PA (S:Nat) (tm:Nat→Nat→Value→Value→Act) (x:NdK) (a:Act) (V:World):Prop:=∃ Bs Ns,S≤Bs∧S≤Ns∧V.heap[Bs]?=some (.cells #[.int .i64 (span x.1).1,.int .i64 (span x.1).2] 137 (0,0))∧V.heap[Ns]?=some (.cells (ncells x.1).toArray 132 (0,0))∧a=tm Bs Ns (sval2 (span x.1)) (nval x.1)
theorem PA.own {S0 S:Nat} {tm:Nat→Nat→Value→Value→Act} {x:NdK} {a:Act}:OwnFrom S0 (fun (_:Unit) V=>PA S tm x a V):=fun _ X Y row ⟨Bs,Ns,h1,h2,h3,h4,h5⟩ hg hr =>
 ⟨Bs,Ns,h1,h2,row_of hg h3 (fun e=>by obtain ⟨_,o,ho,hc⟩:=hr _ e.symm;rw [h3] at ho;cases ho;cases hc),row_of hg h4 (fun e=>by obtain ⟨_,o,ho,hc⟩:=hr _ e.symm;rw [h4] at ho;cases ho;cases hc),h5⟩
def PunR (w:World) (r:List Nd×Int) (e:Ending) (w':World):Prop:=∃ v,e=.returned (.tuple #[.agg #[v],.int .i64 r.2])∧Own w' 132 34 v r.1.length (tcells r.1)∧Fresh w w' v
end
end Go.Proofs.YtbfjfnbcmojpiaaGreat
