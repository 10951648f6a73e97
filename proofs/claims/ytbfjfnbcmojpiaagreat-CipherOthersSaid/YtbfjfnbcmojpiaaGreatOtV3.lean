import Derived.Test.YtbfjfnbcmojpiaaGreatOtPP
import Derived.Test.YtbfjfnbcmojpiaaGreatOtSG
import Derived.Lib.Bytealg
import Derived.Lib.BytesEntry
set_option linter.unusedSimpArgs false
set_option linter.unusedVariables false
set_option maxRecDepth 100000
set_option maxHeartbeats 4000000
namespace Go.Proofs.YtbfjfnbcmojpiaaGreat
abbrev VP:=List Nat×List Nd
def Ej:List Nat→List Nat→Bool
 | a::l,b::m=>decide (a<b)||(a == b&&Ej l m)
 | [],_::_=>true
 | _,[]=>false
theorem Fi:∀l,Ej l l=false
 | []=>rfl
 | a::l=>by simp[Ej,Fi l]
theorem Gi:∀{a b c},Ej a b=true→Ej b c=true→Ej a c=true
 | [],[],_,h,_=>by simp[Ej] at h
 | [],_::_,[],_,h=>by simp[Ej] at h
 | [],_::_,_::_,_,_=>rfl
 | _::_,[],_,h,_=>by simp[Ej] at h
 | _::_,_::_,[],_,h=>by simp[Ej] at h
 | x::a,y::b,z::c,h,k=>by
  simp only[Ej,Bool.or_eq_true,decide_eq_true_eq,Bool.and_eq_true,beq_iff_eq] at h k ⊢
  rcases h with h|⟨h1,h2⟩<;>rcases k with k|⟨k1,k2⟩
  · exact .inl (by omega)
  · exact .inl (by omega)
  · exact .inl (by omega)
  · exact .inr ⟨by omega,Gi h2 k2⟩
theorem Oj:∀a b,a=b∨Ej a b=true∨Ej b a=true
 | [],[]=>.inl rfl
 | [],_::_=>.inr (.inl rfl)
 | _::_,[]=>.inr (.inr rfl)
 | x::a,y::b=>by
  simp only[Ej,Bool.or_eq_true,decide_eq_true_eq,Bool.and_eq_true,beq_iff_eq]
  rcases Nat.lt_trichotomy x y with h|h|h
  · exact .inr (.inl (.inl h))
  · rcases Oj a b with e|e|e
    · exact .inl (by rw[h,e])
    · exact .inr (.inl (.inr ⟨h,e⟩))
    · exact .inr (.inr (.inr ⟨h.symm,e⟩))
  · exact .inr (.inr (.inl h))
theorem ACh {a b:List Nat} (h:Ej a b=true):Ej b a=false:=by
 cases e:Ej b a with
 | false=>rfl
 | true=>have:=Gi h e;rw[Fi] at this;cases this
theorem AIk {a b:List Nat} (h:Ej a b=true):a≠b:=by
 rintro rfl
 rw[Fi] at h
 cases h
def Hf (a b:List Nat):Int:=if Ej a b then -1 else if a=b then 0 else 1
theorem Uu {a b:List Nat}:decide (Hf a b<0)=Ej a b:=by
 unfold Hf
 split
 · rename_i h;rw[h];rfl
 · rename_i h
   have:Ej a b=false:=by simpa using h
   rw[this]
   split<;>rfl
theorem MC {a b:List Nat}:decide (0≤Hf a b)=!Ej a b:=by
 rw[←Uu]
 by_cases h:Hf a b<0
 · simp[h]
 · simp[h];omega
theorem AGZ {a b:List Nat}:(Hf a b == 0)=decide (a=b):=by
 unfold Hf
 split
 · rename_i h;simp[AIk h]
 · split
   · rename_i h;simp[h]
   · rename_i h;simp[h]
def od (ps:List VP) (i:Nat):List Nat:=(ps[i]?.map (·.1)).getD []
def tr (ps:List VP) (i:Nat):List Nd:=(ps[i]?.map (·.2)).getD []
theorem Qt {ps:List VP} {i:Nat} (h:i<ps.length):od ps i=ps[i].1:=by unfold od;rw[List.getElem?_eq_getElem h];rfl
theorem AHb {ps:List VP} {i:Nat} (h:i<ps.length):tr ps i=ps[i].2:=by unfold tr;rw[List.getElem?_eq_getElem h];rfl
def chk (ps:List VP) (i:Nat):Bool:=(decide (i=0)||Ej (od ps (i-1)) (od ps i))&&GV (tr ps i)
def CI (ps:List VP):Bool:=decide (ps.length≤64)&&(List.range ps.length).all (chk ps)
theorem Dq {ps:List VP}:CI ps=true↔ps.length≤64∧∀i,i<ps.length→chk ps i=true:=by
 unfold CI
 simp only[Bool.and_eq_true,decide_eq_true_eq,List.all_eq_true,List.mem_range]
theorem JJ {ps:List VP} {i:Nat} (h:i<ps.length) (hc:chk ps i=false):CI ps=false:=by
 cases e:CI ps with
 | false=>rfl
 | true=>have:=(Dq.1 e).2 i h;rw[hc] at this;cases this
theorem XW {ps:List VP} (h:64<ps.length):CI ps=false:=by
 cases e:CI ps with
 | false=>rfl
 | true=>have:=(Dq.1 e).1;omega
theorem Xa {ps:List VP} (h:ps.length≤64) (hc:∀i,i<ps.length→chk ps i=true):CI ps=true:=Dq.2 ⟨h,hc⟩
def Srt (ps:List VP):Prop:=∀i,i+1<ps.length→Ej (od ps i) (od ps (i+1))=true
theorem Srt.of {ps:List VP} (h:CI ps=true):Srt ps:=by
 intro i hi
 have:=(Dq.1 h).2 (i+1) hi
 simp only[chk,Bool.and_eq_true,Bool.or_eq_true,decide_eq_true_eq,Nat.add_sub_cancel] at this
 rcases this.1 with h0|h0
 · omega
 · exact h0
theorem Srt.lt {ps:List VP} (h:Srt ps):∀{i j},i<j→j<ps.length→Ej (od ps i) (od ps j)=true:=by
 intro i j hij hj
 induction j with
 | zero=>omega
 | succ j ih =>
  rcases Nat.lt_or_ge i j with hl|hl
  · exact Gi (ih hl (by omega)) (h j hj)
  · have:i=j:=by omega
    subst this
    exact h i hj
theorem KO {ps:List VP} (h:CI ps=true) {i:Nat} (hi:i<ps.length):GV (tr ps i)=true:=by
 have:=(Dq.1 h).2 i hi
 simp only[chk,Bool.and_eq_true] at this
 exact this.2
theorem U4 {ps:List VP} (h:ps.length≤64) (hs:Srt ps) (ht:∀i,i<ps.length→GV (tr ps i)=true):CI ps=true:=by
 refine Dq.2 ⟨h,fun i hi=>?_⟩
 simp only[chk,Bool.and_eq_true,Bool.or_eq_true,decide_eq_true_eq]
 refine⟨?_,ht i hi⟩
 cases i with
 | zero=>exact .inl rfl
 | succ i=>exact .inr (hs i hi)
def pos (ps:List VP) (o:List Nat):Nat:=ps.findIdx fun p=>!Ej p.1 o
theorem Qu (ps:List VP) (o:List Nat):pos ps o≤ps.length:=List.findIdx_le_length
theorem RZ {ps:List VP} {o:List Nat} {i:Nat} (h:i<pos ps o):Ej (od ps i) o=true:=by
 have hl:i<ps.length:=Nat.lt_of_lt_of_le h (Qu ps o)
 have:=List.not_of_lt_findIdx h
 rw[Qt hl]
 simpa using this
theorem AEn {ps:List VP} {o:List Nat} (h:pos ps o<ps.length):Ej (od ps (pos ps o)) o=false:=by
 rw[Qt h]
 unfold pos at h ⊢
 simpa using List.findIdx_getElem (xs:=ps) (p:=fun p=>!Ej p.1 o) (w:=h)
theorem RC {ps:List VP} {o:List Nat} {i:Nat} (hi:i≤ps.length) (h1:∀k,k<i→Ej (od ps k) o=true) (h2:i<ps.length→Ej (od ps i) o=false):pos ps o=i:=by
 rcases Nat.lt_trichotomy (pos ps o) i with h|h|h
 · have:=h1 _ h
   rw[AEn (by omega)] at this
   cases this
 · exact h
 · have:=RZ h
   rw[h2 (Nat.lt_of_lt_of_le h (Qu ps o))] at this
   cases this
def Gx (ps:List VP) (o:List Nat):Bool:=decide (pos ps o<ps.length∧od ps (pos ps o)=o)
theorem NO {ps:List VP} (hs:Srt ps) {o:List Nat} {i:Nat} (hi:i<ps.length) (h:od ps i=o):pos ps o=i∧Gx ps o=true:=by
 have e:pos ps o=i:=RC (by omega) (fun k hk=>h▸hs.lt hk hi) fun _=>by rw[h,Fi]
 exact⟨e,by unfold Gx;rw[e];simpa using⟨hi,h⟩⟩
theorem AIb {ps:List VP} {o:List Nat} (h:∀i,i<ps.length→od ps i≠o):Gx ps o=false:=by
 unfold Gx
 simp only[decide_eq_false_iff_not,not_and]
 exact fun h1 h2=>h _ h1 h2
theorem Ia {ps:List VP} {o:List Nat} (h:Gx ps o=true):pos ps o<ps.length∧od ps (pos ps o)=o:=by simpa [Gx] using h
def atV (ps:List VP) (o:List Nat):Int:=if Gx ps o then (pos ps o:Int) else -1
abbrev VV:=List VP×List Nat×List Nat
def LZ:VV:=([],AS,AS)
def Ms (ps:List VP) (o:List Nat) (t:List Nd):List VP:=ps.take (pos ps o)++(o,t)::ps.drop (pos ps o)
def Hw (ps:List VP) (o:List Nat):List VP:=ps.take (pos ps o)++ps.drop (pos ps o+1)
def OT (ps:List VP) (o:List Nat) (t:List Nd):List VP:=ps.take (pos ps o)++(o,t)::ps.drop (pos ps o+1)
def MS (v:VV) (o:List Nat) (t:List Nd) (nx:List Nat):VV×Int:=
 if CI v.1 then (if Gx v.1 o then (v,0) else if 64≤v.1.length then (LZ,8) else ((Ms v.1 o t,v.2.1,nx),0)) else (LZ,1)
def Cb (ps:List VP) (o:List Nat) (a:Int):List Nat×Int:=
 if Bn a&&CI ps then (if Gx ps o then C4 (tr ps (pos ps o)) a else (AS,10)) else (AS,1)
def RL (v:VV) (o:List Nat) (a:Int):VV×Int:=
 if Bn a&&CI v.1 then (if Gx v.1 o then (if (GY (tr v.1 (pos v.1 o)) a).2=0 then ((OT v.1 o (GY (tr v.1 (pos v.1 o)) a).1,v.2.1,v.2.2),0) else (LZ,(GY (tr v.1 (pos v.1 o)) a).2)) else (LZ,10)) else (LZ,1)
def Zf (v:VV) (o:List Nat):VV×Int:=
 if CI v.1 then (if Gx v.1 o then ((Hw v.1 o,v.2.1,v.2.2),0) else (LZ,10)) else (LZ,1)
def Hi (ps:List VP) (k:Nat) (x:VP):List VP:=ps.take k++x::ps.drop k
theorem OQ {ps:List VP} {k:Nat} (h:k≤ps.length) (x:VP):(Hi ps k x).length=ps.length+1:=by
 unfold Hi
 rw[List.length_append,List.length_take,List.length_cons,List.length_drop]
 omega
theorem ACg (ps:List VP) (x:VP):Hi ps ps.length x=ps++[x]:=by simp[Hi]
theorem Gn {ps:List VP} {k:Nat} (h:k≤ps.length) (x:VP) (i:Nat):(Hi ps k x)[i]?=if i<k then ps[i]? else if i=k then some x else ps[i-1]?:=by
 unfold Hi
 split
 · rename_i hi
   rw[List.getElem?_append_left (by rw[List.length_take];omega),List.getElem?_take,if_pos hi]
 · rename_i hi
   rw[List.getElem?_append_right (by rw[List.length_take];omega),List.length_take,Nat.min_eq_left h]
   split
   · rename_i hk;subst hk;simp
   · rename_i hk
     have:i-k=(i-1-k)+1:=by omega
     rw[this,List.getElem?_cons_succ,List.getElem?_drop]
     congr 1
     omega
theorem AAI {ps:List VP} {k:Nat} (h0:0<k) (h:k≤ps.length) (x:VP) (a b:VP) (ha:(Hi ps k x)[k]?=some a) (hb:(Hi ps k x)[k-1]?=some b):((Hi ps k x).set (k-1) a).set k b=Hi ps (k-1) x:=by
 have hka:a=x:=by rw[Gn h] at ha;simp at ha;exact ha.symm
 have hkb:ps[k-1]?=some b:=by rw[Gn h,if_pos (by omega)] at hb;exact hb
 refine List.ext_getElem? fun i=>?_
 rw[List.getElem?_set,List.getElem?_set,List.length_set,OQ h,Gn h,Gn (by omega)]
 by_cases h1:k=i
 · subst h1
   rw[if_pos rfl,if_pos (by omega),if_neg (by omega),if_neg (by omega),hkb]
 · rw[if_neg h1]
   by_cases h2:k-1=i
   · rw[if_pos h2,if_pos (by omega),if_neg (by omega),if_pos (by omega),hka]
   · rw[if_neg h2]
     by_cases h3:i<k
     · rw[if_pos h3,if_pos (by omega)]
     · rw[if_neg h3,if_neg (by omega),if_neg (by omega),if_neg (by omega)]
theorem NP (ps:List VP) (o:List Nat) (t:List Nd):Ms ps o t=Hi ps (pos ps o) (o,t):=rfl
theorem Xu {ps:List VP} (hs:Srt ps) {o:List Nat} (hn:Gx ps o=false) {k:Nat} (hk:k≤ps.length) (hafter:∀j,k≤j→j<ps.length→Ej o (od ps j)=true) (hstop:k=0∨Ej o (od ps (k-1))=false):pos ps o=k:=by
 refine RC hk (fun i hi=>?_) fun h=>ACh (hafter k (Nat.le_refl k) h)
 rcases hstop with h0|h0
 · omega
 · have hlast:Ej (od ps (k-1)) o=true:=by
     rcases Oj (od ps (k-1)) o with e|e|e
     · have:=(NO hs (i:=k-1) (by omega) e).2
       rw[hn] at this
       cases this
     · exact e
     · rw[h0] at e;cases e
   rcases Nat.lt_or_ge i (k-1) with h1|h1
   · exact Gi (hs.lt h1 (by omega)) hlast
   · have:i=k-1:=by omega
     subst this
     exact hlast
theorem LK (ps:List VP) (o:List Nat):Hw ps o=ps.eraseIdx (pos ps o):=by
 unfold Hw
 rw[List.eraseIdx_eq_take_drop_succ]
theorem Xp {ps:List VP} {o:List Nat} (t:List Nd) (h:Gx ps o=true):OT ps o t=ps.set (pos ps o) (o,t):=by
 unfold OT
 rw[List.set_eq_take_append_cons_drop,if_pos (Ia h).1]
theorem Gp {ps qs:List VP} {i j:Nat} (h:ps[i]?=qs[j]?):od ps i=od qs j∧tr ps i=tr qs j:=by unfold od tr;rw[h];exact⟨rfl,rfl⟩
theorem JD {ps:List VP} {i:Nat} {x:VP} (h:ps[i]?=some x):od ps i=x.1∧tr ps i=x.2:=by unfold od tr;rw[h];exact⟨rfl,rfl⟩
theorem ACi {ps:List VP} (hs:Srt ps) {o:List Nat} (hn:Gx ps o=false) {j:Nat} (h:pos ps o≤j) (hj:j<ps.length):Ej o (od ps j)=true:=by
 have h0:Ej o (od ps (pos ps o))=true:=by
   have hp:pos ps o<ps.length:=by omega
   rcases Oj (od ps (pos ps o)) o with e|e|e
   · have:=(NO hs hp e).2
     rw[hn] at this
     cases this
   · rw[AEn hp] at e;cases e
   · exact e
 rcases Nat.lt_or_ge (pos ps o) j with h1|h1
 · exact Gi h0 (hs.lt h1 hj)
 · have:pos ps o=j:=by omega
   rw[←this]
   exact h0
theorem Xy {ps:List VP} {o:List Nat} {t:List Nd} (h:CI ps=true) (hn:Gx ps o=false) (hl:ps.length<64) (ht:GV t=true):CI (Ms ps o t)=true:=by
 have hs:=Srt.of h
 have hp:=Qu ps o
 have g:=Gn hp (o,t)
 rw[NP]
 have hlen:=OQ hp (o,t)
 refine U4 (by rw[show pos ps (o,t).1=pos ps o from rfl,hlen];omega) (fun i hi=>?_) fun i hi=>?_
 · rw[hlen] at hi
   rcases Nat.lt_trichotomy (i+1) (pos ps o) with h1|h1|h1
   · rw[(Gp (qs:=ps) (j:=i) ((g i).trans (if_pos (by omega)))).1,(Gp (qs:=ps) (j:=i+1) ((g (i+1)).trans (if_pos h1))).1]
     exact hs i (by omega)
   · have hb:Ej (od ps i) o=true:=RZ (by omega)
     rw[(Gp (qs:=ps) (j:=i) ((g i).trans (if_pos (by omega)))).1,(JD ((g (i+1)).trans (by rw[if_neg (by omega),if_pos h1]))).1]
     exact hb
   · rcases Nat.lt_or_ge (pos ps o) i with h2|h2
     · rw[(Gp (qs:=ps) (j:=i-1) ((g i).trans (by rw[if_neg (by omega),if_neg (by omega)]))).1,(Gp (qs:=ps) (j:=i) ((g (i+1)).trans (by rw[if_neg (by omega),if_neg (by omega)];rfl))).1]
       exact hs.lt (by omega) (by omega)
     · have:i=pos ps o:=by omega
       rw[(JD ((g i).trans (by rw[if_neg (by omega),if_pos this]))).1,(Gp (qs:=ps) (j:=i) ((g (i+1)).trans (by rw[if_neg (by omega),if_neg (by omega)];rfl))).1]
       exact ACi hs hn (by omega) (by omega)
 · rw[hlen] at hi
   rcases Nat.lt_trichotomy i (pos ps o) with h1|h1|h1
   · rw[(Gp (qs:=ps) (j:=i) ((g i).trans (if_pos h1))).2]
     exact KO h (by omega)
   · rw[(JD ((g i).trans (by rw[if_neg (by omega),if_pos h1]))).2]
     exact ht
   · rw[(Gp (qs:=ps) (j:=i-1) ((g i).trans (by rw[if_neg (by omega),if_neg (by omega)]))).2]
     exact KO h (by omega)
theorem AEo {ps:List VP} {o:List Nat} {t:List Nd} (h:CI ps=true) (hn:Gx ps o=true) (ht:GV t=true):CI (OT ps o t)=true:=by
 have hs:=Srt.of h
 obtain⟨hp,ho⟩:=Ia hn
 rw[Xp t hn]
 have ho':∀i,i<ps.length→od (ps.set (pos ps o) (o,t)) i=od ps i:=by
   intro i hi
   by_cases e:pos ps o=i
   · rw[(JD (x:=(o,t)) (by rw[List.getElem?_set,if_pos e,if_pos (by omega)])).1,←e,ho]
   · exact(Gp (by rw[List.getElem?_set,if_neg e])).1
 refine U4 (by rw[List.length_set];exact(Dq.1 h).1) (fun i hi=>?_) fun i hi=>?_
 · rw[List.length_set] at hi
   rw[ho' i (by omega),ho' (i+1) hi]
   exact hs i hi
 · rw[List.length_set] at hi
   by_cases e:pos ps o=i
   · rw[(JD (x:=(o,t)) (by rw[List.getElem?_set,if_pos e,if_pos (by omega)])).2]
     exact ht
   · rw[(Gp (qs:=ps) (j:=i) (by rw[List.getElem?_set,if_neg e])).2]
     exact KO h hi
theorem ACj {ps:List VP} {o:List Nat} (h:CI ps=true) (hn:Gx ps o=true):CI (Hw ps o)=true:=by
 have hs:=Srt.of h
 obtain⟨hp,ho⟩:=Ia hn
 rw[LK]
 have hl:(ps.eraseIdx (pos ps o)).length=ps.length-1:=List.length_eraseIdx_of_lt hp
 have g:∀i,∃j,(ps.eraseIdx (pos ps o))[i]?=ps[j]?∧(j=if i<pos ps o then i else i+1):=fun i=>by
   refine⟨_,?_,rfl⟩
   rw[List.getElem?_eraseIdx]
   split<;>rfl
 have h64:=(Dq.1 h).1
 refine U4 (by omega) (fun i hi=>?_) fun i hi=>?_
 · obtain⟨j,e1,hj⟩:=g i
   obtain⟨k,e2,hk⟩:=g (i+1)
   rw[(Gp e1).1,(Gp e2).1]
   refine hs.lt ?_ ?_
   · split at hj<;>split at hk<;>omega
   · split at hk<;>omega
 · obtain⟨j,e1,hj⟩:=g i
   rw[(Gp e1).2]
   exact KO h (by split at hj<;>omega)
end Go.Proofs.YtbfjfnbcmojpiaaGreat
namespace Go.Proofs.YtbfjfnbcmojpiaaGreat
open Go.RowKit Go.Shelf
structure VK where
 o:List Nat
 ho:Dg o
 ao:Option Addr
 cap:Nat
 l:List Nd
def VK.s (k:VK):Value:=.slice k.ao k.l.length k.cap
def VK.p (k:VK):VP:=(k.o,k.l)
def AY (k:VK):List Value:=[bv k.o,[k.s]].flatten
def Hp (k:VK):Value:=.agg (AY k).toArray
theorem C6 (k:VK):(AY k).length=33:=by simp[AY,AI,k.ho.1]
theorem Ie (k:VK):∀c∈AY k,c.oneCell'=true:=by
 intro c hc
 simp only[AY,List.flatten_cons,List.flatten_nil,List.append_nil] at hc
 rcases List.mem_append.1 hc with h|h
 · exact H0 _ c h
 · obtain rfl:=List.mem_singleton.1 h;rfl
theorem My (ks:List VK):(ks.flatMap AY).all Value.oneCell'=true:=by
 rw[List.all_flatMap,List.all_eq_true]
 exact fun k _=>List.all_eq_true.2 (Ie k)
theorem Uq (k:VK):TY Tryz.prog 58 (AY k) (Hp k):=by
 refine TY.agg Tryz.underlying58 rfl ?_ (Ie k)
 rw[C6]
 kernel_rfl
theorem EC (v:Value) (h:v.oneCell'=true):TY Tryz.prog 34 [v] v:=TY.one' Tryz.underlying34 rfl (by kernel_rfl) h
def Ao (sa po:List Nat) (s:Value):Value:=.agg ([bv sa,bv po,[s]].flatten).toArray
theorem BR {sa po:List Nat} (hs:Dg sa) (hp:Dg po) (s:Value) (h:s.oneCell'=true):TY Tryz.prog 36 ([bv sa,bv po,[s]].flatten) (Ao sa po s):=by
 refine TY.agg Tryz.underlying36 rfl ?_ ?_
 · rw[show([bv sa,bv po,[s]].flatten).length=65 by simp[AI,hs.1,hp.1]]
   kernel_rfl
 · intro c hc
   simp only[List.flatten_cons,List.flatten_nil,List.append_nil,List.mem_append,List.mem_singleton] at hc
   rcases hc with hc|hc|hc
   · exact H0 _ c hc
   · exact H0 _ c hc
   · rw[hc];exact h
def KsR (w:World) (ks:List VK):Prop:=∀k∈ks,RdT w k.s k.l
def DI (ks:List VK) (b:Nat):Prop:=∃k∈ks,NA k.s b
def JZ (v:Value) (ks:List VK) (b:Nat):Prop:=Bi v b∨DI ks b
def RdK (w:World) (v:Value) (ks:List VK):Prop:=SlB w 33 v ks.length (ks.flatMap AY)∧KsR w ks
section
variable {w w':World} {v:Value} {ks:List VK} {b:Nat}
theorem KsR.kn (h:KsR w ks) (g:w.grownBy w' none):KsR w' ks:=fun k hk=>(h k hk).kn g
theorem KsR.offR (h:KsR w ks) {row:Option Nat} (g:w.grownBy w' row) (hb:∀k,DI ks k→row≠some k):KsR w' ks:=fun k hk=>(h k hk).offR g fun x hx=>hb x ⟨k,hk,hx⟩
theorem RdK.offR (h:RdK w v ks) {row:Option Nat} (g:w.grownBy w' row) (hb:∀k,JZ v ks k→row≠some k):RdK w' v ks:=⟨h.1.offR g fun k hk=>hb k (.inl hk),h.2.offR g fun k hk=>hb k (.inr hk)⟩
theorem KsR.lt (h:KsR w ks):∀k,DI ks k→k<w.heap.size:=fun k ⟨x,hx,hk⟩=>(h x hx).lt k hk
theorem RdK.kn (h:RdK w v ks) (g:w.grownBy w' none):RdK w' v ks:=⟨h.1.kn g,h.2.kn g⟩
theorem RdK.lt (h:RdK w v ks):∀k,JZ v ks k→k<w.heap.size:=fun k hk=>hk.elim (h.1.2 k) (h.2.lt k)
theorem RdK.len (h:RdK w v ks):(ks.length:Int)≤9223372036854775807:=by
 obtain⟨ao,cap,e,h1,h2⟩:=h.1.1.shape
 omega
end
theorem RdK.nil (w:World):RdK w (.slice none 0 0) []:=⟨⟨Sl.nil w 33,fun k hk=>by simp[Bi,Value.ownBlock] at hk⟩,fun k hk=>by simp at hk⟩
theorem NU (b:Nat):¬JZ (.slice none 0 0) [] b:=by
 rintro (h|⟨k,hk,_⟩)
 · simp[Bi,Value.ownBlock] at h
 · simp at hk
theorem Oc {ks:List VK} {j:Nat} (h:j<ks.length):od (ks.map VK.p) j=ks[j].o:=by rw[Qt (by simpa using h),List.getElem_map];rfl
theorem RB {ks:List VK} {j:Nat} (h:j<ks.length):tr (ks.map VK.p) j=ks[j].l:=by rw[AHb (by simpa using h),List.getElem_map];rfl
theorem RdK.owner {w:World} {ao:Option Addr} {n cap j:Nat} {ks:List VK} (h:RdK w (.slice ao n cap) ks) (hn:n=ks.length) (hj:j<ks.length):w.rangeAt (bO ao) (oO ao+j*33) (bv ks[j].o):=by
 subst hn
 have:=DS h.1.1 C6 hj (by decide)
 exact OY (o:=oO ao+j*33) (k:=0) (A:=[]) (B:=bv ks[j].o) (C:=[ks[j].s]) this rfl
theorem RdK.tree {w:World} {ao:Option Addr} {n cap j:Nat} {ks:List VK} (h:RdK w (.slice ao n cap) ks) (hn:n=ks.length) (hj:j<ks.length):w.rangeAt (bO ao) (oO ao+j*33+32) [ks[j].s]:=by
 subst hn
 have:=DS h.1.1 C6 hj (by decide)
 exact OY (A:=bv ks[j].o) (B:=[ks[j].s]) (C:=[]) this (by rw[AI,ks[j].ho.1])
theorem RdK.key {w:World} {ao:Option Addr} {n cap j:Nat} {ks:List VK} (h:RdK w (.slice ao n cap) ks) (hn:n=ks.length) (hj:j<ks.length):w.rangeAt (bO ao) (oO ao+j*33) (AY ks[j]):=by
 subst hn
 exact DS h.1.1 C6 hj (by decide)
theorem UD:∀{a b:List Nat},(∀x∈a,x<256)→(∀x∈b,x<256)→Lib.compareBytes (a.map UInt8.ofNat) (b.map UInt8.ofNat)=Hf a b
 | [],[],_,_=>rfl
 | [],_::_,_,_=>rfl
 | _::_,[],_,_=>rfl
 | x::a,y::b,ha,hb=>by
  have hx:=ha x List.mem_cons_self
  have hy:=hb y List.mem_cons_self
  have ih:=UD (a:=a) (b:=b) (fun z hz=>ha z (List.mem_cons_of_mem _ hz)) (fun z hz=>hb z (List.mem_cons_of_mem _ hz))
  have e1:(UInt8.ofNat x<UInt8.ofNat y)↔x<y:=by rw[UInt8.lt_iff_toNat_lt,UInt8.toNat_ofNat',UInt8.toNat_ofNat',Nat.mod_eq_of_lt hx,Nat.mod_eq_of_lt hy]
  have e2:(UInt8.ofNat y<UInt8.ofNat x)↔y<x:=by rw[UInt8.lt_iff_toNat_lt,UInt8.toNat_ofNat',UInt8.toNat_ofNat',Nat.mod_eq_of_lt hx,Nat.mod_eq_of_lt hy]
  rw[List.map_cons,List.map_cons,Lib.compareBytes,ih]
  unfold Hf
  by_cases h1:x<y
  · rw[if_pos (e1.2 h1),if_pos (by simp[Ej,h1])]
  · rw[if_neg (fun h=>h1 (e1.1 h))]
    by_cases h2:y<x
    · rw[if_pos (e2.2 h2),if_neg (by simp[Ej,h1];omega),if_neg (by simp;omega)]
    · have:x=y:=by omega
      subst this
      rw[if_neg (fun h=>h2 (e2.1 h))]
      simp[Ej]
theorem UE {P:Program} {w:World} {l:List Nat} (hl:∀x∈l,x<256) {n:Nat} (hn:l.length=n) {b o c:Nat} (h:w.rangeAt b o (bv l)):(Extern.Bytes.bytesOf (.slice (some ⟨b,o,none⟩) n c)).run P w=.ok ⟨(l.map UInt8.ofNat).toArray⟩ w:=by
 subst hn
 have:=Lib.run_loadBytesX (P:=P) w (l.map fun(x:Nat)=>(x:Int)) ⟨b,o,none⟩ .empty (fun j x hj=>by
  rw[Addr.add_mid]
  refine h j _ ?_
  rw[List.getElem?_map] at hj
  unfold bv
  rw[List.getElem?_map]
  cases e:l[j]? with
  | none=>rw[e] at hj;cases hj
  | some y =>
   rw[e] at hj
   obtain rfl:=Option.some.inj hj
   rfl)
 rw[List.length_map] at this
 show(Extern.Bytes.loadBytes ⟨b,o,none⟩ l.length .empty).run P w=_
 refine this.trans ?_
 congr 2
 simp[Lib.bytesOf,Function.comp_def]
theorem AEO {x y:List Nat} (hx:Dg x) (hy:Dg y) {w:World} {b o b' o' c c':Nat} (h:w.rangeAt b o (bv x)) (h':w.rangeAt b' o' (bv y)) :
  (callFunc 129 #[.slice (some ⟨b,o,none⟩) 32 c,.slice (some ⟨b',o',none⟩) 32 c']).run Tryz.prog w=.ok (.value (.int .i64 (Hf x y))) w:=by
 have e1:(Extern.BytealgCompare.compare #[.slice (some ⟨b,o,none⟩) 32 c,.slice (some ⟨b',o',none⟩) 32 c']).run Tryz.prog w=.ok (.int .i64 (Hf x y)) w:=by
  change Sem.run Tryz.prog (do pure (goInt (Extern.BytealgCompare.cmp (←Extern.Bytes.bytesOf (.slice (some ⟨b,o,none⟩) 32 c)) (←Extern.Bytes.bytesOf (.slice (some ⟨b',o',none⟩) 32 c'))))) w=_
  rw[Sem.run_bind,UE hx.2 hx.1 h]
  simp only[Result.andThen_ok]
  rw[Sem.run_bind,UE hy.2 hy.1 h']
  simp only[Result.andThen_ok,Sem.run_pure]
  rw[Lib.cmp_eq]
  simp only
  rw[UD hx.2 hy.2]
  rfl
 rw[run_callFunc_extern Tryz.func129 (by kernel_rfl) (by kernel_rfl) (by kernel_rfl) (e:=Extern.BytealgCompare.compare) (by kernel_rfl),e1]
 rfl
theorem J9 {x y:List Nat} (hx:Dg x) (hy:Dg y) {w:World} {b o b' o' c c':Nat} (h:w.rangeAt b o (bv x)) (h':w.rangeAt b' o' (bv y)) :
  Calls Tryz.prog 94 #[.slice (some ⟨b,o,none⟩) 32 c,.slice (some ⟨b',o',none⟩) 32 c'] w fun e w'=>e=.returned (.int .i64 (Hf x y))∧w.grownBy w' none:=by
 have H:=fun c c'=>AEO hx hy h h' (c:=c) (c':=c')
 go_enter Tryz.func94,Tryz.ntmps94
 go_wp2
 go_ret
 exact⟨rfl,World.grownBy.refl _ _⟩
theorem LS (b o:Nat) (w:World):(Instr.sliceAt 23 (.pointer (some ⟨b,o,none⟩)) none none none).run Tryz.prog w=.ok (.slice (some ⟨b,o,none⟩) 32 32) w:=by
 kernel_rfl
theorem AQ:AS.length=32:=rfl
theorem AN:Dg AS:=⟨rfl,by intro x hx;simp[AS,zs] at hx;omega⟩
theorem RdK.keyX {w:World} {ao:Option Addr} {n cap j:Nat} {ks:List VK} {x:VK} (h:RdK w (.slice ao n cap) ks) (hn:n=ks.length) (hj:j<ks.length) (hx:ks[j]=x):w.rangeAt (bO ao) (oO ao+j*33) (AY x):=hx▸h.key hn hj
theorem RdK.ownerX {w:World} {ao:Option Addr} {n cap j:Nat} {ks:List VK} {x:VK} (h:RdK w (.slice ao n cap) ks) (hn:n=ks.length) (hj:j<ks.length) (hx:ks[j]=x):w.rangeAt (bO ao) (oO ao+j*33) (bv x.o):=hx▸h.owner hn hj
theorem RdK.treeX {w:World} {ao:Option Addr} {n cap j:Nat} {ks:List VK} {x:VK} (h:RdK w (.slice ao n cap) ks) (hn:n=ks.length) (hj:j<ks.length) (hx:ks[j]=x):w.rangeAt (bO ao) (oO ao+j*33+32) [x.s]:=hx▸h.tree hn hj
theorem Gg (x:VK) (o:List Nat) (ho:Dg o) (w:World) :
  Calls Tryz.prog 96 #[Hp x,AR o] w fun e w'=>e=.returned (.int .i64 (Hf x.o o))∧w.grownBy w' none:=by
 refine Be Tryz.func96 rfl Tryz.ntmps96 rfl fun a0 sv0=>?_
 have HG:=World.grownBy.refl w none
 replace sv0:Sv 9 [] [(0,Hp x),(1,AR o)] a0:=sv0
 refine ALl fun K1 k1=>?_
 refine ALk ?_
 refine Bm sv0 r6 (Uq x) fun a2 w2 Cf DV g2 z2 AJ sv2=>?_
 refine Bm sv2 r6 (CB o ho.1) fun a3 w3 CX FI g3 z3 AL sv3=>?_
 replace AJ:=AC g3 AJ
 refine Aa (v:=.int .i64 0) sv3 r6 fun a4 sv4=>?_
 refine AE ?_
 refine k1 _ _ ?_
 refine ALl fun K5 k5=>?_
 refine DP (sv4.dl [4]) [(5,pt Cf),(6,.slice ((some ⟨Cf,0,none⟩)) 32 32),(7,.slice ((some ⟨CX,0,none⟩)) 32 32),(8,.int .i64 ((Hf x.o o))),(4,.int .i64 ((Hf x.o o)))]
  ⟨yf r6 (fun _=>by kernel_rfl),He (l:=none) (u:=none) rfl rfl trivial (oy rfl rfl) trivial trivial (LS Cf 0) (fun _=>rfl),He (l:=none) (u:=none) rfl rfl trivial (oy rfl rfl) trivial trivial (LS CX 0) (fun _=>rfl),Ad [.slice ((some ⟨Cf,0,none⟩)) 32 32,.slice ((some ⟨CX,0,none⟩)) 32 32] Tryz.func94 (by kernel_rfl) rq4 ⟨(oy rfl rfl),(oy rfl rfl),ALr⟩ (As fun W g=>J9 x.ho ho (Bu (L:=[bv x.o,[VK.s x]]) (i:=0) (AF g AJ (by simp)) rfl rfl) (Ai (AF g AL (by simp)))),Gy 8 4 (.inr rfl) rfl rfl trivial (fun _ _ h=>h),ALr⟩ fun a6 w6 g6 sv6=>?_
 refine k5 _ _ ?_
 replace HG:=AA (AA (AA HG g2) g3) g6
 refine ALo ?_
 repeat refine AM ?_
 refine BQ (fn:=Tryz.f96) sv6 (BT (p:=4) Tryz.results96 sv6 rfl rfl) ?_
 exact⟨rfl,HG⟩
theorem AEP {x y:List Nat} {j:Nat} (h:∀i,i<j→x[i]?=y[i]?) {a b:Nat} (ha:x[j]?=some a) (hb:y[j]?=some b) (hne:a≠b):Ej x y=decide (a<b):=by
 induction x generalizing y j with
 | nil=>simp at ha
 | cons u x ih =>
  cases y with
  | nil=>simp at hb
  | cons v y =>
   cases j with
   | zero =>
    simp at ha hb
    subst ha hb
    have:(u == v)=false:=by simpa using hne
    simp[Ej,this]
   | succ j =>
    have h0:=h 0 (by omega)
    simp at h0
    subst h0
    have:=ih (y:=y) (j:=j) (fun i hi=>by have:=h (i+1) (by omega);simpa using this) (by simpa using ha) (by simpa using hb)
    simp[Ej,this]
theorem AEQ {x y:List Nat} (hl:x.length=32) (hm:y.length=32) (h:∀i,i<32→x[i]?=y[i]?):Ej x y=false:=by
 have:x=y:=List.ext_getElem? fun i=>by
  by_cases hi:i<32
  · exact h i hi
  · rw[List.getElem?_eq_none (by omega),List.getElem?_eq_none (by omega)]
 rw[this,Fi]
theorem Hg {w:World} {b o:Nat} {x:List Nat} (h:w.rangeAt b o (bv x)) {j a:Nat} (ha:x[j]?=some a):w.rangeAt b (o+j) [.int .u8 (a:Int)]:=by
 refine XG ?_
 refine h j _ ?_
 unfold bv
 rw[List.getElem?_map,ha]
 rfl
theorem Ur (x:Int):TY Tryz.prog 5 [.int .u8 x] (.int .u8 x):=TY.one' Tryz.underlying5 rfl (by kernel_rfl) rfl
theorem KD {b j:Nat} (hj:j<32) (w:World):(Instr.indexAt 23 (.pointer (some ⟨b,0,none⟩)) (.int .i64 (j:Int))).run Tryz.prog w=.ok (.pointer (some ⟨b,j,none⟩)) w:=by
 have h1:(0:Int)≤(j:Int)∧(j:Int)<32:=⟨by omega,by omega⟩
 rw[run_indexAt_array (P:=Tryz.prog) (w:=w) (t:=23) (a:=⟨b,0,none⟩) (k:=.i64) (i:=(j:Int)) (h:=by kernel_rfl)]
 have e1:Tryz.prog.arrayLen 23=32:=by kernel_rfl
 have e2:(sizeOf (Tryz.prog.elem 23)).run Tryz.prog w=.ok 1 w:=by kernel_rfl
 rw[e1]
 simp[h1,Addr.add,e2,Result.andThen]
 intro h0
 exact h0.symm
theorem ACR (x y:List Nat) (hx:Dg x) (hy:Dg y) (w:World) :
   Calls Tryz.prog 86 #[AR x,AR y] w fun e w'=>e=.returned (.bool (Ej x y))∧w.grownBy w' none:=by
 refine Be Tryz.func86 rfl Tryz.ntmps86 rfl fun a0 sv0=>?_
 have HG:=World.grownBy.refl w none
 replace sv0:Sv 24 [] [(0,AR x),(1,AR y)] a0:=sv0
 refine ALl fun K1 k1=>?_
 refine ALk ?_
 refine Bm sv0 r6 (CB x hx.1) fun a2 w2 Cf DV g2 z2 AJ sv2=>?_
 refine Bm sv2 r6 (CB y hy.1) fun a3 w3 CX FI g3 z3 AL sv3=>?_
 replace AJ:=AC g3 AJ
 replace HG:=AA (AA HG g2) g3
 refine Aa (v:=.bool false) sv3 r6 fun a4 sv4=>?_
 refine AE ?_
 refine k1 _ _ ?_
 refine ALl fun K5 k5=>?_
 refine ALl fun K6 k6=>?_
 refine ALk ?_
 refine Aa (v:=.int .i64 0) sv4 r6 fun a7 sv7=>?_
 refine AE ?_
 refine k6 _ _ ?_
 refine BF fun Q8 x8 y8 r8 o8=>?_
 refine wp_loop (fun a w'=>∃(j:Nat),(j≤32)∧(∀i,i<j→x[i]?=y[i]?)∧Sv 24 [] [(5,.int .i64 ((j:Int))),(3,pt CX),(2,pt Cf),(0,AR x),(1,AR y)] a∧w.grownBy w' none∧w'.heap[Cf]?=some (.cells (bv x).toArray 23 (0,0))∧w'.heap[CX]?=some (.cells (bv y).toArray 23 (0,0))) (fun a _=>(32-intOf (a.tmps.getD 5 undef)).toNat) ⟨0,by omega,fun i hi=>by omega,⟨sv7.1,sv7.2.1,sv7.2.2.1,sv7.2.2.2.2.1,sv7.2.2.2.2.2.1,sv7.2.2.2.2.2.2.1,sv7.2.2.2.2.2.2.2.1,ALr⟩,HG,AJ,AL⟩ fun a9 w9 hI9=>?_
 clear AJ
 clear AL
 clear HG
 obtain⟨j,hj32,heq,sv9,HG,AJ,AL⟩:=hI9
 refine ALl fun K10 k10=>?_
 refine ALl fun K11 k11=>?_
 by_cases hj:j<32
 · obtain⟨a,hxa⟩:∃a,x[j]?=some a:=⟨_,List.getElem?_eq_getElem (by rw[hx.1];exact hj)⟩
   obtain⟨b,hyb⟩:∃b,y[j]?=some b:=⟨_,List.getElem?_eq_getElem (by rw[hy.1];exact hj)⟩
   refine ALk ?_
   refine AK sv9 2 [(6,.int .i64 ((j:Int))),(7,.bool true)]
     ⟨ym r5,Cq r6 (fun _=>Bk (by simp;omega)),ALr⟩ fun a12 w12 g12 Df=>?_
   refine AE ?_
   refine k11 _ _ ?_
   refine Ar Df rfl rfl ?_
   refine ALp ?_
   refine k10 _ _ ?_
   refine ALl fun K13 k13=>?_
   refine BF fun Q14 x14 y14 r14 o14=>?_
   refine ALl fun K15 k15=>?_
   replace AJ:=AC g12 AJ
   replace AL:=AC g12 AL
   replace HG:=AA HG g12
   by_cases hab:a=b
   · refine DP Df [(10,.int .i64 ((j:Int))),(11,pk Cf j),(12,.int .u8 ((a:Int))),(13,.int .i64 ((j:Int))),(14,pk CX j),(15,.int .u8 ((b:Int))),(16,.bool false)]
      ⟨ym r5,BJ rq8 (fun w=>KD hj w),CD r6 (fun _ g=>Ae (Ur (a:Int)) (by simpa using Hg (o:=0) (Ai (AF g AJ (by simp))) hxa)),ym r5,BJ rq8 (fun w=>KD hj w),CD r6 (fun _ g=>Ae (Ur (b:Int)) (by simpa using Hg (o:=0) (Ai (AF g AL (by simp))) hyb)),Ho r7 (fun _=>EU (by simp[hab])),ALr⟩ fun a16 w16 g16 Cp=>?_
     refine k15 _ _ ?_
     refine Av Cp rfl rfl ?_
     refine ALp ?_
     refine y14 _ _ ?_
     refine k13 _ _ ?_
     refine ALk ?_
     refine AK Cp 2 [(8,.int .i64 ((j:Int))),(9,.int .i64 (((j+1:Nat):Int)))]
      ⟨ym r5,Cq r6 (fun _=>DK (by rw[BA (by omega) (by omega)];omega)),ALr⟩ fun a17 w17 g17 Gh=>?_
     have Us:=AA g16 g17
     refine Aa (v:=.int .i64 (((j+1:Nat):Int))) Gh r6 fun a18 Ca=>?_
     refine AE ?_
     replace AJ:=AC Us AJ
     replace AL:=AC Us AL
     replace HG:=AA HG Us
     exact⟨⟨j+1,by omega,fun i hi=>by
       by_cases h:i=j
       · subst h;rw[hxa,hyb,hab]
       · exact heq i (by omega),⟨Ca.1,Ca.2.1,Ca.2.2.1,(AH Ca).2.2.2.2.2.2.1,(AH Ca).2.2.2.2.2.2.2.1,(AH (AH Ca)).1,(AH (AH Ca)).2.1,ALr⟩,HG,AJ,AL⟩,by rw[show _=_ from Ca.2.2.1,show _=_ from sv9.2.2.1];simp[intOf];omega⟩
   · refine DP Df [(10,.int .i64 ((j:Int))),(11,pk Cf j),(12,.int .u8 ((a:Int))),(13,.int .i64 ((j:Int))),(14,pk CX j),(15,.int .u8 ((b:Int))),(16,.bool true)]
      ⟨ym r5,BJ rq8 (fun w=>KD hj w),CD r6 (fun _ g=>Ae (Ur (a:Int)) (by simpa using Hg (o:=0) (Ai (AF g AJ (by simp))) hxa)),ym r5,BJ rq8 (fun w=>KD hj w),CD r6 (fun _ g=>Ae (Ur (b:Int)) (by simpa using Hg (o:=0) (Ai (AF g AL (by simp))) hyb)),Ho r7 (fun _=>EU (by simpa using fun e=>hab (by omega))),ALr⟩ fun a19 w19 g19 Er=>?_
     refine k15 _ _ ?_
     refine Ar Er rfl rfl ?_
     refine ALl fun K20 k20=>?_
     replace AJ:=AC g19 AJ
     replace AL:=AC g19 AL
     refine DP Er [(17,.int .i64 ((j:Int))),(18,pk Cf j),(19,.int .u8 ((a:Int))),(20,.int .i64 ((j:Int))),(21,pk CX j),(22,.int .u8 ((b:Int))),(23,.bool (decide (a<b))),(4,.bool (decide (a<b)))]
      ⟨ym r5,BJ rq8 (fun w=>KD hj w),CD r6 (fun _ g=>Ae (Ur (a:Int)) (by simpa using Hg (o:=0) (Ai (AF g AJ (by simp))) hxa)),ym r5,BJ rq8 (fun w=>KD hj w),CD r6 (fun _ g=>Ae (Ur (b:Int)) (by simpa using Hg (o:=0) (Ai (AF g AL (by simp))) hyb)),Ho r7 (fun _=>Bk (by simp)),Gy 23 4 (.inr rfl) rfl rfl trivial (fun _ _ h=>h),ALr⟩ fun a21 w21 g21 Db=>?_
     refine k20 _ _ ?_
     replace HG:=AA (AA HG g19) g21
     refine ALo ?_
     repeat refine AM ?_
     refine r14 _ _ ?_
     repeat refine AM ?_
     refine r8 _ _ ?_
     repeat refine AM ?_
     refine BQ (fn:=Tryz.f86) Db (BT (p:=4) Tryz.results86 Db rfl rfl) ?_
     exact⟨congrArg (fun b=>Ending.returned (.bool b)) (AEP heq hxa hyb hab).symm,HG⟩
 · have hje:j=32:=by omega
   refine ALk ?_
   refine AK sv9 2 [(6,.int .i64 ((j:Int))),(7,.bool false)]
     ⟨ym r5,Cq r6 (fun _=>Bk (by simp;omega)),ALr⟩ fun a22 w22 g22 Cv=>?_
   refine AE ?_
   refine k11 _ _ ?_
   refine Av Cv rfl rfl ?_
   refine wp_exit ?_
   repeat refine CJ ?_
   refine x8 _ _ ?_
   refine k5 _ _ ?_
   refine ALl fun K23 k23=>?_
   refine ALk ?_
   refine Aa (v:=.bool false) Cv r6 fun a24 Cn=>?_
   refine AE ?_
   refine k23 _ _ ?_
   replace HG:=AA HG g22
   refine ALo ?_
   repeat refine AM ?_
   refine BQ (fn:=Tryz.f86) Cn (BT (p:=4) Tryz.results86 Cn rfl rfl) ?_
   exact⟨congrArg (fun b=>Ending.returned (.bool b)) (AEQ hx.1 hy.1 (hje▸heq)).symm,HG⟩
theorem Jq {x:Int} (h1:0≤x) (h2:x<18446744073709551616):IntKind.u64.wrap x=x:=by rw[IntKind.wrap_u64];omega
theorem AGX {P:Program} {a c:Int} {t:TypeId} {x y:Operand} {w:World} (h:a/2=c):(do eqGuard .shr t x y (.int .u64 a) (.int .u64 1);binOp .shr t (.int .u64 a) (.int .u64 1):Sem Value).run P w=.ok (.int .u64 c) w:=by
 subst h
 have:min 1 IntKind.u64.bits=1:=by decide
 simp[eqGuard,binOp_shr,shift_shr_any,this]
theorem AER {a b:Int} {p q:Bool} (h1:a=b) (h2:p=q):Ending.returned (.tuple #[.int .i64 a,.bool p])=Ending.returned (.tuple #[.int .i64 b,.bool q]):=by rw[h1,h2]
theorem AIZ {ks:List VK} {o:List Nat} {i:Nat} (hp:pos (ks.map VK.p) o=i) (hi:i<ks.length) {x:VK} (hx:ks[i]=x):decide (x.o=o)=Gx (ks.map VK.p) o:=by
 unfold Gx
 rw[hp,Oc hi,hx]
 simp[hi]
theorem AGY {ks:List VK} {o:List Nat} (h:¬pos (ks.map VK.p) o<ks.length):false=Gx (ks.map VK.p) o:=by
 unfold Gx
 simp at h ⊢
 omega
theorem Ut (ks:List VK) (ao:Option Addr) (cap:Nat) (o:List Nat) (ho:Dg o) (w:World) (hr:RdK w (.slice ao ks.length cap) ks) (hs:Srt (ks.map VK.p)) (h64:ks.length≤64) :
   Calls Tryz.prog 113 #[.slice ao ks.length cap,AR o,.func (.func 96) #[] #[]] w fun e w'=>e=.returned (.tuple #[.int .i64 (pos (ks.map VK.p) o),.bool (Gx (ks.map VK.p) o)])∧w.grownBy w' none:=by
 have hlen:=hr.len
 have hmap:(ks.map VK.p).length=ks.length:=List.length_map _
 refine Be Tryz.func113 rfl Tryz.ntmps113 rfl fun a0 sv0=>?_
 have HG:=World.grownBy.refl w none
 replace sv0:Sv 49 [] [(0,.slice ao ks.length cap),(1,AR o),(2,.func (.func 96) #[] #[])] a0:=sv0
 refine ALl fun K1 k1=>?_
 refine ALk ?_
 refine Bm sv0 r6 (CB o ho.1) fun a2 w2 Od NW g2 z2 B8 sv2=>?_
 refine Aa (v:=.int .i64 0) sv2 r6 fun a3 sv3=>?_
 refine Aa (v:=.bool false) sv3 r6 fun a4 sv4=>?_
 refine AE ?_
 refine k1 _ _ ?_
 refine ALl fun K5 k5=>?_
 refine ALk ?_
 refine AK sv4 2 [(12,.slice ao ks.length cap),(13,.int .i64 ((ks.length:Nat)))]
   ⟨ym r5,Bv (Tryz.underlying34) rfl rfl trivial (oy rfl rfl) (fun _=>rfl),ALr⟩ fun a6 w6 g6 sv6=>?_
 refine Aa (v:=.int .i64 ((ks.length:Nat))) sv6 r6 fun a7 sv7=>?_
 refine AE ?_
 refine k5 _ _ ?_
 refine ALl fun K8 k8=>?_
 refine ALk ?_
 refine AK sv7 1 [(14,.int .i64 ((ks.length:Nat)))]
   ⟨ym r5,ALr⟩ fun a9 w9 g9 sv9=>?_
 have gc9:=AA g6 g9
 refine Aa (v:=.int .i64 0) sv9 r6 fun a10 Cj=>?_
 refine Aa (v:=.int .i64 ((ks.length:Nat))) Cj r6 fun a11 CY=>?_
 refine AE ?_
 refine k8 _ _ ?_
 refine ALl fun K12 k12=>?_
 refine BF fun Q13 x13 y13 r13 o13=>?_
 replace B8:=AC gc9 B8
 replace hr:=(hr.kn g2).kn gc9
 replace HG:=AA (AA HG g2) gc9
 refine wp_loop (fun a w'=>∃(i:Nat) (j:Nat),(i≤j)∧(j≤ks.length)∧(∀k,k<i→Ej (od (ks.map VK.p) k) o=true)∧(∀k,j≤k→k<ks.length→Ej (od (ks.map VK.p) k) o=false)∧Sv 49 [] [(9,.int .i64 ((i:Int))),(10,.int .i64 ((j:Int))),(14,.int .i64 ((ks.length:Nat))),(8,.int .i64 ((ks.length:Nat))),(12,.slice ao ks.length cap),(13,.int .i64 ((ks.length:Nat))),(7,.bool false),(6,.int .i64 0),(4,pt Od),(0,.slice ao ks.length cap),(1,AR o),(2,.func (.func 96) #[] #[])] a∧w.grownBy w' none∧w'.heap[Od]?=some (.cells (bv o).toArray 23 (0,0))∧RdK w' (.slice ao ks.length cap) ks) (fun a _=>(intOf (a.tmps.getD 10 undef)-intOf (a.tmps.getD 9 undef)).toNat) ⟨0,ks.length,Nat.zero_le _,Nat.le_refl _,fun k hk=>by omega,fun k h1 h2=>by omega,⟨CY.1,CY.2.1,CY.2.2.2.1,CY.2.2.1,CY.2.2.2.2.1,CY.2.2.2.2.2.1,CY.2.2.2.2.2.2.1,CY.2.2.2.2.2.2.2.1,(AH CY).1,(AH CY).2.1,(AH CY).2.2.1,(AH CY).2.2.2.1,(AH CY).2.2.2.2.1,(AH CY).2.2.2.2.2.1,ALr⟩,HG,B8,hr⟩ fun a14 w14 hI14=>?_
 clear B8
 clear hr
 clear HG
 obtain⟨i,j,hij,hjn,hb,ha,Dl,HG,B8,hr⟩:=hI14
 refine ALl fun K15 k15=>?_
 refine ALl fun K16 k16=>?_
 by_cases hlt:i<j
 · obtain⟨m,hm⟩:∃m,m=(i+j)/2:=⟨_,rfl⟩
   have hmi:i≤m∧m<j∧m<ks.length:=by omega
   have hm3:=hmi.2.2
   obtain⟨x,hx_x⟩:∃x,ks[m]'hm3=x:=⟨_,rfl⟩
   have hod:od (ks.map VK.p) m=x.o:=by rw[Oc hm3,hx_x]
   refine ALk ?_
   refine AK Dl 3 [(15,.int .i64 ((i:Int))),(16,.int .i64 ((j:Int))),(17,.bool true)]
     ⟨ym r5,ym r5,Ho r7 (fun _=>Bk (by simp;omega)),ALr⟩ fun a17 w17 g17 Gh=>?_
   refine AE ?_
   refine k16 _ _ ?_
   refine Ar Gh rfl rfl ?_
   refine ALp ?_
   refine k15 _ _ ?_
   refine BF fun Q18 x18 y18 r18 o18=>?_
   refine ALl fun K19 k19=>?_
   refine ALk ?_
   refine AK Gh 6 [(18,.int .i64 ((i:Int))),(19,.int .i64 ((j:Int))),(20,.int .i64 (((i+j:Nat):Int))),(21,.int .u64 (((i+j:Nat):Int))),(22,.int .u64 ((m:Int))),(23,.int .i64 ((m:Int)))]
     ⟨ym r5,ym r5,Ho r7 (fun _=>DK (by rw[BA (by omega) (by omega)];omega)),JF r6 (fun _=>JG Tryz.underlying3 Tryz.underlying48 (Jq (by omega) (by omega))),Cq r6 (fun _=>AGX (by omega)),JF r6 (fun _=>JG Tryz.underlying48 Tryz.underlying3 (BA (by omega) (by omega))),ALr⟩ fun a20 w20 g20 E5=>?_
   have AIa:=AA g17 g20
   refine Aa (v:=.int .i64 ((m:Int))) E5 r6 fun a21 Db=>?_
   have Cv:Sv _ _ [_,_,_,_,_,_,_,_,_,_,_,_,_,_,_,_] _:=Db.dl [18,19,20,21,22,23]
   refine AE ?_
   refine k19 _ _ ?_
   refine ALl fun K23 k23=>?_
   replace B8:=AC AIa B8
   replace hr:=hr.kn AIa
   replace HG:=AA HG AIa
   by_cases hc:Ej x.o o=true
   · refine DP Cv [(24,.func (.func 96) #[] #[]),(25,.slice ao ks.length cap),(26,.int .i64 ((m:Int))),(27,pk ((bO ao)) (oO ao+m*33)),(28,Hp x),(29,AR o),(30,.int .i64 ((Hf x.o o))),(31,.bool true)]
      ⟨ym r5,ym r5,ym r5,BJ rq8 (fun w=>CW Tryz.underlying34 (by kernel_rfl) (hr.1.1) (by omega) (rfl) w),CD r6 (fun _ g=>Ae (Uq x) (RdK.keyX (hr.kn g) rfl hm3 hx_x)),yl r6 (CB o ho.1) B8,Qz (Sp.is (.int .i64 ((Hf x.o o)))) [Hp x,AR o] rfl rfl trivial (oy rfl rfl) ⟨(oy rfl rfl),(oy rfl rfl),ALr⟩ (As fun W g=>Gg x o ho W) (fun _ _ h=>h) (Eg Tryz.func96 (by kernel_rfl) rfl),Cq r6 (fun _=>Bk (by rw[Uu,hc])),ALr⟩ fun a24 w24 g24 Cn=>?_
     refine k23 _ _ ?_
     refine Ar Cn rfl rfl ?_
     refine ALk ?_
     refine AK Cn 2 [(32,.int .i64 ((m:Int))),(33,.int .i64 (((m+1:Nat):Int)))]
      ⟨ym r5,Cq r6 (fun _=>DK (by rw[BA (by omega) (by omega)];omega)),ALr⟩ fun a25 w25 g25 DM=>?_
     have Ks:=AA g24 g25
     refine Aa (v:=.int .i64 (((m+1:Nat):Int))) DM r6 fun a26 Co=>?_
     refine AE ?_
     refine y18 _ _ ?_
     replace B8:=AC Ks B8
     replace hr:=hr.kn Ks
     replace HG:=AA HG Ks
     exact⟨⟨m+1,j,by omega,by omega,fun k hk=>if e:k=m then (by rw[e,hod,hc]) else Gi (hs.lt (i:=k) (j:=m) (by omega) (by rw[hmap];omega)) (hod.symm▸hc),ha,⟨Co.1,Co.2.1,Co.2.2.1,(AH (AH Co)).2.1,(AH (AH Co)).2.2.1,(AH (AH Co)).2.2.2.1,(AH (AH Co)).2.2.2.2.1,(AH (AH Co)).2.2.2.2.2.1,(AH (AH Co)).2.2.2.2.2.2.1,(AH (AH Co)).2.2.2.2.2.2.2.1,(AH (AH (AH Co))).1,(AH (AH (AH Co))).2.1,(AH (AH (AH Co))).2.2.1,(AH (AH (AH Co))).2.2.2.1,ALr⟩,HG,B8,hr⟩,by rw[show _=_ from Co.2.2.1,show _=_ from(AH (AH Co)).2.1,show _=_ from Dl.2.2.1,show _=_ from Dl.2.2.2.1];simp[intOf];omega⟩
   · refine DP Cv [(24,.func (.func 96) #[] #[]),(25,.slice ao ks.length cap),(26,.int .i64 ((m:Int))),(27,pk ((bO ao)) (oO ao+m*33)),(28,Hp x),(29,AR o),(30,.int .i64 ((Hf x.o o))),(31,.bool false)]
      ⟨ym r5,ym r5,ym r5,BJ rq8 (fun w=>CW Tryz.underlying34 (by kernel_rfl) (hr.1.1) (by omega) (rfl) w),CD r6 (fun _ g=>Ae (Uq x) (RdK.keyX (hr.kn g) rfl hm3 hx_x)),yl r6 (CB o ho.1) B8,Qz (Sp.is (.int .i64 ((Hf x.o o)))) [Hp x,AR o] rfl rfl trivial (oy rfl rfl) ⟨(oy rfl rfl),(oy rfl rfl),ALr⟩ (As fun W g=>Gg x o ho W) (fun _ _ h=>h) (Eg Tryz.func96 (by kernel_rfl) rfl),Cq r6 (fun _=>Bk (by rw[Uu];simpa using hc)),ALr⟩ fun a27 w27 g27 Gj=>?_
     refine k23 _ _ ?_
     refine Av Gj rfl rfl ?_
     refine ALk ?_
     refine AK Gj 1 [(34,.int .i64 ((m:Int)))]
      ⟨ym r5,ALr⟩ fun a28 w28 g28 LU=>?_
     have Mz:=AA g27 g28
     refine Aa (v:=.int .i64 ((m:Int))) LU r6 fun a29 Cc=>?_
     refine AE ?_
     refine y18 _ _ ?_
     replace B8:=AC Mz B8
     replace hr:=hr.kn Mz
     replace HG:=AA HG Mz
     exact⟨⟨i,m,by omega,by omega,hb,fun k h1 h2=>if e:k=m then (by rw[e,hod];simpa using hc) else Bool.eq_false_iff.2 fun hh=>hc (hod▸Gi (hs.lt (i:=m) (j:=k) (by omega) (by rw[hmap];omega)) hh),⟨Cc.1,Cc.2.1,(AH (AH Cc)).1,Cc.2.2.1,(AH (AH Cc)).2.1,(AH (AH Cc)).2.2.1,(AH (AH Cc)).2.2.2.1,(AH (AH Cc)).2.2.2.2.1,(AH (AH Cc)).2.2.2.2.2.1,(AH (AH Cc)).2.2.2.2.2.2.1,(AH (AH Cc)).2.2.2.2.2.2.2.1,(AH (AH (AH Cc))).1,(AH (AH (AH Cc))).2.1,(AH (AH (AH Cc))).2.2.1,ALr⟩,HG,B8,hr⟩,by rw[show _=_ from(AH (AH Cc)).1,show _=_ from Cc.2.2.1,show _=_ from Dl.2.2.1,show _=_ from Dl.2.2.2.1];simp[intOf];omega⟩
 · have hie:i=j:=by omega
   have hpos:pos (ks.map VK.p) o=i:=RC (by omega) hb fun h=>ha i (by omega) (by omega)
   refine ALk ?_
   refine AK Dl 3 [(15,.int .i64 ((i:Int))),(16,.int .i64 ((j:Int))),(17,.bool false)]
     ⟨ym r5,ym r5,Ho r7 (fun _=>Bk (by simp;omega)),ALr⟩ fun a30 w30 g30 Es=>?_
   refine AE ?_
   refine k16 _ _ ?_
   refine Av Es rfl rfl ?_
   refine wp_exit ?_
   repeat refine CJ ?_
   refine x13 _ _ ?_
   refine k12 _ _ ?_
   refine ALl fun K31 k31=>?_
   replace B8:=AC g30 B8
   replace hr:=hr.kn g30
   replace HG:=AA HG g30
   by_cases hin:i<ks.length
   · obtain⟨y,hx_y⟩:∃x,ks[i]'hin=x:=⟨_,rfl⟩
     refine DP (Es.dl [7,6]) [(35,.int .i64 ((i:Int))),(36,.int .i64 ((i:Int))),(37,.int .i64 ((ks.length:Nat))),(38,.bool true),(39,.bool true),(40,.func (.func 96) #[] #[]),(41,.slice ao ks.length cap),(42,.int .i64 ((i:Int))),(43,pk ((bO ao)) (oO ao+i*33)),(44,Hp y),(45,AR o),(46,.int .i64 ((Hf y.o o))),(47,.bool (decide (y.o=o))),(48,.bool (decide (y.o=o))),(6,.int .i64 ((i:Int))),(7,.bool (decide (y.o=o)))]
      ⟨ym r5,ym r5,ym r5,Ho r7 (fun _=>Bk (by simp;omega)),ym r5,A1 rq8,A1 rq8,A1 rq8,C3 rfl rfl (gy rfl rfl rfl) (oy rfl rfl) (oy rfl rfl) (fun w=>CW Tryz.underlying34 (by kernel_rfl) (hr.1.1) (by omega) (rfl) w) (fun _=>rfl),A9 rq9 (fun _ g=>Ae (Uq y) (RdK.keyX (hr.kn g) rfl hin hx_y)),A9 rq9 (fun _ g=>Ae (CB o ho.1) (Ai (AF g B8 (by simp)))),Qz (Sp.is (.int .i64 ((Hf y.o o)))) [Hp y,AR o] rfl rfl (gy rfl rfl rfl) (oy rfl rfl) ⟨(oy rfl rfl),(oy rfl rfl),ALr⟩ (As fun W g=>Gg y o ho W) (fun _ _ h=>h) (Eg Tryz.func96 (by kernel_rfl) rfl),BZ rq9 (fun _=>CQ AGZ),BC rq9,Gy 35 6 (.inr rfl) rfl rfl trivial (fun _ _ h=>h),Gy 48 7 (.inr rfl) rfl rfl trivial (fun _ _ h=>h),ALr⟩ fun a32 w32 g32 Ck=>?_
     refine k31 _ _ ?_
     replace HG:=AA HG g32
     refine ALo ?_
     repeat refine AM ?_
     refine BQ (fn:=Tryz.f113) Ck (RA (p:=6) (q:=7) Tryz.results113 Ck rfl rfl rfl rfl) ?_
     exact⟨AER (by rw[hpos]) (AIZ hpos hin hx_y),HG⟩
   · refine DP (Es.dl [7,6]) [(35,.int .i64 ((i:Int))),(36,.int .i64 ((i:Int))),(37,.int .i64 ((ks.length:Nat))),(38,.bool false),(39,.bool false),(40,undef),(41,undef),(42,undef),(43,undef),(44,undef),(45,undef),(46,undef),(47,undef),(48,.bool false),(6,.int .i64 ((i:Int))),(7,.bool false)]
      ⟨ym r5,ym r5,ym r5,Ho r7 (fun _=>Bk (by simp;omega)),ym r5,Ab r6,Ab r6,Ab r6,Ab r6,Ab r6,Ab r6,Ab r6,Ab r6,CK r7,Gy 35 6 (.inr rfl) rfl rfl trivial (fun _ _ h=>h),Gy 48 7 (.inr rfl) rfl rfl trivial (fun _ _ h=>h),ALr⟩ fun a33 w33 g33 Ku=>?_
     refine k31 _ _ ?_
     replace HG:=AA HG g33
     refine ALo ?_
     repeat refine AM ?_
     refine BQ (fn:=Tryz.f113) Ku (RA (p:=6) (q:=7) Tryz.results113 Ku rfl rfl rfl rfl) ?_
     exact⟨AER (by rw[hpos]) (AGY (by rw[hpos];exact hin)),HG⟩
end Go.Proofs.YtbfjfnbcmojpiaaGreat
