import Derived.Test.YtbfjfnbcmojpiaaGreatAlPP
import Derived.Test.YtbfjfnbcmojpiaaGreatAlSG
import Derived.Lib.Bytealg
import Derived.Lib.BytesEntry
set_option linter.unusedSimpArgs false
set_option linter.unusedVariables false
set_option maxRecDepth 100000
set_option maxHeartbeats 4000000
namespace Go.Proofs.YtbfjfnbcmojpiaaGreat
abbrev VP:=List Nat×List Nd
def Eg:List Nat→List Nat→Bool
 | a::l,b::m=>decide (a<b)||(a == b&&Eg l m)
 | [],_::_=>true
 | _,[]=>false
theorem Ff:∀l,Eg l l=false
 | []=>rfl
 | a::l=>by simp[Eg,Ff l]
theorem Gg:∀{a b c},Eg a b=true→Eg b c=true→Eg a c=true
 | [],[],_,h,_=>by simp[Eg] at h
 | [],_::_,[],_,h=>by simp[Eg] at h
 | [],_::_,_::_,_,_=>rfl
 | _::_,[],_,h,_=>by simp[Eg] at h
 | _::_,_::_,[],_,h=>by simp[Eg] at h
 | x::a,y::b,z::c,h,k=>by
  simp only[Eg,Bool.or_eq_true,decide_eq_true_eq,Bool.and_eq_true,beq_iff_eq] at h k ⊢
  rcases h with h|⟨h1,h2⟩<;>rcases k with k|⟨k1,k2⟩
  · exact .inl (by omega)
  · exact .inl (by omega)
  · exact .inl (by omega)
  · exact .inr ⟨by omega,Gg h2 k2⟩
theorem OJ:∀a b,a=b∨Eg a b=true∨Eg b a=true
 | [],[]=>.inl rfl
 | [],_::_=>.inr (.inl rfl)
 | _::_,[]=>.inr (.inr rfl)
 | x::a,y::b=>by
  simp only[Eg,Bool.or_eq_true,decide_eq_true_eq,Bool.and_eq_true,beq_iff_eq]
  rcases Nat.lt_trichotomy x y with h|h|h
  · exact .inr (.inl (.inl h))
  · rcases OJ a b with e|e|e
    · exact .inl (by rw[h,e])
    · exact .inr (.inl (.inr ⟨h,e⟩))
    · exact .inr (.inr (.inr ⟨h.symm,e⟩))
  · exact .inr (.inr (.inl h))
theorem ACs {a b:List Nat} (h:Eg a b=true):Eg b a=false:=by
 cases e:Eg b a with
 | false=>rfl
 | true=>have:=Gg h e;rw[Ff] at this;cases this
theorem AI4 {a b:List Nat} (h:Eg a b=true):a≠b:=by
 rintro rfl
 rw[Ff] at h
 cases h
def Hc (a b:List Nat):Int:=if Eg a b then -1 else if a=b then 0 else 1
theorem VO {a b:List Nat}:decide (Hc a b<0)=Eg a b:=by
 unfold Hc
 split
 · rename_i h;rw[h];rfl
 · rename_i h
   have:Eg a b=false:=by simpa using h
   rw[this]
   split<;>rfl
theorem Ln {a b:List Nat}:decide (0≤Hc a b)=!Eg a b:=by
 rw[←VO]
 by_cases h:Hc a b<0
 · simp[h]
 · simp[h];omega
theorem AGo {a b:List Nat}:(Hc a b == 0)=decide (a=b):=by
 unfold Hc
 split
 · rename_i h;simp[AI4 h]
 · split
   · rename_i h;simp[h]
   · rename_i h;simp[h]
def od (ps:List VP) (i:Nat):List Nat:=(ps[i]?.map (·.1)).getD []
def tr (ps:List VP) (i:Nat):List Nd:=(ps[i]?.map (·.2)).getD []
theorem Qk {ps:List VP} {i:Nat} (h:i<ps.length):od ps i=ps[i].1:=by unfold od;rw[List.getElem?_eq_getElem h];rfl
theorem AHv {ps:List VP} {i:Nat} (h:i<ps.length):tr ps i=ps[i].2:=by unfold tr;rw[List.getElem?_eq_getElem h];rfl
def chk (ps:List VP) (i:Nat):Bool:=(decide (i=0)||Eg (od ps (i-1)) (od ps i))&&GO (tr ps i)
def CK (ps:List VP):Bool:=decide (ps.length≤64)&&(List.range ps.length).all (chk ps)
theorem Eh {ps:List VP}:CK ps=true↔ps.length≤64∧∀i,i<ps.length→chk ps i=true:=by
 unfold CK
 simp only[Bool.and_eq_true,decide_eq_true_eq,List.all_eq_true,List.mem_range]
theorem Iy {ps:List VP} {i:Nat} (h:i<ps.length) (hc:chk ps i=false):CK ps=false:=by
 cases e:CK ps with
 | false=>rfl
 | true=>have:=(Eh.1 e).2 i h;rw[hc] at this;cases this
theorem Xo {ps:List VP} (h:64<ps.length):CK ps=false:=by
 cases e:CK ps with
 | false=>rfl
 | true=>have:=(Eh.1 e).1;omega
theorem Xr {ps:List VP} (h:ps.length≤64) (hc:∀i,i<ps.length→chk ps i=true):CK ps=true:=Eh.2 ⟨h,hc⟩
def Srt (ps:List VP):Prop:=∀i,i+1<ps.length→Eg (od ps i) (od ps (i+1))=true
theorem Srt.of {ps:List VP} (h:CK ps=true):Srt ps:=by
 intro i hi
 have:=(Eh.1 h).2 (i+1) hi
 simp only[chk,Bool.and_eq_true,Bool.or_eq_true,decide_eq_true_eq,Nat.add_sub_cancel] at this
 rcases this.1 with h0|h0
 · omega
 · exact h0
theorem Srt.lt {ps:List VP} (h:Srt ps):∀{i j},i<j→j<ps.length→Eg (od ps i) (od ps j)=true:=by
 intro i j hij hj
 induction j with
 | zero=>omega
 | succ j ih =>
  rcases Nat.lt_or_ge i j with hl|hl
  · exact Gg (ih hl (by omega)) (h j hj)
  · have:i=j:=by omega
    subst this
    exact h i hj
theorem Mq {ps:List VP} (h:CK ps=true) {i:Nat} (hi:i<ps.length):GO (tr ps i)=true:=by
 have:=(Eh.1 h).2 i hi
 simp only[chk,Bool.and_eq_true] at this
 exact this.2
theorem ABV {ps:List VP} (h:ps.length≤64) (hs:Srt ps) (ht:∀i,i<ps.length→GO (tr ps i)=true):CK ps=true:=by
 refine Eh.2 ⟨h,fun i hi=>?_⟩
 simp only[chk,Bool.and_eq_true,Bool.or_eq_true,decide_eq_true_eq]
 refine⟨?_,ht i hi⟩
 cases i with
 | zero=>exact .inl rfl
 | succ i=>exact .inr (hs i hi)
def pos (ps:List VP) (o:List Nat):Nat:=ps.findIdx fun p=>!Eg p.1 o
theorem Ql (ps:List VP) (o:List Nat):pos ps o≤ps.length:=List.findIdx_le_length
theorem RN {ps:List VP} {o:List Nat} {i:Nat} (h:i<pos ps o):Eg (od ps i) o=true:=by
 have hl:i<ps.length:=Nat.lt_of_lt_of_le h (Ql ps o)
 have:=List.not_of_lt_findIdx h
 rw[Qk hl]
 simpa using this
theorem AEw {ps:List VP} {o:List Nat} (h:pos ps o<ps.length):Eg (od ps (pos ps o)) o=false:=by
 rw[Qk h]
 unfold pos at h ⊢
 simpa using List.findIdx_getElem (xs:=ps) (p:=fun p=>!Eg p.1 o) (w:=h)
theorem Qv {ps:List VP} {o:List Nat} {i:Nat} (hi:i≤ps.length) (h1:∀k,k<i→Eg (od ps k) o=true) (h2:i<ps.length→Eg (od ps i) o=false):pos ps o=i:=by
 rcases Nat.lt_trichotomy (pos ps o) i with h|h|h
 · have:=h1 _ h
   rw[AEw (by omega)] at this
   cases this
 · exact h
 · have:=RN h
   rw[h2 (Nat.lt_of_lt_of_le h (Ql ps o))] at this
   cases this
def Hv (ps:List VP) (o:List Nat):Bool:=decide (pos ps o<ps.length∧od ps (pos ps o)=o)
theorem NA {ps:List VP} (hs:Srt ps) {o:List Nat} {i:Nat} (hi:i<ps.length) (h:od ps i=o):pos ps o=i∧Hv ps o=true:=by
 have e:pos ps o=i:=Qv (by omega) (fun k hk=>h▸hs.lt hk hi) fun _=>by rw[h,Ff]
 exact⟨e,by unfold Hv;rw[e];simpa using⟨hi,h⟩⟩
theorem AIx {ps:List VP} {o:List Nat} (h:∀i,i<ps.length→od ps i≠o):Hv ps o=false:=by
 unfold Hv
 simp only[decide_eq_false_iff_not,not_and]
 exact fun h1 h2=>h _ h1 h2
theorem Jl {ps:List VP} {o:List Nat} (h:Hv ps o=true):pos ps o<ps.length∧od ps (pos ps o)=o:=by simpa [Hv] using h
def atV (ps:List VP) (o:List Nat):Int:=if Hv ps o then (pos ps o:Int) else -1
abbrev VV:=List VP×List Nat×List Nat
def NI:VV:=([],AR,AR)
def Mb (ps:List VP) (o:List Nat) (t:List Nd):List VP:=ps.take (pos ps o)++(o,t)::ps.drop (pos ps o)
def UT (ps:List VP) (o:List Nat):List VP:=ps.take (pos ps o)++ps.drop (pos ps o+1)
def N3 (ps:List VP) (o:List Nat) (t:List Nd):List VP:=ps.take (pos ps o)++(o,t)::ps.drop (pos ps o+1)
def L8 (v:VV) (o:List Nat) (t:List Nd) (nx:List Nat):VV×Int:=
 if CK v.1 then (if Hv v.1 o then (v,0) else if 64≤v.1.length then (NI,8) else ((Mb v.1 o t,v.2.1,nx),0)) else (NI,1)
def Co (ps:List VP) (o:List Nat) (a:Int):List Nat×Int:=
 if Br a&&CK ps then (if Hv ps o then Cy (tr ps (pos ps o)) a else (AR,10)) else (AR,1)
def Pc (v:VV) (o:List Nat) (a:Int):VV×Int:=
 if Br a&&CK v.1 then (if Hv v.1 o then (if (Fy (tr v.1 (pos v.1 o)) a).2=0 then ((N3 v.1 o (Fy (tr v.1 (pos v.1 o)) a).1,v.2.1,v.2.2),0) else (NI,(Fy (tr v.1 (pos v.1 o)) a).2)) else (NI,10)) else (NI,1)
def Hf (ps:List VP) (k:Nat) (x:VP):List VP:=ps.take k++x::ps.drop k
theorem N2 {ps:List VP} {k:Nat} (h:k≤ps.length) (x:VP):(Hf ps k x).length=ps.length+1:=by
 unfold Hf
 rw[List.length_append,List.length_take,List.length_cons,List.length_drop]
 omega
theorem ACr (ps:List VP) (x:VP):Hf ps ps.length x=ps++[x]:=by simp[Hf]
theorem Gl {ps:List VP} {k:Nat} (h:k≤ps.length) (x:VP) (i:Nat):(Hf ps k x)[i]?=if i<k then ps[i]? else if i=k then some x else ps[i-1]?:=by
 unfold Hf
 split
 · rename_i hi
   rw[List.getElem?_append_left (by rw[List.length_take];omega),List.getElem?_take,if_pos hi]
 · rename_i hi
   rw[List.getElem?_append_right (by rw[List.length_take];omega),List.length_take,Nat.min_eq_left h]
   split
   · rename_i hk;subst hk;simp
   · rename_i hk
     have:i-k=(i-1-k)+1:=by omega
     rw[this,List.getElem?_cons_succ,List.getElem?_drop]
     congr 1
     omega
theorem AAS {ps:List VP} {k:Nat} (h0:0<k) (h:k≤ps.length) (x:VP) (a b:VP) (ha:(Hf ps k x)[k]?=some a) (hb:(Hf ps k x)[k-1]?=some b):((Hf ps k x).set (k-1) a).set k b=Hf ps (k-1) x:=by
 have hka:a=x:=by rw[Gl h] at ha;simp at ha;exact ha.symm
 have hkb:ps[k-1]?=some b:=by rw[Gl h,if_pos (by omega)] at hb;exact hb
 refine List.ext_getElem? fun i=>?_
 rw[List.getElem?_set,List.getElem?_set,List.length_set,N2 h,Gl h,Gl (by omega)]
 by_cases h1:k=i
 · subst h1
   rw[if_pos rfl,if_pos (by omega),if_neg (by omega),if_neg (by omega),hkb]
 · rw[if_neg h1]
   by_cases h2:k-1=i
   · rw[if_pos h2,if_pos (by omega),if_neg (by omega),if_pos (by omega),hka]
   · rw[if_neg h2]
     by_cases h3:i<k
     · rw[if_pos h3,if_pos (by omega)]
     · rw[if_neg h3,if_neg (by omega),if_neg (by omega),if_neg (by omega)]
theorem NB (ps:List VP) (o:List Nat) (t:List Nd):Mb ps o t=Hf ps (pos ps o) (o,t):=rfl
theorem YU {ps:List VP} (hs:Srt ps) {o:List Nat} (hn:Hv ps o=false) {k:Nat} (hk:k≤ps.length) (hafter:∀j,k≤j→j<ps.length→Eg o (od ps j)=true) (hstop:k=0∨Eg o (od ps (k-1))=false):pos ps o=k:=by
 refine Qv hk (fun i hi=>?_) fun h=>ACs (hafter k (Nat.le_refl k) h)
 rcases hstop with h0|h0
 · omega
 · have hlast:Eg (od ps (k-1)) o=true:=by
     rcases OJ (od ps (k-1)) o with e|e|e
     · have:=(NA hs (i:=k-1) (by omega) e).2
       rw[hn] at this
       cases this
     · exact e
     · rw[h0] at e;cases e
   rcases Nat.lt_or_ge i (k-1) with h1|h1
   · exact Gg (hs.lt h1 (by omega)) hlast
   · have:i=k-1:=by omega
     subst this
     exact hlast
theorem Oz (ps:List VP) (o:List Nat):UT ps o=ps.eraseIdx (pos ps o):=by
 unfold UT
 rw[List.eraseIdx_eq_take_drop_succ]
theorem YP {ps:List VP} {o:List Nat} (t:List Nd) (h:Hv ps o=true):N3 ps o t=ps.set (pos ps o) (o,t):=by
 unfold N3
 rw[List.set_eq_take_append_cons_drop,if_pos (Jl h).1]
theorem JI {ps qs:List VP} {i j:Nat} (h:ps[i]?=qs[j]?):od ps i=od qs j∧tr ps i=tr qs j:=by unfold od tr;rw[h];exact⟨rfl,rfl⟩
theorem It {ps:List VP} {i:Nat} {x:VP} (h:ps[i]?=some x):od ps i=x.1∧tr ps i=x.2:=by unfold od tr;rw[h];exact⟨rfl,rfl⟩
theorem ACt {ps:List VP} (hs:Srt ps) {o:List Nat} (hn:Hv ps o=false) {j:Nat} (h:pos ps o≤j) (hj:j<ps.length):Eg o (od ps j)=true:=by
 have h0:Eg o (od ps (pos ps o))=true:=by
   have hp:pos ps o<ps.length:=by omega
   rcases OJ (od ps (pos ps o)) o with e|e|e
   · have:=(NA hs hp e).2
     rw[hn] at this
     cases this
   · rw[AEw hp] at e;cases e
   · exact e
 rcases Nat.lt_or_ge (pos ps o) j with h1|h1
 · exact Gg h0 (hs.lt h1 hj)
 · have:pos ps o=j:=by omega
   rw[←this]
   exact h0
theorem YY {ps:List VP} {o:List Nat} {t:List Nd} (h:CK ps=true) (hn:Hv ps o=false) (hl:ps.length<64) (ht:GO t=true):CK (Mb ps o t)=true:=by
 have hs:=Srt.of h
 have hp:=Ql ps o
 have g:=Gl hp (o,t)
 rw[NB]
 have hlen:=N2 hp (o,t)
 refine ABV (by rw[show pos ps (o,t).1=pos ps o from rfl,hlen];omega) (fun i hi=>?_) fun i hi=>?_
 · rw[hlen] at hi
   rcases Nat.lt_trichotomy (i+1) (pos ps o) with h1|h1|h1
   · rw[(JI (qs:=ps) (j:=i) ((g i).trans (if_pos (by omega)))).1,(JI (qs:=ps) (j:=i+1) ((g (i+1)).trans (if_pos h1))).1]
     exact hs i (by omega)
   · have hb:Eg (od ps i) o=true:=RN (by omega)
     rw[(JI (qs:=ps) (j:=i) ((g i).trans (if_pos (by omega)))).1,(It ((g (i+1)).trans (by rw[if_neg (by omega),if_pos h1]))).1]
     exact hb
   · rcases Nat.lt_or_ge (pos ps o) i with h2|h2
     · rw[(JI (qs:=ps) (j:=i-1) ((g i).trans (by rw[if_neg (by omega),if_neg (by omega)]))).1,(JI (qs:=ps) (j:=i) ((g (i+1)).trans (by rw[if_neg (by omega),if_neg (by omega)];rfl))).1]
       exact hs.lt (by omega) (by omega)
     · have:i=pos ps o:=by omega
       rw[(It ((g i).trans (by rw[if_neg (by omega),if_pos this]))).1,(JI (qs:=ps) (j:=i) ((g (i+1)).trans (by rw[if_neg (by omega),if_neg (by omega)];rfl))).1]
       exact ACt hs hn (by omega) (by omega)
 · rw[hlen] at hi
   rcases Nat.lt_trichotomy i (pos ps o) with h1|h1|h1
   · rw[(JI (qs:=ps) (j:=i) ((g i).trans (if_pos h1))).2]
     exact Mq h (by omega)
   · rw[(It ((g i).trans (by rw[if_neg (by omega),if_pos h1]))).2]
     exact ht
   · rw[(JI (qs:=ps) (j:=i-1) ((g i).trans (by rw[if_neg (by omega),if_neg (by omega)]))).2]
     exact Mq h (by omega)
theorem AEx {ps:List VP} {o:List Nat} {t:List Nd} (h:CK ps=true) (hn:Hv ps o=true) (ht:GO t=true):CK (N3 ps o t)=true:=by
 have hs:=Srt.of h
 obtain⟨hp,ho⟩:=Jl hn
 rw[YP t hn]
 have ho':∀i,i<ps.length→od (ps.set (pos ps o) (o,t)) i=od ps i:=by
   intro i hi
   by_cases e:pos ps o=i
   · rw[(It (x:=(o,t)) (by rw[List.getElem?_set,if_pos e,if_pos (by omega)])).1,←e,ho]
   · exact(JI (by rw[List.getElem?_set,if_neg e])).1
 refine ABV (by rw[List.length_set];exact(Eh.1 h).1) (fun i hi=>?_) fun i hi=>?_
 · rw[List.length_set] at hi
   rw[ho' i (by omega),ho' (i+1) hi]
   exact hs i hi
 · rw[List.length_set] at hi
   by_cases e:pos ps o=i
   · rw[(It (x:=(o,t)) (by rw[List.getElem?_set,if_pos e,if_pos (by omega)])).2]
     exact ht
   · rw[(JI (qs:=ps) (j:=i) (by rw[List.getElem?_set,if_neg e])).2]
     exact Mq h hi
end Go.Proofs.YtbfjfnbcmojpiaaGreat
namespace Go.Proofs.YtbfjfnbcmojpiaaGreat
open Go.RowKit Go.Shelf
structure VK where
 o:List Nat
 ho:Dg o
 ao:Option Addr
 cap:Nat
 l:List Nd
def VK.s (k:VK):Value:=.slice k.ao k.l.length k.cap
def VK.p (k:VK):VP:=(k.o,k.l)
def Af (k:VK):List Value:=[bv k.o,[k.s]].flatten
def Hk (k:VK):Value:=.agg (Af k).toArray
theorem C3 (k:VK):(Af k).length=33:=by simp[Af,AI,k.ho.1]
theorem IP (k:VK):∀c∈Af k,c.oneCell'=true:=by
 intro c hc
 simp only[Af,List.flatten_cons,List.flatten_nil,List.append_nil] at hc
 rcases List.mem_append.1 hc with h|h
 · exact Hs _ c h
 · obtain rfl:=List.mem_singleton.1 h;rfl
theorem Qu (ks:List VK):(ks.flatMap Af).all Value.oneCell'=true:=by
 rw[List.all_flatMap,List.all_eq_true]
 exact fun k _=>List.all_eq_true.2 (IP k)
theorem VJ (k:VK):TY Tryz.prog 58 (Af k) (Hk k):=by
 refine TY.agg Tryz.underlying58 rfl ?_ (IP k)
 rw[C3]
 kernel_rfl
theorem EP (v:Value) (h:v.oneCell'=true):TY Tryz.prog 34 [v] v:=TY.one' Tryz.underlying34 rfl (by kernel_rfl) h
def Am (sa po:List Nat) (s:Value):Value:=.agg ([bv sa,bv po,[s]].flatten).toArray
theorem Bb {sa po:List Nat} (hs:Dg sa) (hp:Dg po) (s:Value) (h:s.oneCell'=true):TY Tryz.prog 36 ([bv sa,bv po,[s]].flatten) (Am sa po s):=by
 refine TY.agg Tryz.underlying36 rfl ?_ ?_
 · rw[show([bv sa,bv po,[s]].flatten).length=65 by simp[AI,hs.1,hp.1]]
   kernel_rfl
 · intro c hc
   simp only[List.flatten_cons,List.flatten_nil,List.append_nil,List.mem_append,List.mem_singleton] at hc
   rcases hc with hc|hc|hc
   · exact Hs _ c hc
   · exact Hs _ c hc
   · rw[hc];exact h
def KsR (w:World) (ks:List VK):Prop:=∀k∈ks,RdT w k.s k.l
def DR (ks:List VK) (b:Nat):Prop:=∃k∈ks,Mx k.s b
def Mh (v:Value) (ks:List VK) (b:Nat):Prop:=Bk v b∨DR ks b
def RdK (w:World) (v:Value) (ks:List VK):Prop:=SlB w 33 v ks.length (ks.flatMap Af)∧KsR w ks
section
variable {w w':World} {v:Value} {ks:List VK} {b:Nat}
theorem KsR.kn (h:KsR w ks) (g:w.grownBy w' none):KsR w' ks:=fun k hk=>(h k hk).kn g
theorem KsR.offR (h:KsR w ks) {row:Option Nat} (g:w.grownBy w' row) (hb:∀k,DR ks k→row≠some k):KsR w' ks:=fun k hk=>(h k hk).offR g fun x hx=>hb x ⟨k,hk,hx⟩
theorem RdK.offR (h:RdK w v ks) {row:Option Nat} (g:w.grownBy w' row) (hb:∀k,Mh v ks k→row≠some k):RdK w' v ks:=⟨h.1.offR g fun k hk=>hb k (.inl hk),h.2.offR g fun k hk=>hb k (.inr hk)⟩
theorem KsR.lt (h:KsR w ks):∀k,DR ks k→k<w.heap.size:=fun k ⟨x,hx,hk⟩=>(h x hx).lt k hk
theorem RdK.kn (h:RdK w v ks) (g:w.grownBy w' none):RdK w' v ks:=⟨h.1.kn g,h.2.kn g⟩
theorem RdK.lt (h:RdK w v ks):∀k,Mh v ks k→k<w.heap.size:=fun k hk=>hk.elim (h.1.2 k) (h.2.lt k)
theorem RdK.len (h:RdK w v ks):(ks.length:Int)≤9223372036854775807:=by
 obtain⟨ao,cap,e,h1,h2⟩:=h.1.1.shape
 omega
end
theorem RdK.nil (w:World):RdK w (.slice none 0 0) []:=⟨⟨Sl.nil w 33,fun k hk=>by simp[Bk,Value.ownBlock] at hk⟩,fun k hk=>by simp at hk⟩
theorem NE (b:Nat):¬Mh (.slice none 0 0) [] b:=by
 rintro (h|⟨k,hk,_⟩)
 · simp[Bk,Value.ownBlock] at h
 · simp at hk
theorem N8 {ks:List VK} {j:Nat} (h:j<ks.length):od (ks.map VK.p) j=ks[j].o:=by rw[Qk (by simpa using h),List.getElem_map];rfl
theorem VL {ks:List VK} {j:Nat} (h:j<ks.length):tr (ks.map VK.p) j=ks[j].l:=by rw[AHv (by simpa using h),List.getElem_map];rfl
theorem RdK.owner {w:World} {ao:Option Addr} {n cap j:Nat} {ks:List VK} (h:RdK w (.slice ao n cap) ks) (hn:n=ks.length) (hj:j<ks.length):w.rangeAt (bO ao) (oO ao+j*33) (bv ks[j].o):=by
 subst hn
 have:=DU h.1.1 C3 hj (by decide)
 exact N5 (o:=oO ao+j*33) (k:=0) (A:=[]) (B:=bv ks[j].o) (C:=[ks[j].s]) this rfl
theorem RdK.tree {w:World} {ao:Option Addr} {n cap j:Nat} {ks:List VK} (h:RdK w (.slice ao n cap) ks) (hn:n=ks.length) (hj:j<ks.length):w.rangeAt (bO ao) (oO ao+j*33+32) [ks[j].s]:=by
 subst hn
 have:=DU h.1.1 C3 hj (by decide)
 exact N5 (A:=bv ks[j].o) (B:=[ks[j].s]) (C:=[]) this (by rw[AI,ks[j].ho.1])
theorem RdK.key {w:World} {ao:Option Addr} {n cap j:Nat} {ks:List VK} (h:RdK w (.slice ao n cap) ks) (hn:n=ks.length) (hj:j<ks.length):w.rangeAt (bO ao) (oO ao+j*33) (Af ks[j]):=by
 subst hn
 exact DU h.1.1 C3 hj (by decide)
theorem Ua:∀{a b:List Nat},(∀x∈a,x<256)→(∀x∈b,x<256)→Lib.compareBytes (a.map UInt8.ofNat) (b.map UInt8.ofNat)=Hc a b
 | [],[],_,_=>rfl
 | [],_::_,_,_=>rfl
 | _::_,[],_,_=>rfl
 | x::a,y::b,ha,hb=>by
  have hx:=ha x List.mem_cons_self
  have hy:=hb y List.mem_cons_self
  have ih:=Ua (a:=a) (b:=b) (fun z hz=>ha z (List.mem_cons_of_mem _ hz)) (fun z hz=>hb z (List.mem_cons_of_mem _ hz))
  have e1:(UInt8.ofNat x<UInt8.ofNat y)↔x<y:=by rw[UInt8.lt_iff_toNat_lt,UInt8.toNat_ofNat',UInt8.toNat_ofNat',Nat.mod_eq_of_lt hx,Nat.mod_eq_of_lt hy]
  have e2:(UInt8.ofNat y<UInt8.ofNat x)↔y<x:=by rw[UInt8.lt_iff_toNat_lt,UInt8.toNat_ofNat',UInt8.toNat_ofNat',Nat.mod_eq_of_lt hx,Nat.mod_eq_of_lt hy]
  rw[List.map_cons,List.map_cons,Lib.compareBytes,ih]
  unfold Hc
  by_cases h1:x<y
  · rw[if_pos (e1.2 h1),if_pos (by simp[Eg,h1])]
  · rw[if_neg (fun h=>h1 (e1.1 h))]
    by_cases h2:y<x
    · rw[if_pos (e2.2 h2),if_neg (by simp[Eg,h1];omega),if_neg (by simp;omega)]
    · have:x=y:=by omega
      subst this
      rw[if_neg (fun h=>h2 (e2.1 h))]
      simp[Eg]
theorem Ub {P:Program} {w:World} {l:List Nat} (hl:∀x∈l,x<256) {n:Nat} (hn:l.length=n) {b o c:Nat} (h:w.rangeAt b o (bv l)):(Extern.Bytes.bytesOf (.slice (some ⟨b,o,none⟩) n c)).run P w=.ok ⟨(l.map UInt8.ofNat).toArray⟩ w:=by
 subst hn
 have:=Lib.run_loadBytesX (P:=P) w (l.map fun(x:Nat)=>(x:Int)) ⟨b,o,none⟩ .empty (fun j x hj=>by
  rw[Addr.add_mid]
  refine h j _ ?_
  rw[List.getElem?_map] at hj
  unfold bv
  rw[List.getElem?_map]
  cases e:l[j]? with
  | none=>rw[e] at hj;cases hj
  | some y =>
   rw[e] at hj
   obtain rfl:=Option.some.inj hj
   rfl)
 rw[List.length_map] at this
 show(Extern.Bytes.loadBytes ⟨b,o,none⟩ l.length .empty).run P w=_
 refine this.trans ?_
 congr 2
 simp[Lib.bytesOf,Function.comp_def]
theorem AEa {x y:List Nat} (hx:Dg x) (hy:Dg y) {w:World} {b o b' o' c c':Nat} (h:w.rangeAt b o (bv x)) (h':w.rangeAt b' o' (bv y)) :
  (callFunc 129 #[.slice (some ⟨b,o,none⟩) 32 c,.slice (some ⟨b',o',none⟩) 32 c']).run Tryz.prog w=.ok (.value (.int .i64 (Hc x y))) w:=by
 have e1:(Extern.BytealgCompare.compare #[.slice (some ⟨b,o,none⟩) 32 c,.slice (some ⟨b',o',none⟩) 32 c']).run Tryz.prog w=.ok (.int .i64 (Hc x y)) w:=by
  change Sem.run Tryz.prog (do pure (goInt (Extern.BytealgCompare.cmp (←Extern.Bytes.bytesOf (.slice (some ⟨b,o,none⟩) 32 c)) (←Extern.Bytes.bytesOf (.slice (some ⟨b',o',none⟩) 32 c'))))) w=_
  rw[Sem.run_bind,Ub hx.2 hx.1 h]
  simp only[Result.andThen_ok]
  rw[Sem.run_bind,Ub hy.2 hy.1 h']
  simp only[Result.andThen_ok,Sem.run_pure]
  rw[Lib.cmp_eq]
  simp only
  rw[Ua hx.2 hy.2]
  rfl
 rw[run_callFunc_extern Tryz.func129 (by kernel_rfl) (by kernel_rfl) (by kernel_rfl) (e:=Extern.BytealgCompare.compare) (by kernel_rfl),e1]
 rfl
theorem Jr {x y:List Nat} (hx:Dg x) (hy:Dg y) {w:World} {b o b' o' c c':Nat} (h:w.rangeAt b o (bv x)) (h':w.rangeAt b' o' (bv y)) :
  Calls Tryz.prog 94 #[.slice (some ⟨b,o,none⟩) 32 c,.slice (some ⟨b',o',none⟩) 32 c'] w fun e w'=>e=.returned (.int .i64 (Hc x y))∧w.grownBy w' none:=by
 have H:=fun c c'=>AEa hx hy h h' (c:=c) (c':=c')
 go_enter Tryz.func94,Tryz.ntmps94
 go_wp2
 go_ret
 exact⟨rfl,World.grownBy.refl _ _⟩
theorem LD (b o:Nat) (w:World):(Instr.sliceAt 23 (.pointer (some ⟨b,o,none⟩)) none none none).run Tryz.prog w=.ok (.slice (some ⟨b,o,none⟩) 32 32) w:=by
 kernel_rfl
theorem AV:AR.length=32:=rfl
theorem AO:Dg AR:=⟨rfl,by intro x hx;simp[AR,zs] at hx;omega⟩
theorem RdK.keyX {w:World} {ao:Option Addr} {n cap j:Nat} {ks:List VK} {x:VK} (h:RdK w (.slice ao n cap) ks) (hn:n=ks.length) (hj:j<ks.length) (hx:ks[j]=x):w.rangeAt (bO ao) (oO ao+j*33) (Af x):=hx▸h.key hn hj
theorem RdK.ownerX {w:World} {ao:Option Addr} {n cap j:Nat} {ks:List VK} {x:VK} (h:RdK w (.slice ao n cap) ks) (hn:n=ks.length) (hj:j<ks.length) (hx:ks[j]=x):w.rangeAt (bO ao) (oO ao+j*33) (bv x.o):=hx▸h.owner hn hj
theorem RdK.treeX {w:World} {ao:Option Addr} {n cap j:Nat} {ks:List VK} {x:VK} (h:RdK w (.slice ao n cap) ks) (hn:n=ks.length) (hj:j<ks.length) (hx:ks[j]=x):w.rangeAt (bO ao) (oO ao+j*33+32) [x.s]:=hx▸h.tree hn hj
theorem Gf (x:VK) (o:List Nat) (ho:Dg o) (w:World) :
  Calls Tryz.prog 96 #[Hk x,AP o] w fun e w'=>e=.returned (.int .i64 (Hc x.o o))∧w.grownBy w' none:=by
 refine BZ Tryz.func96 rfl Tryz.ntmps96 rfl fun a0 sv0=>?_
 have HG:=World.grownBy.refl w none
 replace sv0:Sv 9 [] [(0,Hk x),(1,AP o)] a0:=sv0
 refine ALz fun K1 k1=>?_
 refine ALy ?_
 refine Bj sv0 r6 (VJ x) fun a2 w2 Ci Dh g2 z2 AK sv2=>?_
 refine Bj sv2 r6 (B6 o ho.1) fun a3 w3 CX Fd g3 z3 AN sv3=>?_
 replace AK:=AC g3 AK
 refine AY (v:=.int .i64 0) sv3 r6 fun a4 sv4=>?_
 refine AE ?_
 refine k1 _ _ ?_
 refine ALz fun K5 k5=>?_
 refine DM (sv4.dl [4]) [(5,pt Ci),(6,.slice ((some ⟨Ci,0,none⟩)) 32 32),(7,.slice ((some ⟨CX,0,none⟩)) 32 32),(8,.int .i64 ((Hc x.o o))),(4,.int .i64 ((Hc x.o o)))]
  ⟨yf r6 (fun _=>by kernel_rfl),Hb (l:=none) (u:=none) rfl rfl trivial (oy rfl rfl) trivial trivial (LD Ci 0) (fun _=>rfl),Hb (l:=none) (u:=none) rfl rfl trivial (oy rfl rfl) trivial trivial (LD CX 0) (fun _=>rfl),Ae [.slice ((some ⟨Ci,0,none⟩)) 32 32,.slice ((some ⟨CX,0,none⟩)) 32 32] Tryz.func94 (by kernel_rfl) rq4 ⟨(oy rfl rfl),(oy rfl rfl),AL5⟩ (Ap fun W g=>Jr x.ho ho (Bl (L:=[bv x.o,[VK.s x]]) (i:=0) (AF g AK (by simp)) rfl rfl) (Ac (AF g AN (by simp)))),Hw 8 4 (.inr rfl) rfl rfl trivial (fun _ _ h=>h),AL5⟩ fun a6 w6 g6 sv6=>?_
 refine k5 _ _ ?_
 replace HG:=AA (AA (AA HG g2) g3) g6
 refine AL2 ?_
 repeat refine AL ?_
 refine BI (fn:=Tryz.f96) sv6 (BC (p:=4) Tryz.results96 sv6 rfl rfl) ?_
 exact⟨rfl,HG⟩
theorem AEb {x y:List Nat} {j:Nat} (h:∀i,i<j→x[i]?=y[i]?) {a b:Nat} (ha:x[j]?=some a) (hb:y[j]?=some b) (hne:a≠b):Eg x y=decide (a<b):=by
 induction x generalizing y j with
 | nil=>simp at ha
 | cons u x ih =>
  cases y with
  | nil=>simp at hb
  | cons v y =>
   cases j with
   | zero =>
    simp at ha hb
    subst ha hb
    have:(u == v)=false:=by simpa using hne
    simp[Eg,this]
   | succ j =>
    have h0:=h 0 (by omega)
    simp at h0
    subst h0
    have:=ih (y:=y) (j:=j) (fun i hi=>by have:=h (i+1) (by omega);simpa using this) (by simpa using ha) (by simpa using hb)
    simp[Eg,this]
theorem AEc {x y:List Nat} (hl:x.length=32) (hm:y.length=32) (h:∀i,i<32→x[i]?=y[i]?):Eg x y=false:=by
 have:x=y:=List.ext_getElem? fun i=>by
  by_cases hi:i<32
  · exact h i hi
  · rw[List.getElem?_eq_none (by omega),List.getElem?_eq_none (by omega)]
 rw[this,Ff]
theorem E3 {w:World} {b o:Nat} {x:List Nat} (h:w.rangeAt b o (bv x)) {j a:Nat} (ha:x[j]?=some a):w.rangeAt b (o+j) [.int .u8 (a:Int)]:=by
 refine XX ?_
 refine h j _ ?_
 unfold bv
 rw[List.getElem?_map,ha]
 rfl
theorem PW (x:Int):TY Tryz.prog 5 [.int .u8 x] (.int .u8 x):=TY.one' Tryz.underlying5 rfl (by kernel_rfl) rfl
theorem IQ {b j:Nat} (hj:j<32) (w:World):(Instr.indexAt 23 (.pointer (some ⟨b,0,none⟩)) (.int .i64 (j:Int))).run Tryz.prog w=.ok (.pointer (some ⟨b,j,none⟩)) w:=by
 have h1:(0:Int)≤(j:Int)∧(j:Int)<32:=⟨by omega,by omega⟩
 rw[run_indexAt_array (P:=Tryz.prog) (w:=w) (t:=23) (a:=⟨b,0,none⟩) (k:=.i64) (i:=(j:Int)) (h:=by kernel_rfl)]
 have e1:Tryz.prog.arrayLen 23=32:=by kernel_rfl
 have e2:(sizeOf (Tryz.prog.elem 23)).run Tryz.prog w=.ok 1 w:=by kernel_rfl
 rw[e1]
 simp[h1,Addr.add,e2,Result.andThen]
 intro h0
 exact h0.symm
theorem ACd (x y:List Nat) (hx:Dg x) (hy:Dg y) (w:World) :
   Calls Tryz.prog 86 #[AP x,AP y] w fun e w'=>e=.returned (.bool (Eg x y))∧w.grownBy w' none:=by
 refine BZ Tryz.func86 rfl Tryz.ntmps86 rfl fun a0 sv0=>?_
 have HG:=World.grownBy.refl w none
 replace sv0:Sv 24 [] [(0,AP x),(1,AP y)] a0:=sv0
 refine ALz fun K1 k1=>?_
 refine ALy ?_
 refine Bj sv0 r6 (B6 x hx.1) fun a2 w2 Ci Dh g2 z2 AK sv2=>?_
 refine Bj sv2 r6 (B6 y hy.1) fun a3 w3 CX Fd g3 z3 AN sv3=>?_
 replace AK:=AC g3 AK
 replace HG:=AA (AA HG g2) g3
 refine AY (v:=.bool false) sv3 r6 fun a4 sv4=>?_
 refine AE ?_
 refine k1 _ _ ?_
 refine ALz fun K5 k5=>?_
 refine ALz fun K6 k6=>?_
 refine ALy ?_
 refine AY (v:=.int .i64 0) sv4 r6 fun a7 sv7=>?_
 refine AE ?_
 refine k6 _ _ ?_
 refine BM fun Q8 x8 y8 r8 o8=>?_
 refine wp_loop (fun a w'=>∃(j:Nat),(j≤32)∧(∀i,i<j→x[i]?=y[i]?)∧Sv 24 [] [(5,.int .i64 ((j:Int))),(3,pt CX),(2,pt Ci),(0,AP x),(1,AP y)] a∧w.grownBy w' none∧w'.heap[Ci]?=some (.cells (bv x).toArray 23 (0,0))∧w'.heap[CX]?=some (.cells (bv y).toArray 23 (0,0))) (fun a _=>(32-intOf (a.tmps.getD 5 undef)).toNat) ⟨0,by omega,fun i hi=>by omega,⟨sv7.1,sv7.2.1,sv7.2.2.1,sv7.2.2.2.2.1,sv7.2.2.2.2.2.1,sv7.2.2.2.2.2.2.1,sv7.2.2.2.2.2.2.2.1,AL5⟩,HG,AK,AN⟩ fun a9 w9 hI9=>?_
 clear AK
 clear AN
 clear HG
 obtain⟨j,hj32,heq,sv9,HG,AK,AN⟩:=hI9
 refine ALz fun K10 k10=>?_
 refine ALz fun K11 k11=>?_
 by_cases hj:j<32
 · obtain⟨a,hxa⟩:∃a,x[j]?=some a:=⟨_,List.getElem?_eq_getElem (by rw[hx.1];exact hj)⟩
   obtain⟨b,hyb⟩:∃b,y[j]?=some b:=⟨_,List.getElem?_eq_getElem (by rw[hy.1];exact hj)⟩
   refine ALy ?_
   refine AJ sv9 2 [(6,.int .i64 ((j:Int))),(7,.bool true)]
     ⟨ym r5,Cz r6 (fun _=>Bo (by simp;omega)),AL5⟩ fun a12 w12 g12 DL=>?_
   refine AE ?_
   refine k11 _ _ ?_
   refine Aw DL rfl rfl ?_
   refine AL3 ?_
   refine k10 _ _ ?_
   refine ALz fun K13 k13=>?_
   refine BM fun Q14 x14 y14 r14 o14=>?_
   refine ALz fun K15 k15=>?_
   replace AK:=AC g12 AK
   replace AN:=AC g12 AN
   replace HG:=AA HG g12
   by_cases hab:a=b
   · refine DM DL [(10,.int .i64 ((j:Int))),(11,pk Ci j),(12,.int .u8 ((a:Int))),(13,.int .i64 ((j:Int))),(14,pk CX j),(15,.int .u8 ((b:Int))),(16,.bool false)]
      ⟨ym r5,BA rq8 (fun w=>IQ hj w),Bu r6 (fun _ g=>Ab (PW (a:Int)) (by simpa using E3 (o:=0) (Ac (AF g AK (by simp))) hxa)),ym r5,BA rq8 (fun w=>IQ hj w),Bu r6 (fun _ g=>Ab (PW (b:Int)) (by simpa using E3 (o:=0) (Ac (AF g AN (by simp))) hyb)),Il r7 (fun _=>Dj (by simp[hab])),AL5⟩ fun a16 w16 g16 DJ=>?_
     refine k15 _ _ ?_
     refine A1 DJ rfl rfl ?_
     refine AL3 ?_
     refine y14 _ _ ?_
     refine k13 _ _ ?_
     refine ALy ?_
     refine AJ DJ 2 [(8,.int .i64 ((j:Int))),(9,.int .i64 (((j+1:Nat):Int)))]
      ⟨ym r5,Cz r6 (fun _=>Dk (by rw[BG (by omega) (by omega)];omega)),AL5⟩ fun a17 w17 g17 FY=>?_
     have VM:=AA g16 g17
     refine AY (v:=.int .i64 (((j+1:Nat):Int))) FY r6 fun a18 CZ=>?_
     refine AE ?_
     replace AK:=AC VM AK
     replace AN:=AC VM AN
     replace HG:=AA HG VM
     exact⟨⟨j+1,by omega,fun i hi=>by
       by_cases h:i=j
       · subst h;rw[hxa,hyb,hab]
       · exact heq i (by omega),⟨CZ.1,CZ.2.1,CZ.2.2.1,(AG CZ).2.2.2.2.2.2.1,(AG CZ).2.2.2.2.2.2.2.1,(AG (AG CZ)).1,(AG (AG CZ)).2.1,AL5⟩,HG,AK,AN⟩,by rw[show _=_ from CZ.2.2.1,show _=_ from sv9.2.2.1];simp[intOf];omega⟩
   · refine DM DL [(10,.int .i64 ((j:Int))),(11,pk Ci j),(12,.int .u8 ((a:Int))),(13,.int .i64 ((j:Int))),(14,pk CX j),(15,.int .u8 ((b:Int))),(16,.bool true)]
      ⟨ym r5,BA rq8 (fun w=>IQ hj w),Bu r6 (fun _ g=>Ab (PW (a:Int)) (by simpa using E3 (o:=0) (Ac (AF g AK (by simp))) hxa)),ym r5,BA rq8 (fun w=>IQ hj w),Bu r6 (fun _ g=>Ab (PW (b:Int)) (by simpa using E3 (o:=0) (Ac (AF g AN (by simp))) hyb)),Il r7 (fun _=>Dj (by simpa using fun e=>hab (by omega))),AL5⟩ fun a19 w19 g19 EQ=>?_
     refine k15 _ _ ?_
     refine Aw EQ rfl rfl ?_
     refine ALz fun K20 k20=>?_
     replace AK:=AC g19 AK
     replace AN:=AC g19 AN
     refine DM EQ [(17,.int .i64 ((j:Int))),(18,pk Ci j),(19,.int .u8 ((a:Int))),(20,.int .i64 ((j:Int))),(21,pk CX j),(22,.int .u8 ((b:Int))),(23,.bool (decide (a<b))),(4,.bool (decide (a<b)))]
      ⟨ym r5,BA rq8 (fun w=>IQ hj w),Bu r6 (fun _ g=>Ab (PW (a:Int)) (by simpa using E3 (o:=0) (Ac (AF g AK (by simp))) hxa)),ym r5,BA rq8 (fun w=>IQ hj w),Bu r6 (fun _ g=>Ab (PW (b:Int)) (by simpa using E3 (o:=0) (Ac (AF g AN (by simp))) hyb)),Il r7 (fun _=>Bo (by simp)),Hw 23 4 (.inr rfl) rfl rfl trivial (fun _ _ h=>h),AL5⟩ fun a21 w21 g21 Di=>?_
     refine k20 _ _ ?_
     replace HG:=AA (AA HG g19) g21
     refine AL2 ?_
     repeat refine AL ?_
     refine r14 _ _ ?_
     repeat refine AL ?_
     refine r8 _ _ ?_
     repeat refine AL ?_
     refine BI (fn:=Tryz.f86) Di (BC (p:=4) Tryz.results86 Di rfl rfl) ?_
     exact⟨congrArg (fun b=>Ending.returned (.bool b)) (AEb heq hxa hyb hab).symm,HG⟩
 · have hje:j=32:=by omega
   refine ALy ?_
   refine AJ sv9 2 [(6,.int .i64 ((j:Int))),(7,.bool false)]
     ⟨ym r5,Cz r6 (fun _=>Bo (by simp;omega)),AL5⟩ fun a22 w22 g22 Ct=>?_
   refine AE ?_
   refine k11 _ _ ?_
   refine A1 Ct rfl rfl ?_
   refine wp_exit ?_
   repeat refine CY ?_
   refine x8 _ _ ?_
   refine k5 _ _ ?_
   refine ALz fun K23 k23=>?_
   refine ALy ?_
   refine AY (v:=.bool false) Ct r6 fun a24 ER=>?_
   refine AE ?_
   refine k23 _ _ ?_
   replace HG:=AA HG g22
   refine AL2 ?_
   repeat refine AL ?_
   refine BI (fn:=Tryz.f86) ER (BC (p:=4) Tryz.results86 ER rfl rfl) ?_
   exact⟨congrArg (fun b=>Ending.returned (.bool b)) (AEc hx.1 hy.1 (hje▸heq)).symm,HG⟩
theorem Lm {x:Int} (h1:0≤x) (h2:x<18446744073709551616):IntKind.u64.wrap x=x:=by rw[IntKind.wrap_u64];omega
theorem AGm {P:Program} {a c:Int} {t:TypeId} {x y:Operand} {w:World} (h:a/2=c):(do eqGuard .shr t x y (.int .u64 a) (.int .u64 1);binOp .shr t (.int .u64 a) (.int .u64 1):Sem Value).run P w=.ok (.int .u64 c) w:=by
 subst h
 have:min 1 IntKind.u64.bits=1:=by decide
 simp[eqGuard,binOp_shr,shift_shr_any,this]
theorem AEd {a b:Int} {p q:Bool} (h1:a=b) (h2:p=q):Ending.returned (.tuple #[.int .i64 a,.bool p])=Ending.returned (.tuple #[.int .i64 b,.bool q]):=by rw[h1,h2]
theorem AIv {ks:List VK} {o:List Nat} {i:Nat} (hp:pos (ks.map VK.p) o=i) (hi:i<ks.length) {x:VK} (hx:ks[i]=x):decide (x.o=o)=Hv (ks.map VK.p) o:=by
 unfold Hv
 rw[hp,N8 hi,hx]
 simp[hi]
theorem AGn {ks:List VK} {o:List Nat} (h:¬pos (ks.map VK.p) o<ks.length):false=Hv (ks.map VK.p) o:=by
 unfold Hv
 simp at h ⊢
 omega
theorem VN (ks:List VK) (ao:Option Addr) (cap:Nat) (o:List Nat) (ho:Dg o) (w:World) (hr:RdK w (.slice ao ks.length cap) ks) (hs:Srt (ks.map VK.p)) (h64:ks.length≤64) :
   Calls Tryz.prog 113 #[.slice ao ks.length cap,AP o,.func (.func 96) #[] #[]] w fun e w'=>e=.returned (.tuple #[.int .i64 (pos (ks.map VK.p) o),.bool (Hv (ks.map VK.p) o)])∧w.grownBy w' none:=by
 have hlen:=hr.len
 have hmap:(ks.map VK.p).length=ks.length:=List.length_map _
 refine BZ Tryz.func113 rfl Tryz.ntmps113 rfl fun a0 sv0=>?_
 have HG:=World.grownBy.refl w none
 replace sv0:Sv 49 [] [(0,.slice ao ks.length cap),(1,AP o),(2,.func (.func 96) #[] #[])] a0:=sv0
 refine ALz fun K1 k1=>?_
 refine ALy ?_
 refine Bj sv0 r6 (B6 o ho.1) fun a2 w2 N9 NF g2 z2 Bz sv2=>?_
 refine AY (v:=.int .i64 0) sv2 r6 fun a3 sv3=>?_
 refine AY (v:=.bool false) sv3 r6 fun a4 sv4=>?_
 refine AE ?_
 refine k1 _ _ ?_
 refine ALz fun K5 k5=>?_
 refine ALy ?_
 refine AJ sv4 2 [(12,.slice ao ks.length cap),(13,.int .i64 ((ks.length:Nat)))]
   ⟨ym r5,Bv (Tryz.underlying34) rfl rfl trivial (oy rfl rfl) (fun _=>rfl),AL5⟩ fun a6 w6 g6 sv6=>?_
 refine AY (v:=.int .i64 ((ks.length:Nat))) sv6 r6 fun a7 sv7=>?_
 refine AE ?_
 refine k5 _ _ ?_
 refine ALz fun K8 k8=>?_
 refine ALy ?_
 refine AJ sv7 1 [(14,.int .i64 ((ks.length:Nat)))]
   ⟨ym r5,AL5⟩ fun a9 w9 g9 sv9=>?_
 have gc9:=AA g6 g9
 refine AY (v:=.int .i64 0) sv9 r6 fun a10 Cb=>?_
 refine AY (v:=.int .i64 ((ks.length:Nat))) Cb r6 fun a11 Cc=>?_
 refine AE ?_
 refine k8 _ _ ?_
 refine ALz fun K12 k12=>?_
 refine BM fun Q13 x13 y13 r13 o13=>?_
 replace Bz:=AC gc9 Bz
 replace hr:=(hr.kn g2).kn gc9
 replace HG:=AA (AA HG g2) gc9
 refine wp_loop (fun a w'=>∃(i:Nat) (j:Nat),(i≤j)∧(j≤ks.length)∧(∀k,k<i→Eg (od (ks.map VK.p) k) o=true)∧(∀k,j≤k→k<ks.length→Eg (od (ks.map VK.p) k) o=false)∧Sv 49 [] [(9,.int .i64 ((i:Int))),(10,.int .i64 ((j:Int))),(14,.int .i64 ((ks.length:Nat))),(8,.int .i64 ((ks.length:Nat))),(12,.slice ao ks.length cap),(13,.int .i64 ((ks.length:Nat))),(7,.bool false),(6,.int .i64 0),(4,pt N9),(0,.slice ao ks.length cap),(1,AP o),(2,.func (.func 96) #[] #[])] a∧w.grownBy w' none∧w'.heap[N9]?=some (.cells (bv o).toArray 23 (0,0))∧RdK w' (.slice ao ks.length cap) ks) (fun a _=>(intOf (a.tmps.getD 10 undef)-intOf (a.tmps.getD 9 undef)).toNat) ⟨0,ks.length,Nat.zero_le _,Nat.le_refl _,fun k hk=>by omega,fun k h1 h2=>by omega,⟨Cc.1,Cc.2.1,Cc.2.2.2.1,Cc.2.2.1,Cc.2.2.2.2.1,Cc.2.2.2.2.2.1,Cc.2.2.2.2.2.2.1,Cc.2.2.2.2.2.2.2.1,(AG Cc).1,(AG Cc).2.1,(AG Cc).2.2.1,(AG Cc).2.2.2.1,(AG Cc).2.2.2.2.1,(AG Cc).2.2.2.2.2.1,AL5⟩,HG,Bz,hr⟩ fun a14 w14 hI14=>?_
 clear Bz
 clear hr
 clear HG
 obtain⟨i,j,hij,hjn,hb,ha,Da,HG,Bz,hr⟩:=hI14
 refine ALz fun K15 k15=>?_
 refine ALz fun K16 k16=>?_
 by_cases hlt:i<j
 · obtain⟨m,hm⟩:∃m,m=(i+j)/2:=⟨_,rfl⟩
   have hmi:i≤m∧m<j∧m<ks.length:=by omega
   have hm3:=hmi.2.2
   obtain⟨x,hx_x⟩:∃x,ks[m]'hm3=x:=⟨_,rfl⟩
   have hod:od (ks.map VK.p) m=x.o:=by rw[N8 hm3,hx_x]
   refine ALy ?_
   refine AJ Da 3 [(15,.int .i64 ((i:Int))),(16,.int .i64 ((j:Int))),(17,.bool true)]
     ⟨ym r5,ym r5,Il r7 (fun _=>Bo (by simp;omega)),AL5⟩ fun a17 w17 g17 FY=>?_
   refine AE ?_
   refine k16 _ _ ?_
   refine Aw FY rfl rfl ?_
   refine AL3 ?_
   refine k15 _ _ ?_
   refine BM fun Q18 x18 y18 r18 o18=>?_
   refine ALz fun K19 k19=>?_
   refine ALy ?_
   refine AJ FY 6 [(18,.int .i64 ((i:Int))),(19,.int .i64 ((j:Int))),(20,.int .i64 (((i+j:Nat):Int))),(21,.int .u64 (((i+j:Nat):Int))),(22,.int .u64 ((m:Int))),(23,.int .i64 ((m:Int)))]
     ⟨ym r5,ym r5,Il r7 (fun _=>Dk (by rw[BG (by omega) (by omega)];omega)),Jo r6 (fun _=>Jq Tryz.underlying3 Tryz.underlying48 (Lm (by omega) (by omega))),Cz r6 (fun _=>AGm (by omega)),Jo r6 (fun _=>Jq Tryz.underlying48 Tryz.underlying3 (BG (by omega) (by omega))),AL5⟩ fun a20 w20 g20 Eu=>?_
   have AIw:=AA g17 g20
   refine AY (v:=.int .i64 ((m:Int))) Eu r6 fun a21 Di=>?_
   have Ct:Sv _ _ [_,_,_,_,_,_,_,_,_,_,_,_,_,_,_,_] _:=Di.dl [18,19,20,21,22,23]
   refine AE ?_
   refine k19 _ _ ?_
   refine ALz fun K23 k23=>?_
   replace Bz:=AC AIw Bz
   replace hr:=hr.kn AIw
   replace HG:=AA HG AIw
   by_cases hc:Eg x.o o=true
   · refine DM Ct [(24,.func (.func 96) #[] #[]),(25,.slice ao ks.length cap),(26,.int .i64 ((m:Int))),(27,pk ((bO ao)) (oO ao+m*33)),(28,Hk x),(29,AP o),(30,.int .i64 ((Hc x.o o))),(31,.bool true)]
      ⟨ym r5,ym r5,ym r5,BA rq8 (fun w=>CU Tryz.underlying34 (by kernel_rfl) (hr.1.1) (by omega) (rfl) w),Bu r6 (fun _ g=>Ab (VJ x) (RdK.keyX (hr.kn g) rfl hm3 hx_x)),yl r6 (B6 o ho.1) Bz,Qq (Sp.is (.int .i64 ((Hc x.o o)))) [Hk x,AP o] rfl rfl trivial (oy rfl rfl) ⟨(oy rfl rfl),(oy rfl rfl),AL5⟩ (Ap fun W g=>Gf x o ho W) (fun _ _ h=>h) (Ed Tryz.func96 (by kernel_rfl) rfl),Cz r6 (fun _=>Bo (by rw[VO,hc])),AL5⟩ fun a24 w24 g24 ER=>?_
     refine k23 _ _ ?_
     refine Aw ER rfl rfl ?_
     refine ALy ?_
     refine AJ ER 2 [(32,.int .i64 ((m:Int))),(33,.int .i64 (((m+1:Nat):Int)))]
      ⟨ym r5,Cz r6 (fun _=>Dk (by rw[BG (by omega) (by omega)];omega)),AL5⟩ fun a25 w25 g25 DV=>?_
     have Kh:=AA g24 g25
     refine AY (v:=.int .i64 (((m+1:Nat):Int))) DV r6 fun a26 Cr=>?_
     refine AE ?_
     refine y18 _ _ ?_
     replace Bz:=AC Kh Bz
     replace hr:=hr.kn Kh
     replace HG:=AA HG Kh
     exact⟨⟨m+1,j,by omega,by omega,fun k hk=>if e:k=m then (by rw[e,hod,hc]) else Gg (hs.lt (i:=k) (j:=m) (by omega) (by rw[hmap];omega)) (hod.symm▸hc),ha,⟨Cr.1,Cr.2.1,Cr.2.2.1,(AG (AG Cr)).2.1,(AG (AG Cr)).2.2.1,(AG (AG Cr)).2.2.2.1,(AG (AG Cr)).2.2.2.2.1,(AG (AG Cr)).2.2.2.2.2.1,(AG (AG Cr)).2.2.2.2.2.2.1,(AG (AG Cr)).2.2.2.2.2.2.2.1,(AG (AG (AG Cr))).1,(AG (AG (AG Cr))).2.1,(AG (AG (AG Cr))).2.2.1,(AG (AG (AG Cr))).2.2.2.1,AL5⟩,HG,Bz,hr⟩,by rw[show _=_ from Cr.2.2.1,show _=_ from(AG (AG Cr)).2.1,show _=_ from Da.2.2.1,show _=_ from Da.2.2.2.1];simp[intOf];omega⟩
   · refine DM Ct [(24,.func (.func 96) #[] #[]),(25,.slice ao ks.length cap),(26,.int .i64 ((m:Int))),(27,pk ((bO ao)) (oO ao+m*33)),(28,Hk x),(29,AP o),(30,.int .i64 ((Hc x.o o))),(31,.bool false)]
      ⟨ym r5,ym r5,ym r5,BA rq8 (fun w=>CU Tryz.underlying34 (by kernel_rfl) (hr.1.1) (by omega) (rfl) w),Bu r6 (fun _ g=>Ab (VJ x) (RdK.keyX (hr.kn g) rfl hm3 hx_x)),yl r6 (B6 o ho.1) Bz,Qq (Sp.is (.int .i64 ((Hc x.o o)))) [Hk x,AP o] rfl rfl trivial (oy rfl rfl) ⟨(oy rfl rfl),(oy rfl rfl),AL5⟩ (Ap fun W g=>Gf x o ho W) (fun _ _ h=>h) (Ed Tryz.func96 (by kernel_rfl) rfl),Cz r6 (fun _=>Bo (by rw[VO];simpa using hc)),AL5⟩ fun a27 w27 g27 JG=>?_
     refine k23 _ _ ?_
     refine A1 JG rfl rfl ?_
     refine ALy ?_
     refine AJ JG 1 [(34,.int .i64 ((m:Int)))]
      ⟨ym r5,AL5⟩ fun a28 w28 g28 Js=>?_
     have Mi:=AA g27 g28
     refine AY (v:=.int .i64 ((m:Int))) Js r6 fun a29 Cf=>?_
     refine AE ?_
     refine y18 _ _ ?_
     replace Bz:=AC Mi Bz
     replace hr:=hr.kn Mi
     replace HG:=AA HG Mi
     exact⟨⟨i,m,by omega,by omega,hb,fun k h1 h2=>if e:k=m then (by rw[e,hod];simpa using hc) else Bool.eq_false_iff.2 fun hh=>hc (hod▸Gg (hs.lt (i:=m) (j:=k) (by omega) (by rw[hmap];omega)) hh),⟨Cf.1,Cf.2.1,(AG (AG Cf)).1,Cf.2.2.1,(AG (AG Cf)).2.1,(AG (AG Cf)).2.2.1,(AG (AG Cf)).2.2.2.1,(AG (AG Cf)).2.2.2.2.1,(AG (AG Cf)).2.2.2.2.2.1,(AG (AG Cf)).2.2.2.2.2.2.1,(AG (AG Cf)).2.2.2.2.2.2.2.1,(AG (AG (AG Cf))).1,(AG (AG (AG Cf))).2.1,(AG (AG (AG Cf))).2.2.1,AL5⟩,HG,Bz,hr⟩,by rw[show _=_ from(AG (AG Cf)).1,show _=_ from Cf.2.2.1,show _=_ from Da.2.2.1,show _=_ from Da.2.2.2.1];simp[intOf];omega⟩
 · have hie:i=j:=by omega
   have hpos:pos (ks.map VK.p) o=i:=Qv (by omega) hb fun h=>ha i (by omega) (by omega)
   refine ALy ?_
   refine AJ Da 3 [(15,.int .i64 ((i:Int))),(16,.int .i64 ((j:Int))),(17,.bool false)]
     ⟨ym r5,ym r5,Il r7 (fun _=>Bo (by simp;omega)),AL5⟩ fun a30 w30 g30 E4=>?_
   refine AE ?_
   refine k16 _ _ ?_
   refine A1 E4 rfl rfl ?_
   refine wp_exit ?_
   repeat refine CY ?_
   refine x13 _ _ ?_
   refine k12 _ _ ?_
   refine ALz fun K31 k31=>?_
   replace Bz:=AC g30 Bz
   replace hr:=hr.kn g30
   replace HG:=AA HG g30
   by_cases hin:i<ks.length
   · obtain⟨y,hx_y⟩:∃x,ks[i]'hin=x:=⟨_,rfl⟩
     refine DM (E4.dl [7,6]) [(35,.int .i64 ((i:Int))),(36,.int .i64 ((i:Int))),(37,.int .i64 ((ks.length:Nat))),(38,.bool true),(39,.bool true),(40,.func (.func 96) #[] #[]),(41,.slice ao ks.length cap),(42,.int .i64 ((i:Int))),(43,pk ((bO ao)) (oO ao+i*33)),(44,Hk y),(45,AP o),(46,.int .i64 ((Hc y.o o))),(47,.bool (decide (y.o=o))),(48,.bool (decide (y.o=o))),(6,.int .i64 ((i:Int))),(7,.bool (decide (y.o=o)))]
      ⟨ym r5,ym r5,ym r5,Il r7 (fun _=>Bo (by simp;omega)),ym r5,Az rq8,Az rq8,Az rq8,Cq rfl rfl (gy rfl rfl rfl) (oy rfl rfl) (oy rfl rfl) (fun w=>CU Tryz.underlying34 (by kernel_rfl) (hr.1.1) (by omega) (rfl) w) (fun _=>rfl),Aq rq9 (fun _ g=>Ab (VJ y) (RdK.keyX (hr.kn g) rfl hin hx_y)),Aq rq9 (fun _ g=>Ab (B6 o ho.1) (Ac (AF g Bz (by simp)))),Qq (Sp.is (.int .i64 ((Hc y.o o)))) [Hk y,AP o] rfl rfl (gy rfl rfl rfl) (oy rfl rfl) ⟨(oy rfl rfl),(oy rfl rfl),AL5⟩ (Ap fun W g=>Gf y o ho W) (fun _ _ h=>h) (Ed Tryz.func96 (by kernel_rfl) rfl),BJ rq9 (fun _=>CV AGo),A2 rq9,Hw 35 6 (.inr rfl) rfl rfl trivial (fun _ _ h=>h),Hw 48 7 (.inr rfl) rfl rfl trivial (fun _ _ h=>h),AL5⟩ fun a32 w32 g32 Cl=>?_
     refine k31 _ _ ?_
     replace HG:=AA HG g32
     refine AL2 ?_
     repeat refine AL ?_
     refine BI (fn:=Tryz.f113) Cl (Qt (p:=6) (q:=7) Tryz.results113 Cl rfl rfl rfl rfl) ?_
     exact⟨AEd (by rw[hpos]) (AIv hpos hin hx_y),HG⟩
   · refine DM (E4.dl [7,6]) [(35,.int .i64 ((i:Int))),(36,.int .i64 ((i:Int))),(37,.int .i64 ((ks.length:Nat))),(38,.bool false),(39,.bool false),(40,undef),(41,undef),(42,undef),(43,undef),(44,undef),(45,undef),(46,undef),(47,undef),(48,.bool false),(6,.int .i64 ((i:Int))),(7,.bool false)]
      ⟨ym r5,ym r5,ym r5,Il r7 (fun _=>Bo (by simp;omega)),ym r5,AZ r6,AZ r6,AZ r6,AZ r6,AZ r6,AZ r6,AZ r6,AZ r6,CL r7,Hw 35 6 (.inr rfl) rfl rfl trivial (fun _ _ h=>h),Hw 48 7 (.inr rfl) rfl rfl trivial (fun _ _ h=>h),AL5⟩ fun a33 w33 g33 JU=>?_
     refine k31 _ _ ?_
     replace HG:=AA HG g33
     refine AL2 ?_
     repeat refine AL ?_
     refine BI (fn:=Tryz.f113) JU (Qt (p:=6) (q:=7) Tryz.results113 JU rfl rfl rfl rfl) ?_
     exact⟨AEd (by rw[hpos]) (AGn (by rw[hpos];exact hin)),HG⟩
end Go.Proofs.YtbfjfnbcmojpiaaGreat
