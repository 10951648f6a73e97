import Derived.Test.YtbfjfnbcmojpiaaGreatDrMK6
import Derived.Test.YtbfjfnbcmojpiaaGreatDrSG
import Derived.Lib.Bytealg
import Derived.Lib.BytesEntry
set_option linter.unusedSimpArgs false
set_option linter.unusedVariables false
set_option maxRecDepth 100000
set_option maxHeartbeats 4000000
namespace Go.Proofs.YtbfjfnbcmojpiaaGreat
abbrev VP:=List Nat×List Nd
def Dy:List Nat→List Nat→Bool
 | a::l,b::m=>decide (a<b)||(a == b&&Dy l m)
 | [],_::_=>true
 | _,[]=>false
theorem En:∀l,Dy l l=false
 | []=>rfl
 | a::l=>by simp[Dy,En l]
theorem FY:∀{a b c},Dy a b=true→Dy b c=true→Dy a c=true
 | [],[],_,h,_=>by simp[Dy] at h
 | [],_::_,[],_,h=>by simp[Dy] at h
 | [],_::_,_::_,_,_=>rfl
 | _::_,[],_,h,_=>by simp[Dy] at h
 | _::_,_::_,[],_,h=>by simp[Dy] at h
 | x::a,y::b,z::c,h,k=>by
  simp only[Dy,Bool.or_eq_true,decide_eq_true_eq,Bool.and_eq_true,beq_iff_eq] at h k ⊢
  rcases h with h|⟨h1,h2⟩<;>rcases k with k|⟨k1,k2⟩
  · exact .inl (by omega)
  · exact .inl (by omega)
  · exact .inl (by omega)
  · exact .inr ⟨by omega,FY h2 k2⟩
theorem M0:∀a b,a=b∨Dy a b=true∨Dy b a=true
 | [],[]=>.inl rfl
 | [],_::_=>.inr (.inl rfl)
 | _::_,[]=>.inr (.inr rfl)
 | x::a,y::b=>by
  simp only[Dy,Bool.or_eq_true,decide_eq_true_eq,Bool.and_eq_true,beq_iff_eq]
  rcases Nat.lt_trichotomy x y with h|h|h
  · exact .inr (.inl (.inl h))
  · rcases M0 a b with e|e|e
    · exact .inl (by rw[h,e])
    · exact .inr (.inl (.inr ⟨h,e⟩))
    · exact .inr (.inr (.inr ⟨h.symm,e⟩))
  · exact .inr (.inr (.inl h))
theorem Zk {a b:List Nat} (h:Dy a b=true):Dy b a=false:=by
 cases e:Dy b a with
 | false=>rfl
 | true=>have:=FY h e;rw[En] at this;cases this
theorem AFk {a b:List Nat} (h:Dy a b=true):a≠b:=by
 rintro rfl
 rw[En] at h
 cases h
def Fq (a b:List Nat):Int:=if Dy a b then -1 else if a=b then 0 else 1
theorem R7 {a b:List Nat}:decide (Fq a b<0)=Dy a b:=by
 unfold Fq
 split
 · rename_i h;rw[h];rfl
 · rename_i h
   have:Dy a b=false:=by simpa using h
   rw[this]
   split<;>rfl
theorem KN {a b:List Nat}:decide (0≤Fq a b)=!Dy a b:=by
 rw[←R7]
 by_cases h:Fq a b<0
 · simp[h]
 · simp[h];omega
theorem ADU {a b:List Nat}:(Fq a b == 0)=decide (a=b):=by
 unfold Fq
 split
 · rename_i h;simp[AFk h]
 · split
   · rename_i h;simp[h]
   · rename_i h;simp[h]
def od (ps:List VP) (i:Nat):List Nat:=(ps[i]?.map (·.1)).getD []
def tr (ps:List VP) (i:Nat):List Nd:=(ps[i]?.map (·.2)).getD []
theorem Oa {ps:List VP} {i:Nat} (h:i<ps.length):od ps i=ps[i].1:=by unfold od;rw[List.getElem?_eq_getElem h];rfl
theorem AEb {ps:List VP} {i:Nat} (h:i<ps.length):tr ps i=ps[i].2:=by unfold tr;rw[List.getElem?_eq_getElem h];rfl
def chk (ps:List VP) (i:Nat):Bool:=(decide (i=0)||Dy (od ps (i-1)) (od ps i))&&GB (tr ps i)
def CE (ps:List VP):Bool:=decide (ps.length≤64)&&(List.range ps.length).all (chk ps)
theorem Dz {ps:List VP}:CE ps=true↔ps.length≤64∧∀i,i<ps.length→chk ps i=true:=by
 unfold CE
 simp only[Bool.and_eq_true,decide_eq_true_eq,List.all_eq_true,List.mem_range]
theorem Hp {ps:List VP} {i:Nat} (h:i<ps.length) (hc:chk ps i=false):CE ps=false:=by
 cases e:CE ps with
 | false=>rfl
 | true=>have:=(Dz.1 e).2 i h;rw[hc] at this;cases this
theorem US {ps:List VP} (h:64<ps.length):CE ps=false:=by
 cases e:CE ps with
 | false=>rfl
 | true=>have:=(Dz.1 e).1;omega
theorem UX {ps:List VP} (h:ps.length≤64) (hc:∀i,i<ps.length→chk ps i=true):CE ps=true:=Dz.2 ⟨h,hc⟩
def Srt (ps:List VP):Prop:=∀i,i+1<ps.length→Dy (od ps i) (od ps (i+1))=true
theorem Srt.of {ps:List VP} (h:CE ps=true):Srt ps:=by
 intro i hi
 have:=(Dz.1 h).2 (i+1) hi
 simp only[chk,Bool.and_eq_true,Bool.or_eq_true,decide_eq_true_eq,Nat.add_sub_cancel] at this
 rcases this.1 with h0|h0
 · omega
 · exact h0
theorem Srt.lt {ps:List VP} (h:Srt ps):∀{i j},i<j→j<ps.length→Dy (od ps i) (od ps j)=true:=by
 intro i j hij hj
 induction j with
 | zero=>omega
 | succ j ih =>
  rcases Nat.lt_or_ge i j with hl|hl
  · exact FY (ih hl (by omega)) (h j hj)
  · have:i=j:=by omega
    subst this
    exact h i hj
theorem LR {ps:List VP} (h:CE ps=true) {i:Nat} (hi:i<ps.length):GB (tr ps i)=true:=by
 have:=(Dz.1 h).2 i hi
 simp only[chk,Bool.and_eq_true] at this
 exact this.2
theorem Xw {ps:List VP} (h:ps.length≤64) (hs:Srt ps) (ht:∀i,i<ps.length→GB (tr ps i)=true):CE ps=true:=by
 refine Dz.2 ⟨h,fun i hi=>?_⟩
 simp only[chk,Bool.and_eq_true,Bool.or_eq_true,decide_eq_true_eq]
 refine⟨?_,ht i hi⟩
 cases i with
 | zero=>exact .inl rfl
 | succ i=>exact .inr (hs i hi)
def pos (ps:List VP) (o:List Nat):Nat:=ps.findIdx fun p=>!Dy p.1 o
theorem Ob (ps:List VP) (o:List Nat):pos ps o≤ps.length:=List.findIdx_le_length
theorem Oz {ps:List VP} {o:List Nat} {i:Nat} (h:i<pos ps o):Dy (od ps i) o=true:=by
 have hl:i<ps.length:=Nat.lt_of_lt_of_le h (Ob ps o)
 have:=List.not_of_lt_findIdx h
 rw[Oa hl]
 simpa using this
theorem ABf {ps:List VP} {o:List Nat} (h:pos ps o<ps.length):Dy (od ps (pos ps o)) o=false:=by
 rw[Oa h]
 unfold pos at h ⊢
 simpa using List.findIdx_getElem (xs:=ps) (p:=fun p=>!Dy p.1 o) (w:=h)
theorem Om {ps:List VP} {o:List Nat} {i:Nat} (hi:i≤ps.length) (h1:∀k,k<i→Dy (od ps k) o=true) (h2:i<ps.length→Dy (od ps i) o=false):pos ps o=i:=by
 rcases Nat.lt_trichotomy (pos ps o) i with h|h|h
 · have:=h1 _ h
   rw[ABf (by omega)] at this
   cases this
 · exact h
 · have:=Oz h
   rw[h2 (Nat.lt_of_lt_of_le h (Ob ps o))] at this
   cases this
def Hd (ps:List VP) (o:List Nat):Bool:=decide (pos ps o<ps.length∧od ps (pos ps o)=o)
theorem Ln {ps:List VP} (hs:Srt ps) {o:List Nat} {i:Nat} (hi:i<ps.length) (h:od ps i=o):pos ps o=i∧Hd ps o=true:=by
 have e:pos ps o=i:=Om (by omega) (fun k hk=>h▸hs.lt hk hi) fun _=>by rw[h,En]
 exact⟨e,by unfold Hd;rw[e];simpa using⟨hi,h⟩⟩
theorem AFc {ps:List VP} {o:List Nat} (h:∀i,i<ps.length→od ps i≠o):Hd ps o=false:=by
 unfold Hd
 simp only[decide_eq_false_iff_not,not_and]
 exact fun h1 h2=>h _ h1 h2
theorem Mo {ps:List VP} {o:List Nat} (h:Hd ps o=true):pos ps o<ps.length∧od ps (pos ps o)=o:=by simpa [Hd] using h
def atV (ps:List VP) (o:List Nat):Int:=if Hd ps o then (pos ps o:Int) else -1
abbrev VV:=List VP×List Nat×List Nat
def Uh:VV:=([],AS,AS)
def LG (ps:List VP) (o:List Nat) (t:List Nd):List VP:=ps.take (pos ps o)++(o,t)::ps.drop (pos ps o)
def Gf (ps:List VP) (o:List Nat):List VP:=ps.take (pos ps o)++ps.drop (pos ps o+1)
def KZ (v:VV) (o:List Nat) (t:List Nd) (nx:List Nat):VV×Int:=
 if CE v.1 then (if Hd v.1 o then (v,0) else if 64≤v.1.length then (Uh,8) else ((LG v.1 o t,v.2.1,nx),0)) else (Uh,1)
def Ck (ps:List VP) (o:List Nat) (a:Int):List Nat×Int:=
 if CV a&&CE ps then (if Hd ps o then Cs (tr ps (pos ps o)) a else (AS,10)) else (AS,1)
def WO (v:VV) (o:List Nat):VV×Int:=
 if CE v.1 then (if Hd v.1 o then ((Gf v.1 o,v.2.1,v.2.2),0) else (Uh,10)) else (Uh,1)
def Ft (ps:List VP) (k:Nat) (x:VP):List VP:=ps.take k++x::ps.drop k
theorem Mp {ps:List VP} {k:Nat} (h:k≤ps.length) (x:VP):(Ft ps k x).length=ps.length+1:=by
 unfold Ft
 rw[List.length_append,List.length_take,List.length_cons,List.length_drop]
 omega
theorem Zj (ps:List VP) (x:VP):Ft ps ps.length x=ps++[x]:=by simp[Ft]
theorem Fa {ps:List VP} {k:Nat} (h:k≤ps.length) (x:VP) (i:Nat):(Ft ps k x)[i]?=if i<k then ps[i]? else if i=k then some x else ps[i-1]?:=by
 unfold Ft
 split
 · rename_i hi
   rw[List.getElem?_append_left (by rw[List.length_take];omega),List.getElem?_take,if_pos hi]
 · rename_i hi
   rw[List.getElem?_append_right (by rw[List.length_take];omega),List.length_take,Nat.min_eq_left h]
   split
   · rename_i hk;subst hk;simp
   · rename_i hk
     have:i-k=(i-1-k)+1:=by omega
     rw[this,List.getElem?_cons_succ,List.getElem?_drop]
     congr 1
     omega
theorem Wq {ps:List VP} {k:Nat} (h0:0<k) (h:k≤ps.length) (x:VP) (a b:VP) (ha:(Ft ps k x)[k]?=some a) (hb:(Ft ps k x)[k-1]?=some b):((Ft ps k x).set (k-1) a).set k b=Ft ps (k-1) x:=by
 have hka:a=x:=by rw[Fa h] at ha;simp at ha;exact ha.symm
 have hkb:ps[k-1]?=some b:=by rw[Fa h,if_pos (by omega)] at hb;exact hb
 refine List.ext_getElem? fun i=>?_
 rw[List.getElem?_set,List.getElem?_set,List.length_set,Mp h,Fa h,Fa (by omega)]
 by_cases h1:k=i
 · subst h1
   rw[if_pos rfl,if_pos (by omega),if_neg (by omega),if_neg (by omega),hkb]
 · rw[if_neg h1]
   by_cases h2:k-1=i
   · rw[if_pos h2,if_pos (by omega),if_neg (by omega),if_pos (by omega),hka]
   · rw[if_neg h2]
     by_cases h3:i<k
     · rw[if_pos h3,if_pos (by omega)]
     · rw[if_neg h3,if_neg (by omega),if_neg (by omega),if_neg (by omega)]
theorem Lp (ps:List VP) (o:List Nat) (t:List Nd):LG ps o t=Ft ps (pos ps o) (o,t):=rfl
theorem Um {ps:List VP} (hs:Srt ps) {o:List Nat} (hn:Hd ps o=false) {k:Nat} (hk:k≤ps.length) (hafter:∀j,k≤j→j<ps.length→Dy o (od ps j)=true) (hstop:k=0∨Dy o (od ps (k-1))=false):pos ps o=k:=by
 refine Om hk (fun i hi=>?_) fun h=>Zk (hafter k (Nat.le_refl k) h)
 rcases hstop with h0|h0
 · omega
 · have hlast:Dy (od ps (k-1)) o=true:=by
     rcases M0 (od ps (k-1)) o with e|e|e
     · have:=(Ln hs (i:=k-1) (by omega) e).2
       rw[hn] at this
       cases this
     · exact e
     · rw[h0] at e;cases e
   rcases Nat.lt_or_ge i (k-1) with h1|h1
   · exact FY (hs.lt h1 (by omega)) hlast
   · have:i=k-1:=by omega
     subst this
     exact hlast
theorem JX (ps:List VP) (o:List Nat):Gf ps o=ps.eraseIdx (pos ps o):=by
 unfold Gf
 rw[List.eraseIdx_eq_take_drop_succ]
theorem Gs {ps qs:List VP} {i j:Nat} (h:ps[i]?=qs[j]?):od ps i=od qs j∧tr ps i=tr qs j:=by unfold od tr;rw[h];exact⟨rfl,rfl⟩
theorem KG {ps:List VP} {i:Nat} {x:VP} (h:ps[i]?=some x):od ps i=x.1∧tr ps i=x.2:=by unfold od tr;rw[h];exact⟨rfl,rfl⟩
theorem Zl {ps:List VP} (hs:Srt ps) {o:List Nat} (hn:Hd ps o=false) {j:Nat} (h:pos ps o≤j) (hj:j<ps.length):Dy o (od ps j)=true:=by
 have h0:Dy o (od ps (pos ps o))=true:=by
   have hp:pos ps o<ps.length:=by omega
   rcases M0 (od ps (pos ps o)) o with e|e|e
   · have:=(Ln hs hp e).2
     rw[hn] at this
     cases this
   · rw[ABf hp] at e;cases e
   · exact e
 rcases Nat.lt_or_ge (pos ps o) j with h1|h1
 · exact FY h0 (hs.lt h1 hj)
 · have:pos ps o=j:=by omega
   rw[←this]
   exact h0
theorem Uq {ps:List VP} {o:List Nat} {t:List Nd} (h:CE ps=true) (hn:Hd ps o=false) (hl:ps.length<64) (ht:GB t=true):CE (LG ps o t)=true:=by
 have hs:=Srt.of h
 have hp:=Ob ps o
 have g:=Fa hp (o,t)
 rw[Lp]
 have hlen:=Mp hp (o,t)
 refine Xw (by rw[show pos ps (o,t).1=pos ps o from rfl,hlen];omega) (fun i hi=>?_) fun i hi=>?_
 · rw[hlen] at hi
   rcases Nat.lt_trichotomy (i+1) (pos ps o) with h1|h1|h1
   · rw[(Gs (qs:=ps) (j:=i) ((g i).trans (if_pos (by omega)))).1,(Gs (qs:=ps) (j:=i+1) ((g (i+1)).trans (if_pos h1))).1]
     exact hs i (by omega)
   · have hb:Dy (od ps i) o=true:=Oz (by omega)
     rw[(Gs (qs:=ps) (j:=i) ((g i).trans (if_pos (by omega)))).1,(KG ((g (i+1)).trans (by rw[if_neg (by omega),if_pos h1]))).1]
     exact hb
   · rcases Nat.lt_or_ge (pos ps o) i with h2|h2
     · rw[(Gs (qs:=ps) (j:=i-1) ((g i).trans (by rw[if_neg (by omega),if_neg (by omega)]))).1,(Gs (qs:=ps) (j:=i) ((g (i+1)).trans (by rw[if_neg (by omega),if_neg (by omega)];rfl))).1]
       exact hs.lt (by omega) (by omega)
     · have:i=pos ps o:=by omega
       rw[(KG ((g i).trans (by rw[if_neg (by omega),if_pos this]))).1,(Gs (qs:=ps) (j:=i) ((g (i+1)).trans (by rw[if_neg (by omega),if_neg (by omega)];rfl))).1]
       exact Zl hs hn (by omega) (by omega)
 · rw[hlen] at hi
   rcases Nat.lt_trichotomy i (pos ps o) with h1|h1|h1
   · rw[(Gs (qs:=ps) (j:=i) ((g i).trans (if_pos h1))).2]
     exact LR h (by omega)
   · rw[(KG ((g i).trans (by rw[if_neg (by omega),if_pos h1]))).2]
     exact ht
   · rw[(Gs (qs:=ps) (j:=i-1) ((g i).trans (by rw[if_neg (by omega),if_neg (by omega)]))).2]
     exact LR h (by omega)
theorem Zm {ps:List VP} {o:List Nat} (h:CE ps=true) (hn:Hd ps o=true):CE (Gf ps o)=true:=by
 have hs:=Srt.of h
 obtain⟨hp,ho⟩:=Mo hn
 rw[JX]
 have hl:(ps.eraseIdx (pos ps o)).length=ps.length-1:=List.length_eraseIdx_of_lt hp
 have g:∀i,∃j,(ps.eraseIdx (pos ps o))[i]?=ps[j]?∧(j=if i<pos ps o then i else i+1):=fun i=>by
   refine⟨_,?_,rfl⟩
   rw[List.getElem?_eraseIdx]
   split<;>rfl
 have h64:=(Dz.1 h).1
 refine Xw (by omega) (fun i hi=>?_) fun i hi=>?_
 · obtain⟨j,e1,hj⟩:=g i
   obtain⟨k,e2,hk⟩:=g (i+1)
   rw[(Gs e1).1,(Gs e2).1]
   refine hs.lt ?_ ?_
   · split at hj<;>split at hk<;>omega
   · split at hk<;>omega
 · obtain⟨j,e1,hj⟩:=g i
   rw[(Gs e1).2]
   exact LR h (by split at hj<;>omega)
end Go.Proofs.YtbfjfnbcmojpiaaGreat
namespace Go.Proofs.YtbfjfnbcmojpiaaGreat
open Go.RowKit Go.Shelf
structure VK where
 o:List Nat
 ho:Dg o
 ao:Option Addr
 cap:Nat
 l:List Nd
def VK.s (k:VK):Value:=.slice k.ao k.l.length k.cap
def VK.p (k:VK):VP:=(k.o,k.l)
def AZ (k:VK):List Value:=[bv k.o,[k.s]].flatten
def F4 (k:VK):Value:=.agg (AZ k).toArray
theorem Ct (k:VK):(AZ k).length=33:=by simp[AZ,AI,k.ho.1]
theorem Gg (k:VK):∀c∈AZ k,c.oneCell'=true:=by
 intro c hc
 simp only[AZ,List.flatten_cons,List.flatten_nil,List.append_nil] at hc
 rcases List.mem_append.1 hc with h|h
 · exact GF _ c h
 · obtain rfl:=List.mem_singleton.1 h;rfl
theorem LN (ks:List VK):(ks.flatMap AZ).all Value.oneCell'=true:=by
 rw[List.all_flatMap,List.all_eq_true]
 exact fun k _=>List.all_eq_true.2 (Gg k)
theorem Ry (k:VK):TY Tryz.prog 58 (AZ k) (F4 k):=by
 refine TY.agg Tryz.underlying58 rfl ?_ (Gg k)
 rw[Ct]
 kernel_rfl
theorem Dn (v:Value) (h:v.oneCell'=true):TY Tryz.prog 34 [v] v:=TY.one' Tryz.underlying34 rfl (by kernel_rfl) h
def Ao (sa po:List Nat) (s:Value):Value:=.agg ([bv sa,bv po,[s]].flatten).toArray
theorem BX {sa po:List Nat} (hs:Dg sa) (hp:Dg po) (s:Value) (h:s.oneCell'=true):TY Tryz.prog 36 ([bv sa,bv po,[s]].flatten) (Ao sa po s):=by
 refine TY.agg Tryz.underlying36 rfl ?_ ?_
 · rw[show([bv sa,bv po,[s]].flatten).length=65 by simp[AI,hs.1,hp.1]]
   kernel_rfl
 · intro c hc
   simp only[List.flatten_cons,List.flatten_nil,List.append_nil,List.mem_append,List.mem_singleton] at hc
   rcases hc with hc|hc|hc
   · exact GF _ c hc
   · exact GF _ c hc
   · rw[hc];exact h
def KsR (w:World) (ks:List VK):Prop:=∀k∈ks,RdT w k.s k.l
def DF (ks:List VK) (b:Nat):Prop:=∃k∈ks,Lc k.s b
def Je (v:Value) (ks:List VK) (b:Nat):Prop:=BO v b∨DF ks b
def RdK (w:World) (v:Value) (ks:List VK):Prop:=SlB w 33 v ks.length (ks.flatMap AZ)∧KsR w ks
section
variable {w w':World} {v:Value} {ks:List VK} {b:Nat}
theorem KsR.kn (h:KsR w ks) (g:w.grownBy w' none):KsR w' ks:=fun k hk=>(h k hk).kn g
theorem KsR.offR (h:KsR w ks) {row:Option Nat} (g:w.grownBy w' row) (hb:∀k,DF ks k→row≠some k):KsR w' ks:=fun k hk=>(h k hk).offR g fun x hx=>hb x ⟨k,hk,hx⟩
theorem RdK.offR (h:RdK w v ks) {row:Option Nat} (g:w.grownBy w' row) (hb:∀k,Je v ks k→row≠some k):RdK w' v ks:=⟨h.1.offR g fun k hk=>hb k (.inl hk),h.2.offR g fun k hk=>hb k (.inr hk)⟩
theorem KsR.lt (h:KsR w ks):∀k,DF ks k→k<w.heap.size:=fun k ⟨x,hx,hk⟩=>(h x hx).lt k hk
theorem RdK.kn (h:RdK w v ks) (g:w.grownBy w' none):RdK w' v ks:=⟨h.1.kn g,h.2.kn g⟩
theorem RdK.lt (h:RdK w v ks):∀k,Je v ks k→k<w.heap.size:=fun k hk=>hk.elim (h.1.2 k) (h.2.lt k)
theorem RdK.len (h:RdK w v ks):(ks.length:Int)≤9223372036854775807:=by
 obtain⟨ao,cap,e,h1,h2⟩:=h.1.1.shape
 omega
end
theorem RdK.nil (w:World):RdK w (.slice none 0 0) []:=⟨⟨Sl.nil w 33,fun k hk=>by simp[BO,Value.ownBlock] at hk⟩,fun k hk=>by simp at hk⟩
theorem Lw (b:Nat):¬Je (.slice none 0 0) [] b:=by
 rintro (h|⟨k,hk,_⟩)
 · simp[BO,Value.ownBlock] at h
 · simp at hk
theorem Ol {ks:List VK} {j:Nat} (h:j<ks.length):od (ks.map VK.p) j=ks[j].o:=by rw[Oa (by simpa using h),List.getElem_map];rfl
theorem Rz {ks:List VK} {j:Nat} (h:j<ks.length):tr (ks.map VK.p) j=ks[j].l:=by rw[AEb (by simpa using h),List.getElem_map];rfl
theorem RdK.owner {w:World} {ao:Option Addr} {n cap j:Nat} {ks:List VK} (h:RdK w (.slice ao n cap) ks) (hn:n=ks.length) (hj:j<ks.length):w.rangeAt (bO ao) (oO ao+j*33) (bv ks[j].o):=by
 subst hn
 have:=Cz h.1.1 Ct hj (by decide)
 exact Mq (o:=oO ao+j*33) (k:=0) (A:=[]) (B:=bv ks[j].o) (C:=[ks[j].s]) this rfl
theorem RdK.tree {w:World} {ao:Option Addr} {n cap j:Nat} {ks:List VK} (h:RdK w (.slice ao n cap) ks) (hn:n=ks.length) (hj:j<ks.length):w.rangeAt (bO ao) (oO ao+j*33+32) [ks[j].s]:=by
 subst hn
 have:=Cz h.1.1 Ct hj (by decide)
 exact Mq (A:=bv ks[j].o) (B:=[ks[j].s]) (C:=[]) this (by rw[AI,ks[j].ho.1])
theorem RdK.key {w:World} {ao:Option Addr} {n cap j:Nat} {ks:List VK} (h:RdK w (.slice ao n cap) ks) (hn:n=ks.length) (hj:j<ks.length):w.rangeAt (bO ao) (oO ao+j*33) (AZ ks[j]):=by
 subst hn
 exact Cz h.1.1 Ct hj (by decide)
theorem RF:∀{a b:List Nat},(∀x∈a,x<256)→(∀x∈b,x<256)→Lib.compareBytes (a.map UInt8.ofNat) (b.map UInt8.ofNat)=Fq a b
 | [],[],_,_=>rfl
 | [],_::_,_,_=>rfl
 | _::_,[],_,_=>rfl
 | x::a,y::b,ha,hb=>by
  have hx:=ha x List.mem_cons_self
  have hy:=hb y List.mem_cons_self
  have ih:=RF (a:=a) (b:=b) (fun z hz=>ha z (List.mem_cons_of_mem _ hz)) (fun z hz=>hb z (List.mem_cons_of_mem _ hz))
  have e1:(UInt8.ofNat x<UInt8.ofNat y)↔x<y:=by rw[UInt8.lt_iff_toNat_lt,UInt8.toNat_ofNat',UInt8.toNat_ofNat',Nat.mod_eq_of_lt hx,Nat.mod_eq_of_lt hy]
  have e2:(UInt8.ofNat y<UInt8.ofNat x)↔y<x:=by rw[UInt8.lt_iff_toNat_lt,UInt8.toNat_ofNat',UInt8.toNat_ofNat',Nat.mod_eq_of_lt hx,Nat.mod_eq_of_lt hy]
  rw[List.map_cons,List.map_cons,Lib.compareBytes,ih]
  unfold Fq
  by_cases h1:x<y
  · rw[if_pos (e1.2 h1),if_pos (by simp[Dy,h1])]
  · rw[if_neg (fun h=>h1 (e1.1 h))]
    by_cases h2:y<x
    · rw[if_pos (e2.2 h2),if_neg (by simp[Dy,h1];omega),if_neg (by simp;omega)]
    · have:x=y:=by omega
      subst this
      rw[if_neg (fun h=>h2 (e2.1 h))]
      simp[Dy]
theorem RG {P:Program} {w:World} {l:List Nat} (hl:∀x∈l,x<256) {n:Nat} (hn:l.length=n) {b o c:Nat} (h:w.rangeAt b o (bv l)):(Extern.Bytes.bytesOf (.slice (some ⟨b,o,none⟩) n c)).run P w=.ok ⟨(l.map UInt8.ofNat).toArray⟩ w:=by
 subst hn
 have:=Lib.run_loadBytesX (P:=P) w (l.map fun(x:Nat)=>(x:Int)) ⟨b,o,none⟩ .empty (fun j x hj=>by
  rw[Addr.add_mid]
  refine h j _ ?_
  rw[List.getElem?_map] at hj
  unfold bv
  rw[List.getElem?_map]
  cases e:l[j]? with
  | none=>rw[e] at hj;cases hj
  | some y =>
   rw[e] at hj
   obtain rfl:=Option.some.inj hj
   rfl)
 rw[List.length_map] at this
 show(Extern.Bytes.loadBytes ⟨b,o,none⟩ l.length .empty).run P w=_
 refine this.trans ?_
 congr 2
 simp[Lib.bytesOf,Function.comp_def]
theorem ABJ {x y:List Nat} (hx:Dg x) (hy:Dg y) {w:World} {b o b' o' c c':Nat} (h:w.rangeAt b o (bv x)) (h':w.rangeAt b' o' (bv y)) :
  (callFunc 129 #[.slice (some ⟨b,o,none⟩) 32 c,.slice (some ⟨b',o',none⟩) 32 c']).run Tryz.prog w=.ok (.value (.int .i64 (Fq x y))) w:=by
 have e1:(Extern.BytealgCompare.compare #[.slice (some ⟨b,o,none⟩) 32 c,.slice (some ⟨b',o',none⟩) 32 c']).run Tryz.prog w=.ok (.int .i64 (Fq x y)) w:=by
  change Sem.run Tryz.prog (do pure (goInt (Extern.BytealgCompare.cmp (←Extern.Bytes.bytesOf (.slice (some ⟨b,o,none⟩) 32 c)) (←Extern.Bytes.bytesOf (.slice (some ⟨b',o',none⟩) 32 c'))))) w=_
  rw[Sem.run_bind,RG hx.2 hx.1 h]
  simp only[Result.andThen_ok]
  rw[Sem.run_bind,RG hy.2 hy.1 h']
  simp only[Result.andThen_ok,Sem.run_pure]
  rw[Lib.cmp_eq]
  simp only
  rw[RF hx.2 hy.2]
  rfl
 rw[run_callFunc_extern Tryz.func129 (by kernel_rfl) (by kernel_rfl) (by kernel_rfl) (e:=Extern.BytealgCompare.compare) (by kernel_rfl),e1]
 rfl
theorem Io {x y:List Nat} (hx:Dg x) (hy:Dg y) {w:World} {b o b' o' c c':Nat} (h:w.rangeAt b o (bv x)) (h':w.rangeAt b' o' (bv y)) :
  Calls Tryz.prog 94 #[.slice (some ⟨b,o,none⟩) 32 c,.slice (some ⟨b',o',none⟩) 32 c'] w fun e w'=>e=.returned (.int .i64 (Fq x y))∧w.grownBy w' none:=by
 have H:=fun c c'=>ABJ hx hy h h' (c:=c) (c':=c')
 go_enter Tryz.func94,Tryz.ntmps94
 go_wp2
 go_ret
 exact⟨rfl,World.grownBy.refl _ _⟩
theorem Jf (b o:Nat) (w:World):(Instr.sliceAt 23 (.pointer (some ⟨b,o,none⟩)) none none none).run Tryz.prog w=.ok (.slice (some ⟨b,o,none⟩) 32 32) w:=by
 kernel_rfl
theorem AQ:AS.length=32:=rfl
theorem AR:Dg AS:=⟨rfl,by intro x hx;simp[AS,zs] at hx;omega⟩
theorem RdK.keyX {w:World} {ao:Option Addr} {n cap j:Nat} {ks:List VK} {x:VK} (h:RdK w (.slice ao n cap) ks) (hn:n=ks.length) (hj:j<ks.length) (hx:ks[j]=x):w.rangeAt (bO ao) (oO ao+j*33) (AZ x):=hx▸h.key hn hj
theorem RdK.ownerX {w:World} {ao:Option Addr} {n cap j:Nat} {ks:List VK} {x:VK} (h:RdK w (.slice ao n cap) ks) (hn:n=ks.length) (hj:j<ks.length) (hx:ks[j]=x):w.rangeAt (bO ao) (oO ao+j*33) (bv x.o):=hx▸h.owner hn hj
theorem RdK.treeX {w:World} {ao:Option Addr} {n cap j:Nat} {ks:List VK} {x:VK} (h:RdK w (.slice ao n cap) ks) (hn:n=ks.length) (hj:j<ks.length) (hx:ks[j]=x):w.rangeAt (bO ao) (oO ao+j*33+32) [x.s]:=hx▸h.tree hn hj
theorem FX (x:VK) (o:List Nat) (ho:Dg o) (w:World) :
  Calls Tryz.prog 96 #[F4 x,AO o] w fun e w'=>e=.returned (.int .i64 (Fq x.o o))∧w.grownBy w' none:=by
 refine BM Tryz.func96 rfl Tryz.ntmps96 rfl fun a0 sv0=>?_
 have HG:=World.grownBy.refl w none
 replace sv0:Sv 9 [] [(0,F4 x),(1,AO o)] a0:=sv0
 refine AIi fun K1 k1=>?_
 refine AIh ?_
 refine BT sv0 r6 (Ry x) fun a2 w2 CC Cq g2 z2 AG sv2=>?_
 refine BT sv2 r6 (Bn o ho.1) fun a3 w3 Bo EC g3 z3 AJ sv3=>?_
 replace AG:=AC g3 AG
 refine Aa (v:=.int .i64 0) sv3 r6 fun a4 sv4=>?_
 refine AE ?_
 refine k1 _ _ ?_
 refine AIi fun K5 k5=>?_
 refine Cv (sv4.dl [4]) [(5,pt CC),(6,.slice ((some ⟨CC,0,none⟩)) 32 32),(7,.slice ((some ⟨Bo,0,none⟩)) 32 32),(8,.int .i64 ((Fq x.o o))),(4,.int .i64 ((Fq x.o o)))]
  ⟨yf r6 (fun _=>by kernel_rfl),Fp (l:=none) (u:=none) rfl rfl trivial (oy rfl rfl) trivial trivial (Jf CC 0) (fun _=>rfl),Fp (l:=none) (u:=none) rfl rfl trivial (oy rfl rfl) trivial trivial (Jf Bo 0) (fun _=>rfl),Ad [.slice ((some ⟨CC,0,none⟩)) 32 32,.slice ((some ⟨Bo,0,none⟩)) 32 32] Tryz.func94 (by kernel_rfl) rq4 ⟨(oy rfl rfl),(oy rfl rfl),AIo⟩ (Aq fun W g=>Io x.ho ho (BR (L:=[bv x.o,[VK.s x]]) (i:=0) (AF g AG (by simp)) rfl rfl) (Al (AF g AJ (by simp)))),GK 8 4 (.inr rfl) rfl rfl trivial (fun _ _ h=>h),AIo⟩ fun a6 w6 g6 sv6=>?_
 refine k5 _ _ ?_
 replace HG:=AA (AA (AA HG g2) g3) g6
 refine AIl ?_
 repeat refine AM ?_
 refine A8 (fn:=Tryz.f96) sv6 (A7 (p:=4) Tryz.results96 sv6 rfl rfl) ?_
 exact⟨rfl,HG⟩
theorem ABK {x y:List Nat} {j:Nat} (h:∀i,i<j→x[i]?=y[i]?) {a b:Nat} (ha:x[j]?=some a) (hb:y[j]?=some b) (hne:a≠b):Dy x y=decide (a<b):=by
 induction x generalizing y j with
 | nil=>simp at ha
 | cons u x ih =>
  cases y with
  | nil=>simp at hb
  | cons v y =>
   cases j with
   | zero =>
    simp at ha hb
    subst ha hb
    have:(u == v)=false:=by simpa using hne
    simp[Dy,this]
   | succ j =>
    have h0:=h 0 (by omega)
    simp at h0
    subst h0
    have:=ih (y:=y) (j:=j) (fun i hi=>by have:=h (i+1) (by omega);simpa using this) (by simpa using ha) (by simpa using hb)
    simp[Dy,this]
theorem ABL {x y:List Nat} (hl:x.length=32) (hm:y.length=32) (h:∀i,i<32→x[i]?=y[i]?):Dy x y=false:=by
 have:x=y:=List.ext_getElem? fun i=>by
  by_cases hi:i<32
  · exact h i hi
  · rw[List.getElem?_eq_none (by omega),List.getElem?_eq_none (by omega)]
 rw[this,En]
theorem Fs {w:World} {b o:Nat} {x:List Nat} (h:w.rangeAt b o (bv x)) {j a:Nat} (ha:x[j]?=some a):w.rangeAt b (o+j) [.int .u8 (a:Int)]:=by
 refine UA ?_
 refine h j _ ?_
 unfold bv
 rw[List.getElem?_map,ha]
 rfl
theorem R3 (x:Int):TY Tryz.prog 5 [.int .u8 x] (.int .u8 x):=TY.one' Tryz.underlying5 rfl (by kernel_rfl) rfl
theorem Ip {b j:Nat} (hj:j<32) (w:World):(Instr.indexAt 23 (.pointer (some ⟨b,0,none⟩)) (.int .i64 (j:Int))).run Tryz.prog w=.ok (.pointer (some ⟨b,j,none⟩)) w:=by
 have h1:(0:Int)≤(j:Int)∧(j:Int)<32:=⟨by omega,by omega⟩
 rw[run_indexAt_array (P:=Tryz.prog) (w:=w) (t:=23) (a:=⟨b,0,none⟩) (k:=.i64) (i:=(j:Int)) (h:=by kernel_rfl)]
 have e1:Tryz.prog.arrayLen 23=32:=by kernel_rfl
 have e2:(sizeOf (Tryz.prog.elem 23)).run Tryz.prog w=.ok 1 w:=by kernel_rfl
 rw[e1]
 simp[h1,Addr.add,e2,Result.andThen]
 intro h0
 exact h0.symm
theorem ZV (x y:List Nat) (hx:Dg x) (hy:Dg y) (w:World) :
   Calls Tryz.prog 86 #[AO x,AO y] w fun e w'=>e=.returned (.bool (Dy x y))∧w.grownBy w' none:=by
 refine BM Tryz.func86 rfl Tryz.ntmps86 rfl fun a0 sv0=>?_
 have HG:=World.grownBy.refl w none
 replace sv0:Sv 24 [] [(0,AO x),(1,AO y)] a0:=sv0
 refine AIi fun K1 k1=>?_
 refine AIh ?_
 refine BT sv0 r6 (Bn x hx.1) fun a2 w2 CC Cq g2 z2 AG sv2=>?_
 refine BT sv2 r6 (Bn y hy.1) fun a3 w3 Bo EC g3 z3 AJ sv3=>?_
 replace AG:=AC g3 AG
 replace HG:=AA (AA HG g2) g3
 refine Aa (v:=.bool false) sv3 r6 fun a4 sv4=>?_
 refine AE ?_
 refine k1 _ _ ?_
 refine AIi fun K5 k5=>?_
 refine AIi fun K6 k6=>?_
 refine AIh ?_
 refine Aa (v:=.int .i64 0) sv4 r6 fun a7 sv7=>?_
 refine AE ?_
 refine k6 _ _ ?_
 refine BB fun Q8 x8 y8 r8 o8=>?_
 refine wp_loop (fun a w'=>∃(j:Nat),(j≤32)∧(∀i,i<j→x[i]?=y[i]?)∧Sv 24 [] [(5,.int .i64 ((j:Int))),(3,pt Bo),(2,pt CC),(0,AO x),(1,AO y)] a∧w.grownBy w' none∧w'.heap[CC]?=some (.cells (bv x).toArray 23 (0,0))∧w'.heap[Bo]?=some (.cells (bv y).toArray 23 (0,0))) (fun a _=>(32-intOf (a.tmps.getD 5 undef)).toNat) ⟨0,by omega,fun i hi=>by omega,⟨sv7.1,sv7.2.1,sv7.2.2.1,sv7.2.2.2.2.1,sv7.2.2.2.2.2.1,sv7.2.2.2.2.2.2.1,sv7.2.2.2.2.2.2.2.1,AIo⟩,HG,AG,AJ⟩ fun a9 w9 hI9=>?_
 clear AG
 clear AJ
 clear HG
 obtain⟨j,hj32,heq,sv9,HG,AG,AJ⟩:=hI9
 refine AIi fun K10 k10=>?_
 refine AIi fun K11 k11=>?_
 by_cases hj:j<32
 · obtain⟨a,hxa⟩:∃a,x[j]?=some a:=⟨_,List.getElem?_eq_getElem (by rw[hx.1];exact hj)⟩
   obtain⟨b,hyb⟩:∃b,y[j]?=some b:=⟨_,List.getElem?_eq_getElem (by rw[hy.1];exact hj)⟩
   refine AIh ?_
   refine AL sv9 2 [(6,.int .i64 ((j:Int))),(7,.bool true)]
     ⟨ym r5,Cm r6 (fun _=>Ba (by simp;omega)),AIo⟩ fun a12 w12 g12 C6=>?_
   refine AE ?_
   refine k11 _ _ ?_
   refine Ap C6 rfl rfl ?_
   refine AIm ?_
   refine k10 _ _ ?_
   refine AIi fun K13 k13=>?_
   refine BB fun Q14 x14 y14 r14 o14=>?_
   refine AIi fun K15 k15=>?_
   replace AG:=AC g12 AG
   replace AJ:=AC g12 AJ
   replace HG:=AA HG g12
   by_cases hab:a=b
   · refine Cv C6 [(10,.int .i64 ((j:Int))),(11,pk CC j),(12,.int .u8 ((a:Int))),(13,.int .i64 ((j:Int))),(14,pk Bo j),(15,.int .u8 ((b:Int))),(16,.bool false)]
      ⟨ym r5,BD rq8 (fun w=>Ip hj w),Bv r6 (fun _ g=>Ae (R3 (a:Int)) (by simpa using Fs (o:=0) (Al (AF g AG (by simp))) hxa)),ym r5,BD rq8 (fun w=>Ip hj w),Bv r6 (fun _ g=>Ae (R3 (b:Int)) (by simpa using Fs (o:=0) (Al (AF g AJ (by simp))) hyb)),Hl r7 (fun _=>Eb (by simp[hab])),AIo⟩ fun a16 w16 g16 Cj=>?_
     refine k15 _ _ ?_
     refine Au Cj rfl rfl ?_
     refine AIm ?_
     refine y14 _ _ ?_
     refine k13 _ _ ?_
     refine AIh ?_
     refine AL Cj 2 [(8,.int .i64 ((j:Int))),(9,.int .i64 (((j+1:Nat):Int)))]
      ⟨ym r5,Cm r6 (fun _=>C4 (by rw[A1 (by omega) (by omega)];omega)),AIo⟩ fun a17 w17 g17 FH=>?_
     have R4:=AA g16 g17
     refine Aa (v:=.int .i64 (((j+1:Nat):Int))) FH r6 fun a18 CS=>?_
     refine AE ?_
     replace AG:=AC R4 AG
     replace AJ:=AC R4 AJ
     replace HG:=AA HG R4
     exact⟨⟨j+1,by omega,fun i hi=>by
       by_cases h:i=j
       · subst h;rw[hxa,hyb,hab]
       · exact heq i (by omega),⟨CS.1,CS.2.1,CS.2.2.1,(AK CS).2.2.2.2.2.2.1,(AK CS).2.2.2.2.2.2.2.1,(AK (AK CS)).1,(AK (AK CS)).2.1,AIo⟩,HG,AG,AJ⟩,by rw[show _=_ from CS.2.2.1,show _=_ from sv9.2.2.1];simp[intOf];omega⟩
   · refine Cv C6 [(10,.int .i64 ((j:Int))),(11,pk CC j),(12,.int .u8 ((a:Int))),(13,.int .i64 ((j:Int))),(14,pk Bo j),(15,.int .u8 ((b:Int))),(16,.bool true)]
      ⟨ym r5,BD rq8 (fun w=>Ip hj w),Bv r6 (fun _ g=>Ae (R3 (a:Int)) (by simpa using Fs (o:=0) (Al (AF g AG (by simp))) hxa)),ym r5,BD rq8 (fun w=>Ip hj w),Bv r6 (fun _ g=>Ae (R3 (b:Int)) (by simpa using Fs (o:=0) (Al (AF g AJ (by simp))) hyb)),Hl r7 (fun _=>Eb (by simpa using fun e=>hab (by omega))),AIo⟩ fun a19 w19 g19 Dj=>?_
     refine k15 _ _ ?_
     refine Ap Dj rfl rfl ?_
     refine AIi fun K20 k20=>?_
     replace AG:=AC g19 AG
     replace AJ:=AC g19 AJ
     refine Cv Dj [(17,.int .i64 ((j:Int))),(18,pk CC j),(19,.int .u8 ((a:Int))),(20,.int .i64 ((j:Int))),(21,pk Bo j),(22,.int .u8 ((b:Int))),(23,.bool (decide (a<b))),(4,.bool (decide (a<b)))]
      ⟨ym r5,BD rq8 (fun w=>Ip hj w),Bv r6 (fun _ g=>Ae (R3 (a:Int)) (by simpa using Fs (o:=0) (Al (AF g AG (by simp))) hxa)),ym r5,BD rq8 (fun w=>Ip hj w),Bv r6 (fun _ g=>Ae (R3 (b:Int)) (by simpa using Fs (o:=0) (Al (AF g AJ (by simp))) hyb)),Hl r7 (fun _=>Ba (by simp)),GK 23 4 (.inr rfl) rfl rfl trivial (fun _ _ h=>h),AIo⟩ fun a21 w21 g21 DY=>?_
     refine k20 _ _ ?_
     replace HG:=AA (AA HG g19) g21
     refine AIl ?_
     repeat refine AM ?_
     refine r14 _ _ ?_
     repeat refine AM ?_
     refine r8 _ _ ?_
     repeat refine AM ?_
     refine A8 (fn:=Tryz.f86) DY (A7 (p:=4) Tryz.results86 DY rfl rfl) ?_
     exact⟨congrArg (fun b=>Ending.returned (.bool b)) (ABK heq hxa hyb hab).symm,HG⟩
 · have hje:j=32:=by omega
   refine AIh ?_
   refine AL sv9 2 [(6,.int .i64 ((j:Int))),(7,.bool false)]
     ⟨ym r5,Cm r6 (fun _=>Ba (by simp;omega)),AIo⟩ fun a22 w22 g22 CX=>?_
   refine AE ?_
   refine k11 _ _ ?_
   refine Au CX rfl rfl ?_
   refine wp_exit ?_
   repeat refine CD ?_
   refine x8 _ _ ?_
   refine k5 _ _ ?_
   refine AIi fun K23 k23=>?_
   refine AIh ?_
   refine Aa (v:=.bool false) CX r6 fun a24 DZ=>?_
   refine AE ?_
   refine k23 _ _ ?_
   replace HG:=AA HG g22
   refine AIl ?_
   repeat refine AM ?_
   refine A8 (fn:=Tryz.f86) DZ (A7 (p:=4) Tryz.results86 DZ rfl rfl) ?_
   exact⟨congrArg (fun b=>Ending.returned (.bool b)) (ABL hx.1 hy.1 (hje▸heq)).symm,HG⟩
theorem Mt {x:Int} (h1:0≤x) (h2:x<18446744073709551616):IntKind.u64.wrap x=x:=by rw[IntKind.wrap_u64];omega
theorem ADS {P:Program} {a c:Int} {t:TypeId} {x y:Operand} {w:World} (h:a/2=c):(do eqGuard .shr t x y (.int .u64 a) (.int .u64 1);binOp .shr t (.int .u64 a) (.int .u64 1):Sem Value).run P w=.ok (.int .u64 c) w:=by
 subst h
 have:min 1 IntKind.u64.bits=1:=by decide
 simp[eqGuard,binOp_shr,shift_shr_any,this]
theorem ABM {a b:Int} {p q:Bool} (h1:a=b) (h2:p=q):Ending.returned (.tuple #[.int .i64 a,.bool p])=Ending.returned (.tuple #[.int .i64 b,.bool q]):=by rw[h1,h2]
theorem AFa {ks:List VK} {o:List Nat} {i:Nat} (hp:pos (ks.map VK.p) o=i) (hi:i<ks.length) {x:VK} (hx:ks[i]=x):decide (x.o=o)=Hd (ks.map VK.p) o:=by
 unfold Hd
 rw[hp,Ol hi,hx]
 simp[hi]
theorem ADT {ks:List VK} {o:List Nat} (h:¬pos (ks.map VK.p) o<ks.length):false=Hd (ks.map VK.p) o:=by
 unfold Hd
 simp at h ⊢
 omega
theorem R5 (ks:List VK) (ao:Option Addr) (cap:Nat) (o:List Nat) (ho:Dg o) (w:World) (hr:RdK w (.slice ao ks.length cap) ks) (hs:Srt (ks.map VK.p)) (h64:ks.length≤64) :
   Calls Tryz.prog 113 #[.slice ao ks.length cap,AO o,.func (.func 96) #[] #[]] w fun e w'=>e=.returned (.tuple #[.int .i64 (pos (ks.map VK.p) o),.bool (Hd (ks.map VK.p) o)])∧w.grownBy w' none:=by
 have hlen:=hr.len
 have hmap:(ks.map VK.p).length=ks.length:=List.length_map _
 refine BM Tryz.func113 rfl Tryz.ntmps113 rfl fun a0 sv0=>?_
 have HG:=World.grownBy.refl w none
 replace sv0:Sv 49 [] [(0,.slice ao ks.length cap),(1,AO o),(2,.func (.func 96) #[] #[])] a0:=sv0
 refine AIi fun K1 k1=>?_
 refine AIh ?_
 refine BT sv0 r6 (Bn o ho.1) fun a2 w2 Mu Lx g2 z2 Bg sv2=>?_
 refine Aa (v:=.int .i64 0) sv2 r6 fun a3 sv3=>?_
 refine Aa (v:=.bool false) sv3 r6 fun a4 sv4=>?_
 refine AE ?_
 refine k1 _ _ ?_
 refine AIi fun K5 k5=>?_
 refine AIh ?_
 refine AL sv4 2 [(12,.slice ao ks.length cap),(13,.int .i64 ((ks.length:Nat)))]
   ⟨ym r5,Bk (Tryz.underlying34) rfl rfl trivial (oy rfl rfl) (fun _=>rfl),AIo⟩ fun a6 w6 g6 sv6=>?_
 refine Aa (v:=.int .i64 ((ks.length:Nat))) sv6 r6 fun a7 sv7=>?_
 refine AE ?_
 refine k5 _ _ ?_
 refine AIi fun K8 k8=>?_
 refine AIh ?_
 refine AL sv7 1 [(14,.int .i64 ((ks.length:Nat)))]
   ⟨ym r5,AIo⟩ fun a9 w9 g9 sv9=>?_
 have gc9:=AA g6 g9
 refine Aa (v:=.int .i64 0) sv9 r6 fun a10 CK=>?_
 refine Aa (v:=.int .i64 ((ks.length:Nat))) CK r6 fun a11 CH=>?_
 refine AE ?_
 refine k8 _ _ ?_
 refine AIi fun K12 k12=>?_
 refine BB fun Q13 x13 y13 r13 o13=>?_
 replace Bg:=AC gc9 Bg
 replace hr:=(hr.kn g2).kn gc9
 replace HG:=AA (AA HG g2) gc9
 refine wp_loop (fun a w'=>∃(i:Nat) (j:Nat),(i≤j)∧(j≤ks.length)∧(∀k,k<i→Dy (od (ks.map VK.p) k) o=true)∧(∀k,j≤k→k<ks.length→Dy (od (ks.map VK.p) k) o=false)∧Sv 49 [] [(9,.int .i64 ((i:Int))),(10,.int .i64 ((j:Int))),(14,.int .i64 ((ks.length:Nat))),(8,.int .i64 ((ks.length:Nat))),(12,.slice ao ks.length cap),(13,.int .i64 ((ks.length:Nat))),(7,.bool false),(6,.int .i64 0),(4,pt Mu),(0,.slice ao ks.length cap),(1,AO o),(2,.func (.func 96) #[] #[])] a∧w.grownBy w' none∧w'.heap[Mu]?=some (.cells (bv o).toArray 23 (0,0))∧RdK w' (.slice ao ks.length cap) ks) (fun a _=>(intOf (a.tmps.getD 10 undef)-intOf (a.tmps.getD 9 undef)).toNat) ⟨0,ks.length,Nat.zero_le _,Nat.le_refl _,fun k hk=>by omega,fun k h1 h2=>by omega,⟨CH.1,CH.2.1,CH.2.2.2.1,CH.2.2.1,CH.2.2.2.2.1,CH.2.2.2.2.2.1,CH.2.2.2.2.2.2.1,CH.2.2.2.2.2.2.2.1,(AK CH).1,(AK CH).2.1,(AK CH).2.2.1,(AK CH).2.2.2.1,(AK CH).2.2.2.2.1,(AK CH).2.2.2.2.2.1,AIo⟩,HG,Bg,hr⟩ fun a14 w14 hI14=>?_
 clear Bg
 clear hr
 clear HG
 obtain⟨i,j,hij,hjn,hb,ha,DE,HG,Bg,hr⟩:=hI14
 refine AIi fun K15 k15=>?_
 refine AIi fun K16 k16=>?_
 by_cases hlt:i<j
 · obtain⟨m,hm⟩:∃m,m=(i+j)/2:=⟨_,rfl⟩
   have hmi:i≤m∧m<j∧m<ks.length:=by omega
   have hm3:=hmi.2.2
   obtain⟨x,hx_x⟩:∃x,ks[m]'hm3=x:=⟨_,rfl⟩
   have hod:od (ks.map VK.p) m=x.o:=by rw[Ol hm3,hx_x]
   refine AIh ?_
   refine AL DE 3 [(15,.int .i64 ((i:Int))),(16,.int .i64 ((j:Int))),(17,.bool true)]
     ⟨ym r5,ym r5,Hl r7 (fun _=>Ba (by simp;omega)),AIo⟩ fun a17 w17 g17 FH=>?_
   refine AE ?_
   refine k16 _ _ ?_
   refine Ap FH rfl rfl ?_
   refine AIm ?_
   refine k15 _ _ ?_
   refine BB fun Q18 x18 y18 r18 o18=>?_
   refine AIi fun K19 k19=>?_
   refine AIh ?_
   refine AL FH 6 [(18,.int .i64 ((i:Int))),(19,.int .i64 ((j:Int))),(20,.int .i64 (((i+j:Nat):Int))),(21,.int .u64 (((i+j:Nat):Int))),(22,.int .u64 ((m:Int))),(23,.int .i64 ((m:Int)))]
     ⟨ym r5,ym r5,Hl r7 (fun _=>C4 (by rw[A1 (by omega) (by omega)];omega)),KI r6 (fun _=>KM Tryz.underlying3 Tryz.underlying48 (Mt (by omega) (by omega))),Cm r6 (fun _=>ADS (by omega)),KI r6 (fun _=>KM Tryz.underlying48 Tryz.underlying3 (A1 (by omega) (by omega))),AIo⟩ fun a20 w20 g20 EL=>?_
   have AFb:=AA g17 g20
   refine Aa (v:=.int .i64 ((m:Int))) EL r6 fun a21 DY=>?_
   have CX:Sv _ _ [_,_,_,_,_,_,_,_,_,_,_,_,_,_,_,_] _:=DY.dl [18,19,20,21,22,23]
   refine AE ?_
   refine k19 _ _ ?_
   refine AIi fun K23 k23=>?_
   replace Bg:=AC AFb Bg
   replace hr:=hr.kn AFb
   replace HG:=AA HG AFb
   by_cases hc:Dy x.o o=true
   · refine Cv CX [(24,.func (.func 96) #[] #[]),(25,.slice ao ks.length cap),(26,.int .i64 ((m:Int))),(27,pk ((bO ao)) (oO ao+m*33)),(28,F4 x),(29,AO o),(30,.int .i64 ((Fq x.o o))),(31,.bool true)]
      ⟨ym r5,ym r5,ym r5,BD rq8 (fun w=>CM Tryz.underlying34 (by kernel_rfl) (hr.1.1) (by omega) (rfl) w),Bv r6 (fun _ g=>Ae (Ry x) (RdK.keyX (hr.kn g) rfl hm3 hx_x)),yl r6 (Bn o ho.1) Bg,Oh (Sp.is (.int .i64 ((Fq x.o o)))) [F4 x,AO o] rfl rfl trivial (oy rfl rfl) ⟨(oy rfl rfl),(oy rfl rfl),AIo⟩ (Aq fun W g=>FX x o ho W) (fun _ _ h=>h) (E5 Tryz.func96 (by kernel_rfl) rfl),Cm r6 (fun _=>Ba (by rw[R7,hc])),AIo⟩ fun a24 w24 g24 DZ=>?_
     refine k23 _ _ ?_
     refine Ap DZ rfl rfl ?_
     refine AIh ?_
     refine AL DZ 2 [(32,.int .i64 ((m:Int))),(33,.int .i64 (((m+1:Nat):Int)))]
      ⟨ym r5,Cm r6 (fun _=>C4 (by rw[A1 (by omega) (by omega)];omega)),AIo⟩ fun a25 w25 g25 Cx=>?_
     have JM:=AA g24 g25
     refine Aa (v:=.int .i64 (((m+1:Nat):Int))) Cx r6 fun a26 CW=>?_
     refine AE ?_
     refine y18 _ _ ?_
     replace Bg:=AC JM Bg
     replace hr:=hr.kn JM
     replace HG:=AA HG JM
     exact⟨⟨m+1,j,by omega,by omega,fun k hk=>if e:k=m then (by rw[e,hod,hc]) else FY (hs.lt (i:=k) (j:=m) (by omega) (by rw[hmap];omega)) (hod.symm▸hc),ha,⟨CW.1,CW.2.1,CW.2.2.1,(AK (AK CW)).2.1,(AK (AK CW)).2.2.1,(AK (AK CW)).2.2.2.1,(AK (AK CW)).2.2.2.2.1,(AK (AK CW)).2.2.2.2.2.1,(AK (AK CW)).2.2.2.2.2.2.1,(AK (AK CW)).2.2.2.2.2.2.2.1,(AK (AK (AK CW))).1,(AK (AK (AK CW))).2.1,(AK (AK (AK CW))).2.2.1,(AK (AK (AK CW))).2.2.2.1,AIo⟩,HG,Bg,hr⟩,by rw[show _=_ from CW.2.2.1,show _=_ from(AK (AK CW)).2.1,show _=_ from DE.2.2.1,show _=_ from DE.2.2.2.1];simp[intOf];omega⟩
   · refine Cv CX [(24,.func (.func 96) #[] #[]),(25,.slice ao ks.length cap),(26,.int .i64 ((m:Int))),(27,pk ((bO ao)) (oO ao+m*33)),(28,F4 x),(29,AO o),(30,.int .i64 ((Fq x.o o))),(31,.bool false)]
      ⟨ym r5,ym r5,ym r5,BD rq8 (fun w=>CM Tryz.underlying34 (by kernel_rfl) (hr.1.1) (by omega) (rfl) w),Bv r6 (fun _ g=>Ae (Ry x) (RdK.keyX (hr.kn g) rfl hm3 hx_x)),yl r6 (Bn o ho.1) Bg,Oh (Sp.is (.int .i64 ((Fq x.o o)))) [F4 x,AO o] rfl rfl trivial (oy rfl rfl) ⟨(oy rfl rfl),(oy rfl rfl),AIo⟩ (Aq fun W g=>FX x o ho W) (fun _ _ h=>h) (E5 Tryz.func96 (by kernel_rfl) rfl),Cm r6 (fun _=>Ba (by rw[R7];simpa using hc)),AIo⟩ fun a27 w27 g27 IC=>?_
     refine k23 _ _ ?_
     refine Au IC rfl rfl ?_
     refine AIh ?_
     refine AL IC 1 [(34,.int .i64 ((m:Int)))]
      ⟨ym r5,AIo⟩ fun a28 w28 g28 Jg=>?_
     have LO:=AA g27 g28
     refine Aa (v:=.int .i64 ((m:Int))) Jg r6 fun a29 CI=>?_
     refine AE ?_
     refine y18 _ _ ?_
     replace Bg:=AC LO Bg
     replace hr:=hr.kn LO
     replace HG:=AA HG LO
     exact⟨⟨i,m,by omega,by omega,hb,fun k h1 h2=>if e:k=m then (by rw[e,hod];simpa using hc) else Bool.eq_false_iff.2 fun hh=>hc (hod▸FY (hs.lt (i:=m) (j:=k) (by omega) (by rw[hmap];omega)) hh),⟨CI.1,CI.2.1,(AK (AK CI)).1,CI.2.2.1,(AK (AK CI)).2.1,(AK (AK CI)).2.2.1,(AK (AK CI)).2.2.2.1,(AK (AK CI)).2.2.2.2.1,(AK (AK CI)).2.2.2.2.2.1,(AK (AK CI)).2.2.2.2.2.2.1,(AK (AK CI)).2.2.2.2.2.2.2.1,(AK (AK (AK CI))).1,(AK (AK (AK CI))).2.1,(AK (AK (AK CI))).2.2.1,AIo⟩,HG,Bg,hr⟩,by rw[show _=_ from(AK (AK CI)).1,show _=_ from CI.2.2.1,show _=_ from DE.2.2.1,show _=_ from DE.2.2.2.1];simp[intOf];omega⟩
 · have hie:i=j:=by omega
   have hpos:pos (ks.map VK.p) o=i:=Om (by omega) hb fun h=>ha i (by omega) (by omega)
   refine AIh ?_
   refine AL DE 3 [(15,.int .i64 ((i:Int))),(16,.int .i64 ((j:Int))),(17,.bool false)]
     ⟨ym r5,ym r5,Hl r7 (fun _=>Ba (by simp;omega)),AIo⟩ fun a30 w30 g30 EQ=>?_
   refine AE ?_
   refine k16 _ _ ?_
   refine Au EQ rfl rfl ?_
   refine wp_exit ?_
   repeat refine CD ?_
   refine x13 _ _ ?_
   refine k12 _ _ ?_
   refine AIi fun K31 k31=>?_
   replace Bg:=AC g30 Bg
   replace hr:=hr.kn g30
   replace HG:=AA HG g30
   by_cases hin:i<ks.length
   · obtain⟨y,hx_y⟩:∃x,ks[i]'hin=x:=⟨_,rfl⟩
     refine Cv (EQ.dl [7,6]) [(35,.int .i64 ((i:Int))),(36,.int .i64 ((i:Int))),(37,.int .i64 ((ks.length:Nat))),(38,.bool true),(39,.bool true),(40,.func (.func 96) #[] #[]),(41,.slice ao ks.length cap),(42,.int .i64 ((i:Int))),(43,pk ((bO ao)) (oO ao+i*33)),(44,F4 y),(45,AO o),(46,.int .i64 ((Fq y.o o))),(47,.bool (decide (y.o=o))),(48,.bool (decide (y.o=o))),(6,.int .i64 ((i:Int))),(7,.bool (decide (y.o=o)))]
      ⟨ym r5,ym r5,ym r5,Hl r7 (fun _=>Ba (by simp;omega)),ym r5,Av rq8,Av rq8,Av rq8,Ce rfl rfl (gy rfl rfl rfl) (oy rfl rfl) (oy rfl rfl) (fun w=>CM Tryz.underlying34 (by kernel_rfl) (hr.1.1) (by omega) (rfl) w) (fun _=>rfl),Az rq9 (fun _ g=>Ae (Ry y) (RdK.keyX (hr.kn g) rfl hin hx_y)),Az rq9 (fun _ g=>Ae (Bn o ho.1) (Al (AF g Bg (by simp)))),Oh (Sp.is (.int .i64 ((Fq y.o o)))) [F4 y,AO o] rfl rfl (gy rfl rfl rfl) (oy rfl rfl) ⟨(oy rfl rfl),(oy rfl rfl),AIo⟩ (Aq fun W g=>FX y o ho W) (fun _ _ h=>h) (E5 Tryz.func96 (by kernel_rfl) rfl),BA rq9 (fun _=>CB ADU),A3 rq9,GK 35 6 (.inr rfl) rfl rfl trivial (fun _ _ h=>h),GK 48 7 (.inr rfl) rfl rfl trivial (fun _ _ h=>h),AIo⟩ fun a32 w32 g32 Bc=>?_
     refine k31 _ _ ?_
     replace HG:=AA HG g32
     refine AIl ?_
     repeat refine AM ?_
     refine A8 (fn:=Tryz.f113) Bc (Ok (p:=6) (q:=7) Tryz.results113 Bc rfl rfl rfl rfl) ?_
     exact⟨ABM (by rw[hpos]) (AFa hpos hin hx_y),HG⟩
   · refine Cv (EQ.dl [7,6]) [(35,.int .i64 ((i:Int))),(36,.int .i64 ((i:Int))),(37,.int .i64 ((ks.length:Nat))),(38,.bool false),(39,.bool false),(40,undef),(41,undef),(42,undef),(43,undef),(44,undef),(45,undef),(46,undef),(47,undef),(48,.bool false),(6,.int .i64 ((i:Int))),(7,.bool false)]
      ⟨ym r5,ym r5,ym r5,Hl r7 (fun _=>Ba (by simp;omega)),ym r5,AX r6,AX r6,AX r6,AX r6,AX r6,AX r6,AX r6,AX r6,B6 r7,GK 35 6 (.inr rfl) rfl rfl trivial (fun _ _ h=>h),GK 48 7 (.inr rfl) rfl rfl trivial (fun _ _ h=>h),AIo⟩ fun a33 w33 g33 JN=>?_
     refine k31 _ _ ?_
     replace HG:=AA HG g33
     refine AIl ?_
     repeat refine AM ?_
     refine A8 (fn:=Tryz.f113) JN (Ok (p:=6) (q:=7) Tryz.results113 JN rfl rfl rfl rfl) ?_
     exact⟨ABM (by rw[hpos]) (ADT (by rw[hpos];exact hin)),HG⟩
end Go.Proofs.YtbfjfnbcmojpiaaGreat
