import Derived.Test.YtbfjfnbcmojpiaaGreatDaK16
import Derived.Test.YtbfjfnbcmojpiaaGreatDaSG
import Derived.Lib.Bytealg
import Derived.Lib.BytesEntry
set_option linter.unusedSimpArgs false
set_option linter.unusedVariables false
set_option maxRecDepth 100000
set_option maxHeartbeats 4000000
namespace Go.Proofs.YtbfjfnbcmojpiaaGreat
abbrev VP:=List Nat×List Nd
def E5:List Nat→List Nat→Bool
 | a::l,b::m=>decide (a<b)||(a == b&&E5 l m)
 | [],_::_=>true
 | _,[]=>false
theorem Jy:∀l,E5 l l=false
 | []=>rfl
 | a::l=>by simp[E5,Jy l]
theorem IY:∀{a b c},E5 a b=true→E5 b c=true→E5 a c=true
 | [],[],_,h,_=>by simp[E5] at h
 | [],_::_,[],_,h=>by simp[E5] at h
 | [],_::_,_::_,_,_=>rfl
 | _::_,[],_,h,_=>by simp[E5] at h
 | _::_,_::_,[],_,h=>by simp[E5] at h
 | x::a,y::b,z::c,h,k=>by
  simp only[E5,Bool.or_eq_true,decide_eq_true_eq,Bool.and_eq_true,beq_iff_eq] at h k ⊢
  rcases h with h|⟨h1,h2⟩<;>rcases k with k|⟨k1,k2⟩
  · exact .inl (by omega)
  · exact .inl (by omega)
  · exact .inl (by omega)
  · exact .inr ⟨by omega,IY h2 k2⟩
theorem Pv:∀a b,a=b∨E5 a b=true∨E5 b a=true
 | [],[]=>.inl rfl
 | [],_::_=>.inr (.inl rfl)
 | _::_,[]=>.inr (.inr rfl)
 | x::a,y::b=>by
  simp only[E5,Bool.or_eq_true,decide_eq_true_eq,Bool.and_eq_true,beq_iff_eq]
  rcases Nat.lt_trichotomy x y with h|h|h
  · exact .inr (.inl (.inl h))
  · rcases Pv a b with e|e|e
    · exact .inl (by rw[h,e])
    · exact .inr (.inl (.inr ⟨h,e⟩))
    · exact .inr (.inr (.inr ⟨h.symm,e⟩))
  · exact .inr (.inr (.inl h))
theorem AFp {a b:List Nat} (h:E5 a b=true):E5 b a=false:=by
 cases e:E5 b a with
 | false=>rfl
 | true=>have:=IY h e;rw[Jy] at this;cases this
theorem ALe {a b:List Nat} (h:E5 a b=true):a≠b:=by
 rintro rfl
 rw[Jy] at h
 cases h
def I6 (a b:List Nat):Int:=if E5 a b then -1 else if a=b then 0 else 1
theorem XT {a b:List Nat}:decide (I6 a b<0)=E5 a b:=by
 unfold I6
 split
 · rename_i h;rw[h];rfl
 · rename_i h
   have:E5 a b=false:=by simpa using h
   rw[this]
   split<;>rfl
theorem NS {a b:List Nat}:decide (0≤I6 a b)=!E5 a b:=by
 rw[←XT]
 by_cases h:I6 a b<0
 · simp[h]
 · simp[h];omega
theorem AJe {a b:List Nat}:(I6 a b == 0)=decide (a=b):=by
 unfold I6
 split
 · rename_i h;simp[ALe h]
 · split
   · rename_i h;simp[h]
   · rename_i h;simp[h]
def od (ps:List VP) (i:Nat):List Nat:=(ps[i]?.map (·.1)).getD []
def tr (ps:List VP) (i:Nat):List Nd:=(ps[i]?.map (·.2)).getD []
theorem WN {ps:List VP} {i:Nat} (h:i<ps.length):od ps i=ps[i].1:=by unfold od;rw[List.getElem?_eq_getElem h];rfl
theorem AKd {ps:List VP} {i:Nat} (h:i<ps.length):tr ps i=ps[i].2:=by unfold tr;rw[List.getElem?_eq_getElem h];rfl
def chk (ps:List VP) (i:Nat):Bool:=(decide (i=0)||E5 (od ps (i-1)) (od ps i))&&I1 (tr ps i)
def Co (ps:List VP):Bool:=decide (ps.length≤64)&&(List.range ps.length).all (chk ps)
theorem Fx {ps:List VP}:Co ps=true↔ps.length≤64∧∀i,i<ps.length→chk ps i=true:=by
 unfold Co
 simp only[Bool.and_eq_true,decide_eq_true_eq,List.all_eq_true,List.mem_range]
theorem Kg {ps:List VP} {i:Nat} (h:i<ps.length) (hc:chk ps i=false):Co ps=false:=by
 cases e:Co ps with
 | false=>rfl
 | true=>have:=(Fx.1 e).2 i h;rw[hc] at this;cases this
theorem AAN {ps:List VP} (h:64<ps.length):Co ps=false:=by
 cases e:Co ps with
 | false=>rfl
 | true=>have:=(Fx.1 e).1;omega
theorem AAQ {ps:List VP} (h:ps.length≤64) (hc:∀i,i<ps.length→chk ps i=true):Co ps=true:=Fx.2 ⟨h,hc⟩
def Srt (ps:List VP):Prop:=∀i,i+1<ps.length→E5 (od ps i) (od ps (i+1))=true
theorem Srt.of {ps:List VP} (h:Co ps=true):Srt ps:=by
 intro i hi
 have:=(Fx.1 h).2 (i+1) hi
 simp only[chk,Bool.and_eq_true,Bool.or_eq_true,decide_eq_true_eq,Nat.add_sub_cancel] at this
 rcases this.1 with h0|h0
 · omega
 · exact h0
theorem Srt.lt {ps:List VP} (h:Srt ps):∀{i j},i<j→j<ps.length→E5 (od ps i) (od ps j)=true:=by
 intro i j hij hj
 induction j with
 | zero=>omega
 | succ j ih =>
  rcases Nat.lt_or_ge i j with hl|hl
  · exact IY (ih hl (by omega)) (h j hj)
  · have:i=j:=by omega
    subst this
    exact h i hj
theorem Se {ps:List VP} (h:Co ps=true) {i:Nat} (hi:i<ps.length):I1 (tr ps i)=true:=by
 have:=(Fx.1 h).2 i hi
 simp only[chk,Bool.and_eq_true] at this
 exact this.2
theorem AJo {ps:List VP} (h:ps.length≤64) (hs:Srt ps) (ht:∀i,i<ps.length→I1 (tr ps i)=true):Co ps=true:=by
 refine Fx.2 ⟨h,fun i hi=>?_⟩
 simp only[chk,Bool.and_eq_true,Bool.or_eq_true,decide_eq_true_eq]
 refine⟨?_,ht i hi⟩
 cases i with
 | zero=>exact .inl rfl
 | succ i=>exact .inr (hs i hi)
def pos (ps:List VP) (o:List Nat):Nat:=ps.findIdx fun p=>!E5 p.1 o
theorem R5 (ps:List VP) (o:List Nat):pos ps o≤ps.length:=List.findIdx_le_length
theorem Sf {ps:List VP} {o:List Nat} {i:Nat} (h:i<pos ps o):E5 (od ps i) o=true:=by
 have hl:i<ps.length:=Nat.lt_of_lt_of_le h (R5 ps o)
 have:=List.not_of_lt_findIdx h
 rw[WN hl]
 simpa using this
theorem AHl {ps:List VP} {o:List Nat} (h:pos ps o<ps.length):E5 (od ps (pos ps o)) o=false:=by
 rw[WN h]
 unfold pos at h ⊢
 simpa using List.findIdx_getElem (xs:=ps) (p:=fun p=>!E5 p.1 o) (w:=h)
theorem SQ {ps:List VP} {o:List Nat} {i:Nat} (hi:i≤ps.length) (h1:∀k,k<i→E5 (od ps k) o=true) (h2:i<ps.length→E5 (od ps i) o=false):pos ps o=i:=by
 rcases Nat.lt_trichotomy (pos ps o) i with h|h|h
 · have:=h1 _ h
   rw[AHl (by omega)] at this
   cases this
 · exact h
 · have:=Sf h
   rw[h2 (Nat.lt_of_lt_of_le h (R5 ps o))] at this
   cases this
def Ly (ps:List VP) (o:List Nat):Bool:=decide (pos ps o<ps.length∧od ps (pos ps o)=o)
theorem Ol {ps:List VP} (hs:Srt ps) {o:List Nat} {i:Nat} (hi:i<ps.length) (h:od ps i=o):pos ps o=i∧Ly ps o=true:=by
 have e:pos ps o=i:=SQ (by omega) (fun k hk=>h▸hs.lt hk hi) fun _=>by rw[h,Jy]
 exact⟨e,by unfold Ly;rw[e];simpa using⟨hi,h⟩⟩
theorem ALY {ps:List VP} {o:List Nat} (h:∀i,i<ps.length→od ps i≠o):Ly ps o=false:=by
 unfold Ly
 simp only[decide_eq_false_iff_not,not_and]
 exact fun h1 h2=>h _ h1 h2
theorem XF {ps:List VP} {o:List Nat} (h:Ly ps o=true):pos ps o<ps.length∧od ps (pos ps o)=o:=by simpa [Ly] using h
def atV (ps:List VP) (o:List Nat):Int:=if Ly ps o then (pos ps o:Int) else -1
abbrev VV:=List VP×List Nat×List Nat
def AHe:VV:=([],AR,AR)
def OE (ps:List VP) (o:List Nat) (t:List Nd):List VP:=ps.take (pos ps o)++(o,t)::ps.drop (pos ps o)
def Nj (v:VV) (o:List Nat) (t:List Nd) (nx:List Nat):VV×Int:=
 if Co v.1 then (if Ly v.1 o then (v,0) else if 64≤v.1.length then (AHe,8) else ((OE v.1 o t,v.2.1,nx),0)) else (AHe,1)
def DI (ps:List VP) (o:List Nat) (a:Int):List Nat×Int:=
 if Ci a&&Co ps then (if Ly ps o then Ca (tr ps (pos ps o)) a else (AR,10)) else (AR,1)
def I9 (ps:List VP) (k:Nat) (x:VP):List VP:=ps.take k++x::ps.drop k
theorem Pm {ps:List VP} {k:Nat} (h:k≤ps.length) (x:VP):(I9 ps k x).length=ps.length+1:=by
 unfold I9
 rw[List.length_append,List.length_take,List.length_cons,List.length_drop]
 omega
theorem AFo (ps:List VP) (x:VP):I9 ps ps.length x=ps++[x]:=by simp[I9]
theorem Ic {ps:List VP} {k:Nat} (h:k≤ps.length) (x:VP) (i:Nat):(I9 ps k x)[i]?=if i<k then ps[i]? else if i=k then some x else ps[i-1]?:=by
 unfold I9
 split
 · rename_i hi
   rw[List.getElem?_append_left (by rw[List.length_take];omega),List.getElem?_take,if_pos hi]
 · rename_i hi
   rw[List.getElem?_append_right (by rw[List.length_take];omega),List.length_take,Nat.min_eq_left h]
   split
   · rename_i hk;subst hk;simp
   · rename_i hk
     have:i-k=(i-1-k)+1:=by omega
     rw[this,List.getElem?_cons_succ,List.getElem?_drop]
     congr 1
     omega
theorem ADE {ps:List VP} {k:Nat} (h0:0<k) (h:k≤ps.length) (x:VP) (a b:VP) (ha:(I9 ps k x)[k]?=some a) (hb:(I9 ps k x)[k-1]?=some b):((I9 ps k x).set (k-1) a).set k b=I9 ps (k-1) x:=by
 have hka:a=x:=by rw[Ic h] at ha;simp at ha;exact ha.symm
 have hkb:ps[k-1]?=some b:=by rw[Ic h,if_pos (by omega)] at hb;exact hb
 refine List.ext_getElem? fun i=>?_
 rw[List.getElem?_set,List.getElem?_set,List.length_set,Pm h,Ic h,Ic (by omega)]
 by_cases h1:k=i
 · subst h1
   rw[if_pos rfl,if_pos (by omega),if_neg (by omega),if_neg (by omega),hkb]
 · rw[if_neg h1]
   by_cases h2:k-1=i
   · rw[if_pos h2,if_pos (by omega),if_neg (by omega),if_pos (by omega),hka]
   · rw[if_neg h2]
     by_cases h3:i<k
     · rw[if_pos h3,if_pos (by omega)]
     · rw[if_neg h3,if_neg (by omega),if_neg (by omega),if_neg (by omega)]
theorem Om (ps:List VP) (o:List Nat) (t:List Nd):OE ps o t=I9 ps (pos ps o) (o,t):=rfl
theorem AAe {ps:List VP} (hs:Srt ps) {o:List Nat} (hn:Ly ps o=false) {k:Nat} (hk:k≤ps.length) (hafter:∀j,k≤j→j<ps.length→E5 o (od ps j)=true) (hstop:k=0∨E5 o (od ps (k-1))=false):pos ps o=k:=by
 refine SQ hk (fun i hi=>?_) fun h=>AFp (hafter k (Nat.le_refl k) h)
 rcases hstop with h0|h0
 · omega
 · have hlast:E5 (od ps (k-1)) o=true:=by
     rcases Pv (od ps (k-1)) o with e|e|e
     · have:=(Ol hs (i:=k-1) (by omega) e).2
       rw[hn] at this
       cases this
     · exact e
     · rw[h0] at e;cases e
   rcases Nat.lt_or_ge i (k-1) with h1|h1
   · exact IY (hs.lt h1 (by omega)) hlast
   · have:i=k-1:=by omega
     subst this
     exact hlast
theorem Mz {ps qs:List VP} {i j:Nat} (h:ps[i]?=qs[j]?):od ps i=od qs j∧tr ps i=tr qs j:=by unfold od tr;rw[h];exact⟨rfl,rfl⟩
theorem RZ {ps:List VP} {i:Nat} {x:VP} (h:ps[i]?=some x):od ps i=x.1∧tr ps i=x.2:=by unfold od tr;rw[h];exact⟨rfl,rfl⟩
theorem AFq {ps:List VP} (hs:Srt ps) {o:List Nat} (hn:Ly ps o=false) {j:Nat} (h:pos ps o≤j) (hj:j<ps.length):E5 o (od ps j)=true:=by
 have h0:E5 o (od ps (pos ps o))=true:=by
   have hp:pos ps o<ps.length:=by omega
   rcases Pv (od ps (pos ps o)) o with e|e|e
   · have:=(Ol hs hp e).2
     rw[hn] at this
     cases this
   · rw[AHl hp] at e;cases e
   · exact e
 rcases Nat.lt_or_ge (pos ps o) j with h1|h1
 · exact IY h0 (hs.lt h1 hj)
 · have:pos ps o=j:=by omega
   rw[←this]
   exact h0
theorem AAi {ps:List VP} {o:List Nat} {t:List Nd} (h:Co ps=true) (hn:Ly ps o=false) (hl:ps.length<64) (ht:I1 t=true):Co (OE ps o t)=true:=by
 have hs:=Srt.of h
 have hp:=R5 ps o
 have g:=Ic hp (o,t)
 rw[Om]
 have hlen:=Pm hp (o,t)
 refine AJo (by rw[show pos ps (o,t).1=pos ps o from rfl,hlen];omega) (fun i hi=>?_) fun i hi=>?_
 · rw[hlen] at hi
   rcases Nat.lt_trichotomy (i+1) (pos ps o) with h1|h1|h1
   · rw[(Mz (qs:=ps) (j:=i) ((g i).trans (if_pos (by omega)))).1,(Mz (qs:=ps) (j:=i+1) ((g (i+1)).trans (if_pos h1))).1]
     exact hs i (by omega)
   · have hb:E5 (od ps i) o=true:=Sf (by omega)
     rw[(Mz (qs:=ps) (j:=i) ((g i).trans (if_pos (by omega)))).1,(RZ ((g (i+1)).trans (by rw[if_neg (by omega),if_pos h1]))).1]
     exact hb
   · rcases Nat.lt_or_ge (pos ps o) i with h2|h2
     · rw[(Mz (qs:=ps) (j:=i-1) ((g i).trans (by rw[if_neg (by omega),if_neg (by omega)]))).1,(Mz (qs:=ps) (j:=i) ((g (i+1)).trans (by rw[if_neg (by omega),if_neg (by omega)];rfl))).1]
       exact hs.lt (by omega) (by omega)
     · have:i=pos ps o:=by omega
       rw[(RZ ((g i).trans (by rw[if_neg (by omega),if_pos this]))).1,(Mz (qs:=ps) (j:=i) ((g (i+1)).trans (by rw[if_neg (by omega),if_neg (by omega)];rfl))).1]
       exact AFq hs hn (by omega) (by omega)
 · rw[hlen] at hi
   rcases Nat.lt_trichotomy i (pos ps o) with h1|h1|h1
   · rw[(Mz (qs:=ps) (j:=i) ((g i).trans (if_pos h1))).2]
     exact Se h (by omega)
   · rw[(RZ ((g i).trans (by rw[if_neg (by omega),if_pos h1]))).2]
     exact ht
   · rw[(Mz (qs:=ps) (j:=i-1) ((g i).trans (by rw[if_neg (by omega),if_neg (by omega)]))).2]
     exact Se h (by omega)
end Go.Proofs.YtbfjfnbcmojpiaaGreat
namespace Go.Proofs.YtbfjfnbcmojpiaaGreat
open Go.RowKit Go.Shelf
structure VK where
 o:List Nat
 ho:Dg o
 ao:Option Addr
 cap:Nat
 l:List Nd
def VK.s (k:VK):Value:=.slice k.ao k.l.length k.cap
def VK.p (k:VK):VP:=(k.o,k.l)
def Ar (k:VK):List Value:=[bv k.o,[k.s]].flatten
def JH (k:VK):Value:=.agg (Ar k).toArray
theorem EB (k:VK):(Ar k).length=33:=by simp[Ar,AO,k.ho.1]
theorem Jw (k:VK):∀c∈Ar k,c.oneCell'=true:=by
 intro c hc
 simp only[Ar,List.flatten_cons,List.flatten_nil,List.append_nil] at hc
 rcases List.mem_append.1 hc with h|h
 · exact JR _ c h
 · obtain rfl:=List.mem_singleton.1 h;rfl
theorem SO (ks:List VK):(ks.flatMap Ar).all Value.oneCell'=true:=by
 rw[List.all_flatMap,List.all_eq_true]
 exact fun k _=>List.all_eq_true.2 (Jw k)
theorem XP (k:VK):TY Tryz.prog 58 (Ar k) (JH k):=by
 refine TY.agg Tryz.underlying58 rfl ?_ (Jw k)
 rw[EB]
 kernel_rfl
theorem FP (v:Value) (h:v.oneCell'=true):TY Tryz.prog 34 [v] v:=TY.one' Tryz.underlying34 rfl (by kernel_rfl) h
def Ay (sa po:List Nat) (s:Value):Value:=.agg ([bv sa,bv po,[s]].flatten).toArray
theorem B6 {sa po:List Nat} (hs:Dg sa) (hp:Dg po) (s:Value) (h:s.oneCell'=true):TY Tryz.prog 36 ([bv sa,bv po,[s]].flatten) (Ay sa po s):=by
 refine TY.agg Tryz.underlying36 rfl ?_ ?_
 · rw[show([bv sa,bv po,[s]].flatten).length=65 by simp[AO,hs.1,hp.1]]
   kernel_rfl
 · intro c hc
   simp only[List.flatten_cons,List.flatten_nil,List.append_nil,List.mem_append,List.mem_singleton] at hc
   rcases hc with hc|hc|hc
   · exact JR _ c hc
   · exact JR _ c hc
   · rw[hc];exact h
def KsR (w:World) (ks:List VK):Prop:=∀k∈ks,RdT w k.s k.l
def Eb (ks:List VK) (b:Nat):Prop:=∃k∈ks,OZ k.s b
def KO (v:Value) (ks:List VK) (b:Nat):Prop:=BC v b∨Eb ks b
def RdK (w:World) (v:Value) (ks:List VK):Prop:=SlB w 33 v ks.length (ks.flatMap Ar)∧KsR w ks
section
variable {w w':World} {v:Value} {ks:List VK} {b:Nat}
theorem KsR.kn (h:KsR w ks) (g:w.grownBy w' none):KsR w' ks:=fun k hk=>(h k hk).kn g
theorem KsR.offR (h:KsR w ks) {row:Option Nat} (g:w.grownBy w' row) (hb:∀k,Eb ks k→row≠some k):KsR w' ks:=fun k hk=>(h k hk).offR g fun x hx=>hb x ⟨k,hk,hx⟩
theorem RdK.offR (h:RdK w v ks) {row:Option Nat} (g:w.grownBy w' row) (hb:∀k,KO v ks k→row≠some k):RdK w' v ks:=⟨h.1.offR g fun k hk=>hb k (.inl hk),h.2.offR g fun k hk=>hb k (.inr hk)⟩
theorem KsR.lt (h:KsR w ks):∀k,Eb ks k→k<w.heap.size:=fun k ⟨x,hx,hk⟩=>(h x hx).lt k hk
theorem RdK.kn (h:RdK w v ks) (g:w.grownBy w' none):RdK w' v ks:=⟨h.1.kn g,h.2.kn g⟩
theorem RdK.lt (h:RdK w v ks):∀k,KO v ks k→k<w.heap.size:=fun k hk=>hk.elim (h.1.2 k) (h.2.lt k)
theorem RdK.len (h:RdK w v ks):(ks.length:Int)≤9223372036854775807:=by
 obtain⟨ao,cap,e,h1,h2⟩:=h.1.1.shape
 omega
end
theorem RdK.nil (w:World):RdK w (.slice none 0 0) []:=⟨⟨Sl.nil w 33,fun k hk=>by simp[BC,Value.ownBlock] at hk⟩,fun k hk=>by simp at hk⟩
theorem Ov (b:Nat):¬KO (.slice none 0 0) [] b:=by
 rintro (h|⟨k,hk,_⟩)
 · simp[BC,Value.ownBlock] at h
 · simp at hk
theorem SP {ks:List VK} {j:Nat} (h:j<ks.length):od (ks.map VK.p) j=ks[j].o:=by rw[WN (by simpa using h),List.getElem_map];rfl
theorem XQ {ks:List VK} {j:Nat} (h:j<ks.length):tr (ks.map VK.p) j=ks[j].l:=by rw[AKd (by simpa using h),List.getElem_map];rfl
theorem RdK.owner {w:World} {ao:Option Addr} {n cap j:Nat} {ks:List VK} (h:RdK w (.slice ao n cap) ks) (hn:n=ks.length) (hj:j<ks.length):w.rangeAt (bO ao) (oO ao+j*33) (bv ks[j].o):=by
 subst hn
 have:=CW h.1.1 EB hj (by decide)
 exact Po (o:=oO ao+j*33) (k:=0) (A:=[]) (B:=bv ks[j].o) (C:=[ks[j].s]) this rfl
theorem RdK.tree {w:World} {ao:Option Addr} {n cap j:Nat} {ks:List VK} (h:RdK w (.slice ao n cap) ks) (hn:n=ks.length) (hj:j<ks.length):w.rangeAt (bO ao) (oO ao+j*33+32) [ks[j].s]:=by
 subst hn
 have:=CW h.1.1 EB hj (by decide)
 exact Po (A:=bv ks[j].o) (B:=[ks[j].s]) (C:=[]) this (by rw[AO,ks[j].ho.1])
theorem RdK.key {w:World} {ao:Option Addr} {n cap j:Nat} {ks:List VK} (h:RdK w (.slice ao n cap) ks) (hn:n=ks.length) (hj:j<ks.length):w.rangeAt (bO ao) (oO ao+j*33) (Ar ks[j]):=by
 subst hn
 exact CW h.1.1 EB hj (by decide)
theorem WS:∀{a b:List Nat},(∀x∈a,x<256)→(∀x∈b,x<256)→Lib.compareBytes (a.map UInt8.ofNat) (b.map UInt8.ofNat)=I6 a b
 | [],[],_,_=>rfl
 | [],_::_,_,_=>rfl
 | _::_,[],_,_=>rfl
 | x::a,y::b,ha,hb=>by
  have hx:=ha x List.mem_cons_self
  have hy:=hb y List.mem_cons_self
  have ih:=WS (a:=a) (b:=b) (fun z hz=>ha z (List.mem_cons_of_mem _ hz)) (fun z hz=>hb z (List.mem_cons_of_mem _ hz))
  have e1:(UInt8.ofNat x<UInt8.ofNat y)↔x<y:=by rw[UInt8.lt_iff_toNat_lt,UInt8.toNat_ofNat',UInt8.toNat_ofNat',Nat.mod_eq_of_lt hx,Nat.mod_eq_of_lt hy]
  have e2:(UInt8.ofNat y<UInt8.ofNat x)↔y<x:=by rw[UInt8.lt_iff_toNat_lt,UInt8.toNat_ofNat',UInt8.toNat_ofNat',Nat.mod_eq_of_lt hx,Nat.mod_eq_of_lt hy]
  rw[List.map_cons,List.map_cons,Lib.compareBytes,ih]
  unfold I6
  by_cases h1:x<y
  · rw[if_pos (e1.2 h1),if_pos (by simp[E5,h1])]
  · rw[if_neg (fun h=>h1 (e1.1 h))]
    by_cases h2:y<x
    · rw[if_pos (e2.2 h2),if_neg (by simp[E5,h1];omega),if_neg (by simp;omega)]
    · have:x=y:=by omega
      subst this
      rw[if_neg (fun h=>h2 (e2.1 h))]
      simp[E5]
theorem WT {P:Program} {w:World} {l:List Nat} (hl:∀x∈l,x<256) {n:Nat} (hn:l.length=n) {b o c:Nat} (h:w.rangeAt b o (bv l)):(Extern.Bytes.bytesOf (.slice (some ⟨b,o,none⟩) n c)).run P w=.ok ⟨(l.map UInt8.ofNat).toArray⟩ w:=by
 subst hn
 have:=Lib.run_loadBytesX (P:=P) w (l.map fun(x:Nat)=>(x:Int)) ⟨b,o,none⟩ .empty (fun j x hj=>by
  rw[Addr.add_mid]
  refine h j _ ?_
  rw[List.getElem?_map] at hj
  unfold bv
  rw[List.getElem?_map]
  cases e:l[j]? with
  | none=>rw[e] at hj;cases hj
  | some y =>
   rw[e] at hj
   obtain rfl:=Option.some.inj hj
   rfl)
 rw[List.length_map] at this
 show(Extern.Bytes.loadBytes ⟨b,o,none⟩ l.length .empty).run P w=_
 refine this.trans ?_
 congr 2
 simp[Lib.bytesOf,Function.comp_def]
theorem AHR {x y:List Nat} (hx:Dg x) (hy:Dg y) {w:World} {b o b' o' c c':Nat} (h:w.rangeAt b o (bv x)) (h':w.rangeAt b' o' (bv y)) :
  (callFunc 129 #[.slice (some ⟨b,o,none⟩) 32 c,.slice (some ⟨b',o',none⟩) 32 c']).run Tryz.prog w=.ok (.value (.int .i64 (I6 x y))) w:=by
 have e1:(Extern.BytealgCompare.compare #[.slice (some ⟨b,o,none⟩) 32 c,.slice (some ⟨b',o',none⟩) 32 c']).run Tryz.prog w=.ok (.int .i64 (I6 x y)) w:=by
  change Sem.run Tryz.prog (do pure (goInt (Extern.BytealgCompare.cmp (←Extern.Bytes.bytesOf (.slice (some ⟨b,o,none⟩) 32 c)) (←Extern.Bytes.bytesOf (.slice (some ⟨b',o',none⟩) 32 c'))))) w=_
  rw[Sem.run_bind,WT hx.2 hx.1 h]
  simp only[Result.andThen_ok]
  rw[Sem.run_bind,WT hy.2 hy.1 h']
  simp only[Result.andThen_ok,Sem.run_pure]
  rw[Lib.cmp_eq]
  simp only
  rw[WS hx.2 hy.2]
  rfl
 rw[run_callFunc_extern Tryz.func129 (by kernel_rfl) (by kernel_rfl) (by kernel_rfl) (e:=Extern.BytealgCompare.compare) (by kernel_rfl),e1]
 rfl
theorem L5 {x y:List Nat} (hx:Dg x) (hy:Dg y) {w:World} {b o b' o' c c':Nat} (h:w.rangeAt b o (bv x)) (h':w.rangeAt b' o' (bv y)) :
  Calls Tryz.prog 94 #[.slice (some ⟨b,o,none⟩) 32 c,.slice (some ⟨b',o',none⟩) 32 c'] w fun e w'=>e=.returned (.int .i64 (I6 x y))∧w.grownBy w' none:=by
 have H:=fun c c'=>AHR hx hy h h' (c:=c) (c':=c')
 go_enter Tryz.func94,Tryz.ntmps94
 go_wp2
 go_ret
 exact⟨rfl,World.grownBy.refl _ _⟩
theorem Mr (b o:Nat) (w:World):(Instr.sliceAt 23 (.pointer (some ⟨b,o,none⟩)) none none none).run Tryz.prog w=.ok (.slice (some ⟨b,o,none⟩) 32 32) w:=by
 kernel_rfl
theorem Af:AR.length=32:=rfl
theorem AU:Dg AR:=⟨rfl,by intro x hx;simp[AR,zs] at hx;omega⟩
theorem RdK.keyX {w:World} {ao:Option Addr} {n cap j:Nat} {ks:List VK} {x:VK} (h:RdK w (.slice ao n cap) ks) (hn:n=ks.length) (hj:j<ks.length) (hx:ks[j]=x):w.rangeAt (bO ao) (oO ao+j*33) (Ar x):=hx▸h.key hn hj
theorem RdK.ownerX {w:World} {ao:Option Addr} {n cap j:Nat} {ks:List VK} {x:VK} (h:RdK w (.slice ao n cap) ks) (hn:n=ks.length) (hj:j<ks.length) (hx:ks[j]=x):w.rangeAt (bO ao) (oO ao+j*33) (bv x.o):=hx▸h.owner hn hj
theorem RdK.treeX {w:World} {ao:Option Addr} {n cap j:Nat} {ks:List VK} {x:VK} (h:RdK w (.slice ao n cap) ks) (hn:n=ks.length) (hj:j<ks.length) (hx:ks[j]=x):w.rangeAt (bO ao) (oO ao+j*33+32) [x.s]:=hx▸h.tree hn hj
theorem IX (x:VK) (o:List Nat) (ho:Dg o) (w:World) :
  Calls Tryz.prog 96 #[JH x,AQ o] w fun e w'=>e=.returned (.int .i64 (I6 x.o o))∧w.grownBy w' none:=by
 refine BV Tryz.func96 rfl Tryz.ntmps96 rfl fun a0 sv0=>?_
 have HG:=World.grownBy.refl w none
 replace sv0:Sv 9 [] [(0,JH x),(1,AQ o)] a0:=sv0
 refine AOQ fun K1 k1=>?_
 refine AOP ?_
 refine Bi sv0 r6 (XP x) fun a2 w2 Cp Dt g2 z2 AJ sv2=>?_
 refine Bi sv2 r6 (Bb o ho.1) fun a3 w3 Bn Fh g3 z3 AI sv3=>?_
 replace AJ:=AC g3 AJ
 refine AS (v:=.int .i64 0) sv3 r6 fun a4 sv4=>?_
 refine AD ?_
 refine k1 _ _ ?_
 refine AOQ fun K5 k5=>?_
 refine Dx (sv4.dl [4]) [(5,pt Cp),(6,.slice ((some ⟨Cp,0,none⟩)) 32 32),(7,.slice ((some ⟨Bn,0,none⟩)) 32 32),(8,.int .i64 ((I6 x.o o))),(4,.int .i64 ((I6 x.o o)))]
  ⟨yf r6 (fun _=>by kernel_rfl),I4 (l:=none) (u:=none) rfl rfl trivial (oy rfl rfl) trivial trivial (Mr Cp 0) (fun _=>rfl),I4 (l:=none) (u:=none) rfl rfl trivial (oy rfl rfl) trivial trivial (Mr Bn 0) (fun _=>rfl),Ag [.slice ((some ⟨Cp,0,none⟩)) 32 32,.slice ((some ⟨Bn,0,none⟩)) 32 32] Tryz.func94 (by kernel_rfl) rq4 ⟨(oy rfl rfl),(oy rfl rfl),AOW⟩ (A1 fun W g=>L5 x.ho ho (BB (L:=[bv x.o,[VK.s x]]) (i:=0) (AF g AJ (by simp)) rfl rfl) (Av (AF g AI (by simp)))),JW 8 4 (.inr rfl) rfl rfl trivial (fun _ _ h=>h),AOW⟩ fun a6 w6 g6 sv6=>?_
 refine k5 _ _ ?_
 replace HG:=AA (AA (AA HG g2) g3) g6
 refine AOT ?_
 repeat refine AM ?_
 refine Ap (fn:=Tryz.f96) sv6 (BK (p:=4) Tryz.results96 sv6 rfl rfl) ?_
 exact⟨rfl,HG⟩
theorem AHS {x y:List Nat} {j:Nat} (h:∀i,i<j→x[i]?=y[i]?) {a b:Nat} (ha:x[j]?=some a) (hb:y[j]?=some b) (hne:a≠b):E5 x y=decide (a<b):=by
 induction x generalizing y j with
 | nil=>simp at ha
 | cons u x ih =>
  cases y with
  | nil=>simp at hb
  | cons v y =>
   cases j with
   | zero =>
    simp at ha hb
    subst ha hb
    have:(u == v)=false:=by simpa using hne
    simp[E5,this]
   | succ j =>
    have h0:=h 0 (by omega)
    simp at h0
    subst h0
    have:=ih (y:=y) (j:=j) (fun i hi=>by have:=h (i+1) (by omega);simpa using this) (by simpa using ha) (by simpa using hb)
    simp[E5,this]
theorem AHT {x y:List Nat} (hl:x.length=32) (hm:y.length=32) (h:∀i,i<32→x[i]?=y[i]?):E5 x y=false:=by
 have:x=y:=List.ext_getElem? fun i=>by
  by_cases hi:i<32
  · exact h i hi
  · rw[List.getElem?_eq_none (by omega),List.getElem?_eq_none (by omega)]
 rw[this,Jy]
theorem FQ {w:World} {b o:Nat} {x:List Nat} (h:w.rangeAt b o (bv x)) {j a:Nat} (ha:x[j]?=some a):w.rangeAt b (o+j) [.int .u8 (a:Int)]:=by
 refine Zw ?_
 refine h j _ ?_
 unfold bv
 rw[List.getElem?_map,ha]
 rfl
theorem OI (x:Int):TY Tryz.prog 5 [.int .u8 x] (.int .u8 x):=TY.one' Tryz.underlying5 rfl (by kernel_rfl) rfl
theorem JI {b j:Nat} (hj:j<32) (w:World):(Instr.indexAt 23 (.pointer (some ⟨b,0,none⟩)) (.int .i64 (j:Int))).run Tryz.prog w=.ok (.pointer (some ⟨b,j,none⟩)) w:=by
 have h1:(0:Int)≤(j:Int)∧(j:Int)<32:=⟨by omega,by omega⟩
 rw[run_indexAt_array (P:=Tryz.prog) (w:=w) (t:=23) (a:=⟨b,0,none⟩) (k:=.i64) (i:=(j:Int)) (h:=by kernel_rfl)]
 have e1:Tryz.prog.arrayLen 23=32:=by kernel_rfl
 have e2:(sizeOf (Tryz.prog.elem 23)).run Tryz.prog w=.ok 1 w:=by kernel_rfl
 rw[e1]
 simp[h1,Addr.add,e2,Result.andThen]
 intro h0
 exact h0.symm
theorem AFb (x y:List Nat) (hx:Dg x) (hy:Dg y) (w:World) :
   Calls Tryz.prog 86 #[AQ x,AQ y] w fun e w'=>e=.returned (.bool (E5 x y))∧w.grownBy w' none:=by
 refine BV Tryz.func86 rfl Tryz.ntmps86 rfl fun a0 sv0=>?_
 have HG:=World.grownBy.refl w none
 replace sv0:Sv 24 [] [(0,AQ x),(1,AQ y)] a0:=sv0
 refine AOQ fun K1 k1=>?_
 refine AOP ?_
 refine Bi sv0 r6 (Bb x hx.1) fun a2 w2 Cp Dt g2 z2 AJ sv2=>?_
 refine Bi sv2 r6 (Bb y hy.1) fun a3 w3 Bn Fh g3 z3 AI sv3=>?_
 replace AJ:=AC g3 AJ
 replace HG:=AA (AA HG g2) g3
 refine AS (v:=.bool false) sv3 r6 fun a4 sv4=>?_
 refine AD ?_
 refine k1 _ _ ?_
 refine AOQ fun K5 k5=>?_
 refine AOQ fun K6 k6=>?_
 refine AOP ?_
 refine AS (v:=.int .i64 0) sv4 r6 fun a7 sv7=>?_
 refine AD ?_
 refine k6 _ _ ?_
 refine BH fun Q8 x8 y8 r8 o8=>?_
 refine wp_loop (fun a w'=>∃(j:Nat),(j≤32)∧(∀i,i<j→x[i]?=y[i]?)∧Sv 24 [] [(5,.int .i64 ((j:Int))),(3,pt Bn),(2,pt Cp),(0,AQ x),(1,AQ y)] a∧w.grownBy w' none∧w'.heap[Cp]?=some (.cells (bv x).toArray 23 (0,0))∧w'.heap[Bn]?=some (.cells (bv y).toArray 23 (0,0))) (fun a _=>(32-intOf (a.tmps.getD 5 undef)).toNat) ⟨0,by omega,fun i hi=>by omega,⟨sv7.1,sv7.2.1,sv7.2.2.1,sv7.2.2.2.2.1,sv7.2.2.2.2.2.1,sv7.2.2.2.2.2.2.1,sv7.2.2.2.2.2.2.2.1,AOW⟩,HG,AJ,AI⟩ fun a9 w9 hI9=>?_
 clear AJ
 clear AI
 clear HG
 obtain⟨j,hj32,heq,sv9,HG,AJ,AI⟩:=hI9
 refine AOQ fun K10 k10=>?_
 refine AOQ fun K11 k11=>?_
 by_cases hj:j<32
 · obtain⟨a,hxa⟩:∃a,x[j]?=some a:=⟨_,List.getElem?_eq_getElem (by rw[hx.1];exact hj)⟩
   obtain⟨b,hyb⟩:∃b,y[j]?=some b:=⟨_,List.getElem?_eq_getElem (by rw[hy.1];exact hj)⟩
   refine AOP ?_
   refine AH sv9 2 [(6,.int .i64 ((j:Int))),(7,.bool true)]
     ⟨ym r5,Ce r6 (fun _=>BR (by simp;omega)),AOW⟩ fun a12 w12 g12 DF=>?_
   refine AD ?_
   refine k11 _ _ ?_
   refine Am DF rfl rfl ?_
   refine AOU ?_
   refine k10 _ _ ?_
   refine AOQ fun K13 k13=>?_
   refine BH fun Q14 x14 y14 r14 o14=>?_
   refine AOQ fun K15 k15=>?_
   replace AJ:=AC g12 AJ
   replace AI:=AC g12 AI
   replace HG:=AA HG g12
   by_cases hab:a=b
   · refine Dx DF [(10,.int .i64 ((j:Int))),(11,pk Cp j),(12,.int .u8 ((a:Int))),(13,.int .i64 ((j:Int))),(14,pk Bn j),(15,.int .u8 ((b:Int))),(16,.bool false)]
      ⟨ym r5,BD rq8 (fun w=>JI hj w),Bj r6 (fun _ g=>Ad (OI (a:Int)) (by simpa using FQ (o:=0) (Av (AF g AJ (by simp))) hxa)),ym r5,BD rq8 (fun w=>JI hj w),Bj r6 (fun _ g=>Ad (OI (b:Int)) (by simpa using FQ (o:=0) (Av (AF g AI (by simp))) hyb)),Fg r7 (fun _=>Dy (by simp[hab])),AOW⟩ fun a16 w16 g16 DG=>?_
     refine k15 _ _ ?_
     refine Au DG rfl rfl ?_
     refine AOU ?_
     refine y14 _ _ ?_
     refine k13 _ _ ?_
     refine AOP ?_
     refine AH DG 2 [(8,.int .i64 ((j:Int))),(9,.int .i64 (((j+1:Nat):Int)))]
      ⟨ym r5,Ce r6 (fun _=>Dd (by rw[BT (by omega) (by omega)];omega)),AOW⟩ fun a17 w17 g17 EK=>?_
     have XR:=AA g16 g17
     refine AS (v:=.int .i64 (((j+1:Nat):Int))) EK r6 fun a18 CY=>?_
     refine AD ?_
     replace AJ:=AC XR AJ
     replace AI:=AC XR AI
     replace HG:=AA HG XR
     exact⟨⟨j+1,by omega,fun i hi=>by
       by_cases h:i=j
       · subst h;rw[hxa,hyb,hab]
       · exact heq i (by omega),⟨CY.1,CY.2.1,CY.2.2.1,(AG CY).2.2.2.2.2.2.1,(AG CY).2.2.2.2.2.2.2.1,(AG (AG CY)).1,(AG (AG CY)).2.1,AOW⟩,HG,AJ,AI⟩,by rw[show _=_ from CY.2.2.1,show _=_ from sv9.2.2.1];simp[intOf];omega⟩
   · refine Dx DF [(10,.int .i64 ((j:Int))),(11,pk Cp j),(12,.int .u8 ((a:Int))),(13,.int .i64 ((j:Int))),(14,pk Bn j),(15,.int .u8 ((b:Int))),(16,.bool true)]
      ⟨ym r5,BD rq8 (fun w=>JI hj w),Bj r6 (fun _ g=>Ad (OI (a:Int)) (by simpa using FQ (o:=0) (Av (AF g AJ (by simp))) hxa)),ym r5,BD rq8 (fun w=>JI hj w),Bj r6 (fun _ g=>Ad (OI (b:Int)) (by simpa using FQ (o:=0) (Av (AF g AI (by simp))) hyb)),Fg r7 (fun _=>Dy (by simpa using fun e=>hab (by omega))),AOW⟩ fun a19 w19 g19 Dq=>?_
     refine k15 _ _ ?_
     refine Am Dq rfl rfl ?_
     refine AOQ fun K20 k20=>?_
     replace AJ:=AC g19 AJ
     replace AI:=AC g19 AI
     refine Dx Dq [(17,.int .i64 ((j:Int))),(18,pk Cp j),(19,.int .u8 ((a:Int))),(20,.int .i64 ((j:Int))),(21,pk Bn j),(22,.int .u8 ((b:Int))),(23,.bool (decide (a<b))),(4,.bool (decide (a<b)))]
      ⟨ym r5,BD rq8 (fun w=>JI hj w),Bj r6 (fun _ g=>Ad (OI (a:Int)) (by simpa using FQ (o:=0) (Av (AF g AJ (by simp))) hxa)),ym r5,BD rq8 (fun w=>JI hj w),Bj r6 (fun _ g=>Ad (OI (b:Int)) (by simpa using FQ (o:=0) (Av (AF g AI (by simp))) hyb)),Fg r7 (fun _=>BR (by simp)),JW 23 4 (.inr rfl) rfl rfl trivial (fun _ _ h=>h),AOW⟩ fun a21 w21 g21 Dl=>?_
     refine k20 _ _ ?_
     replace HG:=AA (AA HG g19) g21
     refine AOT ?_
     repeat refine AM ?_
     refine r14 _ _ ?_
     repeat refine AM ?_
     refine r8 _ _ ?_
     repeat refine AM ?_
     refine Ap (fn:=Tryz.f86) Dl (BK (p:=4) Tryz.results86 Dl rfl rfl) ?_
     exact⟨congrArg (fun b=>Ending.returned (.bool b)) (AHS heq hxa hyb hab).symm,HG⟩
 · have hje:j=32:=by omega
   refine AOP ?_
   refine AH sv9 2 [(6,.int .i64 ((j:Int))),(7,.bool false)]
     ⟨ym r5,Ce r6 (fun _=>BR (by simp;omega)),AOW⟩ fun a22 w22 g22 B7=>?_
   refine AD ?_
   refine k11 _ _ ?_
   refine Au B7 rfl rfl ?_
   refine wp_exit ?_
   repeat refine CA ?_
   refine x8 _ _ ?_
   refine k5 _ _ ?_
   refine AOQ fun K23 k23=>?_
   refine AOP ?_
   refine AS (v:=.bool false) B7 r6 fun a24 EN=>?_
   refine AD ?_
   refine k23 _ _ ?_
   replace HG:=AA HG g22
   refine AOT ?_
   repeat refine AM ?_
   refine Ap (fn:=Tryz.f86) EN (BK (p:=4) Tryz.results86 EN rfl rfl) ?_
   exact⟨congrArg (fun b=>Ending.returned (.bool b)) (AHT hx.1 hy.1 (hje▸heq)).symm,HG⟩
theorem Pp {x:Int} (h1:0≤x) (h2:x<18446744073709551616):IntKind.u64.wrap x=x:=by rw[IntKind.wrap_u64];omega
theorem AJc {P:Program} {a c:Int} {t:TypeId} {x y:Operand} {w:World} (h:a/2=c):(do eqGuard .shr t x y (.int .u64 a) (.int .u64 1);binOp .shr t (.int .u64 a) (.int .u64 1):Sem Value).run P w=.ok (.int .u64 c) w:=by
 subst h
 have:min 1 IntKind.u64.bits=1:=by decide
 simp[eqGuard,binOp_shr,shift_shr_any,this]
theorem AHU {a b:Int} {p q:Bool} (h1:a=b) (h2:p=q):Ending.returned (.tuple #[.int .i64 a,.bool p])=Ending.returned (.tuple #[.int .i64 b,.bool q]):=by rw[h1,h2]
theorem ALW {ks:List VK} {o:List Nat} {i:Nat} (hp:pos (ks.map VK.p) o=i) (hi:i<ks.length) {x:VK} (hx:ks[i]=x):decide (x.o=o)=Ly (ks.map VK.p) o:=by
 unfold Ly
 rw[hp,SP hi,hx]
 simp[hi]
theorem AJd {ks:List VK} {o:List Nat} (h:¬pos (ks.map VK.p) o<ks.length):false=Ly (ks.map VK.p) o:=by
 unfold Ly
 simp at h ⊢
 omega
theorem XS (ks:List VK) (ao:Option Addr) (cap:Nat) (o:List Nat) (ho:Dg o) (w:World) (hr:RdK w (.slice ao ks.length cap) ks) (hs:Srt (ks.map VK.p)) (h64:ks.length≤64) :
   Calls Tryz.prog 113 #[.slice ao ks.length cap,AQ o,.func (.func 96) #[] #[]] w fun e w'=>e=.returned (.tuple #[.int .i64 (pos (ks.map VK.p) o),.bool (Ly (ks.map VK.p) o)])∧w.grownBy w' none:=by
 have hlen:=hr.len
 have hmap:(ks.map VK.p).length=ks.length:=List.length_map _
 refine BV Tryz.func113 rfl Tryz.ntmps113 rfl fun a0 sv0=>?_
 have HG:=World.grownBy.refl w none
 replace sv0:Sv 49 [] [(0,.slice ao ks.length cap),(1,AQ o),(2,.func (.func 96) #[] #[])] a0:=sv0
 refine AOQ fun K1 k1=>?_
 refine AOP ?_
 refine Bi sv0 r6 (Bb o ho.1) fun a2 w2 LZ Iq g2 z2 BU sv2=>?_
 refine AS (v:=.int .i64 0) sv2 r6 fun a3 sv3=>?_
 refine AS (v:=.bool false) sv3 r6 fun a4 sv4=>?_
 refine AD ?_
 refine k1 _ _ ?_
 refine AOQ fun K5 k5=>?_
 refine AOP ?_
 refine AH sv4 2 [(12,.slice ao ks.length cap),(13,.int .i64 ((ks.length:Nat)))]
   ⟨ym r5,BJ (Tryz.underlying34) rfl rfl trivial (oy rfl rfl) (fun _=>rfl),AOW⟩ fun a6 w6 g6 sv6=>?_
 refine AS (v:=.int .i64 ((ks.length:Nat))) sv6 r6 fun a7 sv7=>?_
 refine AD ?_
 refine k5 _ _ ?_
 refine AOQ fun K8 k8=>?_
 refine AOP ?_
 refine AH sv7 1 [(14,.int .i64 ((ks.length:Nat)))]
   ⟨ym r5,AOW⟩ fun a9 w9 g9 sv9=>?_
 have gc9:=AA g6 g9
 refine AS (v:=.int .i64 0) sv9 r6 fun a10 Bt=>?_
 refine AS (v:=.int .i64 ((ks.length:Nat))) Bt r6 fun a11 CQ=>?_
 refine AD ?_
 refine k8 _ _ ?_
 refine AOQ fun K12 k12=>?_
 refine BH fun Q13 x13 y13 r13 o13=>?_
 replace BU:=AC gc9 BU
 replace hr:=(hr.kn g2).kn gc9
 replace HG:=AA (AA HG g2) gc9
 refine wp_loop (fun a w'=>∃(i:Nat) (j:Nat),(i≤j)∧(j≤ks.length)∧(∀k,k<i→E5 (od (ks.map VK.p) k) o=true)∧(∀k,j≤k→k<ks.length→E5 (od (ks.map VK.p) k) o=false)∧Sv 49 [] [(9,.int .i64 ((i:Int))),(10,.int .i64 ((j:Int))),(14,.int .i64 ((ks.length:Nat))),(8,.int .i64 ((ks.length:Nat))),(12,.slice ao ks.length cap),(13,.int .i64 ((ks.length:Nat))),(7,.bool false),(6,.int .i64 0),(4,pt LZ),(0,.slice ao ks.length cap),(1,AQ o),(2,.func (.func 96) #[] #[])] a∧w.grownBy w' none∧w'.heap[LZ]?=some (.cells (bv o).toArray 23 (0,0))∧RdK w' (.slice ao ks.length cap) ks) (fun a _=>(intOf (a.tmps.getD 10 undef)-intOf (a.tmps.getD 9 undef)).toNat) ⟨0,ks.length,Nat.zero_le _,Nat.le_refl _,fun k hk=>by omega,fun k h1 h2=>by omega,⟨CQ.1,CQ.2.1,CQ.2.2.2.1,CQ.2.2.1,CQ.2.2.2.2.1,CQ.2.2.2.2.2.1,CQ.2.2.2.2.2.2.1,CQ.2.2.2.2.2.2.2.1,(AG CQ).1,(AG CQ).2.1,(AG CQ).2.2.1,(AG CQ).2.2.2.1,(AG CQ).2.2.2.2.1,(AG CQ).2.2.2.2.2.1,AOW⟩,HG,BU,hr⟩ fun a14 w14 hI14=>?_
 clear BU
 clear hr
 clear HG
 obtain⟨i,j,hij,hjn,hb,ha,D1,HG,BU,hr⟩:=hI14
 refine AOQ fun K15 k15=>?_
 refine AOQ fun K16 k16=>?_
 by_cases hlt:i<j
 · obtain⟨m,hm⟩:∃m,m=(i+j)/2:=⟨_,rfl⟩
   have hmi:i≤m∧m<j∧m<ks.length:=by omega
   have hm3:=hmi.2.2
   obtain⟨x,hx_x⟩:∃x,ks[m]'hm3=x:=⟨_,rfl⟩
   have hod:od (ks.map VK.p) m=x.o:=by rw[SP hm3,hx_x]
   refine AOP ?_
   refine AH D1 3 [(15,.int .i64 ((i:Int))),(16,.int .i64 ((j:Int))),(17,.bool true)]
     ⟨ym r5,ym r5,Fg r7 (fun _=>BR (by simp;omega)),AOW⟩ fun a17 w17 g17 EK=>?_
   refine AD ?_
   refine k16 _ _ ?_
   refine Am EK rfl rfl ?_
   refine AOU ?_
   refine k15 _ _ ?_
   refine BH fun Q18 x18 y18 r18 o18=>?_
   refine AOQ fun K19 k19=>?_
   refine AOP ?_
   refine AH EK 6 [(18,.int .i64 ((i:Int))),(19,.int .i64 ((j:Int))),(20,.int .i64 (((i+j:Nat):Int))),(21,.int .u64 (((i+j:Nat):Int))),(22,.int .u64 ((m:Int))),(23,.int .i64 ((m:Int)))]
     ⟨ym r5,ym r5,Fg r7 (fun _=>Dd (by rw[BT (by omega) (by omega)];omega)),Hu r6 (fun _=>Hv Tryz.underlying3 Tryz.underlying48 (Pp (by omega) (by omega))),Ce r6 (fun _=>AJc (by omega)),Hu r6 (fun _=>Hv Tryz.underlying48 Tryz.underlying3 (BT (by omega) (by omega))),AOW⟩ fun a20 w20 g20 Du=>?_
   have ALX:=AA g17 g20
   refine AS (v:=.int .i64 ((m:Int))) Du r6 fun a21 Dl=>?_
   have B7:Sv _ _ [_,_,_,_,_,_,_,_,_,_,_,_,_,_,_,_] _:=Dl.dl [18,19,20,21,22,23]
   refine AD ?_
   refine k19 _ _ ?_
   refine AOQ fun K23 k23=>?_
   replace BU:=AC ALX BU
   replace hr:=hr.kn ALX
   replace HG:=AA HG ALX
   by_cases hc:E5 x.o o=true
   · refine Dx B7 [(24,.func (.func 96) #[] #[]),(25,.slice ao ks.length cap),(26,.int .i64 ((m:Int))),(27,pk ((bO ao)) (oO ao+m*33)),(28,JH x),(29,AQ o),(30,.int .i64 ((I6 x.o o))),(31,.bool true)]
      ⟨ym r5,ym r5,ym r5,BD rq8 (fun w=>CF Tryz.underlying34 (by kernel_rfl) (hr.1.1) (by omega) (rfl) w),Bj r6 (fun _ g=>Ad (XP x) (RdK.keyX (hr.kn g) rfl hm3 hx_x)),yl r6 (Bb o ho.1) BU,SI (Sp.is (.int .i64 ((I6 x.o o)))) [JH x,AQ o] rfl rfl trivial (oy rfl rfl) ⟨(oy rfl rfl),(oy rfl rfl),AOW⟩ (A1 fun W g=>IX x o ho W) (fun _ _ h=>h) (Ho Tryz.func96 (by kernel_rfl) rfl),Ce r6 (fun _=>BR (by rw[XT,hc])),AOW⟩ fun a24 w24 g24 EN=>?_
     refine k23 _ _ ?_
     refine Am EN rfl rfl ?_
     refine AOP ?_
     refine AH EN 2 [(32,.int .i64 ((m:Int))),(33,.int .i64 (((m+1:Nat):Int)))]
      ⟨ym r5,Ce r6 (fun _=>Dd (by rw[BT (by omega) (by omega)];omega)),AOW⟩ fun a25 w25 g25 DR=>?_
     have JJ:=AA g24 g25
     refine AS (v:=.int .i64 (((m+1:Nat):Int))) DR r6 fun a26 DH=>?_
     refine AD ?_
     refine y18 _ _ ?_
     replace BU:=AC JJ BU
     replace hr:=hr.kn JJ
     replace HG:=AA HG JJ
     exact⟨⟨m+1,j,by omega,by omega,fun k hk=>if e:k=m then (by rw[e,hod,hc]) else IY (hs.lt (i:=k) (j:=m) (by omega) (by rw[hmap];omega)) (hod.symm▸hc),ha,⟨DH.1,DH.2.1,DH.2.2.1,(AG (AG DH)).2.1,(AG (AG DH)).2.2.1,(AG (AG DH)).2.2.2.1,(AG (AG DH)).2.2.2.2.1,(AG (AG DH)).2.2.2.2.2.1,(AG (AG DH)).2.2.2.2.2.2.1,(AG (AG DH)).2.2.2.2.2.2.2.1,(AG (AG (AG DH))).1,(AG (AG (AG DH))).2.1,(AG (AG (AG DH))).2.2.1,(AG (AG (AG DH))).2.2.2.1,AOW⟩,HG,BU,hr⟩,by rw[show _=_ from DH.2.2.1,show _=_ from(AG (AG DH)).2.1,show _=_ from D1.2.2.1,show _=_ from D1.2.2.2.1];simp[intOf];omega⟩
   · refine Dx B7 [(24,.func (.func 96) #[] #[]),(25,.slice ao ks.length cap),(26,.int .i64 ((m:Int))),(27,pk ((bO ao)) (oO ao+m*33)),(28,JH x),(29,AQ o),(30,.int .i64 ((I6 x.o o))),(31,.bool false)]
      ⟨ym r5,ym r5,ym r5,BD rq8 (fun w=>CF Tryz.underlying34 (by kernel_rfl) (hr.1.1) (by omega) (rfl) w),Bj r6 (fun _ g=>Ad (XP x) (RdK.keyX (hr.kn g) rfl hm3 hx_x)),yl r6 (Bb o ho.1) BU,SI (Sp.is (.int .i64 ((I6 x.o o)))) [JH x,AQ o] rfl rfl trivial (oy rfl rfl) ⟨(oy rfl rfl),(oy rfl rfl),AOW⟩ (A1 fun W g=>IX x o ho W) (fun _ _ h=>h) (Ho Tryz.func96 (by kernel_rfl) rfl),Ce r6 (fun _=>BR (by rw[XT];simpa using hc)),AOW⟩ fun a27 w27 g27 HU=>?_
     refine k23 _ _ ?_
     refine Au HU rfl rfl ?_
     refine AOP ?_
     refine AH HU 1 [(34,.int .i64 ((m:Int)))]
      ⟨ym r5,AOW⟩ fun a28 w28 g28 Dm=>?_
     have FR:=AA g27 g28
     refine AS (v:=.int .i64 ((m:Int))) Dm r6 fun a29 Ck=>?_
     refine AD ?_
     refine y18 _ _ ?_
     replace BU:=AC FR BU
     replace hr:=hr.kn FR
     replace HG:=AA HG FR
     exact⟨⟨i,m,by omega,by omega,hb,fun k h1 h2=>if e:k=m then (by rw[e,hod];simpa using hc) else Bool.eq_false_iff.2 fun hh=>hc (hod▸IY (hs.lt (i:=m) (j:=k) (by omega) (by rw[hmap];omega)) hh),⟨Ck.1,Ck.2.1,(AG (AG Ck)).1,Ck.2.2.1,(AG (AG Ck)).2.1,(AG (AG Ck)).2.2.1,(AG (AG Ck)).2.2.2.1,(AG (AG Ck)).2.2.2.2.1,(AG (AG Ck)).2.2.2.2.2.1,(AG (AG Ck)).2.2.2.2.2.2.1,(AG (AG Ck)).2.2.2.2.2.2.2.1,(AG (AG (AG Ck))).1,(AG (AG (AG Ck))).2.1,(AG (AG (AG Ck))).2.2.1,AOW⟩,HG,BU,hr⟩,by rw[show _=_ from(AG (AG Ck)).1,show _=_ from Ck.2.2.1,show _=_ from D1.2.2.1,show _=_ from D1.2.2.2.1];simp[intOf];omega⟩
 · have hie:i=j:=by omega
   have hpos:pos (ks.map VK.p) o=i:=SQ (by omega) hb fun h=>ha i (by omega) (by omega)
   refine AOP ?_
   refine AH D1 3 [(15,.int .i64 ((i:Int))),(16,.int .i64 ((j:Int))),(17,.bool false)]
     ⟨ym r5,ym r5,Fg r7 (fun _=>BR (by simp;omega)),AOW⟩ fun a30 w30 g30 EF=>?_
   refine AD ?_
   refine k16 _ _ ?_
   refine Au EF rfl rfl ?_
   refine wp_exit ?_
   repeat refine CA ?_
   refine x13 _ _ ?_
   refine k12 _ _ ?_
   refine AOQ fun K31 k31=>?_
   replace BU:=AC g30 BU
   replace hr:=hr.kn g30
   replace HG:=AA HG g30
   by_cases hin:i<ks.length
   · obtain⟨y,hx_y⟩:∃x,ks[i]'hin=x:=⟨_,rfl⟩
     refine Dx (EF.dl [7,6]) [(35,.int .i64 ((i:Int))),(36,.int .i64 ((i:Int))),(37,.int .i64 ((ks.length:Nat))),(38,.bool true),(39,.bool true),(40,.func (.func 96) #[] #[]),(41,.slice ao ks.length cap),(42,.int .i64 ((i:Int))),(43,pk ((bO ao)) (oO ao+i*33)),(44,JH y),(45,AQ o),(46,.int .i64 ((I6 y.o o))),(47,.bool (decide (y.o=o))),(48,.bool (decide (y.o=o))),(6,.int .i64 ((i:Int))),(7,.bool (decide (y.o=o)))]
      ⟨ym r5,ym r5,ym r5,Fg r7 (fun _=>BR (by simp;omega)),ym r5,Ae rq8,Ae rq8,Ae rq8,Cf rfl rfl (gy rfl rfl rfl) (oy rfl rfl) (oy rfl rfl) (fun w=>CF Tryz.underlying34 (by kernel_rfl) (hr.1.1) (by omega) (rfl) w) (fun _=>rfl),A8 rq9 (fun _ g=>Ad (XP y) (RdK.keyX (hr.kn g) rfl hin hx_y)),A8 rq9 (fun _ g=>Ad (Bb o ho.1) (Av (AF g BU (by simp)))),SI (Sp.is (.int .i64 ((I6 y.o o)))) [JH y,AQ o] rfl rfl (gy rfl rfl rfl) (oy rfl rfl) ⟨(oy rfl rfl),(oy rfl rfl),AOW⟩ (A1 fun W g=>IX y o ho W) (fun _ _ h=>h) (Ho Tryz.func96 (by kernel_rfl) rfl),Ai rq9 (fun _=>BM AJe),Ah rq9,JW 35 6 (.inr rfl) rfl rfl trivial (fun _ _ h=>h),JW 48 7 (.inr rfl) rfl rfl trivial (fun _ _ h=>h),AOW⟩ fun a32 w32 g32 Cu=>?_
     refine k31 _ _ ?_
     replace HG:=AA HG g32
     refine AOT ?_
     repeat refine AM ?_
     refine Ap (fn:=Tryz.f113) Cu (Ou (p:=6) (q:=7) Tryz.results113 Cu rfl rfl rfl rfl) ?_
     exact⟨AHU (by rw[hpos]) (ALW hpos hin hx_y),HG⟩
   · refine Dx (EF.dl [7,6]) [(35,.int .i64 ((i:Int))),(36,.int .i64 ((i:Int))),(37,.int .i64 ((ks.length:Nat))),(38,.bool false),(39,.bool false),(40,undef),(41,undef),(42,undef),(43,undef),(44,undef),(45,undef),(46,undef),(47,undef),(48,.bool false),(6,.int .i64 ((i:Int))),(7,.bool false)]
      ⟨ym r5,ym r5,ym r5,Fg r7 (fun _=>BR (by simp;omega)),ym r5,AN r6,AN r6,AN r6,AN r6,AN r6,AN r6,AN r6,AN r6,BF r7,JW 35 6 (.inr rfl) rfl rfl trivial (fun _ _ h=>h),JW 48 7 (.inr rfl) rfl rfl trivial (fun _ _ h=>h),AOW⟩ fun a33 w33 g33 FS=>?_
     refine k31 _ _ ?_
     replace HG:=AA HG g33
     refine AOT ?_
     repeat refine AM ?_
     refine Ap (fn:=Tryz.f113) FS (Ou (p:=6) (q:=7) Tryz.results113 FS rfl rfl rfl rfl) ?_
     exact⟨AHU (by rw[hpos]) (AJd (by rw[hpos];exact hin)),HG⟩
end Go.Proofs.YtbfjfnbcmojpiaaGreat
