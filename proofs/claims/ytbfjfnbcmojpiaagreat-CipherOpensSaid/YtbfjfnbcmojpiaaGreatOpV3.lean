import Derived.Test.YtbfjfnbcmojpiaaGreatOpK16
import Derived.Test.YtbfjfnbcmojpiaaGreatOpSG
import Derived.Lib.Bytealg
import Derived.Lib.BytesEntry
set_option linter.unusedSimpArgs false
set_option linter.unusedVariables false
set_option maxRecDepth 100000
set_option maxHeartbeats 4000000
namespace Go.Proofs.YtbfjfnbcmojpiaaGreat
abbrev VP:=List Nat×List Nd
def E6:List Nat→List Nat→Bool
 | a::l,b::m=>decide (a<b)||(a == b&&E6 l m)
 | [],_::_=>true
 | _,[]=>false
theorem Je:∀l,E6 l l=false
 | []=>rfl
 | a::l=>by simp[E6,Je l]
theorem JJ:∀{a b c},E6 a b=true→E6 b c=true→E6 a c=true
 | [],[],_,h,_=>by simp[E6] at h
 | [],_::_,[],_,h=>by simp[E6] at h
 | [],_::_,_::_,_,_=>rfl
 | _::_,[],_,h,_=>by simp[E6] at h
 | _::_,_::_,[],_,h=>by simp[E6] at h
 | x::a,y::b,z::c,h,k=>by
  simp only[E6,Bool.or_eq_true,decide_eq_true_eq,Bool.and_eq_true,beq_iff_eq] at h k ⊢
  rcases h with h|⟨h1,h2⟩<;>rcases k with k|⟨k1,k2⟩
  · exact .inl (by omega)
  · exact .inl (by omega)
  · exact .inl (by omega)
  · exact .inr ⟨by omega,JJ h2 k2⟩
theorem SP:∀a b,a=b∨E6 a b=true∨E6 b a=true
 | [],[]=>.inl rfl
 | [],_::_=>.inr (.inl rfl)
 | _::_,[]=>.inr (.inr rfl)
 | x::a,y::b=>by
  simp only[E6,Bool.or_eq_true,decide_eq_true_eq,Bool.and_eq_true,beq_iff_eq]
  rcases Nat.lt_trichotomy x y with h|h|h
  · exact .inr (.inl (.inl h))
  · rcases SP a b with e|e|e
    · exact .inl (by rw[h,e])
    · exact .inr (.inl (.inr ⟨h,e⟩))
    · exact .inr (.inr (.inr ⟨h.symm,e⟩))
  · exact .inr (.inr (.inl h))
theorem AHc {a b:List Nat} (h:E6 a b=true):a≠b:=by
 rintro rfl
 rw[Je] at h
 cases h
def Gn (a b:List Nat):Int:=if E6 a b then -1 else if a=b then 0 else 1
theorem TL {a b:List Nat}:decide (Gn a b<0)=E6 a b:=by
 unfold Gn
 split
 · rename_i h;rw[h];rfl
 · rename_i h
   have:E6 a b=false:=by simpa using h
   rw[this]
   split<;>rfl
theorem LC {a b:List Nat}:decide (0≤Gn a b)=!E6 a b:=by
 rw[←TL]
 by_cases h:Gn a b<0
 · simp[h]
 · simp[h];omega
theorem AFb {a b:List Nat}:(Gn a b == 0)=decide (a=b):=by
 unfold Gn
 split
 · rename_i h;simp[AHc h]
 · split
   · rename_i h;simp[h]
   · rename_i h;simp[h]
def od (ps:List VP) (i:Nat):List Nat:=(ps[i]?.map (·.1)).getD []
def tr (ps:List VP) (i:Nat):List Nd:=(ps[i]?.map (·.2)).getD []
theorem AAO {ps:List VP} {i:Nat} (h:i<ps.length):od ps i=ps[i].1:=by unfold od;rw[List.getElem?_eq_getElem h];rfl
theorem AGZ {ps:List VP} {i:Nat} (h:i<ps.length):tr ps i=ps[i].2:=by unfold tr;rw[List.getElem?_eq_getElem h];rfl
def chk (ps:List VP) (i:Nat):Bool:=(decide (i=0)||E6 (od ps (i-1)) (od ps i))&&Gy (tr ps i)
def Cj (ps:List VP):Bool:=decide (ps.length≤64)&&(List.range ps.length).all (chk ps)
theorem FJ {ps:List VP}:Cj ps=true↔ps.length≤64∧∀i,i<ps.length→chk ps i=true:=by
 unfold Cj
 simp only[Bool.and_eq_true,decide_eq_true_eq,List.all_eq_true,List.mem_range]
theorem Ih {ps:List VP} {i:Nat} (h:i<ps.length) (hc:chk ps i=false):Cj ps=false:=by
 cases e:Cj ps with
 | false=>rfl
 | true=>have:=(FJ.1 e).2 i h;rw[hc] at this;cases this
theorem Vs {ps:List VP} (h:64<ps.length):Cj ps=false:=by
 cases e:Cj ps with
 | false=>rfl
 | true=>have:=(FJ.1 e).1;omega
theorem Vv {ps:List VP} (h:ps.length≤64) (hc:∀i,i<ps.length→chk ps i=true):Cj ps=true:=FJ.2 ⟨h,hc⟩
def Srt (ps:List VP):Prop:=∀i,i+1<ps.length→E6 (od ps i) (od ps (i+1))=true
theorem Srt.of {ps:List VP} (h:Cj ps=true):Srt ps:=by
 intro i hi
 have:=(FJ.1 h).2 (i+1) hi
 simp only[chk,Bool.and_eq_true,Bool.or_eq_true,decide_eq_true_eq,Nat.add_sub_cancel] at this
 rcases this.1 with h0|h0
 · omega
 · exact h0
theorem Srt.lt {ps:List VP} (h:Srt ps):∀{i j},i<j→j<ps.length→E6 (od ps i) (od ps j)=true:=by
 intro i j hij hj
 induction j with
 | zero=>omega
 | succ j ih =>
  rcases Nat.lt_or_ge i j with hl|hl
  · exact JJ (ih hl (by omega)) (h j hj)
  · have:i=j:=by omega
    subst this
    exact h i hj
theorem PR {ps:List VP} (h:Cj ps=true) {i:Nat} (hi:i<ps.length):Gy (tr ps i)=true:=by
 have:=(FJ.1 h).2 i hi
 simp only[chk,Bool.and_eq_true] at this
 exact this.2
theorem AFm {ps:List VP} (h:ps.length≤64) (hs:Srt ps) (ht:∀i,i<ps.length→Gy (tr ps i)=true):Cj ps=true:=by
 refine FJ.2 ⟨h,fun i hi=>?_⟩
 simp only[chk,Bool.and_eq_true,Bool.or_eq_true,decide_eq_true_eq]
 refine⟨?_,ht i hi⟩
 cases i with
 | zero=>exact .inl rfl
 | succ i=>exact .inr (hs i hi)
def pos (ps:List VP) (o:List Nat):Nat:=ps.findIdx fun p=>!E6 p.1 o
theorem TS (ps:List VP) (o:List Nat):pos ps o≤ps.length:=List.findIdx_le_length
theorem PS {ps:List VP} {o:List Nat} {i:Nat} (h:i<pos ps o):E6 (od ps i) o=true:=by
 have hl:i<ps.length:=Nat.lt_of_lt_of_le h (TS ps o)
 have:=List.not_of_lt_findIdx h
 rw[AAO hl]
 simpa using this
theorem ADV {ps:List VP} {o:List Nat} (h:pos ps o<ps.length):E6 (od ps (pos ps o)) o=false:=by
 rw[AAO h]
 unfold pos at h ⊢
 simpa using List.findIdx_getElem (xs:=ps) (p:=fun p=>!E6 p.1 o) (w:=h)
theorem Vq {ps:List VP} {o:List Nat} {i:Nat} (hi:i≤ps.length) (h1:∀k,k<i→E6 (od ps k) o=true) (h2:i<ps.length→E6 (od ps i) o=false):pos ps o=i:=by
 rcases Nat.lt_trichotomy (pos ps o) i with h|h|h
 · have:=h1 _ h
   rw[ADV (by omega)] at this
   cases this
 · exact h
 · have:=PS h
   rw[h2 (Nat.lt_of_lt_of_le h (TS ps o))] at this
   cases this
def LO (ps:List VP) (o:List Nat):Bool:=decide (pos ps o<ps.length∧od ps (pos ps o)=o)
theorem S5 {ps:List VP} (hs:Srt ps) {o:List Nat} {i:Nat} (hi:i<ps.length) (h:od ps i=o):pos ps o=i∧LO ps o=true:=by
 have e:pos ps o=i:=Vq (by omega) (fun k hk=>h▸hs.lt hk hi) fun _=>by rw[h,Je]
 exact⟨e,by unfold LO;rw[e];simpa using⟨hi,h⟩⟩
theorem AHT {ps:List VP} {o:List Nat} (h:∀i,i<ps.length→od ps i≠o):LO ps o=false:=by
 unfold LO
 simp only[decide_eq_false_iff_not,not_and]
 exact fun h1 h2=>h _ h1 h2
theorem ZB {ps:List VP} {o:List Nat} (h:LO ps o=true):pos ps o<ps.length∧od ps (pos ps o)=o:=by simpa [LO] using h
def atV (ps:List VP) (o:List Nat):Int:=if LO ps o then (pos ps o:Int) else -1
abbrev VV:=List VP×List Nat×List Nat
def ADS:VV:=([],AS,AS)
def QV (ps:List VP) (o:List Nat) (t:List Nd):List VP:=ps.take (pos ps o)++(o,t)::ps.drop (pos ps o)
def Vd (v:VV) (o:List Nat) (t:List Nd) (nx:List Nat):VV×Int:=
 if Cj v.1 then (if LO v.1 o then (v,0) else if 64≤v.1.length then (ADS,8) else ((QV v.1 o t,v.2.1,nx),0)) else (ADS,1)
def Cz (ps:List VP) (o:List Nat) (a:Int):List Nat×Int:=
 if Ce a&&Cj ps then (if LO ps o then CO (tr ps (pos ps o)) a else (AS,10)) else (AS,1)
def WK (ps:List VP) (k:Nat) (x:VP):List VP:=ps.take k++x::ps.drop k
theorem ABj {ps:List VP} {k:Nat} (h:k≤ps.length) (x:VP):(WK ps k x).length=ps.length+1:=by
 unfold WK
 rw[List.length_append,List.length_take,List.length_cons,List.length_drop]
 omega
theorem ABk {ps:List VP} {k:Nat} (h:k≤ps.length) (x:VP) (i:Nat):(WK ps k x)[i]?=if i<k then ps[i]? else if i=k then some x else ps[i-1]?:=by
 unfold WK
 split
 · rename_i hi
   rw[List.getElem?_append_left (by rw[List.length_take];omega),List.getElem?_take,if_pos hi]
 · rename_i hi
   rw[List.getElem?_append_right (by rw[List.length_take];omega),List.length_take,Nat.min_eq_left h]
   split
   · rename_i hk;subst hk;simp
   · rename_i hk
     have:i-k=(i-1-k)+1:=by omega
     rw[this,List.getElem?_cons_succ,List.getElem?_drop]
     congr 1
     omega
theorem ADW (ps:List VP) (o:List Nat) (t:List Nd):QV ps o t=WK ps (pos ps o) (o,t):=rfl
theorem KW {ps qs:List VP} {i j:Nat} (h:ps[i]?=qs[j]?):od ps i=od qs j∧tr ps i=tr qs j:=by unfold od tr;rw[h];exact⟨rfl,rfl⟩
theorem TU {ps:List VP} {i:Nat} {x:VP} (h:ps[i]?=some x):od ps i=x.1∧tr ps i=x.2:=by unfold od tr;rw[h];exact⟨rfl,rfl⟩
theorem ABl {ps:List VP} (hs:Srt ps) {o:List Nat} (hn:LO ps o=false) {j:Nat} (h:pos ps o≤j) (hj:j<ps.length):E6 o (od ps j)=true:=by
 have h0:E6 o (od ps (pos ps o))=true:=by
   have hp:pos ps o<ps.length:=by omega
   rcases SP (od ps (pos ps o)) o with e|e|e
   · have:=(S5 hs hp e).2
     rw[hn] at this
     cases this
   · rw[ADV hp] at e;cases e
   · exact e
 rcases Nat.lt_or_ge (pos ps o) j with h1|h1
 · exact JJ h0 (hs.lt h1 hj)
 · have:pos ps o=j:=by omega
   rw[←this]
   exact h0
theorem ADX {ps:List VP} {o:List Nat} {t:List Nd} (h:Cj ps=true) (hn:LO ps o=false) (hl:ps.length<64) (ht:Gy t=true):Cj (QV ps o t)=true:=by
 have hs:=Srt.of h
 have hp:=TS ps o
 have g:=ABk hp (o,t)
 rw[ADW]
 have hlen:=ABj hp (o,t)
 refine AFm (by rw[show pos ps (o,t).1=pos ps o from rfl,hlen];omega) (fun i hi=>?_) fun i hi=>?_
 · rw[hlen] at hi
   rcases Nat.lt_trichotomy (i+1) (pos ps o) with h1|h1|h1
   · rw[(KW (qs:=ps) (j:=i) ((g i).trans (if_pos (by omega)))).1,(KW (qs:=ps) (j:=i+1) ((g (i+1)).trans (if_pos h1))).1]
     exact hs i (by omega)
   · have hb:E6 (od ps i) o=true:=PS (by omega)
     rw[(KW (qs:=ps) (j:=i) ((g i).trans (if_pos (by omega)))).1,(TU ((g (i+1)).trans (by rw[if_neg (by omega),if_pos h1]))).1]
     exact hb
   · rcases Nat.lt_or_ge (pos ps o) i with h2|h2
     · rw[(KW (qs:=ps) (j:=i-1) ((g i).trans (by rw[if_neg (by omega),if_neg (by omega)]))).1,(KW (qs:=ps) (j:=i) ((g (i+1)).trans (by rw[if_neg (by omega),if_neg (by omega)];rfl))).1]
       exact hs.lt (by omega) (by omega)
     · have:i=pos ps o:=by omega
       rw[(TU ((g i).trans (by rw[if_neg (by omega),if_pos this]))).1,(KW (qs:=ps) (j:=i) ((g (i+1)).trans (by rw[if_neg (by omega),if_neg (by omega)];rfl))).1]
       exact ABl hs hn (by omega) (by omega)
 · rw[hlen] at hi
   rcases Nat.lt_trichotomy i (pos ps o) with h1|h1|h1
   · rw[(KW (qs:=ps) (j:=i) ((g i).trans (if_pos h1))).2]
     exact PR h (by omega)
   · rw[(TU ((g i).trans (by rw[if_neg (by omega),if_pos h1]))).2]
     exact ht
   · rw[(KW (qs:=ps) (j:=i-1) ((g i).trans (by rw[if_neg (by omega),if_neg (by omega)]))).2]
     exact PR h (by omega)
end Go.Proofs.YtbfjfnbcmojpiaaGreat
namespace Go.Proofs.YtbfjfnbcmojpiaaGreat
open Go.RowKit Go.Shelf
structure VK where
 o:List Nat
 ho:Dg o
 ao:Option Addr
 cap:Nat
 l:List Nd
def VK.s (k:VK):Value:=.slice k.ao k.l.length k.cap
def VK.p (k:VK):VP:=(k.o,k.l)
def Ax (k:VK):List Value:=[bv k.o,[k.s]].flatten
def IB (k:VK):Value:=.agg (Ax k).toArray
theorem Dc (k:VK):(Ax k).length=33:=by simp[Ax,AO,k.ho.1]
theorem Jc (k:VK):∀c∈Ax k,c.oneCell'=true:=by
 intro c hc
 simp only[Ax,List.flatten_cons,List.flatten_nil,List.append_nil] at hc
 rcases List.mem_append.1 hc with h|h
 · exact Hh _ c h
 · obtain rfl:=List.mem_singleton.1 h;rfl
theorem Yw (ks:List VK):(ks.flatMap Ax).all Value.oneCell'=true:=by
 rw[List.all_flatMap,List.all_eq_true]
 exact fun k _=>List.all_eq_true.2 (Jc k)
theorem Yx (k:VK):TY Tryz.prog 58 (Ax k) (IB k):=by
 refine TY.agg Tryz.underlying58 rfl ?_ (Jc k)
 rw[Dc]
 kernel_rfl
theorem Dd (v:Value) (h:v.oneCell'=true):TY Tryz.prog 34 [v] v:=TY.one' Tryz.underlying34 rfl (by kernel_rfl) h
def A8 (sa po:List Nat) (s:Value):Value:=.agg ([bv sa,bv po,[s]].flatten).toArray
theorem CX {sa po:List Nat} (hs:Dg sa) (hp:Dg po) (s:Value) (h:s.oneCell'=true):TY Tryz.prog 36 ([bv sa,bv po,[s]].flatten) (A8 sa po s):=by
 refine TY.agg Tryz.underlying36 rfl ?_ ?_
 · rw[show([bv sa,bv po,[s]].flatten).length=65 by simp[AO,hs.1,hp.1]]
   kernel_rfl
 · intro c hc
   simp only[List.flatten_cons,List.flatten_nil,List.append_nil,List.mem_append,List.mem_singleton] at hc
   rcases hc with hc|hc|hc
   · exact Hh _ c hc
   · exact Hh _ c hc
   · rw[hc];exact h
def KsR (w:World) (ks:List VK):Prop:=∀k∈ks,RdT w k.s k.l
def Hb (ks:List VK) (b:Nat):Prop:=∃k∈ks,Nw k.s b
def TH (v:Value) (ks:List VK) (b:Nat):Prop:=Ba v b∨Hb ks b
def RdK (w:World) (v:Value) (ks:List VK):Prop:=SlB w 33 v ks.length (ks.flatMap Ax)∧KsR w ks
section
variable {w w':World} {v:Value} {ks:List VK} {b:Nat}
theorem KsR.kn (h:KsR w ks) (g:w.grownBy w' none):KsR w' ks:=fun k hk=>(h k hk).kn g
theorem KsR.offR (h:KsR w ks) {row:Option Nat} (g:w.grownBy w' row) (hb:∀k,Hb ks k→row≠some k):KsR w' ks:=fun k hk=>(h k hk).offR g fun x hx=>hb x ⟨k,hk,hx⟩
theorem RdK.offR (h:RdK w v ks) {row:Option Nat} (g:w.grownBy w' row) (hb:∀k,TH v ks k→row≠some k):RdK w' v ks:=⟨h.1.offR g fun k hk=>hb k (.inl hk),h.2.offR g fun k hk=>hb k (.inr hk)⟩
theorem KsR.lt (h:KsR w ks):∀k,Hb ks k→k<w.heap.size:=fun k ⟨x,hx,hk⟩=>(h x hx).lt k hk
theorem RdK.kn (h:RdK w v ks) (g:w.grownBy w' none):RdK w' v ks:=⟨h.1.kn g,h.2.kn g⟩
theorem RdK.lt (h:RdK w v ks):∀k,TH v ks k→k<w.heap.size:=fun k hk=>hk.elim (h.1.2 k) (h.2.lt k)
theorem RdK.len (h:RdK w v ks):(ks.length:Int)≤9223372036854775807:=by
 obtain⟨ao,cap,e,h1,h2⟩:=h.1.1.shape
 omega
end
theorem RdK.nil (w:World):RdK w (.slice none 0 0) []:=⟨⟨Sl.nil w 33,fun k hk=>by simp[Ba,Value.ownBlock] at hk⟩,fun k hk=>by simp at hk⟩
theorem AFY (b:Nat):¬TH (.slice none 0 0) [] b:=by
 rintro (h|⟨k,hk,_⟩)
 · simp[Ba,Value.ownBlock] at h
 · simp at hk
theorem PF {ks:List VK} {j:Nat} (h:j<ks.length):od (ks.map VK.p) j=ks[j].o:=by rw[AAO (by simpa using h),List.getElem_map];rfl
theorem TI {ks:List VK} {j:Nat} (h:j<ks.length):tr (ks.map VK.p) j=ks[j].l:=by rw[AGZ (by simpa using h),List.getElem_map];rfl
theorem RdK.owner {w:World} {ao:Option Addr} {n cap j:Nat} {ks:List VK} (h:RdK w (.slice ao n cap) ks) (hn:n=ks.length) (hj:j<ks.length):w.rangeAt (bO ao) (oO ao+j*33) (bv ks[j].o):=by
 subst hn
 have:=Cb h.1.1 Dc hj (by decide)
 exact Kz (o:=oO ao+j*33) (k:=0) (A:=[]) (B:=bv ks[j].o) (C:=[ks[j].s]) this rfl
theorem RdK.tree {w:World} {ao:Option Addr} {n cap j:Nat} {ks:List VK} (h:RdK w (.slice ao n cap) ks) (hn:n=ks.length) (hj:j<ks.length):w.rangeAt (bO ao) (oO ao+j*33+32) [ks[j].s]:=by
 subst hn
 have:=Cb h.1.1 Dc hj (by decide)
 exact Kz (A:=bv ks[j].o) (B:=[ks[j].s]) (C:=[]) this (by rw[AO,ks[j].ho.1])
theorem RdK.key {w:World} {ao:Option Addr} {n cap j:Nat} {ks:List VK} (h:RdK w (.slice ao n cap) ks) (hn:n=ks.length) (hj:j<ks.length):w.rangeAt (bO ao) (oO ao+j*33) (Ax ks[j]):=by
 subst hn
 exact Cb h.1.1 Dc hj (by decide)
theorem SI:∀{a b:List Nat},(∀x∈a,x<256)→(∀x∈b,x<256)→Lib.compareBytes (a.map UInt8.ofNat) (b.map UInt8.ofNat)=Gn a b
 | [],[],_,_=>rfl
 | [],_::_,_,_=>rfl
 | _::_,[],_,_=>rfl
 | x::a,y::b,ha,hb=>by
  have hx:=ha x List.mem_cons_self
  have hy:=hb y List.mem_cons_self
  have ih:=SI (a:=a) (b:=b) (fun z hz=>ha z (List.mem_cons_of_mem _ hz)) (fun z hz=>hb z (List.mem_cons_of_mem _ hz))
  have e1:(UInt8.ofNat x<UInt8.ofNat y)↔x<y:=by rw[UInt8.lt_iff_toNat_lt,UInt8.toNat_ofNat',UInt8.toNat_ofNat',Nat.mod_eq_of_lt hx,Nat.mod_eq_of_lt hy]
  have e2:(UInt8.ofNat y<UInt8.ofNat x)↔y<x:=by rw[UInt8.lt_iff_toNat_lt,UInt8.toNat_ofNat',UInt8.toNat_ofNat',Nat.mod_eq_of_lt hx,Nat.mod_eq_of_lt hy]
  rw[List.map_cons,List.map_cons,Lib.compareBytes,ih]
  unfold Gn
  by_cases h1:x<y
  · rw[if_pos (e1.2 h1),if_pos (by simp[E6,h1])]
  · rw[if_neg (fun h=>h1 (e1.1 h))]
    by_cases h2:y<x
    · rw[if_pos (e2.2 h2),if_neg (by simp[E6,h1];omega),if_neg (by simp;omega)]
    · have:x=y:=by omega
      subst this
      rw[if_neg (fun h=>h2 (e2.1 h))]
      simp[E6]
theorem SL {P:Program} {w:World} {l:List Nat} (hl:∀x∈l,x<256) {n:Nat} (hn:l.length=n) {b o c:Nat} (h:w.rangeAt b o (bv l)):(Extern.Bytes.bytesOf (.slice (some ⟨b,o,none⟩) n c)).run P w=.ok ⟨(l.map UInt8.ofNat).toArray⟩ w:=by
 subst hn
 have:=Lib.run_loadBytesX (P:=P) w (l.map fun(x:Nat)=>(x:Int)) ⟨b,o,none⟩ .empty (fun j x hj=>by
  rw[Addr.add_mid]
  refine h j _ ?_
  rw[List.getElem?_map] at hj
  unfold bv
  rw[List.getElem?_map]
  cases e:l[j]? with
  | none=>rw[e] at hj;cases hj
  | some y =>
   rw[e] at hj
   obtain rfl:=Option.some.inj hj
   rfl)
 rw[List.length_map] at this
 show(Extern.Bytes.loadBytes ⟨b,o,none⟩ l.length .empty).run P w=_
 refine this.trans ?_
 congr 2
 simp[Lib.bytesOf,Function.comp_def]
theorem ADD {x y:List Nat} (hx:Dg x) (hy:Dg y) {w:World} {b o b' o' c c':Nat} (h:w.rangeAt b o (bv x)) (h':w.rangeAt b' o' (bv y)) :
  (callFunc 129 #[.slice (some ⟨b,o,none⟩) 32 c,.slice (some ⟨b',o',none⟩) 32 c']).run Tryz.prog w=.ok (.value (.int .i64 (Gn x y))) w:=by
 have e1:(Extern.BytealgCompare.compare #[.slice (some ⟨b,o,none⟩) 32 c,.slice (some ⟨b',o',none⟩) 32 c']).run Tryz.prog w=.ok (.int .i64 (Gn x y)) w:=by
  change Sem.run Tryz.prog (do pure (goInt (Extern.BytealgCompare.cmp (←Extern.Bytes.bytesOf (.slice (some ⟨b,o,none⟩) 32 c)) (←Extern.Bytes.bytesOf (.slice (some ⟨b',o',none⟩) 32 c'))))) w=_
  rw[Sem.run_bind,SL hx.2 hx.1 h]
  simp only[Result.andThen_ok]
  rw[Sem.run_bind,SL hy.2 hy.1 h']
  simp only[Result.andThen_ok,Sem.run_pure]
  rw[Lib.cmp_eq]
  simp only
  rw[SI hx.2 hy.2]
  rfl
 rw[run_callFunc_extern Tryz.func129 (by kernel_rfl) (by kernel_rfl) (by kernel_rfl) (e:=Extern.BytealgCompare.compare) (by kernel_rfl),e1]
 rfl
theorem Jd {x y:List Nat} (hx:Dg x) (hy:Dg y) {w:World} {b o b' o' c c':Nat} (h:w.rangeAt b o (bv x)) (h':w.rangeAt b' o' (bv y)) :
  Calls Tryz.prog 94 #[.slice (some ⟨b,o,none⟩) 32 c,.slice (some ⟨b',o',none⟩) 32 c'] w fun e w'=>e=.returned (.int .i64 (Gn x y))∧w.grownBy w' none:=by
 have H:=fun c c'=>ADD hx hy h h' (c:=c) (c':=c')
 go_enter Tryz.func94,Tryz.ntmps94
 go_wp2
 go_ret
 exact⟨rfl,World.grownBy.refl _ _⟩
theorem KP (b o:Nat) (w:World):(Instr.sliceAt 23 (.pointer (some ⟨b,o,none⟩)) none none none).run Tryz.prog w=.ok (.slice (some ⟨b,o,none⟩) 32 32) w:=by
 kernel_rfl
theorem Ac:AS.length=32:=rfl
theorem Ab:Dg AS:=⟨rfl,by intro x hx;simp[AS,zs] at hx;omega⟩
theorem RdK.keyX {w:World} {ao:Option Addr} {n cap j:Nat} {ks:List VK} {x:VK} (h:RdK w (.slice ao n cap) ks) (hn:n=ks.length) (hj:j<ks.length) (hx:ks[j]=x):w.rangeAt (bO ao) (oO ao+j*33) (Ax x):=hx▸h.key hn hj
theorem RdK.ownerX {w:World} {ao:Option Addr} {n cap j:Nat} {ks:List VK} {x:VK} (h:RdK w (.slice ao n cap) ks) (hn:n=ks.length) (hj:j<ks.length) (hx:ks[j]=x):w.rangeAt (bO ao) (oO ao+j*33) (bv x.o):=hx▸h.owner hn hj
theorem RdK.treeX {w:World} {ao:Option Addr} {n cap j:Nat} {ks:List VK} {x:VK} (h:RdK w (.slice ao n cap) ks) (hn:n=ks.length) (hj:j<ks.length) (hx:ks[j]=x):w.rangeAt (bO ao) (oO ao+j*33+32) [x.s]:=hx▸h.tree hn hj
theorem GH (x:VK) (o:List Nat) (ho:Dg o) (w:World) :
  Calls Tryz.prog 96 #[IB x,AQ o] w fun e w'=>e=.returned (.int .i64 (Gn x.o o))∧w.grownBy w' none:=by
 refine BV Tryz.func96 rfl Tryz.ntmps96 rfl fun a0 sv0=>?_
 have HG:=World.grownBy.refl w none
 replace sv0:Sv 9 [] [(0,IB x),(1,AQ o)] a0:=sv0
 refine AKQ fun K1 k1=>?_
 refine AKP ?_
 refine Be sv0 r6 (Yx x) fun a2 w2 CP DG g2 z2 AH sv2=>?_
 refine Be sv2 r6 (Bb o ho.1) fun a3 w3 BO Dw g3 z3 AG sv3=>?_
 replace AH:=AC g3 AH
 refine AR (v:=.int .i64 0) sv3 r6 fun a4 sv4=>?_
 refine AE ?_
 refine k1 _ _ ?_
 refine AKQ fun K5 k5=>?_
 refine DU (sv4.dl [4]) [(5,pt CP),(6,.slice ((some ⟨CP,0,none⟩)) 32 32),(7,.slice ((some ⟨BO,0,none⟩)) 32 32),(8,.int .i64 ((Gn x.o o))),(4,.int .i64 ((Gn x.o o)))]
  ⟨yf r6 (fun _=>by kernel_rfl),Gl (l:=none) (u:=none) rfl rfl trivial (oy rfl rfl) trivial trivial (KP CP 0) (fun _=>rfl),Gl (l:=none) (u:=none) rfl rfl trivial (oy rfl rfl) trivial trivial (KP BO 0) (fun _=>rfl),Al [.slice ((some ⟨CP,0,none⟩)) 32 32,.slice ((some ⟨BO,0,none⟩)) 32 32] Tryz.func94 (by kernel_rfl) rq4 ⟨(oy rfl rfl),(oy rfl rfl),AKW⟩ (A7 fun W g=>Jd x.ho ho (Ak (L:=[bv x.o,[VK.s x]]) (i:=0) (AF g AH (by simp)) rfl rfl) (Aj (AF g AG (by simp)))),GV 8 4 (.inr rfl) rfl rfl trivial (fun _ _ h=>h),AKW⟩ fun a6 w6 g6 sv6=>?_
 refine k5 _ _ ?_
 replace HG:=AA (AA (AA HG g2) g3) g6
 refine AKT ?_
 repeat refine AK ?_
 refine Aw (fn:=Tryz.f96) sv6 (BC (p:=4) Tryz.results96 sv6 rfl rfl) ?_
 exact⟨rfl,HG⟩
theorem ADE {x y:List Nat} {j:Nat} (h:∀i,i<j→x[i]?=y[i]?) {a b:Nat} (ha:x[j]?=some a) (hb:y[j]?=some b) (hne:a≠b):E6 x y=decide (a<b):=by
 induction x generalizing y j with
 | nil=>simp at ha
 | cons u x ih =>
  cases y with
  | nil=>simp at hb
  | cons v y =>
   cases j with
   | zero =>
    simp at ha hb
    subst ha hb
    have:(u == v)=false:=by simpa using hne
    simp[E6,this]
   | succ j =>
    have h0:=h 0 (by omega)
    simp at h0
    subst h0
    have:=ih (y:=y) (j:=j) (fun i hi=>by have:=h (i+1) (by omega);simpa using this) (by simpa using ha) (by simpa using hb)
    simp[E6,this]
theorem ADF {x y:List Nat} (hl:x.length=32) (hm:y.length=32) (h:∀i,i<32→x[i]?=y[i]?):E6 x y=false:=by
 have:x=y:=List.ext_getElem? fun i=>by
  by_cases hi:i<32
  · exact h i hi
  · rw[List.getElem?_eq_none (by omega),List.getElem?_eq_none (by omega)]
 rw[this,Je]
theorem FH {w:World} {b o:Nat} {x:List Nat} (h:w.rangeAt b o (bv x)) {j a:Nat} (ha:x[j]?=some a):w.rangeAt b (o+j) [.int .u8 (a:Int)]:=by
 refine VY ?_
 refine h j _ ?_
 unfold bv
 rw[List.getElem?_map,ha]
 rfl
theorem N3 (x:Int):TY Tryz.prog 5 [.int .u8 x] (.int .u8 x):=TY.one' Tryz.underlying5 rfl (by kernel_rfl) rfl
theorem Hc {b j:Nat} (hj:j<32) (w:World):(Instr.indexAt 23 (.pointer (some ⟨b,0,none⟩)) (.int .i64 (j:Int))).run Tryz.prog w=.ok (.pointer (some ⟨b,j,none⟩)) w:=by
 have h1:(0:Int)≤(j:Int)∧(j:Int)<32:=⟨by omega,by omega⟩
 rw[run_indexAt_array (P:=Tryz.prog) (w:=w) (t:=23) (a:=⟨b,0,none⟩) (k:=.i64) (i:=(j:Int)) (h:=by kernel_rfl)]
 have e1:Tryz.prog.arrayLen 23=32:=by kernel_rfl
 have e2:(sizeOf (Tryz.prog.elem 23)).run Tryz.prog w=.ok 1 w:=by kernel_rfl
 rw[e1]
 simp[h1,Addr.add,e2,Result.andThen]
 intro h0
 exact h0.symm
theorem ABW (x y:List Nat) (hx:Dg x) (hy:Dg y) (w:World) :
   Calls Tryz.prog 86 #[AQ x,AQ y] w fun e w'=>e=.returned (.bool (E6 x y))∧w.grownBy w' none:=by
 refine BV Tryz.func86 rfl Tryz.ntmps86 rfl fun a0 sv0=>?_
 have HG:=World.grownBy.refl w none
 replace sv0:Sv 24 [] [(0,AQ x),(1,AQ y)] a0:=sv0
 refine AKQ fun K1 k1=>?_
 refine AKP ?_
 refine Be sv0 r6 (Bb x hx.1) fun a2 w2 CP DG g2 z2 AH sv2=>?_
 refine Be sv2 r6 (Bb y hy.1) fun a3 w3 BO Dw g3 z3 AG sv3=>?_
 replace AH:=AC g3 AH
 replace HG:=AA (AA HG g2) g3
 refine AR (v:=.bool false) sv3 r6 fun a4 sv4=>?_
 refine AE ?_
 refine k1 _ _ ?_
 refine AKQ fun K5 k5=>?_
 refine AKQ fun K6 k6=>?_
 refine AKP ?_
 refine AR (v:=.int .i64 0) sv4 r6 fun a7 sv7=>?_
 refine AE ?_
 refine k6 _ _ ?_
 refine BI fun Q8 x8 y8 r8 o8=>?_
 refine wp_loop (fun a w'=>∃(j:Nat),(j≤32)∧(∀i,i<j→x[i]?=y[i]?)∧Sv 24 [] [(5,.int .i64 ((j:Int))),(3,pt BO),(2,pt CP),(0,AQ x),(1,AQ y)] a∧w.grownBy w' none∧w'.heap[CP]?=some (.cells (bv x).toArray 23 (0,0))∧w'.heap[BO]?=some (.cells (bv y).toArray 23 (0,0))) (fun a _=>(32-intOf (a.tmps.getD 5 undef)).toNat) ⟨0,by omega,fun i hi=>by omega,⟨sv7.1,sv7.2.1,sv7.2.2.1,sv7.2.2.2.2.1,sv7.2.2.2.2.2.1,sv7.2.2.2.2.2.2.1,sv7.2.2.2.2.2.2.2.1,AKW⟩,HG,AH,AG⟩ fun a9 w9 hI9=>?_
 clear AH
 clear AG
 clear HG
 obtain⟨j,hj32,heq,sv9,HG,AH,AG⟩:=hI9
 refine AKQ fun K10 k10=>?_
 refine AKQ fun K11 k11=>?_
 by_cases hj:j<32
 · obtain⟨a,hxa⟩:∃a,x[j]?=some a:=⟨_,List.getElem?_eq_getElem (by rw[hx.1];exact hj)⟩
   obtain⟨b,hyb⟩:∃b,y[j]?=some b:=⟨_,List.getElem?_eq_getElem (by rw[hy.1];exact hj)⟩
   refine AKP ?_
   refine AJ sv9 2 [(6,.int .i64 ((j:Int))),(7,.bool true)]
     ⟨ym r5,Cp r6 (fun _=>BJ (by simp;omega)),AKW⟩ fun a12 w12 g12 Cq=>?_
   refine AE ?_
   refine k11 _ _ ?_
   refine Ar Cq rfl rfl ?_
   refine AKU ?_
   refine k10 _ _ ?_
   refine AKQ fun K13 k13=>?_
   refine BI fun Q14 x14 y14 r14 o14=>?_
   refine AKQ fun K15 k15=>?_
   replace AH:=AC g12 AH
   replace AG:=AC g12 AG
   replace HG:=AA HG g12
   by_cases hab:a=b
   · refine DU Cq [(10,.int .i64 ((j:Int))),(11,pk CP j),(12,.int .u8 ((a:Int))),(13,.int .i64 ((j:Int))),(14,pk BO j),(15,.int .u8 ((b:Int))),(16,.bool false)]
      ⟨ym r5,BH rq8 (fun w=>Hc hj w),Bg r6 (fun _ g=>AY (N3 (a:Int)) (by simpa using FH (o:=0) (Aj (AF g AH (by simp))) hxa)),ym r5,BH rq8 (fun w=>Hc hj w),Bg r6 (fun _ g=>AY (N3 (b:Int)) (by simpa using FH (o:=0) (Aj (AF g AG (by simp))) hyb)),FG r7 (fun _=>Db (by simp[hab])),AKW⟩ fun a16 w16 g16 Cr=>?_
     refine k15 _ _ ?_
     refine A2 Cr rfl rfl ?_
     refine AKU ?_
     refine y14 _ _ ?_
     refine k13 _ _ ?_
     refine AKP ?_
     refine AJ Cr 2 [(8,.int .i64 ((j:Int))),(9,.int .i64 (((j+1:Nat):Int)))]
      ⟨ym r5,Cp r6 (fun _=>DL (by rw[Bc (by omega) (by omega)];omega)),AKW⟩ fun a17 w17 g17 De=>?_
     have TJ:=AA g16 g17
     refine AR (v:=.int .i64 (((j+1:Nat):Int))) De r6 fun a18 CQ=>?_
     refine AE ?_
     replace AH:=AC TJ AH
     replace AG:=AC TJ AG
     replace HG:=AA HG TJ
     exact⟨⟨j+1,by omega,fun i hi=>by
       by_cases h:i=j
       · subst h;rw[hxa,hyb,hab]
       · exact heq i (by omega),⟨CQ.1,CQ.2.1,CQ.2.2.1,(AL CQ).2.2.2.2.2.2.1,(AL CQ).2.2.2.2.2.2.2.1,(AL (AL CQ)).1,(AL (AL CQ)).2.1,AKW⟩,HG,AH,AG⟩,by rw[show _=_ from CQ.2.2.1,show _=_ from sv9.2.2.1];simp[intOf];omega⟩
   · refine DU Cq [(10,.int .i64 ((j:Int))),(11,pk CP j),(12,.int .u8 ((a:Int))),(13,.int .i64 ((j:Int))),(14,pk BO j),(15,.int .u8 ((b:Int))),(16,.bool true)]
      ⟨ym r5,BH rq8 (fun w=>Hc hj w),Bg r6 (fun _ g=>AY (N3 (a:Int)) (by simpa using FH (o:=0) (Aj (AF g AH (by simp))) hxa)),ym r5,BH rq8 (fun w=>Hc hj w),Bg r6 (fun _ g=>AY (N3 (b:Int)) (by simpa using FH (o:=0) (Aj (AF g AG (by simp))) hyb)),FG r7 (fun _=>Db (by simpa using fun e=>hab (by omega))),AKW⟩ fun a19 w19 g19 Cs=>?_
     refine k15 _ _ ?_
     refine Ar Cs rfl rfl ?_
     refine AKQ fun K20 k20=>?_
     replace AH:=AC g19 AH
     replace AG:=AC g19 AG
     refine DU Cs [(17,.int .i64 ((j:Int))),(18,pk CP j),(19,.int .u8 ((a:Int))),(20,.int .i64 ((j:Int))),(21,pk BO j),(22,.int .u8 ((b:Int))),(23,.bool (decide (a<b))),(4,.bool (decide (a<b)))]
      ⟨ym r5,BH rq8 (fun w=>Hc hj w),Bg r6 (fun _ g=>AY (N3 (a:Int)) (by simpa using FH (o:=0) (Aj (AF g AH (by simp))) hxa)),ym r5,BH rq8 (fun w=>Hc hj w),Bg r6 (fun _ g=>AY (N3 (b:Int)) (by simpa using FH (o:=0) (Aj (AF g AG (by simp))) hyb)),FG r7 (fun _=>BJ (by simp)),GV 23 4 (.inr rfl) rfl rfl trivial (fun _ _ h=>h),AKW⟩ fun a21 w21 g21 CK=>?_
     refine k20 _ _ ?_
     replace HG:=AA (AA HG g19) g21
     refine AKT ?_
     repeat refine AK ?_
     refine r14 _ _ ?_
     repeat refine AK ?_
     refine r8 _ _ ?_
     repeat refine AK ?_
     refine Aw (fn:=Tryz.f86) CK (BC (p:=4) Tryz.results86 CK rfl rfl) ?_
     exact⟨congrArg (fun b=>Ending.returned (.bool b)) (ADE heq hxa hyb hab).symm,HG⟩
 · have hje:j=32:=by omega
   refine AKP ?_
   refine AJ sv9 2 [(6,.int .i64 ((j:Int))),(7,.bool false)]
     ⟨ym r5,Cp r6 (fun _=>BJ (by simp;omega)),AKW⟩ fun a22 w22 g22 Bu=>?_
   refine AE ?_
   refine k11 _ _ ?_
   refine A2 Bu rfl rfl ?_
   refine wp_exit ?_
   repeat refine CT ?_
   refine x8 _ _ ?_
   refine k5 _ _ ?_
   refine AKQ fun K23 k23=>?_
   refine AKP ?_
   refine AR (v:=.bool false) Bu r6 fun a24 Du=>?_
   refine AE ?_
   refine k23 _ _ ?_
   replace HG:=AA HG g22
   refine AKT ?_
   repeat refine AK ?_
   refine Aw (fn:=Tryz.f86) Du (BC (p:=4) Tryz.results86 Du rfl rfl) ?_
   exact⟨congrArg (fun b=>Ending.returned (.bool b)) (ADF hx.1 hy.1 (hje▸heq)).symm,HG⟩
theorem ABX {x:Int} (h1:0≤x) (h2:x<18446744073709551616):IntKind.u64.wrap x=x:=by rw[IntKind.wrap_u64];omega
theorem AFZ {P:Program} {a c:Int} {t:TypeId} {x y:Operand} {w:World} (h:a/2=c):(do eqGuard .shr t x y (.int .u64 a) (.int .u64 1);binOp .shr t (.int .u64 a) (.int .u64 1):Sem Value).run P w=.ok (.int .u64 c) w:=by
 subst h
 have:min 1 IntKind.u64.bits=1:=by decide
 simp[eqGuard,binOp_shr,shift_shr_any,this]
theorem ADG {a b:Int} {p q:Bool} (h1:a=b) (h2:p=q):Ending.returned (.tuple #[.int .i64 a,.bool p])=Ending.returned (.tuple #[.int .i64 b,.bool q]):=by rw[h1,h2]
theorem AHS {ks:List VK} {o:List Nat} {i:Nat} (hp:pos (ks.map VK.p) o=i) (hi:i<ks.length) {x:VK} (hx:ks[i]=x):decide (x.o=o)=LO (ks.map VK.p) o:=by
 unfold LO
 rw[hp,PF hi,hx]
 simp[hi]
theorem AFa {ks:List VK} {o:List Nat} (h:¬pos (ks.map VK.p) o<ks.length):false=LO (ks.map VK.p) o:=by
 unfold LO
 simp at h ⊢
 omega
theorem TK (ks:List VK) (ao:Option Addr) (cap:Nat) (o:List Nat) (ho:Dg o) (w:World) (hr:RdK w (.slice ao ks.length cap) ks) (hs:Srt (ks.map VK.p)) (h64:ks.length≤64) :
   Calls Tryz.prog 113 #[.slice ao ks.length cap,AQ o,.func (.func 96) #[] #[]] w fun e w'=>e=.returned (.tuple #[.int .i64 (pos (ks.map VK.p) o),.bool (LO (ks.map VK.p) o)])∧w.grownBy w' none:=by
 have hlen:=hr.len
 have hmap:(ks.map VK.p).length=ks.length:=List.length_map _
 refine BV Tryz.func113 rfl Tryz.ntmps113 rfl fun a0 sv0=>?_
 have HG:=World.grownBy.refl w none
 replace sv0:Sv 49 [] [(0,.slice ao ks.length cap),(1,AQ o),(2,.func (.func 96) #[] #[])] a0:=sv0
 refine AKQ fun K1 k1=>?_
 refine AKP ?_
 refine Be sv0 r6 (Bb o ho.1) fun a2 w2 JI GY g2 z2 BG sv2=>?_
 refine AR (v:=.int .i64 0) sv2 r6 fun a3 sv3=>?_
 refine AR (v:=.bool false) sv3 r6 fun a4 sv4=>?_
 refine AE ?_
 refine k1 _ _ ?_
 refine AKQ fun K5 k5=>?_
 refine AKP ?_
 refine AJ sv4 2 [(12,.slice ao ks.length cap),(13,.int .i64 ((ks.length:Nat)))]
   ⟨ym r5,Au (Tryz.underlying34) rfl rfl trivial (oy rfl rfl) (fun _=>rfl),AKW⟩ fun a6 w6 g6 sv6=>?_
 refine AR (v:=.int .i64 ((ks.length:Nat))) sv6 r6 fun a7 sv7=>?_
 refine AE ?_
 refine k5 _ _ ?_
 refine AKQ fun K8 k8=>?_
 refine AKP ?_
 refine AJ sv7 1 [(14,.int .i64 ((ks.length:Nat)))]
   ⟨ym r5,AKW⟩ fun a9 w9 g9 sv9=>?_
 have gc9:=AA g6 g9
 refine AR (v:=.int .i64 0) sv9 r6 fun a10 BF=>?_
 refine AR (v:=.int .i64 ((ks.length:Nat))) BF r6 fun a11 Bv=>?_
 refine AE ?_
 refine k8 _ _ ?_
 refine AKQ fun K12 k12=>?_
 refine BI fun Q13 x13 y13 r13 o13=>?_
 replace BG:=AC gc9 BG
 replace hr:=(hr.kn g2).kn gc9
 replace HG:=AA (AA HG g2) gc9
 refine wp_loop (fun a w'=>∃(i:Nat) (j:Nat),(i≤j)∧(j≤ks.length)∧(∀k,k<i→E6 (od (ks.map VK.p) k) o=true)∧(∀k,j≤k→k<ks.length→E6 (od (ks.map VK.p) k) o=false)∧Sv 49 [] [(9,.int .i64 ((i:Int))),(10,.int .i64 ((j:Int))),(14,.int .i64 ((ks.length:Nat))),(8,.int .i64 ((ks.length:Nat))),(12,.slice ao ks.length cap),(13,.int .i64 ((ks.length:Nat))),(7,.bool false),(6,.int .i64 0),(4,pt JI),(0,.slice ao ks.length cap),(1,AQ o),(2,.func (.func 96) #[] #[])] a∧w.grownBy w' none∧w'.heap[JI]?=some (.cells (bv o).toArray 23 (0,0))∧RdK w' (.slice ao ks.length cap) ks) (fun a _=>(intOf (a.tmps.getD 10 undef)-intOf (a.tmps.getD 9 undef)).toNat) ⟨0,ks.length,Nat.zero_le _,Nat.le_refl _,fun k hk=>by omega,fun k h1 h2=>by omega,⟨Bv.1,Bv.2.1,Bv.2.2.2.1,Bv.2.2.1,Bv.2.2.2.2.1,Bv.2.2.2.2.2.1,Bv.2.2.2.2.2.2.1,Bv.2.2.2.2.2.2.2.1,(AL Bv).1,(AL Bv).2.1,(AL Bv).2.2.1,(AL Bv).2.2.2.1,(AL Bv).2.2.2.2.1,(AL Bv).2.2.2.2.2.1,AKW⟩,HG,BG,hr⟩ fun a14 w14 hI14=>?_
 clear BG
 clear hr
 clear HG
 obtain⟨i,j,hij,hjn,hb,ha,C6,HG,BG,hr⟩:=hI14
 refine AKQ fun K15 k15=>?_
 refine AKQ fun K16 k16=>?_
 by_cases hlt:i<j
 · obtain⟨m,hm⟩:∃m,m=(i+j)/2:=⟨_,rfl⟩
   have hmi:i≤m∧m<j∧m<ks.length:=by omega
   have hm3:=hmi.2.2
   obtain⟨x,hx_x⟩:∃x,ks[m]'hm3=x:=⟨_,rfl⟩
   have hod:od (ks.map VK.p) m=x.o:=by rw[PF hm3,hx_x]
   refine AKP ?_
   refine AJ C6 3 [(15,.int .i64 ((i:Int))),(16,.int .i64 ((j:Int))),(17,.bool true)]
     ⟨ym r5,ym r5,FG r7 (fun _=>BJ (by simp;omega)),AKW⟩ fun a17 w17 g17 De=>?_
   refine AE ?_
   refine k16 _ _ ?_
   refine Ar De rfl rfl ?_
   refine AKU ?_
   refine k15 _ _ ?_
   refine BI fun Q18 x18 y18 r18 o18=>?_
   refine AKQ fun K19 k19=>?_
   refine AKP ?_
   refine AJ De 6 [(18,.int .i64 ((i:Int))),(19,.int .i64 ((j:Int))),(20,.int .i64 (((i+j:Nat):Int))),(21,.int .u64 (((i+j:Nat):Int))),(22,.int .u64 ((m:Int))),(23,.int .i64 ((m:Int)))]
     ⟨ym r5,ym r5,FG r7 (fun _=>DL (by rw[Bc (by omega) (by omega)];omega)),AAR r6 (fun _=>AAX Tryz.underlying3 Tryz.underlying48 (ABX (by omega) (by omega))),Cp r6 (fun _=>AFZ (by omega)),AAR r6 (fun _=>AAX Tryz.underlying48 Tryz.underlying3 (Bc (by omega) (by omega))),AKW⟩ fun a20 w20 g20 DH=>?_
   have PG:=AA g17 g20
   refine AR (v:=.int .i64 ((m:Int))) DH r6 fun a21 CK=>?_
   have Bu:Sv _ _ [_,_,_,_,_,_,_,_,_,_,_,_,_,_,_,_] _:=CK.dl [18,19,20,21,22,23]
   refine AE ?_
   refine k19 _ _ ?_
   refine AKQ fun K23 k23=>?_
   replace BG:=AC PG BG
   replace hr:=hr.kn PG
   replace HG:=AA HG PG
   by_cases hc:E6 x.o o=true
   · refine DU Bu [(24,.func (.func 96) #[] #[]),(25,.slice ao ks.length cap),(26,.int .i64 ((m:Int))),(27,pk ((bO ao)) (oO ao+m*33)),(28,IB x),(29,AQ o),(30,.int .i64 ((Gn x.o o))),(31,.bool true)]
      ⟨ym r5,ym r5,ym r5,BH rq8 (fun w=>CU Tryz.underlying34 (by kernel_rfl) (hr.1.1) (by omega) (rfl) w),Bg r6 (fun _ g=>AY (Yx x) (RdK.keyX (hr.kn g) rfl hm3 hx_x)),yl r6 (Bb o ho.1) BG,PB (Sp.is (.int .i64 ((Gn x.o o)))) [IB x,AQ o] rfl rfl trivial (oy rfl rfl) ⟨(oy rfl rfl),(oy rfl rfl),AKW⟩ (A7 fun W g=>GH x o ho W) (fun _ _ h=>h) (Gf Tryz.func96 (by kernel_rfl) rfl),Cp r6 (fun _=>BJ (by rw[TL,hc])),AKW⟩ fun a24 w24 g24 Du=>?_
     refine k23 _ _ ?_
     refine Ar Du rfl rfl ?_
     refine AKP ?_
     refine AJ Du 2 [(32,.int .i64 ((m:Int))),(33,.int .i64 (((m+1:Nat):Int)))]
      ⟨ym r5,Cp r6 (fun _=>DL (by rw[Bc (by omega) (by omega)];omega)),AKW⟩ fun a25 w25 g25 Bz=>?_
     have KQ:=AA g24 g25
     refine AR (v:=.int .i64 (((m+1:Nat):Int))) Bz r6 fun a26 Cy=>?_
     refine AE ?_
     refine y18 _ _ ?_
     replace BG:=AC KQ BG
     replace hr:=hr.kn KQ
     replace HG:=AA HG KQ
     exact⟨⟨m+1,j,by omega,by omega,fun k hk=>if e:k=m then (by rw[e,hod,hc]) else JJ (hs.lt (i:=k) (j:=m) (by omega) (by rw[hmap];omega)) (hod.symm▸hc),ha,⟨Cy.1,Cy.2.1,Cy.2.2.1,(AL (AL Cy)).2.1,(AL (AL Cy)).2.2.1,(AL (AL Cy)).2.2.2.1,(AL (AL Cy)).2.2.2.2.1,(AL (AL Cy)).2.2.2.2.2.1,(AL (AL Cy)).2.2.2.2.2.2.1,(AL (AL Cy)).2.2.2.2.2.2.2.1,(AL (AL (AL Cy))).1,(AL (AL (AL Cy))).2.1,(AL (AL (AL Cy))).2.2.1,(AL (AL (AL Cy))).2.2.2.1,AKW⟩,HG,BG,hr⟩,by rw[show _=_ from Cy.2.2.1,show _=_ from(AL (AL Cy)).2.1,show _=_ from C6.2.2.1,show _=_ from C6.2.2.2.1];simp[intOf];omega⟩
   · refine DU Bu [(24,.func (.func 96) #[] #[]),(25,.slice ao ks.length cap),(26,.int .i64 ((m:Int))),(27,pk ((bO ao)) (oO ao+m*33)),(28,IB x),(29,AQ o),(30,.int .i64 ((Gn x.o o))),(31,.bool false)]
      ⟨ym r5,ym r5,ym r5,BH rq8 (fun w=>CU Tryz.underlying34 (by kernel_rfl) (hr.1.1) (by omega) (rfl) w),Bg r6 (fun _ g=>AY (Yx x) (RdK.keyX (hr.kn g) rfl hm3 hx_x)),yl r6 (Bb o ho.1) BG,PB (Sp.is (.int .i64 ((Gn x.o o)))) [IB x,AQ o] rfl rfl trivial (oy rfl rfl) ⟨(oy rfl rfl),(oy rfl rfl),AKW⟩ (A7 fun W g=>GH x o ho W) (fun _ _ h=>h) (Gf Tryz.func96 (by kernel_rfl) rfl),Cp r6 (fun _=>BJ (by rw[TL];simpa using hc)),AKW⟩ fun a27 w27 g27 F6=>?_
     refine k23 _ _ ?_
     refine A2 F6 rfl rfl ?_
     refine AKP ?_
     refine AJ F6 1 [(34,.int .i64 ((m:Int)))]
      ⟨ym r5,AKW⟩ fun a28 w28 g28 GI=>?_
     have EW:=AA g27 g28
     refine AR (v:=.int .i64 ((m:Int))) GI r6 fun a29 CY=>?_
     refine AE ?_
     refine y18 _ _ ?_
     replace BG:=AC EW BG
     replace hr:=hr.kn EW
     replace HG:=AA HG EW
     exact⟨⟨i,m,by omega,by omega,hb,fun k h1 h2=>if e:k=m then (by rw[e,hod];simpa using hc) else Bool.eq_false_iff.2 fun hh=>hc (hod▸JJ (hs.lt (i:=m) (j:=k) (by omega) (by rw[hmap];omega)) hh),⟨CY.1,CY.2.1,(AL (AL CY)).1,CY.2.2.1,(AL (AL CY)).2.1,(AL (AL CY)).2.2.1,(AL (AL CY)).2.2.2.1,(AL (AL CY)).2.2.2.2.1,(AL (AL CY)).2.2.2.2.2.1,(AL (AL CY)).2.2.2.2.2.2.1,(AL (AL CY)).2.2.2.2.2.2.2.1,(AL (AL (AL CY))).1,(AL (AL (AL CY))).2.1,(AL (AL (AL CY))).2.2.1,AKW⟩,HG,BG,hr⟩,by rw[show _=_ from(AL (AL CY)).1,show _=_ from CY.2.2.1,show _=_ from C6.2.2.1,show _=_ from C6.2.2.2.1];simp[intOf];omega⟩
 · have hie:i=j:=by omega
   have hpos:pos (ks.map VK.p) o=i:=Vq (by omega) hb fun h=>ha i (by omega) (by omega)
   refine AKP ?_
   refine AJ C6 3 [(15,.int .i64 ((i:Int))),(16,.int .i64 ((j:Int))),(17,.bool false)]
     ⟨ym r5,ym r5,FG r7 (fun _=>BJ (by simp;omega)),AKW⟩ fun a30 w30 g30 Dl=>?_
   refine AE ?_
   refine k16 _ _ ?_
   refine A2 Dl rfl rfl ?_
   refine wp_exit ?_
   repeat refine CT ?_
   refine x13 _ _ ?_
   refine k12 _ _ ?_
   refine AKQ fun K31 k31=>?_
   replace BG:=AC g30 BG
   replace hr:=hr.kn g30
   replace HG:=AA HG g30
   by_cases hin:i<ks.length
   · obtain⟨y,hx_y⟩:∃x,ks[i]'hin=x:=⟨_,rfl⟩
     refine DU (Dl.dl [7,6]) [(35,.int .i64 ((i:Int))),(36,.int .i64 ((i:Int))),(37,.int .i64 ((ks.length:Nat))),(38,.bool true),(39,.bool true),(40,.func (.func 96) #[] #[]),(41,.slice ao ks.length cap),(42,.int .i64 ((i:Int))),(43,pk ((bO ao)) (oO ao+i*33)),(44,IB y),(45,AQ o),(46,.int .i64 ((Gn y.o o))),(47,.bool (decide (y.o=o))),(48,.bool (decide (y.o=o))),(6,.int .i64 ((i:Int))),(7,.bool (decide (y.o=o)))]
      ⟨ym r5,ym r5,ym r5,FG r7 (fun _=>BJ (by simp;omega)),ym r5,Ad rq8,Ad rq8,Ad rq8,Dj rfl rfl (gy rfl rfl rfl) (oy rfl rfl) (oy rfl rfl) (fun w=>CU Tryz.underlying34 (by kernel_rfl) (hr.1.1) (by omega) (rfl) w) (fun _=>rfl),Ai rq9 (fun _ g=>AY (Yx y) (RdK.keyX (hr.kn g) rfl hin hx_y)),Ai rq9 (fun _ g=>AY (Bb o ho.1) (Aj (AF g BG (by simp)))),PB (Sp.is (.int .i64 ((Gn y.o o)))) [IB y,AQ o] rfl rfl (gy rfl rfl rfl) (oy rfl rfl) ⟨(oy rfl rfl),(oy rfl rfl),AKW⟩ (A7 fun W g=>GH y o ho W) (fun _ _ h=>h) (Gf Tryz.func96 (by kernel_rfl) rfl),Af rq9 (fun _=>BU AFb),Aa rq9,GV 35 6 (.inr rfl) rfl rfl trivial (fun _ _ h=>h),GV 48 7 (.inr rfl) rfl rfl trivial (fun _ _ h=>h),AKW⟩ fun a32 w32 g32 Dm=>?_
     refine k31 _ _ ?_
     replace HG:=AA HG g32
     refine AKT ?_
     repeat refine AK ?_
     refine Aw (fn:=Tryz.f113) Dm (Mb (p:=6) (q:=7) Tryz.results113 Dm rfl rfl rfl rfl) ?_
     exact⟨ADG (by rw[hpos]) (AHS hpos hin hx_y),HG⟩
   · refine DU (Dl.dl [7,6]) [(35,.int .i64 ((i:Int))),(36,.int .i64 ((i:Int))),(37,.int .i64 ((ks.length:Nat))),(38,.bool false),(39,.bool false),(40,undef),(41,undef),(42,undef),(43,undef),(44,undef),(45,undef),(46,undef),(47,undef),(48,.bool false),(6,.int .i64 ((i:Int))),(7,.bool false)]
      ⟨ym r5,ym r5,ym r5,FG r7 (fun _=>BJ (by simp;omega)),ym r5,AN r6,AN r6,AN r6,AN r6,AN r6,AN r6,AN r6,AN r6,A1 r7,GV 35 6 (.inr rfl) rfl rfl trivial (fun _ _ h=>h),GV 48 7 (.inr rfl) rfl rfl trivial (fun _ _ h=>h),AKW⟩ fun a33 w33 g33 Eu=>?_
     refine k31 _ _ ?_
     replace HG:=AA HG g33
     refine AKT ?_
     repeat refine AK ?_
     refine Aw (fn:=Tryz.f113) Eu (Mb (p:=6) (q:=7) Tryz.results113 Eu rfl rfl rfl rfl) ?_
     exact⟨ADG (by rw[hpos]) (AFa (by rw[hpos];exact hin)),HG⟩
end Go.Proofs.YtbfjfnbcmojpiaaGreat
