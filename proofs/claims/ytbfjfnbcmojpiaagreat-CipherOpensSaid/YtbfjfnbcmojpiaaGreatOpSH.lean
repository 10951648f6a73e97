import Derived.Test.YtbfjfnbcmojpiaaGreatOpV4
import Derived.Lib.AppendZerosOnto
import Derived.Lib.SliceRun
import Derived.Laws.Externs
import Derived.Laws.IdiomCopy
import Derived.Deep.RegionLaw
import Derived.Test.YtbfjfnbcmojpiaaGreatOpSG
import Derived.Laws.MakeOwn
import Derived.Lib.LazyBuf
set_option linter.unusedSimpArgs false
set_option linter.unusedVariables false
set_option maxRecDepth 100000
set_option maxHeartbeats 4000000
namespace Go.Proofs.YtbfjfnbcmojpiaaGreat
open Go.RowKit
def zK:Value:=.agg ([bv AS,[.slice none 0 0]].flatten).toArray
theorem ADJ:zK.cells.size=33:=rfl
theorem ADK:ET Tryz.prog 34 58 zK 33 56:=⟨Tryz.underlying34,info_parts (by kernel_rfl),rfl,by decide,by decide⟩
theorem Jg (l:List VK):(l.flatMap Ax).length=l.length*33:=HU Dc l
theorem Own.blk {w:World} {e:TypeId} {sz g n cap:Nat} {xs:List Value} (h:Own w e sz (.slice (some ⟨g,0,none⟩) n cap) n xs):∃C:List Value,w.heap[g]?=some (.cells C.toArray e (0,0))∧n≤cap∧cap≤maxLen∧C.length=cap*sz∧C.take (n*sz)=xs:=by
 obtain⟨hl,h2⟩:=h
 rcases h2 with ⟨h3,_⟩|⟨g',cap',cur,h3,hb,hg,hnc,hcm,hcs,ht⟩
 · cases h3
 · simp only[Value.slice.injEq,Option.some.injEq,Addr.mk.injEq,and_true] at h3
   obtain⟨rfl,_,rfl⟩:=h3
   exact⟨cur.toList,by simpa using hg,hnc,hcm,by simpa using hcs,ht⟩
theorem Own.mk' {w:World} {e:TypeId} {sz g n cap:Nat} {xs C:List Value} (h1:w.heap[g]?=some (.cells C.toArray e (0,0))) (h2:n≤cap) (h3:cap≤maxLen) (h4:C.length=cap*sz) (h5:C.take (n*sz)=xs):Own w e sz (.slice (some ⟨g,0,none⟩) n cap) n xs:=by
 have hm:n*sz≤cap*sz:=Nat.mul_le_mul_right _ h2
 exact⟨by rw[←h5,List.length_take];omega,.inr ⟨g,cap,C.toArray,rfl,Nat.zero_le _,h1,h2,h3,by simpa using h4,by simpa using h5⟩⟩
theorem Yz {P:Program} (w:World) (dT sT ty elem:TypeId) (size:Nat) (b o dLen dCap:Nat) (a:Addr) (sLen sCap:Nat) (cs:List Value)
  (hu:P.underlying dT=some (.slice elem)) (hs:(P.info? elem).map (·.size)=some size) (hn:cs.length=Nat.min sLen dLen*size)
  (hsrc:∀j v,cs[j]?=some v→w.cell? (a.add j)=some v) (hc:∀j,j<cs.length→(w.cell? ⟨b,o+j,none⟩).isSome=true) (hf:∀j,j<cs.length→w.frozen? ⟨b,o+j,none⟩=false) (h1:∀v∈cs,v.oneCell'=true) :
  (Builtin.copy_ #[dT,sT] ty #[.slice (some ⟨b,o,none⟩) dLen dCap,.slice (some a) sLen sCap]).run P w=.ok (goInt (Nat.min sLen dLen)) (w.setCells b o cs):=by
 have hl:=run_loadCells_list (P:=P) w a cs hsrc
 have hst:=run_storeCells_cells (P:=P) b o cs 0 w (by simpa using hc) (by simpa using hf) h1
 cases hq:P.info? elem with
 | none=>simp[hq] at hs
 | some i =>
  have hi:i.size=size:=by simpa [hq] using hs
  simp only[Nat.add_zero] at hst
  rw[hn] at hl
  simp[Builtin.copy_,run_underlying hu,Builtin.lenOf,Builtin.firstCells,sizeOf,typeInfo,hq,hi,hl,hst]
theorem SM {P:Program} (w:World) (dT sT ty elem:TypeId) (size:Nat) (g o dLen dCap:Nat) (a:Addr) (sLen sCap:Nat) (cs C:List Value)
  (hu:P.underlying dT=some (.slice elem)) (hs:(P.info? elem).map (·.size)=some size) (hn:cs.length=Nat.min sLen dLen*size)
  (hsrc:∀j v,cs[j]?=some v→w.cell? (a.add j)=some v) (hb:w.heap[g]?=some (.cells C.toArray elem (0,0))) (hfit:o+cs.length≤C.length) (h1:∀v∈cs,v.oneCell'=true) :
  ∃w',(Builtin.copy_ #[dT,sT] ty #[.slice (some ⟨g,o,none⟩) dLen dCap,.slice (some a) sLen sCap]).run P w=.ok (goInt (Nat.min sLen dLen)) w'∧w.grownBy w' (some g)∧w'.heap[g]?=some (.cells (C.take o++(cs++C.drop (o+cs.length))).toArray elem (0,0)):=by
 refine⟨_,Yz w dT sT ty elem size g o dLen dCap a sLen sCap cs hu hs hn hsrc (fun j hj=>?_) (fun j hj=>AKV w g _ _ elem hb) h1,DJ _ _ _ _,JR C o cs hb hfit⟩
 rw[Kw hb,List.getElem?_eq_getElem (by omega)]
 rfl
theorem KS {P:Program} {w:World} {ops:Array Oper} {rest:List Oper} {o:Oper} {a:Act} {Q:Exit→Act→World→Prop} (hgd:o.guard=none) (s x:Operand) (t t':TypeId)
  (ho:o.op=.call { callee:=.builtin .append,args:=#[s,x],argTypes:=#[t,t'] }) (v u:Value) (hs:a.eval s=v) (hx:a.eval x=u) {v':Value} {w':World}
  (hr:(Builtin.append_ #[t,t'] o.type #[v,u]).run P w=.ok v' w') (h:wpList P ops Q rest (a.put o.dst v') w'):wpList P ops Q (o::rest) a w:=by
 refine wpList_plain hgd fun K hK=>?_
 unfold Oper.wp execOp
 simp only[ho,resolve,invoke,builtin,Sem.run_bind,Sem.run_pure,Result.andThen_ok,List.map_toArray,List.map_cons,List.map_nil,hs,hx,hr]
 exact hK _ _ h
theorem AHU {w:World} {V:Nat} {x:VK} (h:w.heap[V]?=some (.cells (Ax x).toArray 58 (0,0))):Sl w 33 (.slice (some ⟨V,0,none⟩) 1 1) 1 (Ax x):=
 ⟨by rw[Dc],some ⟨V,0,none⟩,1,rfl,Nat.le_refl _,by unfold maxLen;omega,fun h=>(by cases h),fun a ha=>by
  obtain rfl:=Option.some.inj ha
  refine⟨fun _=>rfl,fun j u hu=>?_⟩
  rw[Nat.zero_add,Kw h]
  exact hu⟩
theorem ADL (l:List VK):∀v∈l.flatMap Ax,v.oneCell'=true:=List.all_eq_true.1 (Yw l)
theorem ABZ (l:List VK) (i:Nat) (hi:i≤l.length):(l.take i).flatMap Ax=(l.flatMap Ax).take (i*33):=by
 have e:l.flatMap Ax=(l.take i).flatMap Ax++(l.drop i).flatMap Ax:=by rw[←List.flatMap_append,List.take_append_drop]
 rw[e,List.take_left' (by rw[Jg,List.length_take];omega)]
theorem ABa (l:List VK) (i:Nat) (hi:i≤l.length):(l.drop i).flatMap Ax=(l.flatMap Ax).drop (i*33):=by
 have e:l.flatMap Ax=(l.take i).flatMap Ax++(l.drop i).flatMap Ax:=by rw[←List.flatMap_append,List.take_append_drop]
 rw[e,List.drop_left' (by rw[Jg,List.length_take];omega)]
theorem AHV {α:Type} (C X Y:List α) (a:Nat) (hC:a+X.length+Y.length≤C.length) :
  ((C.take a++(X++C.drop (a+X.length))).take (a+X.length)++(Y++(C.take a++(X++C.drop (a+X.length))).drop (a+X.length+Y.length))).take (a+X.length+Y.length)=C.take a++(X++Y):=by
 have h1:(C.take a).length=a:=by rw[List.length_take];omega
 have h2:(C.take a++(X++C.drop (a+X.length))).take (a+X.length)=C.take a++X:=by
  rw[←List.append_assoc,List.take_left' (by rw[List.length_append,h1])]
 rw[h2,←List.append_assoc,List.take_left' (by simp only[List.length_append,h1]),List.append_assoc]
theorem ABb (l:List VK) (x:VK) (i:Nat) (hi:i≤l.length):(l.take i++x::l.drop i).flatMap Ax=(l.flatMap Ax).take (i*33)++(Ax x++(l.flatMap Ax).drop (i*33)):=by
 rw[List.flatMap_append,List.flatMap_cons,ABZ l i hi,ABa l i hi]
theorem TO {P:Program} {t e:TypeId} {z:Value} {size bytes:Nat} (E:ET P t e z size bytes) (ty:TypeId) {w:World} {A n0:Nat} {xs:List Value} (hown:Own w e size (.slice (some ⟨A,0,none⟩) n0 n0) n0 xs)
  {sv:Value} {m:Nat} {news:List Value} (hs:Sl w size sv m news) (h1:news.all Value.oneCell'=true) (hm:0<m) (h63:n0+m≤1000000000) :
  ∃v' w',(Builtin.append_ #[t,t] ty #[.slice (some ⟨A,0,none⟩) n0 n0,sv]).run P w=.ok v' w'∧Own w' e size v' (n0+m) (xs++news)∧w.grownBy w' none∧∀k,Ba v' k→w.heap.size≤k:=by
 obtain⟨i,hi,hz,rfl,hby⟩:=E.inf
 have hb:=E.bnd
 obtain⟨v',w',hr,hown',hst⟩:=Sc E ty hown hs h1 (by omega)
 have hold:=(Sl.of_own hown)
 obtain⟨hlo,ao0,cap0,e0,_,_,_,hc0⟩:=hold
 simp only[Value.slice.injEq,true_and] at e0
 obtain⟨rfl,rfl⟩:=e0
 obtain⟨hl,ao,cap,rfl,hm1,hm2,h3,h4⟩:=hs
 cases ao with
 | none=>have:=h3 rfl;omega
 | some ad =>
  obtain⟨b,off,spot⟩:=ad
  obtain⟨hsp,hc⟩:=h4 _ rfl
  have hsp:=hsp hm
  simp at hsp
  subst hsp
  have hbytes:(n0+m)*bytes≤140737488355328:=by
   have:(n0+m)*bytes≤1000000000*128:=Nat.mul_le_mul h63 hb
   omega
  have hr2:=run_append_grow (P:=P) w t ty e i z E.und hi hz ⟨A,0,none⟩ n0 n0 xs hlo (fun j u hj=>by rw[Addr.add_lit];exact(hc0 _ rfl).2 j u hj) ⟨b,off,none⟩ m cap news hl (fun j u hj=>by rw[Addr.add_lit];exact hc j u hj) (by omega) (by omega) (growslice_fits (by omega) (by subst hby;exact hbytes))
  have hr3:=hr2
  rw[hr] at hr2
  simp only[Result.ok.injEq] at hr2
  obtain⟨rfl,rfl⟩:=hr2
  exact⟨_,_,hr3,hown',AA (CZ w) (World.grownBy_alloc _ _ _),fun k hk=>by simp[Ba,Value.ownBlock] at hk;omega⟩
theorem N7 (l:List VK) (x:VK) (g V:Nat) (w:World) (hown:Own w 58 33 (.slice (some ⟨g,0,none⟩) l.length l.length) l.length (l.flatMap Ax)) (hv:w.heap[V]?=some (.cells (Ax x).toArray 58 (0,0))) (hn:l.length≤1000000) :
  Calls Tryz.prog 83 #[.slice (some ⟨g,0,none⟩) l.length l.length,.int .i64 (l.length:Nat),.slice (some ⟨V,0,none⟩) 1 1] w fun e w'=>∃v',e=.returned v'∧Own w' 58 33 v' (l.length+1) ((l++[x]).flatMap Ax)∧w.grownBy w' none∧∀k,Ba v' k→w.heap.size≤k:=by
 have hx:=AHU hv
 have hflat:(l++[x]).flatMap Ax=l.flatMap Ax++Ax x:=by simp
 obtain⟨v5,w5,hr,ho,hg,hf⟩:=TO ADK 34 hown hx (List.all_eq_true.2 (Jc x)) (by omega) (by omega)
 have HF:=AI hflat
 have HR:=AI hr
 have HO:=AI ho
 have HG:=AI hg
 have HX:=AI hf
 have z1:(0:Int)≤(l.length:Int):=by omega
 clear hx hown hv hflat hr ho hg hf
 go_enter Tryz.func83,Tryz.ntmps83
 go_wp2_with (first|(at_builtin;refine KS rfl (.tmp 23) (.tmp 24) 34 34 rfl _ _ rfl rfl HR.out ?_)|(refine KS rfl (.tmp 23) (.tmp 24) 34 34 rfl _ _ rfl rfl HR.out ?_)|fail)
 go_ret
 exact⟨_,rfl,by rw[HF.out];exact HO.out,HG.out,HX.out⟩
theorem NF (l:List VK) (x:VK) (i g cap V:Nat) (w:World) (hown:Own w 58 33 (.slice (some ⟨g,0,none⟩) l.length cap) l.length (l.flatMap Ax)) (hv:w.heap[V]?=some (.cells (Ax x).toArray 58 (0,0))) (hi:i<l.length) (hroom:cap<l.length+1) (hn:l.length≤1000000) :
  Calls Tryz.prog 83 #[.slice (some ⟨g,0,none⟩) l.length cap,.int .i64 i,.slice (some ⟨V,0,none⟩) 1 1] w fun e w'=>∃v',e=.returned v'∧Own w' 58 33 v' (l.length+1) ((l.take i++x::l.drop i).flatMap Ax)∧w.grownBy w' none∧∀k,Ba v' k→w.heap.size≤k:=by
 obtain⟨C,hb,hnc,hcm,hCl,hCt⟩:=hown.blk
 obtain rfl:cap=l.length:=by omega
 have hX4:(Ax x).length=33:=Dc x
 have hYl:((l.flatMap Ax).drop (i*33)).length=(l.length-i)*33:=by rw[List.length_drop,Jg];omega
 obtain⟨i0,hi0,hz0,hzs,hzb⟩:=ADK.inf
 have hold:(Builtin.firstCells i0.size i (.slice (some ⟨g,0,none⟩) i l.length)).run Tryz.prog w.drew=.ok ((l.flatMap Ax).take (i*33)).toArray w.drew:=by
  rw[hzs]
  exact run_firstCells_some w.drew 33 i ⟨g,0,none⟩ i l.length ((l.flatMap Ax).take (i*33)) (by rw[List.length_take,Jg];omega) (fun j v hj=>by
   rw[Addr.add_lit,Nat.zero_add]
   have h3:w.cell? ⟨g,j,none⟩=some v:=by
    have hjl:=(List.getElem?_eq_some_iff.1 hj).1
    rw[List.length_take,Jg] at hjl
    rw[List.getElem?_take,if_pos (by omega),←hCt,List.getElem?_take,if_pos (by omega)] at hj
    rw[Kw hb,hj]
   exact h3)
 have hrz:=Lib.run_append_grow_zeros w 34 3 34 58 i0 _ .i64 .i64 Tryz.underlying34 Tryz.underlying3 hi0 hz0 (some ⟨g,0,none⟩) i l.length ((l.flatMap Ax).take (i*33)) hold (l.length+1-i) (by omega) (by omega) (by omega) (by omega) (by rw[hzb];omega) (by rw[hzb,show i+(l.length+1-i)=l.length+1 by omega];exact growslice_fits (by omega) (by omega))
 rw[show i+(l.length+1-i)=l.length+1 by omega] at hrz
 have hGge:l.length+1≤grownCap w (l.length+1) l.length 58:=grownCap_ge w _ _ _
 have hGle:grownCap w (l.length+1) l.length 58≤maxLen:=grownCap_le_maxLen w _ _ _ (by unfold maxLen;omega)
 generalize hG:grownCap w (l.length+1) l.length 58=G at *
 obtain⟨R,hR⟩:∃R:List Value,R=((l.flatMap Ax).take (i*33))++(Builtin.zeroCells zK.cells (l.length+1-i)).toList++(Builtin.zeroCells zK.cells (G-(l.length+1))).toList:=⟨_,rfl⟩
 have hRa:((l.flatMap Ax).take (i*33)).toArray++Builtin.zeroCells zK.cells (l.length+1-i)++Builtin.zeroCells zK.cells (G-(l.length+1))=R.toArray:=by
  rw[hR]
  apply Array.ext'
  simp
 rw[hRa] at hrz
 have hzl:∀k,(Builtin.zeroCells zK.cells k).toList.length=k*33:=fun k=>by simp[Builtin.zeroCells,ADJ]
 have hRl:R.length=G*33:=by rw[hR,List.length_append,List.length_append,hzl,hzl,List.length_take,Jg];omega
 have hRt:R.take (i*33)=(l.flatMap Ax).take (i*33):=by rw[hR,List.append_assoc,List.take_left' (by rw[List.length_take,Jg];omega)]
 have hgw:g<w.heap.size:=(Array.getElem?_eq_some_iff.1 hb).1
 have hVw:V<w.heap.size:=(Array.getElem?_eq_some_iff.1 hv).1
 have gW:=AA (CZ w) (World.grownBy_alloc w.drew (.cells R.toArray 58) none)
 have hbN:(w.drew.alloc (.cells R.toArray 58)).heap[w.heap.size]?=some (.cells R.toArray 58 (0,0)):=Am rfl
 have hvW:=AF gW hv (by simp)
 have hbW:=AF gW hb (by simp)
 generalize w.drew.alloc (.cells R.toArray 58)=W1 at *
 obtain⟨w2,hr2,hg2,hb2⟩:=SM (P:=Tryz.prog) W1 34 34 3 58 33 w.heap.size (i*33) (l.length+1-i) (G-i) ⟨V,0,none⟩ 1 1 (Ax x) R Tryz.underlying34 (by kernel_rfl)
  (by rw[hX4,show Nat.min 1 (l.length+1-i)=1 by simp[Nat.min_def];omega])
  (fun j v hj=>by rw[Addr.add_lit,Nat.zero_add,Kw hvW];exact hj) hbN (by rw[hX4,hRl];omega) (Jc x)
 have hb2g:=AF hg2 hbW (by simp;omega)
 obtain⟨w3,hr3,hg3,hb3⟩:=SM (P:=Tryz.prog) w2.drew 34 34 3 58 33 w.heap.size ((i+1)*33) (l.length-i) (G-(i+1)) ⟨g,i*33,none⟩ (l.length-i) (l.length-i) ((l.flatMap Ax).drop (i*33)) _ Tryz.underlying34 (by kernel_rfl)
  (by rw[hYl,show Nat.min (l.length-i) (l.length-i)=l.length-i by simp[Nat.min_def]])
  (fun j v hj=>by
   rw[Addr.add_lit]
   have h3:w2.cell? ⟨g,i*33+j,none⟩=some v:=by
    have hjl:=(List.getElem?_eq_some_iff.1 hj).1
    rw[hYl] at hjl
    rw[List.getElem?_drop,←hCt,List.getElem?_take,if_pos (by omega)] at hj
    rw[Kw hb2g,hj]
   exact h3) hb2 (by simp only[List.length_append,List.length_take,List.length_drop,hX4,hYl,hRl];omega) (fun v hv=>ADL l v (List.mem_of_mem_drop hv))
 have e1:Nat.min (l.length-i) (l.length-i)=l.length-i:=by simp[Nat.min_def]
 have e2:Nat.min 1 (l.length+1-i)=1:=by simp[Nat.min_def];omega
 rw[e1] at hr3
 rw[e2] at hr2
 have ho:Own w3 58 33 (.slice (some ⟨w.heap.size,0,none⟩) (l.length+1) G) (l.length+1) ((l.take i++x::l.drop i).flatMap Ax):=by
  refine Own.mk' hb3 hGge hGle (by simp only[List.length_append,List.length_take,List.length_drop,hX4,hYl,hRl];omega) ?_
  rw[ABb l x i (by omega),←hRt]
  have ht:=AHV R (Ax x) ((l.flatMap Ax).drop (i*33)) (i*33) (by rw[hX4,hYl,hRl];omega)
  rw[hX4,hYl,show i*33+33+(l.length-i)*33=(l.length+1)*33 by omega] at ht
  rw[hX4,hYl,show(i+1)*33=i*33+33 by omega,show i*33+33+(l.length-i)*33=(l.length+1)*33 by omega]
  exact ht
 have hkk:(((l.length+1-i:Nat):Nat):Int)=(l.length:Int)+1-(i:Int):=by omega
 rw[hkk] at hrz
 have HRZ:=AI hrz
 have HR2:=AI hr2
 have HR3:=AI hr3
 have O3:=AI ho
 have G3:=AI (AD (AD gW hg2 (Nat.le_refl _)) (show w2.grownBy w3 (some w.heap.size) from⟨hg3.os,hg3.tape,hg3.output,hg3.size,hg3.block⟩) (Nat.le_refl _))
 have z1:(0:Int)≤(i:Int):=by omega
 have z2:(i:Int)≤(l.length:Int):=by omega
 have z3:¬((i:Int)=(l.length:Int)):=by omega
 have z4:(l.length:Int)<(l.length:Int)+1:=by omega
 have z5:¬(l.length=i):=by omega
 have z6:¬(G=i+1):=by omega
 have z7:¬(G=i):=by omega
 have z8:(i:Int)+1≤(l.length:Int)+1:=by omega
 have z9:l.length+1-(i+1)=l.length-i:=by omega
 have y2:(i:Int)≤(l.length:Int)+1:=by omega
 have y4:((i:Int)+1).toNat=i+1:=by omega
 have y5:(0:Int)≤(i:Int)+1:=by omega
 have y6:(0:Int)≤(l.length:Int)+1:=by omega
 have y7:IntKind.i64.wrap ((i:Int)+1)=(i:Int)+1:=by rw[IntKind.wrap_i64];omega
 clear hown hv hb hCl hCt hX4 hYl hi0 hz0 hzs hzb hold hrz hGge hGle hG hR hRa hzl hRl hRt gW hbN hvW hbW hr2 hg2 hb2 hb2g hr3 hg3 hb3 e1 e2 ho hkk hroom hnc hcm
 go_enter Tryz.func83,Tryz.ntmps83
 go_wp2_with (first|(at_builtin;refine KS rfl (.tmp 34) (.tmp 39) 34 3 rfl _ _ rfl rfl HRZ.out ?_)|(refine MO rfl (.tmp 43) (.tmp 44) 34 34 rfl _ _ rfl rfl HR2.out ?_)|fail)
 go_region_law (first|(refine YW rfl (.tmp 50) (.tmp 53) 34 34 rfl _ _ (by simp[Act.eval,Act.put]) (by simp[Act.eval,Act.put]) HR3.out ?_)|fail)
 all_goals
  go_wp2
  go_ret
  exact⟨_,rfl,O3.out,G3.out,fun k hk=>by simp[Ba,Value.ownBlock] at hk;omega⟩
theorem Vw (l:List VK) (x:VK) (i g V:Nat) (w:World) (hown:Own w 58 33 (.slice (some ⟨g,0,none⟩) l.length l.length) l.length (l.flatMap Ax)) (hv:w.heap[V]?=some (.cells (Ax x).toArray 58 (0,0))) (hi:i≤l.length) (hn:l.length≤1000000) :
   Calls Tryz.prog 83 #[.slice (some ⟨g,0,none⟩) l.length l.length,.int .i64 i,.slice (some ⟨V,0,none⟩) 1 1] w fun e w'=>∃v',e=.returned v'∧Own w' 58 33 v' (l.length+1) ((l.take i++x::l.drop i).flatMap Ax)∧w.grownBy w' none∧∀k,Ba v' k→w.heap.size≤k:=by
 by_cases hil:i<l.length
 · exact NF l x i g l.length V w hown hv hil (by omega) hn
 · obtain rfl:i=l.length:=by omega
   rw[List.take_length,List.drop_length]
   exact N7 l x g V w hown hv hn
theorem Own.rdk {w:World} {ao:Option Addr} {n cap:Nat} {ks:List VK} {e:TypeId} (h:Own w e 33 (.slice ao n cap) n (ks.flatMap Ax)):n=ks.length:=AHJ (Sl.of_own h) Dc (by decide)
end Go.Proofs.YtbfjfnbcmojpiaaGreat
namespace Go.Proofs.YtbfjfnbcmojpiaaGreat
open Go.RowKit Go.Shelf
def kd (n:Nat) (k:List Nat):List Nat:=LY (BitVec.ofNat 64 n) k []
theorem Ct (n:Nat) (k:List Nat):Dg (kd n k):=⟨GQ _ _,M9 _ _⟩
theorem Md {n:Nat} (hn:n<1000) {c:Int} (hc:c=(n:Int)) {k:List Nat} (hk:Dg k) (w:World):Calls Tryz.prog 66 #[.int .u64 c,AQ k,.slice none 0 0] w fun e w'=>e=.returned (AQ (kd n k))∧w.grownBy w' none:=by
 have e:c=wi (BitVec.ofNat 64 n):=by rw[hc,←JS,IntKind.wrap_u64];omega
 rw[e]
 exact Lr (BitVec.ofNat 64 n) k [] hk.1 hk.2 (by simp) (by simp) _ w (Sl.nil w 1)
theorem ADM {n:Nat} (hn:n<1000) {c:Int} (hc:c=(n:Int)) {k:List Nat} (hk:Dg k) (w:World):Calls Tryz.prog 35 #[.int .u64 c,AQ k,.slice none 0 0] w fun e w'=>e=.returned (AQ (kd n k))∧w.grownBy w' none:=by
 have e:c=wi (BitVec.ofNat 64 n):=by rw[hc,←JS,IntKind.wrap_u64];omega
 rw[e]
 exact KG (BitVec.ofNat 64 n) k [] hk.1 hk.2 (by simp) (by simp) _ w (Sl.nil w 1)
theorem bV0 (w:World):(Instr.build 36 #[]).run Tryz.prog w=.ok (A8 AS AS (.slice none 0 0)) w:=by kernel_rfl
theorem bV2 {sa po:List Nat} (hs:Dg sa) (hp:Dg po) (w:World):(Instr.build 36 #[(0,AQ sa),(1,AQ po)]).run Tryz.prog w=.ok (A8 sa po (.slice none 0 0)) w:=by
 obtain⟨x0,x1,x2,x3,x4,x5,x6,x7,x8,x9,x10,x11,x12,x13,x14,x15,x16,x17,x18,x19,x20,x21,x22,x23,x24,x25,x26,x27,x28,x29,x30,x31,rfl⟩:=JU _ hs.1
 obtain⟨y0,y1,y2,y3,y4,y5,y6,y7,y8,y9,y10,y11,y12,y13,y14,y15,y16,y17,y18,y19,y20,y21,y22,y23,y24,y25,y26,y27,y28,y29,y30,y31,rfl⟩:=JU _ hp.1
 kernel_rfl
theorem AJZ {o:List Nat} (ho:Dg o) (ao:Option Addr) (n cap:Nat) (w:World):(Instr.build 58 #[(0,AQ o),(1,.agg #[.slice ao n cap])]).run Tryz.prog w=.ok (.agg ([bv o,[.slice ao n cap]].flatten).toArray) w:=by
 obtain⟨x0,x1,x2,x3,x4,x5,x6,x7,x8,x9,x10,x11,x12,x13,x14,x15,x16,x17,x18,x19,x20,x21,x22,x23,x24,x25,x26,x27,x28,x29,x30,x31,rfl⟩:=JU _ ho.1
 kernel_rfl
theorem bK2 {k:VK} (w:World):(Instr.build 58 #[(0,AQ k.o),(1,.agg #[k.s])]).run Tryz.prog w=.ok (IB k) w:=AJZ k.ho k.ao k.l.length k.cap w
theorem AJW (ao:Option Addr) (n cap:Nat) (w:World):(Instr.build 56 #[(0,.slice ao n cap)]).run Tryz.prog w=.ok (.agg #[.slice ao n cap]) w:=by kernel_rfl
theorem PI {a:Int} {b:Bool} (h:Ce a=b) (w:World):Calls Tryz.prog 75 #[.int .i64 a] w fun e w'=>e=.returned (.bool b)∧w.grownBy w' none:=(KI a w).mono fun e w' ⟨h1,h2⟩=>⟨h▸h1,h2▸World.grownBy.refl _ _⟩
theorem KT {w:World} {ks:List VK} {ao:Option Addr} {cap:Nat} {sa po:List Nat} (hsa:Dg sa) (hpo:Dg po) (hr:RdK w (.slice ao ks.length cap) ks) {b:Bool} (hb:Cj (ks.map VK.p)=b):Calls Tryz.prog 51 #[A8 sa po (.slice ao ks.length cap)] w fun e w'=>e=.returned (.bool b)∧w.grownBy w' none:=hb▸Vr ks ao cap sa po hsa hpo w hr
theorem JK {w:World} {ks:List VK} {ao:Option Addr} {cap:Nat} {sa po:List Nat} (hsa:Dg sa) (hpo:Dg po) (hr:RdK w (.slice ao ks.length cap) ks) {b:Bool} (hb:Cj (ks.map VK.p)=b):Calls Tryz.prog 40 #[A8 sa po (.slice ao ks.length cap)] w fun e w'=>e=.returned (.bool b)∧w.grownBy w' none:=hb▸TM ks ao cap sa po hsa hpo w hr
theorem Y0 {w:World} {ks:List VK} {ao:Option Addr} {cap:Nat} {sa po o:List Nat} (hsa:Dg sa) (hpo:Dg po) (ho:Dg o) (hr:RdK w (.slice ao ks.length cap) ks) (hv:Cj (ks.map VK.p)=true) {b:Bool} (hb:LO (ks.map VK.p) o=b) {i:Nat} (hi:pos (ks.map VK.p) o=i):Calls Tryz.prog 71 #[A8 sa po (.slice ao ks.length cap),AQ o] w fun e w'=>e=.returned (.tuple #[.int .i64 (i:Int),.bool b])∧w.grownBy w' none:=
 hb▸hi▸ABY ks ao cap sa po hsa hpo o ho w hr (Srt.of hv) (by have:=(FJ.1 hv).1;simpa using this)
theorem AIc {w:World} {ks:List VK} {ao:Option Addr} {cap:Nat} {sa po o:List Nat} (hsa:Dg sa) (hpo:Dg po) (ho:Dg o) (hr:RdK w (.slice ao ks.length cap) ks) (hv:Cj (ks.map VK.p)=true) {c:Int} (hc:atV (ks.map VK.p) o=c):Calls Tryz.prog 84 #[A8 sa po (.slice ao ks.length cap),AQ o] w fun e w'=>e=.returned (.int .i64 c)∧w.grownBy w' none:=
 hc▸AFc ks ao cap sa po hsa hpo o ho w hr (Srt.of hv)
theorem AHW {P:List VP} {o:List Nat} (h:LO P o=true) {i:Nat} (hi:pos P o=i):atV P o=(i:Int):=by unfold atV;rw[h,hi];rfl
theorem AId {P:List VP} {o:List Nat} (h:LO P o=false):atV P o=-1:=by unfold atV;rw[h];rfl
theorem AIe {x y:List Nat×Int} (h:x=y):Ending.returned (.tuple #[AQ x.1,.int .i64 x.2])=Ending.returned (.tuple #[AQ y.1,.int .i64 y.2]):=by rw[h]
theorem PJ {x:List Nat} {c:Int} {y:List Nat×Int} (h:y=(x,c)):Ending.returned (.tuple #[AQ x,.int .i64 c])=Ending.returned (.tuple #[AQ y.1,.int .i64 y.2]):=by rw[h]
theorem KU {P:List VP} {o:List Nat} {a:Int} (h:Ce a=false∨Cj P=false):Cz P o a=(AS,1):=by
 unfold Cz
 rcases h with h|h<;>simp[h]
theorem SN {P:List VP} {o:List Nat} {a:Int} (h1:Ce a=true) (h2:Cj P=true) (h3:LO P o=false):Cz P o a=(AS,10):=by
 unfold Cz
 simp[h1,h2,h3]
theorem NG {P:List VP} {o:List Nat} {a:Int} (h1:Ce a=true) (h2:Cj P=true) (h3:LO P o=true) {i:Nat} (hi:pos P o=i) {l:List Nd} (hl:tr P i=l):Cz P o a=CO l a:=by
 unfold Cz
 simp[h1,h2,h3,hi,hl]
theorem ABc {a:Int} (h:Ce a=false):a<0∨17179869184≤a:=by
 unfold Ce at h
 simp at h
 omega
theorem PK {a:Int} (h:Ce a=true):0≤a∧a<17179869184:=by
 unfold Ce at h
 simpa using h
theorem ABd (k:List Nat) (hk:Dg k) (w:World) :
  Calls Tryz.prog 24 #[AQ k] w fun e w'=>e=.returned (A8 (kd 273 k) (kd 274 k) (.slice none 0 0))∧w.grownBy w' none:=by
 refine Dy Tryz.func24 rfl Tryz.ntmps24 rfl fun a0 sv0=>?_
 have HG:=World.grownBy.refl w none
 replace sv0:Sv 8 [] [(0,AQ k)] a0:=sv0
 refine AKQ fun K1 k1=>?_
 refine AKP ?_
 refine Be sv0 r6 (Bb k hk.1) fun a2 w2 CE LB g2 z2 Ae sv2=>?_
 replace HG:=AA HG g2
 refine BB (T:=36) (Z:=([bv AS,bv AS,[.slice none 0 0]].flatten)) sv2 rfl rfl rfl (fun a w=>by kernel_rfl) fun a3 w3 ZA OZ g3 z3 EH sv3=>?_
 have TP:=Bq HG OZ
 replace Ae:=AC g3 Ae
 refine AE ?_
 refine k1 _ _ ?_
 refine AKQ fun K4 k4=>?_
 refine AKP ?_
 refine Eo sv3 rfl (dd:={ target:=.fn (.func 65) #[],args:=#[] }) rfl (by simp[execOp,resolve,Deferred.ofValue];try rfl) fun a5 sv5=>?_
 refine AE ?_
 refine k4 _ _ ?_
 refine AKQ fun K6 k6=>?_
 refine Eg (sv5.st w3) (by kernel_rfl) 5 [(3,Sp.is (AQ k)),(4,Sp.is (AQ ((kd 273 k)))),(5,Sp.is (AQ k)),(6,Sp.is (AQ ((kd 274 k)))),(7,Sp.is (A8 ((kd 273 k)) ((kd 274 k)) (.slice none 0 0)))] rfl (by kernel_rfl) (by kernel_rfl) (by kernel_rfl) [] (by kernel_rfl)
  ⟨yl r6 (Bb k hk.1) Ae,Al [.int .u64 273,AQ k,.slice none 0 0] Tryz.func66 (by kernel_rfl) rq4 ⟨rfl,(oy rfl rfl),rfl,AKW⟩ (A7 fun W g=>Md (n:=273) (by decide) rfl hk W),yl r6 (Bb k hk.1) Ae,Al [.int .u64 274,AQ k,.slice none 0 0] Tryz.func66 (by kernel_rfl) rq4 ⟨rfl,(oy rfl rfl),rfl,AKW⟩ (A7 fun W g=>Md (n:=274) (by decide) rfl hk W),BM (vs:=[AQ ((kd 273 k)),AQ ((kd 274 k))]) rfl rfl trivial ⟨(oy rfl rfl),(oy rfl rfl),AKW⟩ (fun _=>bV2 (Ct _ _) (Ct _ _) _) (fun _=>rfl),AKW⟩ trivial
  [] (by kernel_rfl) trivial ⟨.inl rfl,.inl rfl,.inl rfl,.inl rfl,.inl rfl,AKW⟩ (by kernel_rfl) fun a7 w7 g7 st7 nd7=>?_
 obtain⟨hn7,hd7,e7_3,e7_4,e7_5,e7_6,e7_7,e7_2,e7_1,e7_0,-⟩:=st7
 have sv7:Sv 8 [{ target:=.fn (.func 65) #[],args:=#[] }] [(2,_),(1,_),(0,_),(7,_)] a7:=⟨hn7,hd7,e7_2,e7_1,e7_0,e7_7,AKW⟩
 refine Av sv7 r7 (CX (Ct _ _) (Ct _ _) (.slice none 0 0) rfl) (AC g7 EH) (by first|rfl|simp[Ax,AO,Ac,(Ct _ _).1,(Ct _ _).1]) fun w8 g8 h8=>?_
 replace HG:=AD (AA (AA HG g3) g7) g8 TP
 replace EH:=h8
 refine AE ?_
 refine k6 _ _ ?_
 refine AKT ?_
 repeat refine AK ?_
 refine Bj (fn:=Tryz.f24) sv7 (Dz (p:=2) Tryz.results24 sv7 rfl rfl (CX (Ct _ _) (Ct _ _) (.slice none 0 0) rfl) EH) (CH Tryz.func65 (by kernel_rfl) rfl _ _) (NE _) ?_
 exact⟨rfl,HG⟩
theorem ADN (ks:List VK) (ao:Option Addr) (cap:Nat) (sa po:List Nat) (hsa:Dg sa) (hpo:Dg po) (o:List Nat) (ho:Dg o) (a:Int) (w:World) (hr:RdK w (.slice ao ks.length cap) ks) :
   Calls Tryz.prog 32 #[A8 sa po (.slice ao ks.length cap),AQ o,.int .i64 a] w fun e w'=>e=.returned (.tuple #[AQ (Cz (ks.map VK.p) o a).1,.int .i64 (Cz (ks.map VK.p) o a).2])∧w.grownBy w' none:=by
 refine Dy Tryz.func32 rfl Tryz.ntmps32 rfl fun a0 sv0=>?_
 have HG:=World.grownBy.refl w none
 replace sv0:Sv 39 [] [(0,A8 sa po (.slice ao ks.length cap)),(1,AQ o),(2,.int .i64 a)] a0:=sv0
 refine AKQ fun K1 k1=>?_
 refine AKP ?_
 refine Be sv0 r6 (CX hsa hpo (.slice ao ks.length cap) rfl) fun a2 w2 Me Jh g2 z2 Az sv2=>?_
 refine Be sv2 r6 (Bb o ho.1) fun a3 w3 ADO TQ g3 z3 Ch sv3=>?_
 replace Az:=AC g3 Az
 replace hr:=(hr.kn g2).kn g3
 replace HG:=AA (AA HG g2) g3
 refine BB (T:=23) (Z:=(bv AS)) sv3 rfl rfl rfl (fun a w=>by kernel_rfl) fun a4 w4 AIf Ho g4 z4 CM sv4=>?_
 have Dn:=As Az Ho
 have Dp:=As Ch Ho
 have GZ:=Bq HG Ho
 have Dv:=Ay (hr.lt) Ho
 replace Az:=AC g4 Az
 replace Ch:=AC g4 Ch
 replace hr:=hr.kn g4
 replace HG:=AA HG g4
 refine BB (T:=38) (Z:=[.int .i64 0]) sv4 rfl rfl rfl (fun a w=>by kernel_rfl) fun a5 w5 AJa Mf g5 z5 E2 sv5=>?_
 have Ji:=As Az Mf
 have Jj:=As Ch Mf
 have Dq:=As CM Mf
 have Oa:=Bq HG Mf
 have Jk:=Ay (hr.lt) Mf
 replace Az:=AC g5 Az
 replace Ch:=AC g5 Ch
 replace CM:=AC g5 CM
 replace hr:=hr.kn g5
 replace HG:=AA HG g5
 refine AE ?_
 refine k1 _ _ ?_
 refine AKQ fun K6 k6=>?_
 refine AKP ?_
 refine Gm sv5 rfl rfl rfl rfl rfl rfl fun a7 sv7=>?_
 refine Eo sv7 rfl (dd:={ target:=.fn (.func 77) #[pt AIf,pt AJa],args:=#[] }) rfl (by have e1:=sv7.ev (x:=.tmp 10) rfl rfl;simp[execOp,resolve,Deferred.ofValue,e1];try rfl) fun a8 sv8=>?_
 refine AE ?_
 refine k6 _ _ ?_
 refine AKQ fun K9 k9=>?_
 refine AKQ fun K10 k10=>?_
 rcases(show Ce a=false∨(Ce a=true∧Cj (ks.map VK.p)=false)∨(Ce a=true∧Cj (ks.map VK.p)=true) by cases Ce a<;>cases Cj (ks.map VK.p)<;>simp) with ha|⟨ha,hv⟩|⟨ha,hv⟩
 · refine AKP ?_
   refine AJ sv8 8 [(11,.int .i64 a),(12,.bool false),(13,.bool true),(14,.bool true),(15,undef),(16,undef),(17,undef),(18,.bool true)]
     ⟨ym r5,Al [.int .i64 a] Tryz.func75 (by kernel_rfl) rq4 ⟨(oy rfl rfl),AKW⟩ (A7 fun W g=>PI ha W),C3 r6 (fun _=>Bi),ym r5,AN r6,AN r6,AN r6,A1 r7,AKW⟩ fun a11 w11 g11 Bv=>?_
   refine AE ?_
   refine k10 _ _ ?_
   refine Ar Bv rfl rfl ?_
   refine AKQ fun K12 k12=>?_
   refine AKP ?_
   replace CM:=AC g11 CM
   refine AJ Bv 1 [(19,AQ AS)]
     ⟨BM (vs:=[]) rfl rfl trivial trivial (fun _=>Ur _) (fun _=>rfl),AKW⟩ fun a13 w13 g13 Cg=>?_
   refine Av Cg r7 (Bb AS Ab.1) (AC g13 CM) (Dk Ab) fun w14 g14 h14=>?_
   replace E2:=Ag g13 g14 (AC g11 E2) Dq
   refine Av Cg r7 (E9 1) E2 rfl fun w15 g15 h15=>?_
   replace Az:=AZ g15 (Ag g13 g14 (AC g11 Az) (Ne.symm Dn)) (Ne.symm Ji)
   replace Ch:=AZ g15 (Ag g13 g14 (AC g11 Ch) (Ne.symm Dp)) (Ne.symm Jj)
   replace CM:=AZ g15 h14 (Ne.symm Dq)
   replace hr:=(((hr.kn g11).kn g13).offR g14 (AP Dv)).offR g15 (AP Jk)
   replace HG:=AD (AD (AA (AA HG g11) g13) g14 GZ) g15 Oa
   replace E2:=h15
   refine AE ?_
   refine k12 _ _ ?_
   refine AKT ?_
   repeat refine AK ?_
   refine Bj (fn:=Tryz.f32) Cg (CC (p:=6) (q:=7) Tryz.results32 Cg rfl rfl rfl rfl (Bb AS Ab.1) (E9 1) CM E2) (CH Tryz.func77 (by kernel_rfl) rfl _ _) (Ie _ _ _) ?_
   exact⟨PJ (KU (.inl ha)),HG⟩
 · refine AKP ?_
   refine AJ sv8 8 [(11,.int .i64 a),(12,.bool true),(13,.bool false),(14,.bool false),(15,A8 sa po (.slice ao ks.length cap)),(16,.bool false),(17,.bool true),(18,.bool true)]
     ⟨ym r5,Al [.int .i64 a] Tryz.func75 (by kernel_rfl) rq4 ⟨(oy rfl rfl),AKW⟩ (A7 fun W g=>PI ha W),C3 r6 (fun _=>Bi),ym r5,Ai rq9 (fun _ g=>AY (CX hsa hpo (.slice ao ks.length cap) rfl) (Aj (AF g Az (by simp)))),B8 [A8 sa po (.slice ao ks.length cap)] Tryz.func51 (by kernel_rfl) r7 ⟨(oy rfl rfl),AKW⟩ (A7 fun W g=>KT hsa hpo (hr.kn g) hv),IA rfl rfl (gy rfl rfl rfl) (oy rfl rfl) (fun _=>Bi) (fun _=>rfl),Aa rq9,AKW⟩ fun a16 w16 g16 Cr=>?_
   refine AE ?_
   refine k10 _ _ ?_
   refine Ar Cr rfl rfl ?_
   refine AKQ fun K17 k17=>?_
   refine AKP ?_
   replace CM:=AC g16 CM
   refine AJ Cr 1 [(19,AQ AS)]
     ⟨BM (vs:=[]) rfl rfl trivial trivial (fun _=>Ur _) (fun _=>rfl),AKW⟩ fun a18 w18 g18 CQ=>?_
   refine Av CQ r7 (Bb AS Ab.1) (AC g18 CM) (Dk Ab) fun w19 g19 h19=>?_
   replace E2:=Ag g18 g19 (AC g16 E2) Dq
   refine Av CQ r7 (E9 1) E2 rfl fun w20 g20 h20=>?_
   replace Az:=AZ g20 (Ag g18 g19 (AC g16 Az) (Ne.symm Dn)) (Ne.symm Ji)
   replace Ch:=AZ g20 (Ag g18 g19 (AC g16 Ch) (Ne.symm Dp)) (Ne.symm Jj)
   replace CM:=AZ g20 h19 (Ne.symm Dq)
   replace hr:=(((hr.kn g16).kn g18).offR g19 (AP Dv)).offR g20 (AP Jk)
   replace HG:=AD (AD (AA (AA HG g16) g18) g19 GZ) g20 Oa
   replace E2:=h20
   refine AE ?_
   refine k17 _ _ ?_
   refine AKT ?_
   repeat refine AK ?_
   refine Bj (fn:=Tryz.f32) CQ (CC (p:=6) (q:=7) Tryz.results32 CQ rfl rfl rfl rfl (Bb AS Ab.1) (E9 1) CM E2) (CH Tryz.func77 (by kernel_rfl) rfl _ _) (Ie _ _ _) ?_
   exact⟨PJ (KU (.inr hv)),HG⟩
 · obtain⟨i,hi⟩:∃i,pos (ks.map VK.p) o=i:=⟨_,rfl⟩
   have h64:ks.length≤64:=by have:=(FJ.1 hv).1;simpa using this
   refine AKP ?_
   refine AJ sv8 8 [(11,.int .i64 a),(12,.bool true),(13,.bool false),(14,.bool false),(15,A8 sa po (.slice ao ks.length cap)),(16,.bool true),(17,.bool false),(18,.bool false)]
     ⟨ym r5,Al [.int .i64 a] Tryz.func75 (by kernel_rfl) rq4 ⟨(oy rfl rfl),AKW⟩ (A7 fun W g=>PI ha W),C3 r6 (fun _=>Bi),ym r5,Ai rq9 (fun _ g=>AY (CX hsa hpo (.slice ao ks.length cap) rfl) (Aj (AF g Az (by simp)))),B8 [A8 sa po (.slice ao ks.length cap)] Tryz.func51 (by kernel_rfl) r7 ⟨(oy rfl rfl),AKW⟩ (A7 fun W g=>KT hsa hpo (hr.kn g) hv),IA rfl rfl (gy rfl rfl rfl) (oy rfl rfl) (fun _=>Bi) (fun _=>rfl),Aa rq9,AKW⟩ fun a21 w21 g21 CK=>?_
   refine AE ?_
   refine k10 _ _ ?_
   refine A2 CK rfl rfl ?_
   refine AKU ?_
   refine k9 _ _ ?_
   refine AKQ fun K22 k22=>?_
   replace Az:=AC g21 Az
   replace Ch:=AC g21 Ch
   replace CM:=AC g21 CM
   replace E2:=AC g21 E2
   replace hr:=hr.kn g21
   replace HG:=AA HG g21
   cases hf:LO (ks.map VK.p) o
   · refine AKP ?_
     refine AJ CK 6 [(21,A8 sa po (.slice ao ks.length cap)),(22,AQ o),(23,.tuple #[.int .i64 ((i:Int)),.bool false]),(20,.tuple #[.int .i64 ((i:Int)),.bool false]),(24,.int .i64 ((i:Int))),(25,.bool false)]
      ⟨yl r6 (CX hsa hpo (.slice ao ks.length cap) rfl) Az,yl r6 (Bb o ho.1) Ch,Al [A8 sa po (.slice ao ks.length cap),AQ o] Tryz.func71 (by kernel_rfl) rq4 ⟨(oy rfl rfl),(oy rfl rfl),AKW⟩ (A7 fun W g=>Y0 hsa hpo ho (hr.kn g) hv hf hi),ym r5,BZ rq4 (fun _ _ h=>⟨_,_,h,rfl,rfl⟩),BZ rq4 (fun _ _ h=>⟨_,_,h,rfl,rfl⟩),AKW⟩ fun a23 w23 g23 Cl=>?_
     refine AR (v:=.int .i64 ((i:Int))) Cl r6 fun a24 Du=>?_
     refine AR (v:=.bool false) Du r6 fun a25 Bz=>?_
     have Cy:Sv _ _ [_,_,_,_,_,_,_,_,_,_,_,_,_,_,_,_,_] _:=Bz.dl [21,22,23,20,24,25,4]
     refine AE ?_
     refine k22 _ _ ?_
     refine AKQ fun K27 k27=>?_
     refine AKQ fun K28 k28=>?_
     refine AKP ?_
     refine AJ Cy 2 [(26,.bool false),(27,.bool true)]
      ⟨ym r5,C3 r6 (fun _=>Bi),AKW⟩ fun a29 w29 g29 CY=>?_
     have KR:=AA g23 g29
     refine AE ?_
     refine k28 _ _ ?_
     refine Ar CY rfl rfl ?_
     refine AKQ fun K30 k30=>?_
     refine AKP ?_
     replace CM:=AC KR CM
     refine AJ CY 1 [(28,AQ AS)]
      ⟨BM (vs:=[]) rfl rfl trivial trivial (fun _=>Ur _) (fun _=>rfl),AKW⟩ fun a31 w31 g31 Fp=>?_
     refine Av Fp r7 (Bb AS Ab.1) (AC g31 CM) (Dk Ab) fun w32 g32 h32=>?_
     replace E2:=Ag g31 g32 (AC KR E2) Dq
     refine Av Fp r7 (E9 10) E2 rfl fun w33 g33 h33=>?_
     replace Az:=AZ g33 (Ag g31 g32 (AC KR Az) (Ne.symm Dn)) (Ne.symm Ji)
     replace Ch:=AZ g33 (Ag g31 g32 (AC KR Ch) (Ne.symm Dp)) (Ne.symm Jj)
     replace CM:=AZ g33 h32 (Ne.symm Dq)
     replace hr:=(((hr.kn KR).kn g31).offR g32 (AP Dv)).offR g33 (AP Jk)
     replace HG:=AD (AD (AA (AA HG KR) g31) g32 GZ) g33 Oa
     replace E2:=h33
     refine AE ?_
     refine k30 _ _ ?_
     refine AKT ?_
     repeat refine AK ?_
     refine Bj (fn:=Tryz.f32) Fp (CC (p:=6) (q:=7) Tryz.results32 Fp rfl rfl rfl rfl (Bb AS Ab.1) (E9 10) CM E2) (CH Tryz.func77 (by kernel_rfl) rfl _ _) (Ie _ _ _) ?_
     exact⟨PJ (SN ha hv hf),HG⟩
   · have hil:i<ks.length:=by have:=(ZB hf).1;rw[hi] at this;simpa using this
     obtain⟨x,hx_x⟩:∃x,ks[i]'hil=x:=⟨_,rfl⟩
     have htr:tr (ks.map VK.p) i=x.l:=by rw[TI hil,hx_x]
     refine AKP ?_
     refine AJ CK 6 [(21,A8 sa po (.slice ao ks.length cap)),(22,AQ o),(23,.tuple #[.int .i64 ((i:Int)),.bool true]),(20,.tuple #[.int .i64 ((i:Int)),.bool true]),(24,.int .i64 ((i:Int))),(25,.bool true)]
      ⟨yl r6 (CX hsa hpo (.slice ao ks.length cap) rfl) Az,yl r6 (Bb o ho.1) Ch,Al [A8 sa po (.slice ao ks.length cap),AQ o] Tryz.func71 (by kernel_rfl) rq4 ⟨(oy rfl rfl),(oy rfl rfl),AKW⟩ (A7 fun W g=>Y0 hsa hpo ho (hr.kn g) hv hf hi),ym r5,BZ rq4 (fun _ _ h=>⟨_,_,h,rfl,rfl⟩),BZ rq4 (fun _ _ h=>⟨_,_,h,rfl,rfl⟩),AKW⟩ fun a34 w34 g34 FI=>?_
     refine AR (v:=.int .i64 ((i:Int))) FI r6 fun a35 Iz=>?_
     refine AR (v:=.bool true) Iz r6 fun a36 Ep=>?_
     have IE:Sv _ _ [_,_,_,_,_,_,_,_,_,_,_,_,_,_,_,_,_] _:=Ep.dl [21,22,23,20,24,25,4]
     refine AE ?_
     refine k22 _ _ ?_
     refine AKQ fun K38 k38=>?_
     refine AKQ fun K39 k39=>?_
     refine AKP ?_
     refine AJ IE 2 [(26,.bool true),(27,.bool false)]
      ⟨ym r5,C3 r6 (fun _=>Bi),AKW⟩ fun a40 w40 g40 IG=>?_
     have Qc:=AA g34 g40
     refine AE ?_
     refine k39 _ _ ?_
     refine A2 IG rfl rfl ?_
     refine AKU ?_
     refine k38 _ _ ?_
     refine AKQ fun K41 k41=>?_
     refine AKP ?_
     replace Az:=AC Qc Az
     replace CM:=AC Qc CM
     replace hr:=hr.kn Qc
     refine AJ IG 10 [(29,pk Me 64),(30,.slice ao ks.length cap),(31,.int .i64 ((i:Int))),(32,pk ((bO ao)) (oO ao+i*33)),(33,pk ((bO ao)) (oO ao+i*33+32)),(34,.agg #[VK.s x]),(35,.int .i64 a),(36,.tuple #[AQ ((CO x.l a).1),.int .i64 ((CO x.l a).2)]),(37,AQ ((CO x.l a).1)),(38,.int .i64 ((CO x.l a).2))]
      ⟨yf r6 (fun _=>by kernel_rfl),yp (i:=2) r6 (Dd (.slice ao ks.length cap) rfl) Az rfl (by simp[AO,Ac,hsa.1,hpo.1]),ym r5,BH rq8 (fun w=>CU Tryz.underlying34 (by kernel_rfl) (hr.1.1) (by omega) (rfl) w),yf r6 (fun _=>by kernel_rfl),Bg r6 (fun _ g=>AY (tyT (VK.s x) rfl) (RdK.treeX (hr.kn g) rfl hil hx_x)),ym r5,Al [.agg #[VK.s x],.int .i64 a] Tryz.func78 (by kernel_rfl) rq4 ⟨(oy rfl rfl),(oy rfl rfl),AKW⟩ (A7 fun W g=>ABD rfl ((hr.kn g).kt hil hx_x)),BZ rq4 (fun _ _ h=>⟨_,_,h,rfl,rfl⟩),BZ rq4 (fun _ _ h=>⟨_,_,h,rfl,rfl⟩),AKW⟩ fun a42 w42 g42 Gp=>?_
     refine Av Gp r7 (Bb ((CO x.l a).1) (GD ((hr.kt hil hx_x).2.1) a).1) (AC g42 CM) (Dk (GD ((hr.kt hil hx_x).2.1) a)) fun w43 g43 h43=>?_
     replace E2:=Ag g42 g43 (AC Qc E2) Dq
     refine Av Gp r7 (E9 ((CO x.l a).2)) E2 rfl fun w44 g44 h44=>?_
     replace CM:=AZ g44 h43 (Ne.symm Dq)
     replace hr:=((hr.kn g42).offR g43 (AP Dv)).offR g44 (AP Jk)
     replace HG:=AD (AD (AA (AA HG Qc) g42) g43 GZ) g44 Oa
     replace E2:=h44
     have E8:Sv _ _ [_,_,_,_,_,_,_,_,_,_,_,_,_,_,_,_,_,_] _:=Gp.dl [29,30,31,32,33,34,35,36,37,38,8]
     refine AE ?_
     refine k41 _ _ ?_
     refine AKT ?_
     repeat refine AK ?_
     refine Bj (fn:=Tryz.f32) E8 (CC (p:=6) (q:=7) Tryz.results32 E8 rfl rfl rfl rfl (Bb ((CO x.l a).1) (GD ((hr.kt hil hx_x).2.1) a).1) (E9 ((CO x.l a).2)) CM E2) (CH Tryz.func77 (by kernel_rfl) rfl _ _) (Ie _ _ _) ?_
     exact⟨AIe (NG ha hv hf hi htr).symm,HG⟩
theorem ABe (ks:List VK) (ao:Option Addr) (cap:Nat) (sa po:List Nat) (hsa:Dg sa) (hpo:Dg po) (o:List Nat) (ho:Dg o) (a:Int) (w:World) (hr:RdK w (.slice ao ks.length cap) ks) :
   Calls Tryz.prog 42 #[A8 sa po (.slice ao ks.length cap),AQ o,.int .i64 a] w fun e w'=>e=.returned (.tuple #[AQ (Cz (ks.map VK.p) o a).1,.int .i64 (Cz (ks.map VK.p) o a).2])∧w.grownBy w' none:=by
 refine BV Tryz.func42 rfl Tryz.ntmps42 rfl fun a0 sv0=>?_
 have HG:=World.grownBy.refl w none
 replace sv0:Sv 37 [] [(0,A8 sa po (.slice ao ks.length cap)),(1,AQ o),(2,.int .i64 a)] a0:=sv0
 refine AKQ fun K1 k1=>?_
 refine AKP ?_
 refine Be sv0 r6 (CX hsa hpo (.slice ao ks.length cap) rfl) fun a2 w2 Me Jh g2 z2 Az sv2=>?_
 refine Be sv2 r6 (Bb o ho.1) fun a3 w3 ADO TQ g3 z3 Ch sv3=>?_
 replace Az:=AC g3 Az
 replace hr:=(hr.kn g2).kn g3
 replace HG:=AA (AA HG g2) g3
 refine BB (T:=23) (Z:=(bv AS)) sv3 rfl rfl rfl (fun a w=>by kernel_rfl) fun a4 w4 AIf Ho g4 z4 CM sv4=>?_
 have Dn:=As Az Ho
 have Dp:=As Ch Ho
 have GZ:=Bq HG Ho
 have Dv:=Ay (hr.lt) Ho
 replace Az:=AC g4 Az
 replace Ch:=AC g4 Ch
 replace hr:=hr.kn g4
 replace HG:=AA HG g4
 refine AR (v:=.int .i64 0) sv4 r6 fun a5 sv5=>?_
 refine AE ?_
 refine k1 _ _ ?_
 refine AKQ fun K6 k6=>?_
 refine AKQ fun K7 k7=>?_
 rcases(show Cj (ks.map VK.p)=false∨(Cj (ks.map VK.p)=true∧a<0)∨(Cj (ks.map VK.p)=true∧17179869184≤a)∨(Cj (ks.map VK.p)=true∧Ce a=true) by
     cases Cj (ks.map VK.p)<;>cases h:Ce a<;>simp<;>exact ABc h) with hv|⟨hv,ha⟩|⟨hv,ha⟩|⟨hv,ha⟩
 · refine AKP ?_
   refine AJ sv5 11 [(9,A8 sa po (.slice ao ks.length cap)),(10,.bool false),(11,.bool true),(12,.bool true),(13,undef),(14,undef),(15,.bool true),(16,.bool true),(17,undef),(18,undef),(19,.bool true)]
     ⟨yl r6 (CX hsa hpo (.slice ao ks.length cap) rfl) Az,Al [A8 sa po (.slice ao ks.length cap)] Tryz.func40 (by kernel_rfl) rq4 ⟨(oy rfl rfl),AKW⟩ (A7 fun W g=>JK hsa hpo (hr.kn g) hv),C3 r6 (fun _=>Bi),ym r5,AN r6,AN r6,A1 r7,ym r5,AN r6,AN r6,A1 r7,AKW⟩ fun a8 w8 g8 sv8=>?_
   refine AE ?_
   refine k7 _ _ ?_
   refine Ar sv8 rfl rfl ?_
   refine AKQ fun K9 k9=>?_
   refine AKP ?_
   replace CM:=AC g8 CM
   refine AJ sv8 1 [(20,AQ AS)]
     ⟨BM (vs:=[]) rfl rfl trivial trivial (fun _=>Ur _) (fun _=>rfl),AKW⟩ fun a10 w10 g10 BF=>?_
   refine Av BF r7 (Bb AS Ab.1) (AC g10 CM) (Dk Ab) fun w11 g11 h11=>?_
   replace Az:=Ag g10 g11 (AC g8 Az) (Ne.symm Dn)
   replace Ch:=Ag g10 g11 (AC g8 Ch) (Ne.symm Dp)
   replace hr:=((hr.kn g8).kn g10).offR g11 (AP Dv)
   replace HG:=AD (AA (AA HG g8) g10) g11 GZ
   replace CM:=h11
   refine AR (v:=.int .i64 1) BF r6 fun a12 Cq=>?_
   refine AE ?_
   refine k9 _ _ ?_
   refine AKT ?_
   repeat refine AK ?_
   refine Aw (fn:=Tryz.f42) Cq (C4 (p:=6) (q:=7) Tryz.results42 Cq rfl rfl rfl rfl (Bb AS Ab.1) CM) ?_
   exact⟨PJ (KU (.inr hv)),HG⟩
 · refine AKP ?_
   refine AJ sv5 11 [(9,A8 sa po (.slice ao ks.length cap)),(10,.bool true),(11,.bool false),(12,.bool false),(13,.int .i64 a),(14,.bool true),(15,.bool true),(16,.bool true),(17,undef),(18,undef),(19,.bool true)]
     ⟨yl r6 (CX hsa hpo (.slice ao ks.length cap) rfl) Az,Al [A8 sa po (.slice ao ks.length cap)] Tryz.func40 (by kernel_rfl) rq4 ⟨(oy rfl rfl),AKW⟩ (A7 fun W g=>JK hsa hpo (hr.kn g) hv),C3 r6 (fun _=>Bi),ym r5,Ad rq8,Af rq9 (fun _=>BJ (decide_eq_true (by omega))),Aa rq9,ym r5,AN r6,AN r6,A1 r7,AKW⟩ fun a13 w13 g13 Cg=>?_
   refine AE ?_
   refine k7 _ _ ?_
   refine Ar Cg rfl rfl ?_
   refine AKQ fun K14 k14=>?_
   refine AKP ?_
   replace CM:=AC g13 CM
   refine AJ Cg 1 [(20,AQ AS)]
     ⟨BM (vs:=[]) rfl rfl trivial trivial (fun _=>Ur _) (fun _=>rfl),AKW⟩ fun a15 w15 g15 EE=>?_
   refine Av EE r7 (Bb AS Ab.1) (AC g15 CM) (Dk Ab) fun w16 g16 h16=>?_
   replace Az:=Ag g15 g16 (AC g13 Az) (Ne.symm Dn)
   replace Ch:=Ag g15 g16 (AC g13 Ch) (Ne.symm Dp)
   replace hr:=((hr.kn g13).kn g15).offR g16 (AP Dv)
   replace HG:=AD (AA (AA HG g13) g15) g16 GZ
   replace CM:=h16
   refine AR (v:=.int .i64 1) EE r6 fun a17 De=>?_
   refine AE ?_
   refine k14 _ _ ?_
   refine AKT ?_
   repeat refine AK ?_
   refine Aw (fn:=Tryz.f42) De (C4 (p:=6) (q:=7) Tryz.results42 De rfl rfl rfl rfl (Bb AS Ab.1) CM) ?_
   exact⟨PJ (KU (.inl (by unfold Ce;simp;omega))),HG⟩
 · refine AKP ?_
   refine AJ sv5 11 [(9,A8 sa po (.slice ao ks.length cap)),(10,.bool true),(11,.bool false),(12,.bool false),(13,.int .i64 a),(14,.bool false),(15,.bool false),(16,.bool false),(17,.int .i64 a),(18,.bool true),(19,.bool true)]
     ⟨yl r6 (CX hsa hpo (.slice ao ks.length cap) rfl) Az,Al [A8 sa po (.slice ao ks.length cap)] Tryz.func40 (by kernel_rfl) rq4 ⟨(oy rfl rfl),AKW⟩ (A7 fun W g=>JK hsa hpo (hr.kn g) hv),C3 r6 (fun _=>Bi),ym r5,Ad rq8,Af rq9 (fun _=>BJ (decide_eq_false (by omega))),Aa rq9,ym r5,Ad rq8,Af rq9 (fun _=>Da (decide_eq_true (by omega))),Aa rq9,AKW⟩ fun a18 w18 g18 CQ=>?_
   refine AE ?_
   refine k7 _ _ ?_
   refine Ar CQ rfl rfl ?_
   refine AKQ fun K19 k19=>?_
   refine AKP ?_
   replace CM:=AC g18 CM
   refine AJ CQ 1 [(20,AQ AS)]
     ⟨BM (vs:=[]) rfl rfl trivial trivial (fun _=>Ur _) (fun _=>rfl),AKW⟩ fun a20 w20 g20 DH=>?_
   refine Av DH r7 (Bb AS Ab.1) (AC g20 CM) (Dk Ab) fun w21 g21 h21=>?_
   replace Az:=Ag g20 g21 (AC g18 Az) (Ne.symm Dn)
   replace Ch:=Ag g20 g21 (AC g18 Ch) (Ne.symm Dp)
   replace hr:=((hr.kn g18).kn g20).offR g21 (AP Dv)
   replace HG:=AD (AA (AA HG g18) g20) g21 GZ
   replace CM:=h21
   refine AR (v:=.int .i64 1) DH r6 fun a22 Bu=>?_
   refine AE ?_
   refine k19 _ _ ?_
   refine AKT ?_
   repeat refine AK ?_
   refine Aw (fn:=Tryz.f42) Bu (C4 (p:=6) (q:=7) Tryz.results42 Bu rfl rfl rfl rfl (Bb AS Ab.1) CM) ?_
   exact⟨PJ (KU (.inl (by unfold Ce;simp;omega))),HG⟩
 · have haa:=PK ha
   obtain⟨i,hi⟩:∃i,pos (ks.map VK.p) o=i:=⟨_,rfl⟩
   have h64:ks.length≤64:=by have:=(FJ.1 hv).1;simpa using this
   refine AKP ?_
   refine AJ sv5 11 [(9,A8 sa po (.slice ao ks.length cap)),(10,.bool true),(11,.bool false),(12,.bool false),(13,.int .i64 a),(14,.bool false),(15,.bool false),(16,.bool false),(17,.int .i64 a),(18,.bool false),(19,.bool false)]
     ⟨yl r6 (CX hsa hpo (.slice ao ks.length cap) rfl) Az,Al [A8 sa po (.slice ao ks.length cap)] Tryz.func40 (by kernel_rfl) rq4 ⟨(oy rfl rfl),AKW⟩ (A7 fun W g=>JK hsa hpo (hr.kn g) hv),C3 r6 (fun _=>Bi),ym r5,Ad rq8,Af rq9 (fun _=>BJ (decide_eq_false (by omega))),Aa rq9,ym r5,Ad rq8,Af rq9 (fun _=>Da (decide_eq_false (by omega))),Aa rq9,AKW⟩ fun a23 w23 g23 Cl=>?_
   refine AE ?_
   refine k7 _ _ ?_
   refine A2 Cl rfl rfl ?_
   refine AKU ?_
   refine k6 _ _ ?_
   refine AKQ fun K24 k24=>?_
   replace Az:=AC g23 Az
   replace Ch:=AC g23 Ch
   replace CM:=AC g23 CM
   replace hr:=hr.kn g23
   replace HG:=AA HG g23
   cases hf:LO (ks.map VK.p) o
   · refine AKP ?_
     refine AJ Cl 3 [(21,A8 sa po (.slice ao ks.length cap)),(22,AQ o),(23,.int .i64 ((-1)))]
      ⟨yl r6 (CX hsa hpo (.slice ao ks.length cap) rfl) Az,yl r6 (Bb o ho.1) Ch,Al [A8 sa po (.slice ao ks.length cap),AQ o] Tryz.func84 (by kernel_rfl) rq4 ⟨(oy rfl rfl),(oy rfl rfl),AKW⟩ (A7 fun W g=>AIc hsa hpo ho (hr.kn g) hv (AId hf)),AKW⟩ fun a25 w25 g25 Bz=>?_
     refine AR (v:=.int .i64 ((-1))) Bz r6 fun a26 Cy=>?_
     have F6:Sv _ _ [_,_,_,_,_,_,_,_,_,_,_,_,_,_,_,_,_,_] _:=Cy.dl [21,22,23,4]
     refine AE ?_
     refine k24 _ _ ?_
     refine AKQ fun K28 k28=>?_
     refine AKQ fun K29 k29=>?_
     refine AKP ?_
     refine AJ F6 2 [(24,.int .i64 ((-1))),(25,.bool true)]
      ⟨ym r5,Cp r6 (fun _=>BJ (by decide)),AKW⟩ fun a30 w30 g30 Dl=>?_
     have Qa:=AA g25 g30
     refine AE ?_
     refine k29 _ _ ?_
     refine Ar Dl rfl rfl ?_
     refine AKQ fun K31 k31=>?_
     refine AKP ?_
     replace CM:=AC Qa CM
     refine AJ Dl 1 [(26,AQ AS)]
      ⟨BM (vs:=[]) rfl rfl trivial trivial (fun _=>Ur _) (fun _=>rfl),AKW⟩ fun a32 w32 g32 Dm=>?_
     refine Av Dm r7 (Bb AS Ab.1) (AC g32 CM) (Dk Ab) fun w33 g33 h33=>?_
     replace Az:=Ag g32 g33 (AC Qa Az) (Ne.symm Dn)
     replace Ch:=Ag g32 g33 (AC Qa Ch) (Ne.symm Dp)
     replace hr:=((hr.kn Qa).kn g32).offR g33 (AP Dv)
     replace HG:=AD (AA (AA HG Qa) g32) g33 GZ
     replace CM:=h33
     refine AR (v:=.int .i64 10) Dm r6 fun a34 FI=>?_
     refine AE ?_
     refine k31 _ _ ?_
     refine AKT ?_
     repeat refine AK ?_
     refine Aw (fn:=Tryz.f42) FI (C4 (p:=6) (q:=7) Tryz.results42 FI rfl rfl rfl rfl (Bb AS Ab.1) CM) ?_
     exact⟨PJ (SN ha hv hf),HG⟩
   · have hil:i<ks.length:=by have:=(ZB hf).1;rw[hi] at this;simpa using this
     obtain⟨x,hx_x⟩:∃x,ks[i]'hil=x:=⟨_,rfl⟩
     have htr:tr (ks.map VK.p) i=x.l:=by rw[TI hil,hx_x]
     refine AKP ?_
     refine AJ Cl 3 [(21,A8 sa po (.slice ao ks.length cap)),(22,AQ o),(23,.int .i64 ((i:Int)))]
      ⟨yl r6 (CX hsa hpo (.slice ao ks.length cap) rfl) Az,yl r6 (Bb o ho.1) Ch,Al [A8 sa po (.slice ao ks.length cap),AQ o] Tryz.func84 (by kernel_rfl) rq4 ⟨(oy rfl rfl),(oy rfl rfl),AKW⟩ (A7 fun W g=>AIc hsa hpo ho (hr.kn g) hv (AHW hf hi)),AKW⟩ fun a35 w35 g35 Iz=>?_
     refine AR (v:=.int .i64 ((i:Int))) Iz r6 fun a36 Ep=>?_
     have IE:Sv _ _ [_,_,_,_,_,_,_,_,_,_,_,_,_,_,_,_,_,_] _:=Ep.dl [21,22,23,4]
     refine AE ?_
     refine k24 _ _ ?_
     refine AKQ fun K38 k38=>?_
     refine AKQ fun K39 k39=>?_
     refine AKP ?_
     refine AJ IE 2 [(24,.int .i64 ((i:Int))),(25,.bool false)]
      ⟨ym r5,Cp r6 (fun _=>BJ (decide_eq_false (by omega))),AKW⟩ fun a40 w40 g40 IG=>?_
     have Qc:=AA g35 g40
     refine AE ?_
     refine k39 _ _ ?_
     refine A2 IG rfl rfl ?_
     refine AKU ?_
     refine k38 _ _ ?_
     refine AKQ fun K41 k41=>?_
     refine AKP ?_
     replace Az:=AC Qc Az
     replace CM:=AC Qc CM
     replace hr:=hr.kn Qc
     refine AJ IG 10 [(27,pk Me 64),(28,.slice ao ks.length cap),(29,.int .i64 ((i:Int))),(30,pk ((bO ao)) (oO ao+i*33)),(31,pk ((bO ao)) (oO ao+i*33+32)),(32,.agg #[VK.s x]),(33,.int .i64 a),(34,.tuple #[AQ ((CO x.l a).1),.int .i64 ((CO x.l a).2)]),(35,AQ ((CO x.l a).1)),(36,.int .i64 ((CO x.l a).2))]
      ⟨yf r6 (fun _=>by kernel_rfl),yp (i:=2) r6 (Dd (.slice ao ks.length cap) rfl) Az rfl (by simp[AO,Ac,hsa.1,hpo.1]),ym r5,BH rq8 (fun w=>CU Tryz.underlying34 (by kernel_rfl) (hr.1.1) (by omega) (rfl) w),yf r6 (fun _=>by kernel_rfl),Bg r6 (fun _ g=>AY (tyT (VK.s x) rfl) (RdK.treeX (hr.kn g) rfl hil hx_x)),ym r5,Al [.agg #[VK.s x],.int .i64 a] Tryz.func89 (by kernel_rfl) rq4 ⟨(oy rfl rfl),(oy rfl rfl),AKW⟩ (A7 fun W g=>Yh rfl ((hr.kn g).kt hil hx_x)),BZ rq4 (fun _ _ h=>⟨_,_,h,rfl,rfl⟩),BZ rq4 (fun _ _ h=>⟨_,_,h,rfl,rfl⟩),AKW⟩ fun a42 w42 g42 Gp=>?_
     refine Av Gp r7 (Bb ((CO x.l a).1) (GD ((hr.kt hil hx_x).2.1) a).1) (AC g42 CM) (Dk (GD ((hr.kt hil hx_x).2.1) a)) fun w43 g43 h43=>?_
     replace hr:=(hr.kn g42).offR g43 (AP Dv)
     replace HG:=AD (AA (AA HG Qc) g42) g43 GZ
     replace CM:=h43
     refine AR (v:=.int .i64 ((CO x.l a).2)) Gp r6 fun a44 N8=>?_
     have E8:Sv _ _ [_,_,_,_,_,_,_,_,_,_,_,_,_,_,_,_,_,_,_,_] _:=N8.dl [27,28,29,30,31,32,33,34,35,36]
     refine AE ?_
     refine k41 _ _ ?_
     refine AKT ?_
     repeat refine AK ?_
     refine Aw (fn:=Tryz.f42) E8 (C4 (p:=6) (q:=7) Tryz.results42 E8 rfl rfl rfl rfl (Bb ((CO x.l a).1) (GD ((hr.kt hil hx_x).2.1) a).1) CM) ?_
     exact⟨AIe (NG ha hv hf hi htr).symm,HG⟩
end Go.Proofs.YtbfjfnbcmojpiaaGreat
namespace Go.Proofs.YtbfjfnbcmojpiaaGreat
open Go.RowKit
def Sp.made (B:Nat) (e:TypeId) (sz n:Nat) (xs:List Value):Sp:=⟨fun w v=>∃A,v=.slice (some ⟨A,0,none⟩) n n∧Own w e sz (.slice (some ⟨A,0,none⟩) n n) n xs∧B≤A,fun _ _ _ hg ⟨A,h1,h2,h3⟩=>⟨A,h1,h2.kn hg,h3⟩⟩
section
variable {P:Program} {ops:Array Oper} {L:Nat→Sp} {n:Nat} {w0:World} {o:Oper}
theorem PC {z:Value} {sz:Nat} (hz:z.cells.size=sz) (hp:0<sz) (m:Nat):(madeCells z.cells (m*sz)).toList=(List.replicate m ()).flatMap fun _=>z.cells.toList:=by
 refine List.ext_getElem? fun i=>?_
 have hl:((List.replicate m ()).flatMap fun _=>z.cells.toList).length=m*sz:=by rw[HU (sz:=sz) (fun _=>by simpa using hz)];simp
 by_cases hi:i<m*sz
 · have h1:i/sz<m:=(Nat.div_lt_iff_lt_mul hp).2 hi
   have h2:i%sz<sz:=Nat.mod_lt _ hp
   have e1:(madeCells z.cells (m*sz)).toList[i]?=some z.cells[i%sz]!:=by rw[←hz] at hi ⊢;simp[madeCells,hi]
   have e2:((List.replicate m ()).flatMap fun _=>z.cells.toList)[i]?=some (z.cells[i%sz]'(by omega)):=by
    have hsp:=KM (c:=fun _=>z.cells.toList) (L:=List.replicate m ()) (j:=i/sz) (by simpa using h1)
    rw[hsp,List.getElem?_append_right (by rw[HU (sz:=sz) (fun _=>by simpa using hz),List.length_take,List.length_replicate,Nat.min_eq_left (Nat.le_of_lt h1)];exact Nat.div_mul_le_self i sz),HU (sz:=sz) (fun _=>by simpa using hz),List.length_take,List.length_replicate,Nat.min_eq_left (Nat.le_of_lt h1)]
    have e3:i-i/sz*sz=i%sz:=by have:=Nat.div_add_mod i sz;rw[Nat.mul_comm] at this;omega
    rw[e3,List.getElem?_append_left (by simpa [hz] using h2),Array.getElem?_toList,Array.getElem?_eq_getElem (by omega)]
   rw[e1,e2,getElem!_pos z.cells _ (by omega)]
 · rw[List.getElem?_eq_none (by simp[madeCells];omega),List.getElem?_eq_none (by omega)]
theorem AFU {t e:TypeId} {z:Value} {size bytes d B m:Nat} {x:Operand} {xs:List Value} (E:ET P t e z size bytes) (ho:o.op=.makeSlice t x x) (hd:o.dst=some d) (hg:GX ops L n o.guard) (hB:B≤w0.heap.size)
  (hx:OpX L n x (.int .i64 (m:Int))) (hm:m≤1000000) (hxs:xs=(List.replicate m ()).flatMap fun _=>z.cells.toList)
  (h:∀w v,(Sp.made B e size m xs).on w v→(L d).on w v):OX P ops L n w0 o:=by
 intro a w hw hl hs
 unfold OpSays
 rw[if_pos (hg.wanted hl hs)]
 have e1:=hx.eval (o:=o) (a:=a) (w:=w) (by simp[ho,Op.operands]) hl
 obtain⟨i,hi,hz,rfl,hby⟩:=E.inf
 have hb:=E.bnd
 have hbytes:(i.bytes:Int)*(m:Int)≤281474976710656:=by
  have h1:i.bytes*m≤128*1000000:=Nat.mul_le_mul (by omega) hm
  have h2:((i.bytes*m:Nat):Int)≤((128*1000000:Nat):Int):=by omega
  rw[Int.natCast_mul] at h2
  omega
 have hr:=run_make (P:=P) w t e i z E.und hi hz .i64 .i64 (m:Int) (m:Int) (by omega) (by omega) hbytes (by omega)
 have hrr:(execOp a.eval o).run P w=.ok (.value (.slice (some ⟨w.heap.size,0,none⟩) m m)) (w.alloc (.cells (madeCells z.cells (m*i.size)) e)):=by
  simp only[execOp,ho,e1,Sem.run_bind,Sem.run_pure,Result.andThen_ok,hr,Int.toNat_natCast]
 rw[hrr]
 refine⟨World.grownBy_alloc _ _ _,Cw hd (h _ _ ⟨_,rfl,?_,Nat.le_trans hB hw.size⟩)⟩
 have hcl:(madeCells z.cells (m*i.size)).size=m*i.size:=size_madeCells _ _
 refine⟨by rw[hxs,←PC E.zsz E.pos,Array.length_toList,hcl],.inr ⟨w.heap.size,m,_,rfl,Nat.zero_le _,Am rfl,Nat.le_refl _,by unfold maxLen;omega,hcl,?_⟩⟩
 rw[hxs,←PC E.zsz E.pos,List.take_of_length_le (by rw[Array.length_toList,hcl];exact Nat.le_refl _)]
theorem TC {t e:TypeId} (ht:P.underlying t=some (.slice e)) {x y:Operand} {ao:Option Addr} {l c:Nat} {r:Bool} (hr:ao.isNone=r) {w:World}:(do eqGuard .eql t x y (.slice ao l c) (.slice none 0 0);binOp .eql t (.slice ao l c) (.slice none 0 0):Sem Value).run P w=.ok (.bool r) w:=by
 subst hr
 have:=run_eql_slice_nil (P:=P) w t e ao l c ht
 simp[eqGuard,this]
end
def PD:VK:=⟨AS,Ab,none,0,[]⟩
theorem AIY (m:Nat):((List.replicate m ()).flatMap fun _=>zK.cells.toList)=(List.replicate m PD).flatMap Ax:=by
 induction m with
 | zero=>rfl
 | succ m ih=>rw[List.replicate_succ,List.replicate_succ,List.flatMap_cons,List.flatMap_cons,ih];rfl
theorem KsR.rep (w:World) (m:Nat):KsR w (List.replicate m PD):=fun k hk=>by
 obtain⟨_,rfl⟩:=List.mem_replicate.1 hk
 exact RdT.nil w
theorem KN (m b:Nat):¬Hb (List.replicate m PD) b:=by
 rintro ⟨k,hk,h⟩
 obtain⟨_,rfl⟩:=List.mem_replicate.1 hk
 simp[Nw,VK.s,PD,Value.ownBlock] at h
theorem KsR.set {w:World} {ms:List VK} (h:KsR w ms) {x:VK} (hx:RdT w x.s x.l) (i:Nat):KsR w (ms.set i x):=fun k hk=>(List.mem_or_eq_of_mem_set hk).elim (h k) fun e=>e▸hx
theorem JH {ms:List VK} {x:VK} {i b:Nat} (h:Hb (ms.set i x) b):Hb ms b∨Nw x.s b:=by
 obtain⟨k,hk,hb⟩:=h
 exact(List.mem_or_eq_of_mem_set hk).elim (fun h=>.inl ⟨k,h,hb⟩) fun e=>.inr (e▸hb)
def KsT (w:World) (ms:List VK):Prop:=KsR w ms∧∀k,Hb ms k→TagB w k
section
variable {w w':World} {ms:List VK}
theorem KsT.kn (h:KsT w ms) (g:w.grownBy w' none):KsT w' ms:=⟨h.1.kn g,fun k hk=>(h.2 k hk).keep g (by simp)⟩
theorem KsT.offR (h:KsT w ms) {row:Option Nat} (g:w.grownBy w' row) (hb:∀k,Hb ms k→row≠some k):KsT w' ms:=⟨h.1.offR g hb,fun k hk=>(h.2 k hk).keep g (hb k hk)⟩
theorem KsT.lt (h:KsT w ms):∀k,Hb ms k→k<w.heap.size:=h.1.lt
theorem KsT.rep (w:World) (m:Nat):KsT w (List.replicate m PD):=⟨KsR.rep w m,fun k hk=>(KN m k hk).elim⟩
theorem KsT.set (h:KsT w ms) {x:VK} (hx:RdTg w x.s x.l) (i:Nat):KsT w (ms.set i x):=⟨h.1.set hx.1 i,fun k hk=>(JH hk).elim (h.2 k) (hx.2 k)⟩
end
def Sp.ck (B:Nat) (o:List Nat) (l:List Nd):Sp:=⟨fun w v=>∃x:VK,v=IB x∧x.o=o∧x.l=l∧RdTg w x.s x.l∧∀k,Nw x.s k→B≤k,fun _ _ _ hg ⟨x,h1,h2,h3,h4,h5⟩=>⟨x,h1,h2,h3,h4.kn hg,h5⟩⟩
section
variable {ops:Array Oper} {L:Nat→Sp} {n:Nat} {w0:World} {o:Oper}
theorem AIZ {B:Nat} {l:List Nd} {w:World} {u:Value} (h:(Sp.cl B l).on w u):∃v,(Instr.build 56 #[(0,u)]).run Tryz.prog w=.ok v w∧(Sp.ct B l).on w v:=by
 obtain⟨ao,cap,rfl,h2,h3⟩:=h
 exact⟨_,AJW ao _ cap w,ao,cap,rfl,h2,h3⟩
theorem AGc {B:Nat} {l:List Nd} {x:List Nat} (hx:Dg x) {w:World} {u t:Value} (hu:u=AQ x) (h:(Sp.ct B l).on w t):∃v,(Instr.build 58 #[(0,u),(1,t)]).run Tryz.prog w=.ok v w∧(Sp.ck B x l).on w v:=by
 obtain⟨ao,cap,rfl,h2,h3⟩:=h
 subst hu
 exact⟨_,bK2 (k:=⟨x,hx,ao,cap,l⟩) w,⟨x,hx,ao,cap,l⟩,rfl,rfl,rfl,h2,h3⟩
end
theorem AJX (x:VK) (w:World):(Instr.buildSlice 34 1 #[(0,IB x)]).run Tryz.prog w=.ok (.slice (some ⟨w.heap.size,0,none⟩) 1 1) (w.alloc (.cells (Ax x).toArray 58)):=by
 obtain⟨o,ho,ao,cap,l⟩:=x
 obtain⟨x0,x1,x2,x3,x4,x5,x6,x7,x8,x9,x10,x11,x12,x13,x14,x15,x16,x17,x18,x19,x20,x21,x22,x23,x24,x25,x26,x27,x28,x29,x30,x31,rfl⟩:=JU _ ho.1
 kernel_rfl
theorem AFV {ks ms:List VK} {i:Nat} {x y:VK} (hl:ms.length=ks.length) (hi:i<ks.length) (hx:ks[i]=x) (ho:y.o=x.o) (hll:y.l=x.l) (h:∀j,j<i→(ms.map VK.p)[j]?=(ks.map VK.p)[j]?):∀j,j<i+1→((ms.set i y).map VK.p)[j]?=(ks.map VK.p)[j]?:=by
 intro j hj
 rw[List.getElem?_map,List.getElem?_set]
 by_cases e:i=j
 · subst e
   rw[if_pos rfl,if_pos (by omega),List.getElem?_map,List.getElem?_eq_getElem hi,hx]
   simp[VK.p,ho,hll]
 · rw[if_neg e,←List.getElem?_map]
   exact h j (by omega)
theorem AHP {ks ms:List VK} {i:Nat} (hl:ms.length=ks.length) (hi:¬i<ks.length) (h:∀j,j<i→(ms.map VK.p)[j]?=(ks.map VK.p)[j]?):ms.map VK.p=ks.map VK.p:=by
 refine List.ext_getElem? fun j=>?_
 by_cases hj:j<ks.length
 · exact h j (by omega)
 · rw[List.getElem?_eq_none (by simpa [hl] using hj),List.getElem?_eq_none (by simpa using hj)]
end Go.Proofs.YtbfjfnbcmojpiaaGreat
