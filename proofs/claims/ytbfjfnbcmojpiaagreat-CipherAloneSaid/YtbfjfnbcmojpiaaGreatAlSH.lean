import Derived.Test.YtbfjfnbcmojpiaaGreatAlV4
import Derived.Lib.AppendZerosOnto
import Derived.Lib.SliceRun
import Derived.Laws.Externs
import Derived.Laws.IdiomCopy
import Derived.Deep.RegionLaw
import Derived.Test.YtbfjfnbcmojpiaaGreatAlSG
import Derived.Laws.MakeOwn
import Derived.Lib.LazyBuf
set_option linter.unusedSimpArgs false
set_option linter.unusedVariables false
set_option maxRecDepth 100000
set_option maxHeartbeats 4000000
namespace Go.Proofs.YtbfjfnbcmojpiaaGreat
open Go.RowKit
def zK:Value:=.agg ([bv AR,[.slice none 0 0]].flatten).toArray
theorem AEg:zK.cells.size=33:=rfl
theorem Xs:ET Tryz.prog 34 58 zK 33 56:=⟨Tryz.underlying34,info_parts (by kernel_rfl),rfl,by decide,by decide⟩
theorem Jv (l:List VK):(l.flatMap Af).length=l.length*33:=Hj C3 l
theorem Own.blk {w:World} {e:TypeId} {sz g n cap:Nat} {xs:List Value} (h:Own w e sz (.slice (some ⟨g,0,none⟩) n cap) n xs):∃C:List Value,w.heap[g]?=some (.cells C.toArray e (0,0))∧n≤cap∧cap≤maxLen∧C.length=cap*sz∧C.take (n*sz)=xs:=by
 obtain⟨hl,h2⟩:=h
 rcases h2 with ⟨h3,_⟩|⟨g',cap',cur,h3,hb,hg,hnc,hcm,hcs,ht⟩
 · cases h3
 · simp only[Value.slice.injEq,Option.some.injEq,Addr.mk.injEq,and_true] at h3
   obtain⟨rfl,_,rfl⟩:=h3
   exact⟨cur.toList,by simpa using hg,hnc,hcm,by simpa using hcs,ht⟩
theorem Own.mk' {w:World} {e:TypeId} {sz g n cap:Nat} {xs C:List Value} (h1:w.heap[g]?=some (.cells C.toArray e (0,0))) (h2:n≤cap) (h3:cap≤maxLen) (h4:C.length=cap*sz) (h5:C.take (n*sz)=xs):Own w e sz (.slice (some ⟨g,0,none⟩) n cap) n xs:=by
 have hm:n*sz≤cap*sz:=Nat.mul_le_mul_right _ h2
 exact⟨by rw[←h5,List.length_take];omega,.inr ⟨g,cap,C.toArray,rfl,Nat.zero_le _,h1,h2,h3,by simpa using h4,by simpa using h5⟩⟩
theorem Z8 {P:Program} (w:World) (dT sT ty elem:TypeId) (size:Nat) (b o dLen dCap:Nat) (a:Addr) (sLen sCap:Nat) (cs:List Value)
  (hu:P.underlying dT=some (.slice elem)) (hs:(P.info? elem).map (·.size)=some size) (hn:cs.length=Nat.min sLen dLen*size)
  (hsrc:∀j v,cs[j]?=some v→w.cell? (a.add j)=some v) (hc:∀j,j<cs.length→(w.cell? ⟨b,o+j,none⟩).isSome=true) (hf:∀j,j<cs.length→w.frozen? ⟨b,o+j,none⟩=false) (h1:∀v∈cs,v.oneCell'=true) :
  (Builtin.copy_ #[dT,sT] ty #[.slice (some ⟨b,o,none⟩) dLen dCap,.slice (some a) sLen sCap]).run P w=.ok (goInt (Nat.min sLen dLen)) (w.setCells b o cs):=by
 have hl:=run_loadCells_list (P:=P) w a cs hsrc
 have hst:=run_storeCells_cells (P:=P) b o cs 0 w (by simpa using hc) (by simpa using hf) h1
 cases hq:P.info? elem with
 | none=>simp[hq] at hs
 | some i =>
  have hi:i.size=size:=by simpa [hq] using hs
  simp only[Nat.add_zero] at hst
  rw[hn] at hl
  simp[Builtin.copy_,run_underlying hu,Builtin.lenOf,Builtin.firstCells,sizeOf,typeInfo,hq,hi,hl,hst]
theorem Uc {P:Program} (w:World) (dT sT ty elem:TypeId) (size:Nat) (g o dLen dCap:Nat) (a:Addr) (sLen sCap:Nat) (cs C:List Value)
  (hu:P.underlying dT=some (.slice elem)) (hs:(P.info? elem).map (·.size)=some size) (hn:cs.length=Nat.min sLen dLen*size)
  (hsrc:∀j v,cs[j]?=some v→w.cell? (a.add j)=some v) (hb:w.heap[g]?=some (.cells C.toArray elem (0,0))) (hfit:o+cs.length≤C.length) (h1:∀v∈cs,v.oneCell'=true) :
  ∃w',(Builtin.copy_ #[dT,sT] ty #[.slice (some ⟨g,o,none⟩) dLen dCap,.slice (some a) sLen sCap]).run P w=.ok (goInt (Nat.min sLen dLen)) w'∧w.grownBy w' (some g)∧w'.heap[g]?=some (.cells (C.take o++(cs++C.drop (o+cs.length))).toArray elem (0,0)):=by
 refine⟨_,Z8 w dT sT ty elem size g o dLen dCap a sLen sCap cs hu hs hn hsrc (fun j hj=>?_) (fun j hj=>AL4 w g _ _ elem hb) h1,DA _ _ _ _,Ji C o cs hb hfit⟩
 rw[Ld hb,List.getElem?_eq_getElem (by omega)]
 rfl
theorem LF {P:Program} {w:World} {ops:Array Oper} {rest:List Oper} {o:Oper} {a:Act} {Q:Exit→Act→World→Prop} (hgd:o.guard=none) (s x:Operand) (t t':TypeId)
  (ho:o.op=.call { callee:=.builtin .append,args:=#[s,x],argTypes:=#[t,t'] }) (v u:Value) (hs:a.eval s=v) (hx:a.eval x=u) {v':Value} {w':World}
  (hr:(Builtin.append_ #[t,t'] o.type #[v,u]).run P w=.ok v' w') (h:wpList P ops Q rest (a.put o.dst v') w'):wpList P ops Q (o::rest) a w:=by
 refine wpList_plain hgd fun K hK=>?_
 unfold Oper.wp execOp
 simp only[ho,resolve,invoke,builtin,Sem.run_bind,Sem.run_pure,Result.andThen_ok,List.map_toArray,List.map_cons,List.map_nil,hs,hx,hr]
 exact hK _ _ h
theorem AEh {w:World} {V:Nat} {x:VK} (h:w.heap[V]?=some (.cells (Af x).toArray 58 (0,0))):Sl w 33 (.slice (some ⟨V,0,none⟩) 1 1) 1 (Af x):=
 ⟨by rw[C3],some ⟨V,0,none⟩,1,rfl,Nat.le_refl _,by unfold maxLen;omega,fun h=>(by cases h),fun a ha=>by
  obtain rfl:=Option.some.inj ha
  refine⟨fun _=>rfl,fun j u hu=>?_⟩
  rw[Nat.zero_add,Ld h]
  exact hu⟩
theorem AEi (l:List VK):∀v∈l.flatMap Af,v.oneCell'=true:=List.all_eq_true.1 (Qu l)
theorem ACf (l:List VK) (i:Nat) (hi:i≤l.length):(l.take i).flatMap Af=(l.flatMap Af).take (i*33):=by
 have e:l.flatMap Af=(l.take i).flatMap Af++(l.drop i).flatMap Af:=by rw[←List.flatMap_append,List.take_append_drop]
 rw[e,List.take_left' (by rw[Jv,List.length_take];omega)]
theorem ACg (l:List VK) (i:Nat) (hi:i≤l.length):(l.drop i).flatMap Af=(l.flatMap Af).drop (i*33):=by
 have e:l.flatMap Af=(l.take i).flatMap Af++(l.drop i).flatMap Af:=by rw[←List.flatMap_append,List.take_append_drop]
 rw[e,List.drop_left' (by rw[Jv,List.length_take];omega)]
theorem AIy {α:Type} (C X Y:List α) (a:Nat) (hC:a+X.length+Y.length≤C.length) :
  ((C.take a++(X++C.drop (a+X.length))).take (a+X.length)++(Y++(C.take a++(X++C.drop (a+X.length))).drop (a+X.length+Y.length))).take (a+X.length+Y.length)=C.take a++(X++Y):=by
 have h1:(C.take a).length=a:=by rw[List.length_take];omega
 have h2:(C.take a++(X++C.drop (a+X.length))).take (a+X.length)=C.take a++X:=by
  rw[←List.append_assoc,List.take_left' (by rw[List.length_append,h1])]
 rw[h2,←List.append_assoc,List.take_left' (by simp only[List.length_append,h1]),List.append_assoc]
theorem ACh (l:List VK) (x:VK) (i:Nat) (hi:i≤l.length):(l.take i++x::l.drop i).flatMap Af=(l.flatMap Af).take (i*33)++(Af x++(l.flatMap Af).drop (i*33)):=by
 rw[List.flatMap_append,List.flatMap_cons,ACf l i hi,ACg l i hi]
theorem VR {P:Program} {t e:TypeId} {z:Value} {size bytes:Nat} (E:ET P t e z size bytes) (ty:TypeId) {w:World} {A n0:Nat} {xs:List Value} (hown:Own w e size (.slice (some ⟨A,0,none⟩) n0 n0) n0 xs)
  {sv:Value} {m:Nat} {news:List Value} (hs:Sl w size sv m news) (h1:news.all Value.oneCell'=true) (hm:0<m) (h63:n0+m≤1000000000) :
  ∃v' w',(Builtin.append_ #[t,t] ty #[.slice (some ⟨A,0,none⟩) n0 n0,sv]).run P w=.ok v' w'∧Own w' e size v' (n0+m) (xs++news)∧w.grownBy w' none∧∀k,Bk v' k→w.heap.size≤k:=by
 obtain⟨i,hi,hz,rfl,hby⟩:=E.inf
 have hb:=E.bnd
 obtain⟨v',w',hr,hown',hst⟩:=Um E ty hown hs h1 (by omega)
 have hold:=(Sl.of_own hown)
 obtain⟨hlo,ao0,cap0,e0,_,_,_,hc0⟩:=hold
 simp only[Value.slice.injEq,true_and] at e0
 obtain⟨rfl,rfl⟩:=e0
 obtain⟨hl,ao,cap,rfl,hm1,hm2,h3,h4⟩:=hs
 cases ao with
 | none=>have:=h3 rfl;omega
 | some ad =>
  obtain⟨b,off,spot⟩:=ad
  obtain⟨hsp,hc⟩:=h4 _ rfl
  have hsp:=hsp hm
  simp at hsp
  subst hsp
  have hbytes:(n0+m)*bytes≤140737488355328:=by
   have:(n0+m)*bytes≤1000000000*128:=Nat.mul_le_mul h63 hb
   omega
  have hr2:=run_append_grow (P:=P) w t ty e i z E.und hi hz ⟨A,0,none⟩ n0 n0 xs hlo (fun j u hj=>by rw[Addr.add_lit];exact(hc0 _ rfl).2 j u hj) ⟨b,off,none⟩ m cap news hl (fun j u hj=>by rw[Addr.add_lit];exact hc j u hj) (by omega) (by omega) (growslice_fits (by omega) (by subst hby;exact hbytes))
  have hr3:=hr2
  rw[hr] at hr2
  simp only[Result.ok.injEq] at hr2
  obtain⟨rfl,rfl⟩:=hr2
  exact⟨_,_,hr3,hown',AA (CR w) (World.grownBy_alloc _ _ _),fun k hk=>by simp[Bk,Value.ownBlock] at hk;omega⟩
theorem PZ (l:List VK) (x:VK) (g V:Nat) (w:World) (hown:Own w 58 33 (.slice (some ⟨g,0,none⟩) l.length l.length) l.length (l.flatMap Af)) (hv:w.heap[V]?=some (.cells (Af x).toArray 58 (0,0))) (hn:l.length≤1000000) :
  Calls Tryz.prog 83 #[.slice (some ⟨g,0,none⟩) l.length l.length,.int .i64 (l.length:Nat),.slice (some ⟨V,0,none⟩) 1 1] w fun e w'=>∃v',e=.returned v'∧Own w' 58 33 v' (l.length+1) ((l++[x]).flatMap Af)∧w.grownBy w' none∧∀k,Bk v' k→w.heap.size≤k:=by
 have hx:=AEh hv
 have hflat:(l++[x]).flatMap Af=l.flatMap Af++Af x:=by simp
 obtain⟨v5,w5,hr,ho,hg,hf⟩:=VR Xs 34 hown hx (List.all_eq_true.2 (IP x)) (by omega) (by omega)
 have HF:=AH hflat
 have HR:=AH hr
 have HO:=AH ho
 have HG:=AH hg
 have HX:=AH hf
 have z1:(0:Int)≤(l.length:Int):=by omega
 clear hx hown hv hflat hr ho hg hf
 go_enter Tryz.func83,Tryz.ntmps83
 go_wp2_with (first|(at_builtin;refine LF rfl (.tmp 23) (.tmp 24) 34 34 rfl _ _ rfl rfl HR.out ?_)|(refine LF rfl (.tmp 23) (.tmp 24) 34 34 rfl _ _ rfl rfl HR.out ?_)|fail)
 go_ret
 exact⟨_,rfl,by rw[HF.out];exact HO.out,HG.out,HX.out⟩
theorem OE (l:List VK) (x:VK) (i g cap V:Nat) (w:World) (hown:Own w 58 33 (.slice (some ⟨g,0,none⟩) l.length cap) l.length (l.flatMap Af)) (hv:w.heap[V]?=some (.cells (Af x).toArray 58 (0,0))) (hi:i<l.length) (hroom:cap<l.length+1) (hn:l.length≤1000000) :
  Calls Tryz.prog 83 #[.slice (some ⟨g,0,none⟩) l.length cap,.int .i64 i,.slice (some ⟨V,0,none⟩) 1 1] w fun e w'=>∃v',e=.returned v'∧Own w' 58 33 v' (l.length+1) ((l.take i++x::l.drop i).flatMap Af)∧w.grownBy w' none∧∀k,Bk v' k→w.heap.size≤k:=by
 obtain⟨C,hb,hnc,hcm,hCl,hCt⟩:=hown.blk
 obtain rfl:cap=l.length:=by omega
 have hX4:(Af x).length=33:=C3 x
 have hYl:((l.flatMap Af).drop (i*33)).length=(l.length-i)*33:=by rw[List.length_drop,Jv];omega
 obtain⟨i0,hi0,hz0,hzs,hzb⟩:=Xs.inf
 have hold:(Builtin.firstCells i0.size i (.slice (some ⟨g,0,none⟩) i l.length)).run Tryz.prog w.drew=.ok ((l.flatMap Af).take (i*33)).toArray w.drew:=by
  rw[hzs]
  exact run_firstCells_some w.drew 33 i ⟨g,0,none⟩ i l.length ((l.flatMap Af).take (i*33)) (by rw[List.length_take,Jv];omega) (fun j v hj=>by
   rw[Addr.add_lit,Nat.zero_add]
   have h3:w.cell? ⟨g,j,none⟩=some v:=by
    have hjl:=(List.getElem?_eq_some_iff.1 hj).1
    rw[List.length_take,Jv] at hjl
    rw[List.getElem?_take,if_pos (by omega),←hCt,List.getElem?_take,if_pos (by omega)] at hj
    rw[Ld hb,hj]
   exact h3)
 have hrz:=Lib.run_append_grow_zeros w 34 3 34 58 i0 _ .i64 .i64 Tryz.underlying34 Tryz.underlying3 hi0 hz0 (some ⟨g,0,none⟩) i l.length ((l.flatMap Af).take (i*33)) hold (l.length+1-i) (by omega) (by omega) (by omega) (by omega) (by rw[hzb];omega) (by rw[hzb,show i+(l.length+1-i)=l.length+1 by omega];exact growslice_fits (by omega) (by omega))
 rw[show i+(l.length+1-i)=l.length+1 by omega] at hrz
 have hGge:l.length+1≤grownCap w (l.length+1) l.length 58:=grownCap_ge w _ _ _
 have hGle:grownCap w (l.length+1) l.length 58≤maxLen:=grownCap_le_maxLen w _ _ _ (by unfold maxLen;omega)
 generalize hG:grownCap w (l.length+1) l.length 58=G at *
 obtain⟨R,hR⟩:∃R:List Value,R=((l.flatMap Af).take (i*33))++(Builtin.zeroCells zK.cells (l.length+1-i)).toList++(Builtin.zeroCells zK.cells (G-(l.length+1))).toList:=⟨_,rfl⟩
 have hRa:((l.flatMap Af).take (i*33)).toArray++Builtin.zeroCells zK.cells (l.length+1-i)++Builtin.zeroCells zK.cells (G-(l.length+1))=R.toArray:=by
  rw[hR]
  apply Array.ext'
  simp
 rw[hRa] at hrz
 have hzl:∀k,(Builtin.zeroCells zK.cells k).toList.length=k*33:=fun k=>by simp[Builtin.zeroCells,AEg]
 have hRl:R.length=G*33:=by rw[hR,List.length_append,List.length_append,hzl,hzl,List.length_take,Jv];omega
 have hRt:R.take (i*33)=(l.flatMap Af).take (i*33):=by rw[hR,List.append_assoc,List.take_left' (by rw[List.length_take,Jv];omega)]
 have hgw:g<w.heap.size:=(Array.getElem?_eq_some_iff.1 hb).1
 have hVw:V<w.heap.size:=(Array.getElem?_eq_some_iff.1 hv).1
 have gW:=AA (CR w) (World.grownBy_alloc w.drew (.cells R.toArray 58) none)
 have hbN:(w.drew.alloc (.cells R.toArray 58)).heap[w.heap.size]?=some (.cells R.toArray 58 (0,0)):=Ah rfl
 have hvW:=AF gW hv (by simp)
 have hbW:=AF gW hb (by simp)
 generalize w.drew.alloc (.cells R.toArray 58)=W1 at *
 obtain⟨w2,hr2,hg2,hb2⟩:=Uc (P:=Tryz.prog) W1 34 34 3 58 33 w.heap.size (i*33) (l.length+1-i) (G-i) ⟨V,0,none⟩ 1 1 (Af x) R Tryz.underlying34 (by kernel_rfl)
  (by rw[hX4,show Nat.min 1 (l.length+1-i)=1 by simp[Nat.min_def];omega])
  (fun j v hj=>by rw[Addr.add_lit,Nat.zero_add,Ld hvW];exact hj) hbN (by rw[hX4,hRl];omega) (IP x)
 have hb2g:=AF hg2 hbW (by simp;omega)
 obtain⟨w3,hr3,hg3,hb3⟩:=Uc (P:=Tryz.prog) w2.drew 34 34 3 58 33 w.heap.size ((i+1)*33) (l.length-i) (G-(i+1)) ⟨g,i*33,none⟩ (l.length-i) (l.length-i) ((l.flatMap Af).drop (i*33)) _ Tryz.underlying34 (by kernel_rfl)
  (by rw[hYl,show Nat.min (l.length-i) (l.length-i)=l.length-i by simp[Nat.min_def]])
  (fun j v hj=>by
   rw[Addr.add_lit]
   have h3:w2.cell? ⟨g,i*33+j,none⟩=some v:=by
    have hjl:=(List.getElem?_eq_some_iff.1 hj).1
    rw[hYl] at hjl
    rw[List.getElem?_drop,←hCt,List.getElem?_take,if_pos (by omega)] at hj
    rw[Ld hb2g,hj]
   exact h3) hb2 (by simp only[List.length_append,List.length_take,List.length_drop,hX4,hYl,hRl];omega) (fun v hv=>AEi l v (List.mem_of_mem_drop hv))
 have e1:Nat.min (l.length-i) (l.length-i)=l.length-i:=by simp[Nat.min_def]
 have e2:Nat.min 1 (l.length+1-i)=1:=by simp[Nat.min_def];omega
 rw[e1] at hr3
 rw[e2] at hr2
 have ho:Own w3 58 33 (.slice (some ⟨w.heap.size,0,none⟩) (l.length+1) G) (l.length+1) ((l.take i++x::l.drop i).flatMap Af):=by
  refine Own.mk' hb3 hGge hGle (by simp only[List.length_append,List.length_take,List.length_drop,hX4,hYl,hRl];omega) ?_
  rw[ACh l x i (by omega),←hRt]
  have ht:=AIy R (Af x) ((l.flatMap Af).drop (i*33)) (i*33) (by rw[hX4,hYl,hRl];omega)
  rw[hX4,hYl,show i*33+33+(l.length-i)*33=(l.length+1)*33 by omega] at ht
  rw[hX4,hYl,show(i+1)*33=i*33+33 by omega,show i*33+33+(l.length-i)*33=(l.length+1)*33 by omega]
  exact ht
 have hkk:(((l.length+1-i:Nat):Nat):Int)=(l.length:Int)+1-(i:Int):=by omega
 rw[hkk] at hrz
 have HRZ:=AH hrz
 have HR2:=AH hr2
 have HR3:=AH hr3
 have O3:=AH ho
 have G3:=AH (AD (AD gW hg2 (Nat.le_refl _)) (show w2.grownBy w3 (some w.heap.size) from⟨hg3.os,hg3.tape,hg3.output,hg3.size,hg3.block⟩) (Nat.le_refl _))
 have z1:(0:Int)≤(i:Int):=by omega
 have z2:(i:Int)≤(l.length:Int):=by omega
 have z3:¬((i:Int)=(l.length:Int)):=by omega
 have z4:(l.length:Int)<(l.length:Int)+1:=by omega
 have z5:¬(l.length=i):=by omega
 have z6:¬(G=i+1):=by omega
 have z7:¬(G=i):=by omega
 have z8:(i:Int)+1≤(l.length:Int)+1:=by omega
 have z9:l.length+1-(i+1)=l.length-i:=by omega
 have y2:(i:Int)≤(l.length:Int)+1:=by omega
 have y4:((i:Int)+1).toNat=i+1:=by omega
 have y5:(0:Int)≤(i:Int)+1:=by omega
 have y6:(0:Int)≤(l.length:Int)+1:=by omega
 have y7:IntKind.i64.wrap ((i:Int)+1)=(i:Int)+1:=by rw[IntKind.wrap_i64];omega
 clear hown hv hb hCl hCt hX4 hYl hi0 hz0 hzs hzb hold hrz hGge hGle hG hR hRa hzl hRl hRt gW hbN hvW hbW hr2 hg2 hb2 hb2g hr3 hg3 hb3 e1 e2 ho hkk hroom hnc hcm
 go_enter Tryz.func83,Tryz.ntmps83
 go_wp2_with (first|(at_builtin;refine LF rfl (.tmp 34) (.tmp 39) 34 3 rfl _ _ rfl rfl HRZ.out ?_)|(refine M0 rfl (.tmp 43) (.tmp 44) 34 34 rfl _ _ rfl rfl HR2.out ?_)|fail)
 go_region_law (first|(refine Zd rfl (.tmp 50) (.tmp 53) 34 34 rfl _ _ (by simp[Act.eval,Act.put]) (by simp[Act.eval,Act.put]) HR3.out ?_)|fail)
 all_goals
  go_wp2
  go_ret
  exact⟨_,rfl,O3.out,G3.out,fun k hk=>by simp[Bk,Value.ownBlock] at hk;omega⟩
theorem Xt (l:List VK) (x:VK) (i g V:Nat) (w:World) (hown:Own w 58 33 (.slice (some ⟨g,0,none⟩) l.length l.length) l.length (l.flatMap Af)) (hv:w.heap[V]?=some (.cells (Af x).toArray 58 (0,0))) (hi:i≤l.length) (hn:l.length≤1000000) :
   Calls Tryz.prog 83 #[.slice (some ⟨g,0,none⟩) l.length l.length,.int .i64 i,.slice (some ⟨V,0,none⟩) 1 1] w fun e w'=>∃v',e=.returned v'∧Own w' 58 33 v' (l.length+1) ((l.take i++x::l.drop i).flatMap Af)∧w.grownBy w' none∧∀k,Bk v' k→w.heap.size≤k:=by
 by_cases hil:i<l.length
 · exact OE l x i g l.length V w hown hv hil (by omega) hn
 · obtain rfl:i=l.length:=by omega
   rw[List.take_length,List.drop_length]
   exact PZ l x g V w hown hv hn
theorem Own.rdk {w:World} {ao:Option Addr} {n cap:Nat} {ks:List VK} {e:TypeId} (h:Own w e 33 (.slice ao n cap) n (ks.flatMap Af)):n=ks.length:=AIm (Sl.of_own h) C3 (by decide)
end Go.Proofs.YtbfjfnbcmojpiaaGreat
namespace Go.Proofs.YtbfjfnbcmojpiaaGreat
open Go.RowKit Go.Shelf
def kd (n:Nat) (k:List Nat):List Nat:=M4 (BitVec.ofNat 64 n) k []
theorem BR (n:Nat) (k:List Nat):Dg (kd n k):=⟨Gp _ _,Nu _ _⟩
theorem NG {n:Nat} (hn:n<1000) {c:Int} (hc:c=(n:Int)) {k:List Nat} (hk:Dg k) (w:World):Calls Tryz.prog 66 #[.int .u64 c,AP k,.slice none 0 0] w fun e w'=>e=.returned (AP (kd n k))∧w.grownBy w' none:=by
 have e:c=wi (BitVec.ofNat 64 n):=by rw[hc,←Km,IntKind.wrap_u64];omega
 rw[e]
 exact MX (BitVec.ofNat 64 n) k [] hk.1 hk.2 (by simp) (by simp) _ w (Sl.nil w 1)
theorem JW {n:Nat} (hn:n<1000) {c:Int} (hc:c=(n:Int)) {k:List Nat} (hk:Dg k) (w:World):Calls Tryz.prog 35 #[.int .u64 c,AP k,.slice none 0 0] w fun e w'=>e=.returned (AP (kd n k))∧w.grownBy w' none:=by
 have e:c=wi (BitVec.ofNat 64 n):=by rw[hc,←Km,IntKind.wrap_u64];omega
 rw[e]
 exact Ow (BitVec.ofNat 64 n) k [] hk.1 hk.2 (by simp) (by simp) _ w (Sl.nil w 1)
theorem bV0 (w:World):(Instr.build 36 #[]).run Tryz.prog w=.ok (Am AR AR (.slice none 0 0)) w:=by kernel_rfl
theorem bV2 {sa po:List Nat} (hs:Dg sa) (hp:Dg po) (w:World):(Instr.build 36 #[(0,AP sa),(1,AP po)]).run Tryz.prog w=.ok (Am sa po (.slice none 0 0)) w:=by
 obtain⟨x0,x1,x2,x3,x4,x5,x6,x7,x8,x9,x10,x11,x12,x13,x14,x15,x16,x17,x18,x19,x20,x21,x22,x23,x24,x25,x26,x27,x28,x29,x30,x31,rfl⟩:=II _ hs.1
 obtain⟨y0,y1,y2,y3,y4,y5,y6,y7,y8,y9,y10,y11,y12,y13,y14,y15,y16,y17,y18,y19,y20,y21,y22,y23,y24,y25,y26,y27,y28,y29,y30,y31,rfl⟩:=II _ hp.1
 kernel_rfl
theorem bV3 {sa po:List Nat} (hs:Dg sa) (hp:Dg po) (ao:Option Addr) (n cap:Nat) (w:World):(Instr.build 36 #[(0,AP sa),(1,AP po),(2,.slice ao n cap)]).run Tryz.prog w=.ok (Am sa po (.slice ao n cap)) w:=by
 obtain⟨x0,x1,x2,x3,x4,x5,x6,x7,x8,x9,x10,x11,x12,x13,x14,x15,x16,x17,x18,x19,x20,x21,x22,x23,x24,x25,x26,x27,x28,x29,x30,x31,rfl⟩:=II _ hs.1
 obtain⟨y0,y1,y2,y3,y4,y5,y6,y7,y8,y9,y10,y11,y12,y13,y14,y15,y16,y17,y18,y19,y20,y21,y22,y23,y24,y25,y26,y27,y28,y29,y30,y31,rfl⟩:=II _ hp.1
 kernel_rfl
theorem ALD {o:List Nat} (ho:Dg o) (ao:Option Addr) (n cap:Nat) (w:World):(Instr.build 58 #[(0,AP o),(1,.agg #[.slice ao n cap])]).run Tryz.prog w=.ok (.agg ([bv o,[.slice ao n cap]].flatten).toArray) w:=by
 obtain⟨x0,x1,x2,x3,x4,x5,x6,x7,x8,x9,x10,x11,x12,x13,x14,x15,x16,x17,x18,x19,x20,x21,x22,x23,x24,x25,x26,x27,x28,x29,x30,x31,rfl⟩:=II _ ho.1
 kernel_rfl
theorem bK2 {k:VK} (w:World):(Instr.build 58 #[(0,AP k.o),(1,.agg #[k.s])]).run Tryz.prog w=.ok (Hk k) w:=ALD k.ho k.ao k.l.length k.cap w
theorem ALB (ao:Option Addr) (n cap:Nat) (w:World):(Instr.build 56 #[(0,.slice ao n cap)]).run Tryz.prog w=.ok (.agg #[.slice ao n cap]) w:=by kernel_rfl
theorem JX {a:Int} {b:Bool} (h:Br a=b) (w:World):Calls Tryz.prog 75 #[.int .i64 a] w fun e w'=>e=.returned (.bool b)∧w.grownBy w' none:=(IJ a w).mono fun e w' ⟨h1,h2⟩=>⟨h▸h1,h2▸World.grownBy.refl _ _⟩
theorem IS {w:World} {ks:List VK} {ao:Option Addr} {cap:Nat} {sa po:List Nat} (hsa:Dg sa) (hpo:Dg po) (hr:RdK w (.slice ao ks.length cap) ks) {b:Bool} (hb:CK (ks.map VK.p)=b):Calls Tryz.prog 51 #[Am sa po (.slice ao ks.length cap)] w fun e w'=>e=.returned (.bool b)∧w.grownBy w' none:=hb▸Xn ks ao cap sa po hsa hpo w hr
theorem Ud {w:World} {ks:List VK} {ao:Option Addr} {cap:Nat} {sa po:List Nat} (hsa:Dg sa) (hpo:Dg po) (hr:RdK w (.slice ao ks.length cap) ks) {b:Bool} (hb:CK (ks.map VK.p)=b):Calls Tryz.prog 40 #[Am sa po (.slice ao ks.length cap)] w fun e w'=>e=.returned (.bool b)∧w.grownBy w' none:=hb▸VQ ks ao cap sa po hsa hpo w hr
theorem Qy {w:World} {ks:List VK} {ao:Option Addr} {cap:Nat} {sa po o:List Nat} (hsa:Dg sa) (hpo:Dg po) (ho:Dg o) (hr:RdK w (.slice ao ks.length cap) ks) (hv:CK (ks.map VK.p)=true) {b:Bool} (hb:Hv (ks.map VK.p) o=b) {i:Nat} (hi:pos (ks.map VK.p) o=i):Calls Tryz.prog 71 #[Am sa po (.slice ao ks.length cap),AP o] w fun e w'=>e=.returned (.tuple #[.int .i64 (i:Int),.bool b])∧w.grownBy w' none:=
 hb▸hi▸ACe ks ao cap sa po hsa hpo o ho w hr (Srt.of hv) (by have:=(Eh.1 hv).1;simpa using this)
theorem AJ9 {w:World} {ks:List VK} {ao:Option Addr} {cap:Nat} {sa po o:List Nat} (hsa:Dg sa) (hpo:Dg po) (ho:Dg o) (hr:RdK w (.slice ao ks.length cap) ks) (hv:CK (ks.map VK.p)=true) {c:Int} (hc:atV (ks.map VK.p) o=c):Calls Tryz.prog 84 #[Am sa po (.slice ao ks.length cap),AP o] w fun e w'=>e=.returned (.int .i64 c)∧w.grownBy w' none:=
 hc▸AGp ks ao cap sa po hsa hpo o ho w hr (Srt.of hv)
theorem AIz {P:List VP} {o:List Nat} (h:Hv P o=true) {i:Nat} (hi:pos P o=i):atV P o=(i:Int):=by unfold atV;rw[h,hi];rfl
theorem AKA {P:List VP} {o:List Nat} (h:Hv P o=false):atV P o=-1:=by unfold atV;rw[h];rfl
theorem ALE {x y:List Nat×Int} (h:x=y):Ending.returned (.tuple #[AP x.1,.int .i64 x.2])=Ending.returned (.tuple #[AP y.1,.int .i64 y.2]):=by rw[h]
theorem AEj {x:List Nat} {c:Int} {y:List Nat×Int} (h:y=(x,c)):Ending.returned (.tuple #[AP x,.int .i64 c])=Ending.returned (.tuple #[AP y.1,.int .i64 y.2]):=by rw[h]
theorem Xu {P:List VP} {o:List Nat} {a:Int} (h:Br a=false∨CK P=false):Co P o a=(AR,1):=by
 unfold Co
 rcases h with h|h<;>simp[h]
theorem ACi {P:List VP} {o:List Nat} {a:Int} (h1:Br a=true) (h2:CK P=true) (h3:Hv P o=false):Co P o a=(AR,10):=by
 unfold Co
 simp[h1,h2,h3]
theorem Ue {P:List VP} {o:List Nat} {a:Int} (h1:Br a=true) (h2:CK P=true) (h3:Hv P o=true) {i:Nat} (hi:pos P o=i) {l:List Nd} (hl:tr P i=l):Co P o a=Cy l a:=by
 unfold Co
 simp[h1,h2,h3,hi,hl]
theorem AAA {a:Int} (h:Br a=true):0≤a∧a<17179869184:=by
 unfold Br at h
 simpa using h
theorem ACj (k:List Nat) (hk:Dg k) (w:World) :
  Calls Tryz.prog 24 #[AP k] w fun e w'=>e=.returned (Am (kd 273 k) (kd 274 k) (.slice none 0 0))∧w.grownBy w' none:=by
 refine Dm Tryz.func24 rfl Tryz.ntmps24 rfl fun a0 sv0=>?_
 have HG:=World.grownBy.refl w none
 replace sv0:Sv 8 [] [(0,AP k)] a0:=sv0
 refine ALz fun K1 k1=>?_
 refine ALy ?_
 refine Bj sv0 r6 (B6 k hk.1) fun a2 w2 CI F8 g2 z2 Aa sv2=>?_
 replace HG:=AA HG g2
 refine Ar (T:=36) (Z:=([bv AR,bv AR,[.slice none 0 0]].flatten)) sv2 rfl rfl rfl (fun a w=>by kernel_rfl) fun a3 w3 OF Iz g3 z3 CO sv3=>?_
 have Jw:=Bt HG Iz
 replace Aa:=AC g3 Aa
 refine AE ?_
 refine k1 _ _ ?_
 refine ALz fun K4 k4=>?_
 refine ALy ?_
 refine Ef sv3 rfl (dd:={ target:=.fn (.func 65) #[],args:=#[] }) rfl (by simp[execOp,resolve,Deferred.ofValue];try rfl) fun a5 sv5=>?_
 refine AE ?_
 refine k4 _ _ ?_
 refine ALz fun K6 k6=>?_
 refine DW (sv5.st w3) (by kernel_rfl) 5 [(3,Sp.is (AP k)),(4,Sp.is (AP ((kd 273 k)))),(5,Sp.is (AP k)),(6,Sp.is (AP ((kd 274 k)))),(7,Sp.is (Am ((kd 273 k)) ((kd 274 k)) (.slice none 0 0)))] rfl (by kernel_rfl) (by kernel_rfl) (by kernel_rfl) [] (by kernel_rfl)
  ⟨yl r6 (B6 k hk.1) Aa,Ae [.int .u64 273,AP k,.slice none 0 0] Tryz.func66 (by kernel_rfl) rq4 ⟨rfl,(oy rfl rfl),rfl,AL5⟩ (Ap fun W g=>NG (n:=273) (by decide) rfl hk W),yl r6 (B6 k hk.1) Aa,Ae [.int .u64 274,AP k,.slice none 0 0] Tryz.func66 (by kernel_rfl) rq4 ⟨rfl,(oy rfl rfl),rfl,AL5⟩ (Ap fun W g=>NG (n:=274) (by decide) rfl hk W),BU (vs:=[AP ((kd 273 k)),AP ((kd 274 k))]) rfl rfl trivial ⟨(oy rfl rfl),(oy rfl rfl),AL5⟩ (fun _=>bV2 (BR _ _) (BR _ _) _) (fun _=>rfl),AL5⟩ trivial
  [] (by kernel_rfl) trivial ⟨.inl rfl,.inl rfl,.inl rfl,.inl rfl,.inl rfl,AL5⟩ (by kernel_rfl) fun a7 w7 g7 st7 nd7=>?_
 obtain⟨hn7,hd7,e7_3,e7_4,e7_5,e7_6,e7_7,e7_2,e7_1,e7_0,-⟩:=st7
 have sv7:Sv 8 [{ target:=.fn (.func 65) #[],args:=#[] }] [(2,_),(1,_),(0,_),(7,_)] a7:=⟨hn7,hd7,e7_2,e7_1,e7_0,e7_7,AL5⟩
 refine Ao sv7 r7 (Bb (BR _ _) (BR _ _) (.slice none 0 0) rfl) (AC g7 CO) (by first|rfl|simp[Af,AI,AV,(BR _ _).1,(BR _ _).1]) fun w8 g8 h8=>?_
 replace HG:=AD (AA (AA HG g3) g7) g8 Jw
 replace CO:=h8
 refine AE ?_
 refine k6 _ _ ?_
 refine AL2 ?_
 repeat refine AL ?_
 refine BK (fn:=Tryz.f24) sv7 (E2 (p:=2) Tryz.results24 sv7 rfl rfl (Bb (BR _ _) (BR _ _) (.slice none 0 0) rfl) CO) (Bn Tryz.func65 (by kernel_rfl) rfl _ _) (OA _) ?_
 exact⟨rfl,HG⟩
theorem AAB (k:List Nat) (hk:Dg k) (w:World) :
  Calls Tryz.prog 38 #[AP k] w fun e w'=>e=.returned (Am (kd 273 k) (kd 274 k) (.slice none 0 0))∧w.grownBy w' none:=by
 refine BZ Tryz.func38 rfl Tryz.ntmps38 rfl fun a0 sv0=>?_
 have HG:=World.grownBy.refl w none
 replace sv0:Sv 8 [] [(0,AP k)] a0:=sv0
 refine ALz fun K1 k1=>?_
 refine ALy ?_
 refine Bj sv0 r6 (B6 k hk.1) fun a2 w2 CI F8 g2 z2 Aa sv2=>?_
 replace HG:=AA HG g2
 refine Ar (T:=36) (Z:=([bv AR,bv AR,[.slice none 0 0]].flatten)) sv2 rfl rfl rfl (fun a w=>by kernel_rfl) fun a3 w3 OF Iz g3 z3 CO sv3=>?_
 have Jw:=Bt HG Iz
 replace Aa:=AC g3 Aa
 refine AE ?_
 refine k1 _ _ ?_
 refine ALz fun K4 k4=>?_
 refine DW (sv3.st w3) (by kernel_rfl) 5 [(3,Sp.is (AP k)),(4,Sp.is (AP ((kd 273 k)))),(5,Sp.is (AP k)),(6,Sp.is (AP ((kd 274 k)))),(7,Sp.is (Am ((kd 273 k)) ((kd 274 k)) (.slice none 0 0)))] rfl (by kernel_rfl) (by kernel_rfl) (by kernel_rfl) [] (by kernel_rfl)
  ⟨yl r6 (B6 k hk.1) Aa,Ae [.int .u64 273,AP k,.slice none 0 0] Tryz.func35 (by kernel_rfl) rq4 ⟨rfl,(oy rfl rfl),rfl,AL5⟩ (Ap fun W g=>JW (n:=273) (by decide) rfl hk W),yl r6 (B6 k hk.1) Aa,Ae [.int .u64 274,AP k,.slice none 0 0] Tryz.func35 (by kernel_rfl) rq4 ⟨rfl,(oy rfl rfl),rfl,AL5⟩ (Ap fun W g=>JW (n:=274) (by decide) rfl hk W),BU (vs:=[AP ((kd 273 k)),AP ((kd 274 k))]) rfl rfl trivial ⟨(oy rfl rfl),(oy rfl rfl),AL5⟩ (fun _=>bV2 (BR _ _) (BR _ _) _) (fun _=>rfl),AL5⟩ trivial
  [] (by kernel_rfl) trivial ⟨.inl rfl,.inl rfl,.inl rfl,.inl rfl,.inl rfl,AL5⟩ (by kernel_rfl) fun a5 w5 g5 st5 nd5=>?_
 obtain⟨hn5,hd5,e5_3,e5_4,e5_5,e5_6,e5_7,e5_2,e5_1,e5_0,-⟩:=st5
 have sv5:Sv 8 [] [(2,_),(1,_),(0,_),(7,_)] a5:=⟨hn5,hd5,e5_2,e5_1,e5_0,e5_7,AL5⟩
 refine Ao sv5 r7 (Bb (BR _ _) (BR _ _) (.slice none 0 0) rfl) (AC g5 CO) (by first|rfl|simp[Af,AI,AV,(BR _ _).1,(BR _ _).1]) fun w6 g6 h6=>?_
 replace HG:=AD (AA (AA HG g3) g5) g6 Jw
 replace CO:=h6
 refine AE ?_
 refine k4 _ _ ?_
 refine AL2 ?_
 repeat refine AL ?_
 refine BI (fn:=Tryz.f38) sv5 (E2 (p:=2) Tryz.results38 sv5 rfl rfl (Bb (BR _ _) (BR _ _) (.slice none 0 0) rfl) CO) ?_
 exact⟨rfl,HG⟩
theorem AEk (ks:List VK) (ao:Option Addr) (cap:Nat) (sa po:List Nat) (hsa:Dg sa) (hpo:Dg po) (o:List Nat) (ho:Dg o) (a:Int) (w:World) (hr:RdK w (.slice ao ks.length cap) ks) :
   Calls Tryz.prog 32 #[Am sa po (.slice ao ks.length cap),AP o,.int .i64 a] w fun e w'=>e=.returned (.tuple #[AP (Co (ks.map VK.p) o a).1,.int .i64 (Co (ks.map VK.p) o a).2])∧w.grownBy w' none:=by
 refine Dm Tryz.func32 rfl Tryz.ntmps32 rfl fun a0 sv0=>?_
 have HG:=World.grownBy.refl w none
 replace sv0:Sv 39 [] [(0,Am sa po (.slice ao ks.length cap)),(1,AP o),(2,.int .i64 a)] a0:=sv0
 refine ALz fun K1 k1=>?_
 refine ALy ?_
 refine Bj sv0 r6 (Bb hsa hpo (.slice ao ks.length cap) rfl) fun a2 w2 Jy I0 g2 z2 Ad sv2=>?_
 refine Bj sv2 r6 (B6 o ho.1) fun a3 w3 ACk VS g3 z3 Bm sv3=>?_
 replace Ad:=AC g3 Ad
 replace hr:=(hr.kn g2).kn g3
 replace HG:=AA (AA HG g2) g3
 refine Ar (T:=23) (Z:=(bv AR)) sv3 rfl rfl rfl (fun a w=>by kernel_rfl) fun a4 w4 Pa Hx g4 z4 Bg sv4=>?_
 have Dp:=An Ad Hx
 have EU:=An Bm Hx
 have Gs:=Bt HG Hx
 have E5:=Au (hr.lt) Hx
 replace Ad:=AC g4 Ad
 replace Bm:=AC g4 Bm
 replace hr:=hr.kn g4
 replace HG:=AA HG g4
 refine Ar (T:=38) (Z:=[.int .i64 0]) sv4 rfl rfl rfl (fun a w=>by kernel_rfl) fun a5 w5 NH F9 g5 z5 BH sv5=>?_
 have DX:=An Ad F9
 have Dq:=An Bm F9
 have Bc:=An Bg F9
 have GC:=Bt HG F9
 have EV:=Au (hr.lt) F9
 replace Ad:=AC g5 Ad
 replace Bm:=AC g5 Bm
 replace Bg:=AC g5 Bg
 replace hr:=hr.kn g5
 replace HG:=AA HG g5
 refine AE ?_
 refine k1 _ _ ?_
 refine ALz fun K6 k6=>?_
 refine ALy ?_
 refine Fl sv5 rfl rfl rfl rfl rfl rfl fun a7 sv7=>?_
 refine Ef sv7 rfl (dd:={ target:=.fn (.func 77) #[pt Pa,pt NH],args:=#[] }) rfl (by have e1:=sv7.ev (x:=.tmp 10) rfl rfl;simp[execOp,resolve,Deferred.ofValue,e1];try rfl) fun a8 sv8=>?_
 refine AE ?_
 refine k6 _ _ ?_
 refine ALz fun K9 k9=>?_
 refine ALz fun K10 k10=>?_
 rcases(show Br a=false∨(Br a=true∧CK (ks.map VK.p)=false)∨(Br a=true∧CK (ks.map VK.p)=true) by cases Br a<;>cases CK (ks.map VK.p)<;>simp) with ha|⟨ha,hv⟩|⟨ha,hv⟩
 · refine ALy ?_
   refine AJ sv8 8 [(11,.int .i64 a),(12,.bool false),(13,.bool true),(14,.bool true),(15,undef),(16,undef),(17,undef),(18,.bool true)]
     ⟨ym r5,Ae [.int .i64 a] Tryz.func75 (by kernel_rfl) rq4 ⟨(oy rfl rfl),AL5⟩ (Ap fun W g=>JX ha W),DG r6 (fun _=>Bf),ym r5,AZ r6,AZ r6,AZ r6,CL r7,AL5⟩ fun a11 w11 g11 Cc=>?_
   refine AE ?_
   refine k10 _ _ ?_
   refine Aw Cc rfl rfl ?_
   refine ALz fun K12 k12=>?_
   refine ALy ?_
   replace Bg:=AC g11 Bg
   refine AJ Cc 1 [(19,AP AR)]
     ⟨BU (vs:=[]) rfl rfl trivial trivial (fun _=>bD0 _) (fun _=>rfl),AL5⟩ fun a13 w13 g13 Dy=>?_
   refine Ao Dy r7 (B6 AR AO.1) (AC g13 Bg) (GR AO) fun w14 g14 h14=>?_
   replace BH:=Aj g13 g14 (AC g11 BH) Bc
   refine Ao Dy r7 (EH 1) BH rfl fun w15 g15 h15=>?_
   replace Ad:=AX g15 (Aj g13 g14 (AC g11 Ad) (Ne.symm Dp)) (Ne.symm DX)
   replace Bm:=AX g15 (Aj g13 g14 (AC g11 Bm) (Ne.symm EU)) (Ne.symm Dq)
   replace Bg:=AX g15 h14 (Ne.symm Bc)
   replace hr:=(((hr.kn g11).kn g13).offR g14 (AU E5)).offR g15 (AU EV)
   replace HG:=AD (AD (AA (AA HG g11) g13) g14 Gs) g15 GC
   replace BH:=h15
   refine AE ?_
   refine k12 _ _ ?_
   refine AL2 ?_
   repeat refine AL ?_
   refine BK (fn:=Tryz.f32) Dy (Ba (p:=6) (q:=7) Tryz.results32 Dy rfl rfl rfl rfl (B6 AR AO.1) (EH 1) Bg BH) (Bn Tryz.func77 (by kernel_rfl) rfl _ _) (Iw _ _ _) ?_
   exact⟨AEj (Xu (.inl ha)),HG⟩
 · refine ALy ?_
   refine AJ sv8 8 [(11,.int .i64 a),(12,.bool true),(13,.bool false),(14,.bool false),(15,Am sa po (.slice ao ks.length cap)),(16,.bool false),(17,.bool true),(18,.bool true)]
     ⟨ym r5,Ae [.int .i64 a] Tryz.func75 (by kernel_rfl) rq4 ⟨(oy rfl rfl),AL5⟩ (Ap fun W g=>JX ha W),DG r6 (fun _=>Bf),ym r5,Aq rq9 (fun _ g=>Ab (Bb hsa hpo (.slice ao ks.length cap) rfl) (Ac (AF g Ad (by simp)))),B7 [Am sa po (.slice ao ks.length cap)] Tryz.func51 (by kernel_rfl) r7 ⟨(oy rfl rfl),AL5⟩ (Ap fun W g=>IS hsa hpo (hr.kn g) hv),Ha rfl rfl (gy rfl rfl rfl) (oy rfl rfl) (fun _=>Bf) (fun _=>rfl),A2 rq9,AL5⟩ fun a16 w16 g16 DJ=>?_
   refine AE ?_
   refine k10 _ _ ?_
   refine Aw DJ rfl rfl ?_
   refine ALz fun K17 k17=>?_
   refine ALy ?_
   replace Bg:=AC g16 Bg
   refine AJ DJ 1 [(19,AP AR)]
     ⟨BU (vs:=[]) rfl rfl trivial trivial (fun _=>bD0 _) (fun _=>rfl),AL5⟩ fun a18 w18 g18 CZ=>?_
   refine Ao CZ r7 (B6 AR AO.1) (AC g18 Bg) (GR AO) fun w19 g19 h19=>?_
   replace BH:=Aj g18 g19 (AC g16 BH) Bc
   refine Ao CZ r7 (EH 1) BH rfl fun w20 g20 h20=>?_
   replace Ad:=AX g20 (Aj g18 g19 (AC g16 Ad) (Ne.symm Dp)) (Ne.symm DX)
   replace Bm:=AX g20 (Aj g18 g19 (AC g16 Bm) (Ne.symm EU)) (Ne.symm Dq)
   replace Bg:=AX g20 h19 (Ne.symm Bc)
   replace hr:=(((hr.kn g16).kn g18).offR g19 (AU E5)).offR g20 (AU EV)
   replace HG:=AD (AD (AA (AA HG g16) g18) g19 Gs) g20 GC
   replace BH:=h20
   refine AE ?_
   refine k17 _ _ ?_
   refine AL2 ?_
   repeat refine AL ?_
   refine BK (fn:=Tryz.f32) CZ (Ba (p:=6) (q:=7) Tryz.results32 CZ rfl rfl rfl rfl (B6 AR AO.1) (EH 1) Bg BH) (Bn Tryz.func77 (by kernel_rfl) rfl _ _) (Iw _ _ _) ?_
   exact⟨AEj (Xu (.inr hv)),HG⟩
 · obtain⟨i,hi⟩:∃i,pos (ks.map VK.p) o=i:=⟨_,rfl⟩
   have h64:ks.length≤64:=by have:=(Eh.1 hv).1;simpa using this
   refine ALy ?_
   refine AJ sv8 8 [(11,.int .i64 a),(12,.bool true),(13,.bool false),(14,.bool false),(15,Am sa po (.slice ao ks.length cap)),(16,.bool true),(17,.bool false),(18,.bool false)]
     ⟨ym r5,Ae [.int .i64 a] Tryz.func75 (by kernel_rfl) rq4 ⟨(oy rfl rfl),AL5⟩ (Ap fun W g=>JX ha W),DG r6 (fun _=>Bf),ym r5,Aq rq9 (fun _ g=>Ab (Bb hsa hpo (.slice ao ks.length cap) rfl) (Ac (AF g Ad (by simp)))),B7 [Am sa po (.slice ao ks.length cap)] Tryz.func51 (by kernel_rfl) r7 ⟨(oy rfl rfl),AL5⟩ (Ap fun W g=>IS hsa hpo (hr.kn g) hv),Ha rfl rfl (gy rfl rfl rfl) (oy rfl rfl) (fun _=>Bf) (fun _=>rfl),A2 rq9,AL5⟩ fun a21 w21 g21 Di=>?_
   refine AE ?_
   refine k10 _ _ ?_
   refine A1 Di rfl rfl ?_
   refine AL3 ?_
   refine k9 _ _ ?_
   refine ALz fun K22 k22=>?_
   replace Ad:=AC g21 Ad
   replace Bm:=AC g21 Bm
   replace Bg:=AC g21 Bg
   replace BH:=AC g21 BH
   replace hr:=hr.kn g21
   replace HG:=AA HG g21
   cases hf:Hv (ks.map VK.p) o
   · refine ALy ?_
     refine AJ Di 6 [(21,Am sa po (.slice ao ks.length cap)),(22,AP o),(23,.tuple #[.int .i64 ((i:Int)),.bool false]),(20,.tuple #[.int .i64 ((i:Int)),.bool false]),(24,.int .i64 ((i:Int))),(25,.bool false)]
      ⟨yl r6 (Bb hsa hpo (.slice ao ks.length cap) rfl) Ad,yl r6 (B6 o ho.1) Bm,Ae [Am sa po (.slice ao ks.length cap),AP o] Tryz.func71 (by kernel_rfl) rq4 ⟨(oy rfl rfl),(oy rfl rfl),AL5⟩ (Ap fun W g=>Qy hsa hpo ho (hr.kn g) hv hf hi),ym r5,BF rq4 (fun _ _ h=>⟨_,_,h,rfl,rfl⟩),BF rq4 (fun _ _ h=>⟨_,_,h,rfl,rfl⟩),AL5⟩ fun a23 w23 g23 Cw=>?_
     refine AY (v:=.int .i64 ((i:Int))) Cw r6 fun a24 ER=>?_
     refine AY (v:=.bool false) ER r6 fun a25 DV=>?_
     have Cr:Sv _ _ [_,_,_,_,_,_,_,_,_,_,_,_,_,_,_,_,_] _:=DV.dl [21,22,23,20,24,25,4]
     refine AE ?_
     refine k22 _ _ ?_
     refine ALz fun K27 k27=>?_
     refine ALz fun K28 k28=>?_
     refine ALy ?_
     refine AJ Cr 2 [(26,.bool false),(27,.bool true)]
      ⟨ym r5,DG r6 (fun _=>Bf),AL5⟩ fun a29 w29 g29 Cf=>?_
     have Gh:=AA g23 g29
     refine AE ?_
     refine k28 _ _ ?_
     refine Aw Cf rfl rfl ?_
     refine ALz fun K30 k30=>?_
     refine ALy ?_
     replace Bg:=AC Gh Bg
     refine AJ Cf 1 [(28,AP AR)]
      ⟨BU (vs:=[]) rfl rfl trivial trivial (fun _=>bD0 _) (fun _=>rfl),AL5⟩ fun a31 w31 g31 He=>?_
     refine Ao He r7 (B6 AR AO.1) (AC g31 Bg) (GR AO) fun w32 g32 h32=>?_
     replace BH:=Aj g31 g32 (AC Gh BH) Bc
     refine Ao He r7 (EH 10) BH rfl fun w33 g33 h33=>?_
     replace Ad:=AX g33 (Aj g31 g32 (AC Gh Ad) (Ne.symm Dp)) (Ne.symm DX)
     replace Bm:=AX g33 (Aj g31 g32 (AC Gh Bm) (Ne.symm EU)) (Ne.symm Dq)
     replace Bg:=AX g33 h32 (Ne.symm Bc)
     replace hr:=(((hr.kn Gh).kn g31).offR g32 (AU E5)).offR g33 (AU EV)
     replace HG:=AD (AD (AA (AA HG Gh) g31) g32 Gs) g33 GC
     replace BH:=h33
     refine AE ?_
     refine k30 _ _ ?_
     refine AL2 ?_
     repeat refine AL ?_
     refine BK (fn:=Tryz.f32) He (Ba (p:=6) (q:=7) Tryz.results32 He rfl rfl rfl rfl (B6 AR AO.1) (EH 10) Bg BH) (Bn Tryz.func77 (by kernel_rfl) rfl _ _) (Iw _ _ _) ?_
     exact⟨AEj (ACi ha hv hf),HG⟩
   · have hil:i<ks.length:=by have:=(Jl hf).1;rw[hi] at this;simpa using this
     obtain⟨x,hx_x⟩:∃x,ks[i]'hil=x:=⟨_,rfl⟩
     have htr:tr (ks.map VK.p) i=x.l:=by rw[VL hil,hx_x]
     refine ALy ?_
     refine AJ Di 6 [(21,Am sa po (.slice ao ks.length cap)),(22,AP o),(23,.tuple #[.int .i64 ((i:Int)),.bool true]),(20,.tuple #[.int .i64 ((i:Int)),.bool true]),(24,.int .i64 ((i:Int))),(25,.bool true)]
      ⟨yl r6 (Bb hsa hpo (.slice ao ks.length cap) rfl) Ad,yl r6 (B6 o ho.1) Bm,Ae [Am sa po (.slice ao ks.length cap),AP o] Tryz.func71 (by kernel_rfl) rq4 ⟨(oy rfl rfl),(oy rfl rfl),AL5⟩ (Ap fun W g=>Qy hsa hpo ho (hr.kn g) hv hf hi),ym r5,BF rq4 (fun _ _ h=>⟨_,_,h,rfl,rfl⟩),BF rq4 (fun _ _ h=>⟨_,_,h,rfl,rfl⟩),AL5⟩ fun a34 w34 g34 MB=>?_
     refine AY (v:=.int .i64 ((i:Int))) MB r6 fun a35 Ki=>?_
     refine AY (v:=.bool true) Ki r6 fun a36 Fw=>?_
     have IR:Sv _ _ [_,_,_,_,_,_,_,_,_,_,_,_,_,_,_,_,_] _:=Fw.dl [21,22,23,20,24,25,4]
     refine AE ?_
     refine k22 _ _ ?_
     refine ALz fun K38 k38=>?_
     refine ALz fun K39 k39=>?_
     refine ALy ?_
     refine AJ IR 2 [(26,.bool true),(27,.bool false)]
      ⟨ym r5,DG r6 (fun _=>Bf),AL5⟩ fun a40 w40 g40 Kj=>?_
     have Pb:=AA g34 g40
     refine AE ?_
     refine k39 _ _ ?_
     refine A1 Kj rfl rfl ?_
     refine AL3 ?_
     refine k38 _ _ ?_
     refine ALz fun K41 k41=>?_
     refine ALy ?_
     replace Ad:=AC Pb Ad
     replace Bg:=AC Pb Bg
     replace hr:=hr.kn Pb
     refine AJ Kj 10 [(29,pk Jy 64),(30,.slice ao ks.length cap),(31,.int .i64 ((i:Int))),(32,pk ((bO ao)) (oO ao+i*33)),(33,pk ((bO ao)) (oO ao+i*33+32)),(34,.agg #[VK.s x]),(35,.int .i64 a),(36,.tuple #[AP ((Cy x.l a).1),.int .i64 ((Cy x.l a).2)]),(37,AP ((Cy x.l a).1)),(38,.int .i64 ((Cy x.l a).2))]
      ⟨yf r6 (fun _=>by kernel_rfl),yp (i:=2) r6 (EP (.slice ao ks.length cap) rfl) Ad rfl (by simp[AI,AV,hsa.1,hpo.1]),ym r5,BA rq8 (fun w=>CU Tryz.underlying34 (by kernel_rfl) (hr.1.1) (by omega) (rfl) w),yf r6 (fun _=>by kernel_rfl),Bu r6 (fun _ g=>Ab (PQ (VK.s x) rfl) (RdK.treeX (hr.kn g) rfl hil hx_x)),ym r5,Ae [.agg #[VK.s x],.int .i64 a] Tryz.func78 (by kernel_rfl) rq4 ⟨(oy rfl rfl),(oy rfl rfl),AL5⟩ (Ap fun W g=>ACJ rfl ((hr.kn g).kt hil hx_x)),BF rq4 (fun _ _ h=>⟨_,_,h,rfl,rfl⟩),BF rq4 (fun _ _ h=>⟨_,_,h,rfl,rfl⟩),AL5⟩ fun a42 w42 g42 Hl=>?_
     refine Ao Hl r7 (B6 ((Cy x.l a).1) (Lh ((hr.kt hil hx_x).2.1) a).1) (AC g42 Bg) (GR (Lh ((hr.kt hil hx_x).2.1) a)) fun w43 g43 h43=>?_
     replace BH:=Aj g42 g43 (AC Pb BH) Bc
     refine Ao Hl r7 (EH ((Cy x.l a).2)) BH rfl fun w44 g44 h44=>?_
     replace Bg:=AX g44 h43 (Ne.symm Bc)
     replace hr:=((hr.kn g42).offR g43 (AU E5)).offR g44 (AU EV)
     replace HG:=AD (AD (AA (AA HG Pb) g42) g43 Gs) g44 GC
     replace BH:=h44
     have Ev:Sv _ _ [_,_,_,_,_,_,_,_,_,_,_,_,_,_,_,_,_,_] _:=Hl.dl [29,30,31,32,33,34,35,36,37,38,8]
     refine AE ?_
     refine k41 _ _ ?_
     refine AL2 ?_
     repeat refine AL ?_
     refine BK (fn:=Tryz.f32) Ev (Ba (p:=6) (q:=7) Tryz.results32 Ev rfl rfl rfl rfl (B6 ((Cy x.l a).1) (Lh ((hr.kt hil hx_x).2.1) a).1) (EH ((Cy x.l a).2)) Bg BH) (Bn Tryz.func77 (by kernel_rfl) rfl _ _) (Iw _ _ _) ?_
     exact⟨ALE (Ue ha hv hf hi htr).symm,HG⟩
end Go.Proofs.YtbfjfnbcmojpiaaGreat
namespace Go.Proofs.YtbfjfnbcmojpiaaGreat
open Go.RowKit
def Sp.made (B:Nat) (e:TypeId) (sz n:Nat) (xs:List Value):Sp:=⟨fun w v=>∃A,v=.slice (some ⟨A,0,none⟩) n n∧Own w e sz (.slice (some ⟨A,0,none⟩) n n) n xs∧B≤A,fun _ _ _ hg ⟨A,h1,h2,h3⟩=>⟨A,h1,h2.kn hg,h3⟩⟩
section
variable {P:Program} {ops:Array Oper} {L:Nat→Sp} {n:Nat} {w0:World} {o:Oper}
theorem Qr {z:Value} {sz:Nat} (hz:z.cells.size=sz) (hp:0<sz) (m:Nat):(madeCells z.cells (m*sz)).toList=(List.replicate m ()).flatMap fun _=>z.cells.toList:=by
 refine List.ext_getElem? fun i=>?_
 have hl:((List.replicate m ()).flatMap fun _=>z.cells.toList).length=m*sz:=by rw[Hj (sz:=sz) (fun _=>by simpa using hz)];simp
 by_cases hi:i<m*sz
 · have h1:i/sz<m:=(Nat.div_lt_iff_lt_mul hp).2 hi
   have h2:i%sz<sz:=Nat.mod_lt _ hp
   have e1:(madeCells z.cells (m*sz)).toList[i]?=some z.cells[i%sz]!:=by rw[←hz] at hi ⊢;simp[madeCells,hi]
   have e2:((List.replicate m ()).flatMap fun _=>z.cells.toList)[i]?=some (z.cells[i%sz]'(by omega)):=by
    have hsp:=Kz (c:=fun _=>z.cells.toList) (L:=List.replicate m ()) (j:=i/sz) (by simpa using h1)
    rw[hsp,List.getElem?_append_right (by rw[Hj (sz:=sz) (fun _=>by simpa using hz),List.length_take,List.length_replicate,Nat.min_eq_left (Nat.le_of_lt h1)];exact Nat.div_mul_le_self i sz),Hj (sz:=sz) (fun _=>by simpa using hz),List.length_take,List.length_replicate,Nat.min_eq_left (Nat.le_of_lt h1)]
    have e3:i-i/sz*sz=i%sz:=by have:=Nat.div_add_mod i sz;rw[Nat.mul_comm] at this;omega
    rw[e3,List.getElem?_append_left (by simpa [hz] using h2),Array.getElem?_toList,Array.getElem?_eq_getElem (by omega)]
   rw[e1,e2,getElem!_pos z.cells _ (by omega)]
 · rw[List.getElem?_eq_none (by simp[madeCells];omega),List.getElem?_eq_none (by omega)]
theorem AGh {t e:TypeId} {z:Value} {size bytes d B m:Nat} {x:Operand} {xs:List Value} (E:ET P t e z size bytes) (ho:o.op=.makeSlice t x x) (hd:o.dst=some d) (hg:GX ops L n o.guard) (hB:B≤w0.heap.size)
  (hx:OpX L n x (.int .i64 (m:Int))) (hm:m≤1000000) (hxs:xs=(List.replicate m ()).flatMap fun _=>z.cells.toList)
  (h:∀w v,(Sp.made B e size m xs).on w v→(L d).on w v):OX P ops L n w0 o:=by
 intro a w hw hl hs
 unfold OpSays
 rw[if_pos (hg.wanted hl hs)]
 have e1:=hx.eval (o:=o) (a:=a) (w:=w) (by simp[ho,Op.operands]) hl
 obtain⟨i,hi,hz,rfl,hby⟩:=E.inf
 have hb:=E.bnd
 have hbytes:(i.bytes:Int)*(m:Int)≤281474976710656:=by
  have h1:i.bytes*m≤128*1000000:=Nat.mul_le_mul (by omega) hm
  have h2:((i.bytes*m:Nat):Int)≤((128*1000000:Nat):Int):=by omega
  rw[Int.natCast_mul] at h2
  omega
 have hr:=run_make (P:=P) w t e i z E.und hi hz .i64 .i64 (m:Int) (m:Int) (by omega) (by omega) hbytes (by omega)
 have hrr:(execOp a.eval o).run P w=.ok (.value (.slice (some ⟨w.heap.size,0,none⟩) m m)) (w.alloc (.cells (madeCells z.cells (m*i.size)) e)):=by
  simp only[execOp,ho,e1,Sem.run_bind,Sem.run_pure,Result.andThen_ok,hr,Int.toNat_natCast]
 rw[hrr]
 refine⟨World.grownBy_alloc _ _ _,DH hd (h _ _ ⟨_,rfl,?_,Nat.le_trans hB hw.size⟩)⟩
 have hcl:(madeCells z.cells (m*i.size)).size=m*i.size:=size_madeCells _ _
 refine⟨by rw[hxs,←Qr E.zsz E.pos,Array.length_toList,hcl],.inr ⟨w.heap.size,m,_,rfl,Nat.zero_le _,Ah rfl,Nat.le_refl _,by unfold maxLen;omega,hcl,?_⟩⟩
 rw[hxs,←Qr E.zsz E.pos,List.take_of_length_le (by rw[Array.length_toList,hcl];exact Nat.le_refl _)]
theorem U8 {t e:TypeId} (ht:P.underlying t=some (.slice e)) {x y:Operand} {ao:Option Addr} {l c:Nat} {r:Bool} (hr:ao.isNone=r) {w:World}:(do eqGuard .eql t x y (.slice ao l c) (.slice none 0 0);binOp .eql t (.slice ao l c) (.slice none 0 0):Sem Value).run P w=.ok (.bool r) w:=by
 subst hr
 have:=run_eql_slice_nil (P:=P) w t e ao l c ht
 simp[eqGuard,this]
end
def Qs:VK:=⟨AR,AO,none,0,[]⟩
theorem AJ4 (m:Nat):((List.replicate m ()).flatMap fun _=>zK.cells.toList)=(List.replicate m Qs).flatMap Af:=by
 induction m with
 | zero=>rfl
 | succ m ih=>rw[List.replicate_succ,List.replicate_succ,List.flatMap_cons,List.flatMap_cons,ih];rfl
theorem KsR.rep (w:World) (m:Nat):KsR w (List.replicate m Qs):=fun k hk=>by
 obtain⟨_,rfl⟩:=List.mem_replicate.1 hk
 exact RdT.nil w
theorem LB (m b:Nat):¬DR (List.replicate m Qs) b:=by
 rintro ⟨k,hk,h⟩
 obtain⟨_,rfl⟩:=List.mem_replicate.1 hk
 simp[Mx,VK.s,Qs,Value.ownBlock] at h
theorem KsR.set {w:World} {ms:List VK} (h:KsR w ms) {x:VK} (hx:RdT w x.s x.l) (i:Nat):KsR w (ms.set i x):=fun k hk=>(List.mem_or_eq_of_mem_set hk).elim (h k) fun e=>e▸hx
theorem Ee {ms:List VK} {x:VK} {i b:Nat} (h:DR (ms.set i x) b):DR ms b∨Mx x.s b:=by
 obtain⟨k,hk,hb⟩:=h
 exact(List.mem_or_eq_of_mem_set hk).elim (fun h=>.inl ⟨k,h,hb⟩) fun e=>.inr (e▸hb)
def KsT (w:World) (ms:List VK):Prop:=KsR w ms∧∀k,DR ms k→TagB w k
section
variable {w w':World} {ms:List VK}
theorem KsT.kn (h:KsT w ms) (g:w.grownBy w' none):KsT w' ms:=⟨h.1.kn g,fun k hk=>(h.2 k hk).keep g (by simp)⟩
theorem KsT.offR (h:KsT w ms) {row:Option Nat} (g:w.grownBy w' row) (hb:∀k,DR ms k→row≠some k):KsT w' ms:=⟨h.1.offR g hb,fun k hk=>(h.2 k hk).keep g (hb k hk)⟩
theorem KsT.lt (h:KsT w ms):∀k,DR ms k→k<w.heap.size:=h.1.lt
theorem KsT.rep (w:World) (m:Nat):KsT w (List.replicate m Qs):=⟨KsR.rep w m,fun k hk=>(LB m k hk).elim⟩
theorem KsT.set (h:KsT w ms) {x:VK} (hx:RdTg w x.s x.l) (i:Nat):KsT w (ms.set i x):=⟨h.1.set hx.1 i,fun k hk=>(Ee hk).elim (h.2 k) (hx.2 k)⟩
end
def Sp.ck (B:Nat) (o:List Nat) (l:List Nd):Sp:=⟨fun w v=>∃x:VK,v=Hk x∧x.o=o∧x.l=l∧RdTg w x.s x.l∧∀k,Mx x.s k→B≤k,fun _ _ _ hg ⟨x,h1,h2,h3,h4,h5⟩=>⟨x,h1,h2,h3,h4.kn hg,h5⟩⟩
section
variable {ops:Array Oper} {L:Nat→Sp} {n:Nat} {w0:World} {o:Oper}
theorem AJ5 {B:Nat} {l:List Nd} {w:World} {u:Value} (h:(Sp.cl B l).on w u):∃v,(Instr.build 56 #[(0,u)]).run Tryz.prog w=.ok v w∧(Sp.ct B l).on w v:=by
 obtain⟨ao,cap,rfl,h2,h3⟩:=h
 exact⟨_,ALB ao _ cap w,ao,cap,rfl,h2,h3⟩
theorem AET {B:Nat} {l:List Nd} {x:List Nat} (hx:Dg x) {w:World} {u t:Value} (hu:u=AP x) (h:(Sp.ct B l).on w t):∃v,(Instr.build 58 #[(0,u),(1,t)]).run Tryz.prog w=.ok v w∧(Sp.ck B x l).on w v:=by
 obtain⟨ao,cap,rfl,h2,h3⟩:=h
 subst hu
 exact⟨_,bK2 (k:=⟨x,hx,ao,cap,l⟩) w,⟨x,hx,ao,cap,l⟩,rfl,rfl,rfl,h2,h3⟩
end
theorem AJ6 (x:VK) (w:World):(Instr.buildSlice 34 1 #[(0,Hk x)]).run Tryz.prog w=.ok (.slice (some ⟨w.heap.size,0,none⟩) 1 1) (w.alloc (.cells (Af x).toArray 58)):=by
 obtain⟨o,ho,ao,cap,l⟩:=x
 obtain⟨x0,x1,x2,x3,x4,x5,x6,x7,x8,x9,x10,x11,x12,x13,x14,x15,x16,x17,x18,x19,x20,x21,x22,x23,x24,x25,x26,x27,x28,x29,x30,x31,rfl⟩:=II _ ho.1
 kernel_rfl
theorem AGi {ks ms:List VK} {i:Nat} {x y:VK} (hl:ms.length=ks.length) (hi:i<ks.length) (hx:ks[i]=x) (ho:y.o=x.o) (hll:y.l=x.l) (h:∀j,j<i→(ms.map VK.p)[j]?=(ks.map VK.p)[j]?):∀j,j<i+1→((ms.set i y).map VK.p)[j]?=(ks.map VK.p)[j]?:=by
 intro j hj
 rw[List.getElem?_map,List.getElem?_set]
 by_cases e:i=j
 · subst e
   rw[if_pos rfl,if_pos (by omega),List.getElem?_map,List.getElem?_eq_getElem hi,hx]
   simp[VK.p,ho,hll]
 · rw[if_neg e,←List.getElem?_map]
   exact h j (by omega)
theorem AIs {ks ms:List VK} {i:Nat} (hl:ms.length=ks.length) (hi:¬i<ks.length) (h:∀j,j<i→(ms.map VK.p)[j]?=(ks.map VK.p)[j]?):ms.map VK.p=ks.map VK.p:=by
 refine List.ext_getElem? fun j=>?_
 by_cases hj:j<ks.length
 · exact h j (by omega)
 · rw[List.getElem?_eq_none (by simpa [hl] using hj),List.getElem?_eq_none (by simpa using hj)]
end Go.Proofs.YtbfjfnbcmojpiaaGreat
