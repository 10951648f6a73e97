import Derived.Test.YtbfjfnbcmojpiaaGreatShV4
import Derived.Lib.AppendZerosOnto
import Derived.Lib.SliceRun
import Derived.Laws.Externs
import Derived.Laws.IdiomCopy
import Derived.Deep.RegionLaw
import Derived.Test.YtbfjfnbcmojpiaaGreatShSG
import Derived.Laws.MakeOwn
import Derived.Lib.LazyBuf
set_option linter.unusedSimpArgs false
set_option linter.unusedVariables false
set_option maxRecDepth 100000
set_option maxHeartbeats 4000000
namespace Go.Proofs.YtbfjfnbcmojpiaaGreat
open Go.RowKit
def zK:Value:=.agg ([bv AQ,[.slice none 0 0]].flatten).toArray
theorem AEj:zK.cells.size=33:=rfl
theorem Xr:ET Tryz.prog 34 58 zK 33 56:=⟨Tryz.underlying34,info_parts (by kernel_rfl),rfl,by decide,by decide⟩
theorem Ki (l:List VK):(l.flatMap Ag).length=l.length*33:=H0 C7 l
theorem Own.blk {w:World} {e:TypeId} {sz g n cap:Nat} {xs:List Value} (h:Own w e sz (.slice (some ⟨g,0,none⟩) n cap) n xs):∃C:List Value,w.heap[g]?=some (.cells C.toArray e (0,0))∧n≤cap∧cap≤maxLen∧C.length=cap*sz∧C.take (n*sz)=xs:=by
 obtain⟨hl,h2⟩:=h
 rcases h2 with ⟨h3,_⟩|⟨g',cap',cur,h3,hb,hg,hnc,hcm,hcs,ht⟩
 · cases h3
 · simp only[Value.slice.injEq,Option.some.injEq,Addr.mk.injEq,and_true] at h3
   obtain⟨rfl,_,rfl⟩:=h3
   exact⟨cur.toList,by simpa using hg,hnc,hcm,by simpa using hcs,ht⟩
theorem Own.mk' {w:World} {e:TypeId} {sz g n cap:Nat} {xs C:List Value} (h1:w.heap[g]?=some (.cells C.toArray e (0,0))) (h2:n≤cap) (h3:cap≤maxLen) (h4:C.length=cap*sz) (h5:C.take (n*sz)=xs):Own w e sz (.slice (some ⟨g,0,none⟩) n cap) n xs:=by
 have hm:n*sz≤cap*sz:=Nat.mul_le_mul_right _ h2
 exact⟨by rw[←h5,List.length_take];omega,.inr ⟨g,cap,C.toArray,rfl,Nat.zero_le _,h1,h2,h3,by simpa using h4,by simpa using h5⟩⟩
theorem AAG {P:Program} (w:World) (dT sT ty elem:TypeId) (size:Nat) (b o dLen dCap:Nat) (a:Addr) (sLen sCap:Nat) (cs:List Value)
  (hu:P.underlying dT=some (.slice elem)) (hs:(P.info? elem).map (·.size)=some size) (hn:cs.length=Nat.min sLen dLen*size)
  (hsrc:∀j v,cs[j]?=some v→w.cell? (a.add j)=some v) (hc:∀j,j<cs.length→(w.cell? ⟨b,o+j,none⟩).isSome=true) (hf:∀j,j<cs.length→w.frozen? ⟨b,o+j,none⟩=false) (h1:∀v∈cs,v.oneCell'=true) :
  (Builtin.copy_ #[dT,sT] ty #[.slice (some ⟨b,o,none⟩) dLen dCap,.slice (some a) sLen sCap]).run P w=.ok (goInt (Nat.min sLen dLen)) (w.setCells b o cs):=by
 have hl:=run_loadCells_list (P:=P) w a cs hsrc
 have hst:=run_storeCells_cells (P:=P) b o cs 0 w (by simpa using hc) (by simpa using hf) h1
 cases hq:P.info? elem with
 | none=>simp[hq] at hs
 | some i =>
  have hi:i.size=size:=by simpa [hq] using hs
  simp only[Nat.add_zero] at hst
  rw[hn] at hl
  simp[Builtin.copy_,run_underlying hu,Builtin.lenOf,Builtin.firstCells,sizeOf,typeInfo,hq,hi,hl,hst]
theorem Uf {P:Program} (w:World) (dT sT ty elem:TypeId) (size:Nat) (g o dLen dCap:Nat) (a:Addr) (sLen sCap:Nat) (cs C:List Value)
  (hu:P.underlying dT=some (.slice elem)) (hs:(P.info? elem).map (·.size)=some size) (hn:cs.length=Nat.min sLen dLen*size)
  (hsrc:∀j v,cs[j]?=some v→w.cell? (a.add j)=some v) (hb:w.heap[g]?=some (.cells C.toArray elem (0,0))) (hfit:o+cs.length≤C.length) (h1:∀v∈cs,v.oneCell'=true) :
  ∃w',(Builtin.copy_ #[dT,sT] ty #[.slice (some ⟨g,o,none⟩) dLen dCap,.slice (some a) sLen sCap]).run P w=.ok (goInt (Nat.min sLen dLen)) w'∧w.grownBy w' (some g)∧w'.heap[g]?=some (.cells (C.take o++(cs++C.drop (o+cs.length))).toArray elem (0,0)):=by
 refine⟨_,AAG w dT sT ty elem size g o dLen dCap a sLen sCap cs hu hs hn hsrc (fun j hj=>?_) (fun j hj=>ALt w g _ _ elem hb) h1,DJ _ _ _ _,KQ C o cs hb hfit⟩
 rw[Me hb,List.getElem?_eq_getElem (by omega)]
 rfl
theorem MB {P:Program} {w:World} {ops:Array Oper} {rest:List Oper} {o:Oper} {a:Act} {Q:Exit→Act→World→Prop} (hgd:o.guard=none) (s x:Operand) (t t':TypeId)
  (ho:o.op=.call { callee:=.builtin .append,args:=#[s,x],argTypes:=#[t,t'] }) (v u:Value) (hs:a.eval s=v) (hx:a.eval x=u) {v':Value} {w':World}
  (hr:(Builtin.append_ #[t,t'] o.type #[v,u]).run P w=.ok v' w') (h:wpList P ops Q rest (a.put o.dst v') w'):wpList P ops Q (o::rest) a w:=by
 refine wpList_plain hgd fun K hK=>?_
 unfold Oper.wp execOp
 simp only[ho,resolve,invoke,builtin,Sem.run_bind,Sem.run_pure,Result.andThen_ok,List.map_toArray,List.map_cons,List.map_nil,hs,hx,hr]
 exact hK _ _ h
theorem AEk {w:World} {V:Nat} {x:VK} (h:w.heap[V]?=some (.cells (Ag x).toArray 58 (0,0))):Sl w 33 (.slice (some ⟨V,0,none⟩) 1 1) 1 (Ag x):=
 ⟨by rw[C7],some ⟨V,0,none⟩,1,rfl,Nat.le_refl _,by unfold maxLen;omega,fun h=>(by cases h),fun a ha=>by
  obtain rfl:=Option.some.inj ha
  refine⟨fun _=>rfl,fun j u hu=>?_⟩
  rw[Nat.zero_add,Me h]
  exact hu⟩
theorem AEl (l:List VK):∀v∈l.flatMap Ag,v.oneCell'=true:=List.all_eq_true.1 (Rk l)
theorem ACj (l:List VK) (i:Nat) (hi:i≤l.length):(l.take i).flatMap Ag=(l.flatMap Ag).take (i*33):=by
 have e:l.flatMap Ag=(l.take i).flatMap Ag++(l.drop i).flatMap Ag:=by rw[←List.flatMap_append,List.take_append_drop]
 rw[e,List.take_left' (by rw[Ki,List.length_take];omega)]
theorem ACk (l:List VK) (i:Nat) (hi:i≤l.length):(l.drop i).flatMap Ag=(l.flatMap Ag).drop (i*33):=by
 have e:l.flatMap Ag=(l.take i).flatMap Ag++(l.drop i).flatMap Ag:=by rw[←List.flatMap_append,List.take_append_drop]
 rw[e,List.drop_left' (by rw[Ki,List.length_take];omega)]
theorem AIr {α:Type} (C X Y:List α) (a:Nat) (hC:a+X.length+Y.length≤C.length) :
  ((C.take a++(X++C.drop (a+X.length))).take (a+X.length)++(Y++(C.take a++(X++C.drop (a+X.length))).drop (a+X.length+Y.length))).take (a+X.length+Y.length)=C.take a++(X++Y):=by
 have h1:(C.take a).length=a:=by rw[List.length_take];omega
 have h2:(C.take a++(X++C.drop (a+X.length))).take (a+X.length)=C.take a++X:=by
  rw[←List.append_assoc,List.take_left' (by rw[List.length_append,h1])]
 rw[h2,←List.append_assoc,List.take_left' (by simp only[List.length_append,h1]),List.append_assoc]
theorem ACl (l:List VK) (x:VK) (i:Nat) (hi:i≤l.length):(l.take i++x::l.drop i).flatMap Ag=(l.flatMap Ag).take (i*33)++(Ag x++(l.flatMap Ag).drop (i*33)):=by
 rw[List.flatMap_append,List.flatMap_cons,ACj l i hi,ACk l i hi]
theorem VW {P:Program} {t e:TypeId} {z:Value} {size bytes:Nat} (E:ET P t e z size bytes) (ty:TypeId) {w:World} {A n0:Nat} {xs:List Value} (hown:Own w e size (.slice (some ⟨A,0,none⟩) n0 n0) n0 xs)
  {sv:Value} {m:Nat} {news:List Value} (hs:Sl w size sv m news) (h1:news.all Value.oneCell'=true) (hm:0<m) (h63:n0+m≤1000000000) :
  ∃v' w',(Builtin.append_ #[t,t] ty #[.slice (some ⟨A,0,none⟩) n0 n0,sv]).run P w=.ok v' w'∧Own w' e size v' (n0+m) (xs++news)∧w.grownBy w' none∧∀k,Bq v' k→w.heap.size≤k:=by
 obtain⟨i,hi,hz,rfl,hby⟩:=E.inf
 have hb:=E.bnd
 obtain⟨v',w',hr,hown',hst⟩:=Ur E ty hown hs h1 (by omega)
 have hold:=(Sl.of_own hown)
 obtain⟨hlo,ao0,cap0,e0,_,_,_,hc0⟩:=hold
 simp only[Value.slice.injEq,true_and] at e0
 obtain⟨rfl,rfl⟩:=e0
 obtain⟨hl,ao,cap,rfl,hm1,hm2,h3,h4⟩:=hs
 cases ao with
 | none=>have:=h3 rfl;omega
 | some ad =>
  obtain⟨b,off,spot⟩:=ad
  obtain⟨hsp,hc⟩:=h4 _ rfl
  have hsp:=hsp hm
  simp at hsp
  subst hsp
  have hbytes:(n0+m)*bytes≤140737488355328:=by
   have:(n0+m)*bytes≤1000000000*128:=Nat.mul_le_mul h63 hb
   omega
  have hr2:=run_append_grow (P:=P) w t ty e i z E.und hi hz ⟨A,0,none⟩ n0 n0 xs hlo (fun j u hj=>by rw[Addr.add_lit];exact(hc0 _ rfl).2 j u hj) ⟨b,off,none⟩ m cap news hl (fun j u hj=>by rw[Addr.add_lit];exact hc j u hj) (by omega) (by omega) (growslice_fits (by omega) (by subst hby;exact hbytes))
  have hr3:=hr2
  rw[hr] at hr2
  simp only[Result.ok.injEq] at hr2
  obtain⟨rfl,rfl⟩:=hr2
  exact⟨_,_,hr3,hown',AA (Ca w) (World.grownBy_alloc _ _ _),fun k hk=>by simp[Bq,Value.ownBlock] at hk;omega⟩
theorem QQ (l:List VK) (x:VK) (g V:Nat) (w:World) (hown:Own w 58 33 (.slice (some ⟨g,0,none⟩) l.length l.length) l.length (l.flatMap Ag)) (hv:w.heap[V]?=some (.cells (Ag x).toArray 58 (0,0))) (hn:l.length≤1000000) :
  Calls Tryz.prog 83 #[.slice (some ⟨g,0,none⟩) l.length l.length,.int .i64 (l.length:Nat),.slice (some ⟨V,0,none⟩) 1 1] w fun e w'=>∃v',e=.returned v'∧Own w' 58 33 v' (l.length+1) ((l++[x]).flatMap Ag)∧w.grownBy w' none∧∀k,Bq v' k→w.heap.size≤k:=by
 have hx:=AEk hv
 have hflat:(l++[x]).flatMap Ag=l.flatMap Ag++Ag x:=by simp
 obtain⟨v5,w5,hr,ho,hg,hf⟩:=VW Xr 34 hown hx (List.all_eq_true.2 (Ix x)) (by omega) (by omega)
 have HF:=AG hflat
 have HR:=AG hr
 have HO:=AG ho
 have HG:=AG hg
 have HX:=AG hf
 have z1:(0:Int)≤(l.length:Int):=by omega
 clear hx hown hv hflat hr ho hg hf
 go_enter Tryz.func83,Tryz.ntmps83
 go_wp2_with (first|(at_builtin;refine MB rfl (.tmp 23) (.tmp 24) 34 34 rfl _ _ rfl rfl HR.out ?_)|(refine MB rfl (.tmp 23) (.tmp 24) 34 34 rfl _ _ rfl rfl HR.out ?_)|fail)
 go_ret
 exact⟨_,rfl,by rw[HF.out];exact HO.out,HG.out,HX.out⟩
theorem PU (l:List VK) (x:VK) (i g cap V:Nat) (w:World) (hown:Own w 58 33 (.slice (some ⟨g,0,none⟩) l.length cap) l.length (l.flatMap Ag)) (hv:w.heap[V]?=some (.cells (Ag x).toArray 58 (0,0))) (hi:i<l.length) (hroom:cap<l.length+1) (hn:l.length≤1000000) :
  Calls Tryz.prog 83 #[.slice (some ⟨g,0,none⟩) l.length cap,.int .i64 i,.slice (some ⟨V,0,none⟩) 1 1] w fun e w'=>∃v',e=.returned v'∧Own w' 58 33 v' (l.length+1) ((l.take i++x::l.drop i).flatMap Ag)∧w.grownBy w' none∧∀k,Bq v' k→w.heap.size≤k:=by
 obtain⟨C,hb,hnc,hcm,hCl,hCt⟩:=hown.blk
 obtain rfl:cap=l.length:=by omega
 have hX4:(Ag x).length=33:=C7 x
 have hYl:((l.flatMap Ag).drop (i*33)).length=(l.length-i)*33:=by rw[List.length_drop,Ki];omega
 obtain⟨i0,hi0,hz0,hzs,hzb⟩:=Xr.inf
 have hold:(Builtin.firstCells i0.size i (.slice (some ⟨g,0,none⟩) i l.length)).run Tryz.prog w.drew=.ok ((l.flatMap Ag).take (i*33)).toArray w.drew:=by
  rw[hzs]
  exact run_firstCells_some w.drew 33 i ⟨g,0,none⟩ i l.length ((l.flatMap Ag).take (i*33)) (by rw[List.length_take,Ki];omega) (fun j v hj=>by
   rw[Addr.add_lit,Nat.zero_add]
   have h3:w.cell? ⟨g,j,none⟩=some v:=by
    have hjl:=(List.getElem?_eq_some_iff.1 hj).1
    rw[List.length_take,Ki] at hjl
    rw[List.getElem?_take,if_pos (by omega),←hCt,List.getElem?_take,if_pos (by omega)] at hj
    rw[Me hb,hj]
   exact h3)
 have hrz:=Lib.run_append_grow_zeros w 34 3 34 58 i0 _ .i64 .i64 Tryz.underlying34 Tryz.underlying3 hi0 hz0 (some ⟨g,0,none⟩) i l.length ((l.flatMap Ag).take (i*33)) hold (l.length+1-i) (by omega) (by omega) (by omega) (by omega) (by rw[hzb];omega) (by rw[hzb,show i+(l.length+1-i)=l.length+1 by omega];exact growslice_fits (by omega) (by omega))
 rw[show i+(l.length+1-i)=l.length+1 by omega] at hrz
 have hGge:l.length+1≤grownCap w (l.length+1) l.length 58:=grownCap_ge w _ _ _
 have hGle:grownCap w (l.length+1) l.length 58≤maxLen:=grownCap_le_maxLen w _ _ _ (by unfold maxLen;omega)
 generalize hG:grownCap w (l.length+1) l.length 58=G at *
 obtain⟨R,hR⟩:∃R:List Value,R=((l.flatMap Ag).take (i*33))++(Builtin.zeroCells zK.cells (l.length+1-i)).toList++(Builtin.zeroCells zK.cells (G-(l.length+1))).toList:=⟨_,rfl⟩
 have hRa:((l.flatMap Ag).take (i*33)).toArray++Builtin.zeroCells zK.cells (l.length+1-i)++Builtin.zeroCells zK.cells (G-(l.length+1))=R.toArray:=by
  rw[hR]
  apply Array.ext'
  simp
 rw[hRa] at hrz
 have hzl:∀k,(Builtin.zeroCells zK.cells k).toList.length=k*33:=fun k=>by simp[Builtin.zeroCells,AEj]
 have hRl:R.length=G*33:=by rw[hR,List.length_append,List.length_append,hzl,hzl,List.length_take,Ki];omega
 have hRt:R.take (i*33)=(l.flatMap Ag).take (i*33):=by rw[hR,List.append_assoc,List.take_left' (by rw[List.length_take,Ki];omega)]
 have hgw:g<w.heap.size:=(Array.getElem?_eq_some_iff.1 hb).1
 have hVw:V<w.heap.size:=(Array.getElem?_eq_some_iff.1 hv).1
 have gW:=AA (Ca w) (World.grownBy_alloc w.drew (.cells R.toArray 58) none)
 have hbN:(w.drew.alloc (.cells R.toArray 58)).heap[w.heap.size]?=some (.cells R.toArray 58 (0,0)):=Aj rfl
 have hvW:=AF gW hv (by simp)
 have hbW:=AF gW hb (by simp)
 generalize w.drew.alloc (.cells R.toArray 58)=W1 at *
 obtain⟨w2,hr2,hg2,hb2⟩:=Uf (P:=Tryz.prog) W1 34 34 3 58 33 w.heap.size (i*33) (l.length+1-i) (G-i) ⟨V,0,none⟩ 1 1 (Ag x) R Tryz.underlying34 (by kernel_rfl)
  (by rw[hX4,show Nat.min 1 (l.length+1-i)=1 by simp[Nat.min_def];omega])
  (fun j v hj=>by rw[Addr.add_lit,Nat.zero_add,Me hvW];exact hj) hbN (by rw[hX4,hRl];omega) (Ix x)
 have hb2g:=AF hg2 hbW (by simp;omega)
 obtain⟨w3,hr3,hg3,hb3⟩:=Uf (P:=Tryz.prog) w2.drew 34 34 3 58 33 w.heap.size ((i+1)*33) (l.length-i) (G-(i+1)) ⟨g,i*33,none⟩ (l.length-i) (l.length-i) ((l.flatMap Ag).drop (i*33)) _ Tryz.underlying34 (by kernel_rfl)
  (by rw[hYl,show Nat.min (l.length-i) (l.length-i)=l.length-i by simp[Nat.min_def]])
  (fun j v hj=>by
   rw[Addr.add_lit]
   have h3:w2.cell? ⟨g,i*33+j,none⟩=some v:=by
    have hjl:=(List.getElem?_eq_some_iff.1 hj).1
    rw[hYl] at hjl
    rw[List.getElem?_drop,←hCt,List.getElem?_take,if_pos (by omega)] at hj
    rw[Me hb2g,hj]
   exact h3) hb2 (by simp only[List.length_append,List.length_take,List.length_drop,hX4,hYl,hRl];omega) (fun v hv=>AEl l v (List.mem_of_mem_drop hv))
 have e1:Nat.min (l.length-i) (l.length-i)=l.length-i:=by simp[Nat.min_def]
 have e2:Nat.min 1 (l.length+1-i)=1:=by simp[Nat.min_def];omega
 rw[e1] at hr3
 rw[e2] at hr2
 have ho:Own w3 58 33 (.slice (some ⟨w.heap.size,0,none⟩) (l.length+1) G) (l.length+1) ((l.take i++x::l.drop i).flatMap Ag):=by
  refine Own.mk' hb3 hGge hGle (by simp only[List.length_append,List.length_take,List.length_drop,hX4,hYl,hRl];omega) ?_
  rw[ACl l x i (by omega),←hRt]
  have ht:=AIr R (Ag x) ((l.flatMap Ag).drop (i*33)) (i*33) (by rw[hX4,hYl,hRl];omega)
  rw[hX4,hYl,show i*33+33+(l.length-i)*33=(l.length+1)*33 by omega] at ht
  rw[hX4,hYl,show(i+1)*33=i*33+33 by omega,show i*33+33+(l.length-i)*33=(l.length+1)*33 by omega]
  exact ht
 have hkk:(((l.length+1-i:Nat):Nat):Int)=(l.length:Int)+1-(i:Int):=by omega
 rw[hkk] at hrz
 have HRZ:=AG hrz
 have HR2:=AG hr2
 have HR3:=AG hr3
 have O3:=AG ho
 have G3:=AG (AD (AD gW hg2 (Nat.le_refl _)) (show w2.grownBy w3 (some w.heap.size) from⟨hg3.os,hg3.tape,hg3.output,hg3.size,hg3.block⟩) (Nat.le_refl _))
 have z1:(0:Int)≤(i:Int):=by omega
 have z2:(i:Int)≤(l.length:Int):=by omega
 have z3:¬((i:Int)=(l.length:Int)):=by omega
 have z4:(l.length:Int)<(l.length:Int)+1:=by omega
 have z5:¬(l.length=i):=by omega
 have z6:¬(G=i+1):=by omega
 have z7:¬(G=i):=by omega
 have z8:(i:Int)+1≤(l.length:Int)+1:=by omega
 have z9:l.length+1-(i+1)=l.length-i:=by omega
 have y2:(i:Int)≤(l.length:Int)+1:=by omega
 have y4:((i:Int)+1).toNat=i+1:=by omega
 have y5:(0:Int)≤(i:Int)+1:=by omega
 have y6:(0:Int)≤(l.length:Int)+1:=by omega
 have y7:IntKind.i64.wrap ((i:Int)+1)=(i:Int)+1:=by rw[IntKind.wrap_i64];omega
 clear hown hv hb hCl hCt hX4 hYl hi0 hz0 hzs hzb hold hrz hGge hGle hG hR hRa hzl hRl hRt gW hbN hvW hbW hr2 hg2 hb2 hb2g hr3 hg3 hb3 e1 e2 ho hkk hroom hnc hcm
 go_enter Tryz.func83,Tryz.ntmps83
 go_wp2_with (first|(at_builtin;refine MB rfl (.tmp 34) (.tmp 39) 34 3 rfl _ _ rfl rfl HRZ.out ?_)|(refine Nz rfl (.tmp 43) (.tmp 44) 34 34 rfl _ _ rfl rfl HR2.out ?_)|fail)
 go_region_law (first|(refine Zk rfl (.tmp 50) (.tmp 53) 34 34 rfl _ _ (by simp[Act.eval,Act.put]) (by simp[Act.eval,Act.put]) HR3.out ?_)|fail)
 all_goals
  go_wp2
  go_ret
  exact⟨_,rfl,O3.out,G3.out,fun k hk=>by simp[Bq,Value.ownBlock] at hk;omega⟩
theorem Xs (l:List VK) (x:VK) (i g V:Nat) (w:World) (hown:Own w 58 33 (.slice (some ⟨g,0,none⟩) l.length l.length) l.length (l.flatMap Ag)) (hv:w.heap[V]?=some (.cells (Ag x).toArray 58 (0,0))) (hi:i≤l.length) (hn:l.length≤1000000) :
   Calls Tryz.prog 83 #[.slice (some ⟨g,0,none⟩) l.length l.length,.int .i64 i,.slice (some ⟨V,0,none⟩) 1 1] w fun e w'=>∃v',e=.returned v'∧Own w' 58 33 v' (l.length+1) ((l.take i++x::l.drop i).flatMap Ag)∧w.grownBy w' none∧∀k,Bq v' k→w.heap.size≤k:=by
 by_cases hil:i<l.length
 · exact PU l x i g l.length V w hown hv hil (by omega) hn
 · obtain rfl:i=l.length:=by omega
   rw[List.take_length,List.drop_length]
   exact QQ l x g V w hown hv hn
theorem Own.rdk {w:World} {ao:Option Addr} {n cap:Nat} {ks:List VK} {e:TypeId} (h:Own w e 33 (.slice ao n cap) n (ks.flatMap Ag)):n=ks.length:=AIf (Sl.of_own h) C7 (by decide)
end Go.Proofs.YtbfjfnbcmojpiaaGreat
namespace Go.Proofs.YtbfjfnbcmojpiaaGreat
open Go.RowKit Go.Shelf
def kd (n:Nat) (k:List Nat):List Nat:=N2 (BitVec.ofNat 64 n) k []
theorem Be (n:Nat) (k:List Nat):Dg (kd n k):=⟨HU _ _,PD _ _⟩
theorem OK {n:Nat} (hn:n<1000) {c:Int} (hc:c=(n:Int)) {k:List Nat} (hk:Dg k) (w:World):Calls Tryz.prog 66 #[.int .u64 c,AP k,.slice none 0 0] w fun e w'=>e=.returned (AP (kd n k))∧w.grownBy w' none:=by
 have e:c=wi (BitVec.ofNat 64 n):=by rw[hc,←PC,IntKind.wrap_u64];omega
 rw[e]
 exact NO (BitVec.ofNat 64 n) k [] hk.1 hk.2 (by simp) (by simp) _ w (Sl.nil w 1)
theorem MC {n:Nat} (hn:n<1000) {c:Int} (hc:c=(n:Int)) {k:List Nat} (hk:Dg k) (w:World):Calls Tryz.prog 35 #[.int .u64 c,AP k,.slice none 0 0] w fun e w'=>e=.returned (AP (kd n k))∧w.grownBy w' none:=by
 have e:c=wi (BitVec.ofNat 64 n):=by rw[hc,←PC,IntKind.wrap_u64];omega
 rw[e]
 exact Pw (BitVec.ofNat 64 n) k [] hk.1 hk.2 (by simp) (by simp) _ w (Sl.nil w 1)
theorem bV0 (w:World):(Instr.build 36 #[]).run Tryz.prog w=.ok (Ao AQ AQ (.slice none 0 0)) w:=by kernel_rfl
theorem bV2 {sa po:List Nat} (hs:Dg sa) (hp:Dg po) (w:World):(Instr.build 36 #[(0,AP sa),(1,AP po)]).run Tryz.prog w=.ok (Ao sa po (.slice none 0 0)) w:=by
 obtain⟨x0,x1,x2,x3,x4,x5,x6,x7,x8,x9,x10,x11,x12,x13,x14,x15,x16,x17,x18,x19,x20,x21,x22,x23,x24,x25,x26,x27,x28,x29,x30,x31,rfl⟩:=Is _ hs.1
 obtain⟨y0,y1,y2,y3,y4,y5,y6,y7,y8,y9,y10,y11,y12,y13,y14,y15,y16,y17,y18,y19,y20,y21,y22,y23,y24,y25,y26,y27,y28,y29,y30,y31,rfl⟩:=Is _ hp.1
 kernel_rfl
theorem bV3 {sa po:List Nat} (hs:Dg sa) (hp:Dg po) (ao:Option Addr) (n cap:Nat) (w:World):(Instr.build 36 #[(0,AP sa),(1,AP po),(2,.slice ao n cap)]).run Tryz.prog w=.ok (Ao sa po (.slice ao n cap)) w:=by
 obtain⟨x0,x1,x2,x3,x4,x5,x6,x7,x8,x9,x10,x11,x12,x13,x14,x15,x16,x17,x18,x19,x20,x21,x22,x23,x24,x25,x26,x27,x28,x29,x30,x31,rfl⟩:=Is _ hs.1
 obtain⟨y0,y1,y2,y3,y4,y5,y6,y7,y8,y9,y10,y11,y12,y13,y14,y15,y16,y17,y18,y19,y20,y21,y22,y23,y24,y25,y26,y27,y28,y29,y30,y31,rfl⟩:=Is _ hp.1
 kernel_rfl
theorem AK3 {o:List Nat} (ho:Dg o) (ao:Option Addr) (n cap:Nat) (w:World):(Instr.build 58 #[(0,AP o),(1,.agg #[.slice ao n cap])]).run Tryz.prog w=.ok (.agg ([bv o,[.slice ao n cap]].flatten).toArray) w:=by
 obtain⟨x0,x1,x2,x3,x4,x5,x6,x7,x8,x9,x10,x11,x12,x13,x14,x15,x16,x17,x18,x19,x20,x21,x22,x23,x24,x25,x26,x27,x28,x29,x30,x31,rfl⟩:=Is _ ho.1
 kernel_rfl
theorem bK2 {k:VK} (w:World):(Instr.build 58 #[(0,AP k.o),(1,.agg #[k.s])]).run Tryz.prog w=.ok (IA k) w:=AK3 k.ho k.ao k.l.length k.cap w
theorem AK1 (ao:Option Addr) (n cap:Nat) (w:World):(Instr.build 56 #[(0,.slice ao n cap)]).run Tryz.prog w=.ok (.agg #[.slice ao n cap]) w:=by kernel_rfl
theorem KE {a:Int} {b:Bool} (h:Br a=b) (w:World):Calls Tryz.prog 75 #[.int .i64 a] w fun e w'=>e=.returned (.bool b)∧w.grownBy w' none:=(It a w).mono fun e w' ⟨h1,h2⟩=>⟨h▸h1,h2▸World.grownBy.refl _ _⟩
theorem Iy {w:World} {ks:List VK} {ao:Option Addr} {cap:Nat} {sa po:List Nat} (hsa:Dg sa) (hpo:Dg po) (hr:RdK w (.slice ao ks.length cap) ks) {b:Bool} (hb:CH (ks.map VK.p)=b):Calls Tryz.prog 51 #[Ao sa po (.slice ao ks.length cap)] w fun e w'=>e=.returned (.bool b)∧w.grownBy w' none:=hb▸Xm ks ao cap sa po hsa hpo w hr
theorem Ug {w:World} {ks:List VK} {ao:Option Addr} {cap:Nat} {sa po:List Nat} (hsa:Dg sa) (hpo:Dg po) (hr:RdK w (.slice ao ks.length cap) ks) {b:Bool} (hb:CH (ks.map VK.p)=b):Calls Tryz.prog 40 #[Ao sa po (.slice ao ks.length cap)] w fun e w'=>e=.returned (.bool b)∧w.grownBy w' none:=hb▸VU ks ao cap sa po hsa hpo w hr
theorem Rp {w:World} {ks:List VK} {ao:Option Addr} {cap:Nat} {sa po o:List Nat} (hsa:Dg sa) (hpo:Dg po) (ho:Dg o) (hr:RdK w (.slice ao ks.length cap) ks) (hv:CH (ks.map VK.p)=true) {b:Bool} (hb:IT (ks.map VK.p) o=b) {i:Nat} (hi:pos (ks.map VK.p) o=i):Calls Tryz.prog 71 #[Ao sa po (.slice ao ks.length cap),AP o] w fun e w'=>e=.returned (.tuple #[.int .i64 (i:Int),.bool b])∧w.grownBy w' none:=
 hb▸hi▸ACi ks ao cap sa po hsa hpo o ho w hr (Srt.of hv) (by have:=(Et.1 hv).1;simpa using this)
theorem AJ1 {w:World} {ks:List VK} {ao:Option Addr} {cap:Nat} {sa po o:List Nat} (hsa:Dg sa) (hpo:Dg po) (ho:Dg o) (hr:RdK w (.slice ao ks.length cap) ks) (hv:CH (ks.map VK.p)=true) {c:Int} (hc:atV (ks.map VK.p) o=c):Calls Tryz.prog 84 #[Ao sa po (.slice ao ks.length cap),AP o] w fun e w'=>e=.returned (.int .i64 c)∧w.grownBy w' none:=
 hc▸AGr ks ao cap sa po hsa hpo o ho w hr (Srt.of hv)
theorem AIs {P:List VP} {o:List Nat} (h:IT P o=true) {i:Nat} (hi:pos P o=i):atV P o=(i:Int):=by unfold atV;rw[h,hi];rfl
theorem AJ2 {P:List VP} {o:List Nat} (h:IT P o=false):atV P o=-1:=by unfold atV;rw[h];rfl
theorem AK4 {x y:List Nat×Int} (h:x=y):Ending.returned (.tuple #[AP x.1,.int .i64 x.2])=Ending.returned (.tuple #[AP y.1,.int .i64 y.2]):=by rw[h]
theorem AEm {x:List Nat} {c:Int} {y:List Nat×Int} (h:y=(x,c)):Ending.returned (.tuple #[AP x,.int .i64 c])=Ending.returned (.tuple #[AP y.1,.int .i64 y.2]):=by rw[h]
theorem Xt {P:List VP} {o:List Nat} {a:Int} (h:Br a=false∨CH P=false):CP P o a=(AQ,1):=by
 unfold CP
 rcases h with h|h<;>simp[h]
theorem ACm {P:List VP} {o:List Nat} {a:Int} (h1:Br a=true) (h2:CH P=true) (h3:IT P o=false):CP P o a=(AQ,10):=by
 unfold CP
 simp[h1,h2,h3]
theorem Uh {P:List VP} {o:List Nat} {a:Int} (h1:Br a=true) (h2:CH P=true) (h3:IT P o=true) {i:Nat} (hi:pos P o=i) {l:List Nd} (hl:tr P i=l):CP P o a=DM l a:=by
 unfold CP
 simp[h1,h2,h3,hi,hl]
theorem AAH {a:Int} (h:Br a=true):0≤a∧a<17179869184:=by
 unfold Br at h
 simpa using h
theorem ACn (k:List Nat) (hk:Dg k) (w:World) :
  Calls Tryz.prog 24 #[AP k] w fun e w'=>e=.returned (Ao (kd 273 k) (kd 274 k) (.slice none 0 0))∧w.grownBy w' none:=by
 refine Dv Tryz.func24 rfl Tryz.ntmps24 rfl fun a0 sv0=>?_
 have HG:=World.grownBy.refl w none
 replace sv0:Sv 8 [] [(0,AP k)] a0:=sv0
 refine ALo fun K1 k1=>?_
 refine ALn ?_
 refine Bn sv0 r6 (CD k hk.1) fun a2 w2 CO GJ g2 z2 Ad sv2=>?_
 replace HG:=AA HG g2
 refine Av (T:=36) (Z:=([bv AQ,bv AQ,[.slice none 0 0]].flatten)) sv2 rfl rfl rfl (fun a w=>by kernel_rfl) fun a3 w3 PW Jc g3 z3 CX sv3=>?_
 have Kj:=Bt HG Jc
 replace Ad:=AC g3 Ad
 refine AE ?_
 refine k1 _ _ ?_
 refine ALo fun K4 k4=>?_
 refine ALn ?_
 refine Er sv3 rfl (dd:={ target:=.fn (.func 65) #[],args:=#[] }) rfl (by simp[execOp,resolve,Deferred.ofValue];try rfl) fun a5 sv5=>?_
 refine AE ?_
 refine k4 _ _ ?_
 refine ALo fun K6 k6=>?_
 refine DZ (sv5.st w3) (by kernel_rfl) 5 [(3,Sp.is (AP k)),(4,Sp.is (AP ((kd 273 k)))),(5,Sp.is (AP k)),(6,Sp.is (AP ((kd 274 k)))),(7,Sp.is (Ao ((kd 273 k)) ((kd 274 k)) (.slice none 0 0)))] rfl (by kernel_rfl) (by kernel_rfl) (by kernel_rfl) [] (by kernel_rfl)
  ⟨yl r6 (CD k hk.1) Ad,Ae [.int .u64 273,AP k,.slice none 0 0] Tryz.func66 (by kernel_rfl) rq4 ⟨rfl,(oy rfl rfl),rfl,ALu⟩ (Au fun W g=>OK (n:=273) (by decide) rfl hk W),yl r6 (CD k hk.1) Ad,Ae [.int .u64 274,AP k,.slice none 0 0] Tryz.func66 (by kernel_rfl) rq4 ⟨rfl,(oy rfl rfl),rfl,ALu⟩ (Au fun W g=>OK (n:=274) (by decide) rfl hk W),Ba (vs:=[AP ((kd 273 k)),AP ((kd 274 k))]) rfl rfl trivial ⟨(oy rfl rfl),(oy rfl rfl),ALu⟩ (fun _=>bV2 (Be _ _) (Be _ _) _) (fun _=>rfl),ALu⟩ trivial
  [] (by kernel_rfl) trivial ⟨.inl rfl,.inl rfl,.inl rfl,.inl rfl,.inl rfl,ALu⟩ (by kernel_rfl) fun a7 w7 g7 st7 nd7=>?_
 obtain⟨hn7,hd7,e7_3,e7_4,e7_5,e7_6,e7_7,e7_2,e7_1,e7_0,-⟩:=st7
 have sv7:Sv 8 [{ target:=.fn (.func 65) #[],args:=#[] }] [(2,_),(1,_),(0,_),(7,_)] a7:=⟨hn7,hd7,e7_2,e7_1,e7_0,e7_7,ALu⟩
 refine As sv7 r7 (BX (Be _ _) (Be _ _) (.slice none 0 0) rfl) (AC g7 CX) (by first|rfl|simp[Ag,AJ,AU,(Be _ _).1,(Be _ _).1]) fun w8 g8 h8=>?_
 replace HG:=AD (AA (AA HG g3) g7) g8 Kj
 replace CX:=h8
 refine AE ?_
 refine k6 _ _ ?_
 refine ALr ?_
 repeat refine AL ?_
 refine BU (fn:=Tryz.f24) sv7 (FG (p:=2) Tryz.results24 sv7 rfl rfl (BX (Be _ _) (Be _ _) (.slice none 0 0) rfl) CX) (Bz Tryz.func65 (by kernel_rfl) rfl _ _) (PT _) ?_
 exact⟨rfl,HG⟩
theorem AAI (k:List Nat) (hk:Dg k) (w:World) :
  Calls Tryz.prog 38 #[AP k] w fun e w'=>e=.returned (Ao (kd 273 k) (kd 274 k) (.slice none 0 0))∧w.grownBy w' none:=by
 refine Bg Tryz.func38 rfl Tryz.ntmps38 rfl fun a0 sv0=>?_
 have HG:=World.grownBy.refl w none
 replace sv0:Sv 8 [] [(0,AP k)] a0:=sv0
 refine ALo fun K1 k1=>?_
 refine ALn ?_
 refine Bn sv0 r6 (CD k hk.1) fun a2 w2 CO GJ g2 z2 Ad sv2=>?_
 replace HG:=AA HG g2
 refine Av (T:=36) (Z:=([bv AQ,bv AQ,[.slice none 0 0]].flatten)) sv2 rfl rfl rfl (fun a w=>by kernel_rfl) fun a3 w3 PW Jc g3 z3 CX sv3=>?_
 have Kj:=Bt HG Jc
 replace Ad:=AC g3 Ad
 refine AE ?_
 refine k1 _ _ ?_
 refine ALo fun K4 k4=>?_
 refine DZ (sv3.st w3) (by kernel_rfl) 5 [(3,Sp.is (AP k)),(4,Sp.is (AP ((kd 273 k)))),(5,Sp.is (AP k)),(6,Sp.is (AP ((kd 274 k)))),(7,Sp.is (Ao ((kd 273 k)) ((kd 274 k)) (.slice none 0 0)))] rfl (by kernel_rfl) (by kernel_rfl) (by kernel_rfl) [] (by kernel_rfl)
  ⟨yl r6 (CD k hk.1) Ad,Ae [.int .u64 273,AP k,.slice none 0 0] Tryz.func35 (by kernel_rfl) rq4 ⟨rfl,(oy rfl rfl),rfl,ALu⟩ (Au fun W g=>MC (n:=273) (by decide) rfl hk W),yl r6 (CD k hk.1) Ad,Ae [.int .u64 274,AP k,.slice none 0 0] Tryz.func35 (by kernel_rfl) rq4 ⟨rfl,(oy rfl rfl),rfl,ALu⟩ (Au fun W g=>MC (n:=274) (by decide) rfl hk W),Ba (vs:=[AP ((kd 273 k)),AP ((kd 274 k))]) rfl rfl trivial ⟨(oy rfl rfl),(oy rfl rfl),ALu⟩ (fun _=>bV2 (Be _ _) (Be _ _) _) (fun _=>rfl),ALu⟩ trivial
  [] (by kernel_rfl) trivial ⟨.inl rfl,.inl rfl,.inl rfl,.inl rfl,.inl rfl,ALu⟩ (by kernel_rfl) fun a5 w5 g5 st5 nd5=>?_
 obtain⟨hn5,hd5,e5_3,e5_4,e5_5,e5_6,e5_7,e5_2,e5_1,e5_0,-⟩:=st5
 have sv5:Sv 8 [] [(2,_),(1,_),(0,_),(7,_)] a5:=⟨hn5,hd5,e5_2,e5_1,e5_0,e5_7,ALu⟩
 refine As sv5 r7 (BX (Be _ _) (Be _ _) (.slice none 0 0) rfl) (AC g5 CX) (by first|rfl|simp[Ag,AJ,AU,(Be _ _).1,(Be _ _).1]) fun w6 g6 h6=>?_
 replace HG:=AD (AA (AA HG g3) g5) g6 Kj
 replace CX:=h6
 refine AE ?_
 refine k4 _ _ ?_
 refine ALr ?_
 repeat refine AL ?_
 refine BH (fn:=Tryz.f38) sv5 (FG (p:=2) Tryz.results38 sv5 rfl rfl (BX (Be _ _) (Be _ _) (.slice none 0 0) rfl) CX) ?_
 exact⟨rfl,HG⟩
theorem AEn (ks:List VK) (ao:Option Addr) (cap:Nat) (sa po:List Nat) (hsa:Dg sa) (hpo:Dg po) (o:List Nat) (ho:Dg o) (a:Int) (w:World) (hr:RdK w (.slice ao ks.length cap) ks) :
   Calls Tryz.prog 32 #[Ao sa po (.slice ao ks.length cap),AP o,.int .i64 a] w fun e w'=>e=.returned (.tuple #[AP (CP (ks.map VK.p) o a).1,.int .i64 (CP (ks.map VK.p) o a).2])∧w.grownBy w' none:=by
 refine Dv Tryz.func32 rfl Tryz.ntmps32 rfl fun a0 sv0=>?_
 have HG:=World.grownBy.refl w none
 replace sv0:Sv 39 [] [(0,Ao sa po (.slice ao ks.length cap)),(1,AP o),(2,.int .i64 a)] a0:=sv0
 refine ALo fun K1 k1=>?_
 refine ALn ?_
 refine Bn sv0 r6 (BX hsa hpo (.slice ao ks.length cap) rfl) fun a2 w2 Ia Ib g2 z2 Ab sv2=>?_
 refine Bn sv2 r6 (CD o ho.1) fun a3 w3 D9 OM g3 z3 AZ sv3=>?_
 replace Ab:=AC g3 Ab
 replace hr:=(hr.kn g2).kn g3
 replace HG:=AA (AA HG g2) g3
 refine Av (T:=23) (Z:=(bv AQ)) sv3 rfl rfl rfl (fun a w=>by kernel_rfl) fun a4 w4 QR Ic g4 z4 Bo sv4=>?_
 have Dx:=Ar Ab Ic
 have Ec:=Ar AZ Ic
 have Hf:=Bt HG Ic
 have FH:=A1 (hr.lt) Ic
 replace Ab:=AC g4 Ab
 replace AZ:=AC g4 AZ
 replace hr:=hr.kn g4
 replace HG:=AA HG g4
 refine Av (T:=38) (Z:=[.int .i64 0]) sv4 rfl rfl rfl (fun a w=>by kernel_rfl) fun a5 w5 ON GM g5 z5 BT sv5=>?_
 have Dc:=Ar Ab GM
 have Dy:=Ar AZ GM
 have Bk:=Ar Bo GM
 have GO:=Bt HG GM
 have Ed:=A1 (hr.lt) GM
 replace Ab:=AC g5 Ab
 replace AZ:=AC g5 AZ
 replace Bo:=AC g5 Bo
 replace hr:=hr.kn g5
 replace HG:=AA HG g5
 refine AE ?_
 refine k1 _ _ ?_
 refine ALo fun K6 k6=>?_
 refine ALn ?_
 refine Fu sv5 rfl rfl rfl rfl rfl rfl fun a7 sv7=>?_
 refine Er sv7 rfl (dd:={ target:=.fn (.func 77) #[pt QR,pt ON],args:=#[] }) rfl (by have e1:=sv7.ev (x:=.tmp 10) rfl rfl;simp[execOp,resolve,Deferred.ofValue,e1];try rfl) fun a8 sv8=>?_
 refine AE ?_
 refine k6 _ _ ?_
 refine ALo fun K9 k9=>?_
 refine ALo fun K10 k10=>?_
 rcases(show Br a=false∨(Br a=true∧CH (ks.map VK.p)=false)∨(Br a=true∧CH (ks.map VK.p)=true) by cases Br a<;>cases CH (ks.map VK.p)<;>simp) with ha|⟨ha,hv⟩|⟨ha,hv⟩
 · refine ALn ?_
   refine AI sv8 8 [(11,.int .i64 a),(12,.bool false),(13,.bool true),(14,.bool true),(15,undef),(16,undef),(17,undef),(18,.bool true)]
     ⟨ym r5,Ae [.int .i64 a] Tryz.func75 (by kernel_rfl) rq4 ⟨(oy rfl rfl),ALu⟩ (Au fun W g=>KE ha W),Cl r6 (fun _=>BJ),ym r5,AX r6,AX r6,AX r6,B8 r7,ALu⟩ fun a11 w11 g11 CV=>?_
   refine AE ?_
   refine k10 _ _ ?_
   refine Ay CV rfl rfl ?_
   refine ALo fun K12 k12=>?_
   refine ALn ?_
   replace Bo:=AC g11 Bo
   refine AI CV 1 [(19,AP AQ)]
     ⟨Ba (vs:=[]) rfl rfl trivial trivial (fun _=>bD0 _) (fun _=>rfl),ALu⟩ fun a13 w13 g13 EC=>?_
   refine As EC r7 (CD AQ AO.1) (AC g13 Bo) (IB AO) fun w14 g14 h14=>?_
   replace BT:=Al g13 g14 (AC g11 BT) Bk
   refine As EC r7 (EU 1) BT rfl fun w15 g15 h15=>?_
   replace Ab:=AY g15 (Al g13 g14 (AC g11 Ab) (Ne.symm Dx)) (Ne.symm Dc)
   replace AZ:=AY g15 (Al g13 g14 (AC g11 AZ) (Ne.symm Ec)) (Ne.symm Dy)
   replace Bo:=AY g15 h14 (Ne.symm Bk)
   replace hr:=(((hr.kn g11).kn g13).offR g14 (AV FH)).offR g15 (AV Ed)
   replace HG:=AD (AD (AA (AA HG g11) g13) g14 Hf) g15 GO
   replace BT:=h15
   refine AE ?_
   refine k12 _ _ ?_
   refine ALr ?_
   repeat refine AL ?_
   refine BU (fn:=Tryz.f32) EC (Bj (p:=6) (q:=7) Tryz.results32 EC rfl rfl rfl rfl (CD AQ AO.1) (EU 1) Bo BT) (Bz Tryz.func77 (by kernel_rfl) rfl _ _) (JZ _ _ _) ?_
   exact⟨AEm (Xt (.inl ha)),HG⟩
 · refine ALn ?_
   refine AI sv8 8 [(11,.int .i64 a),(12,.bool true),(13,.bool false),(14,.bool false),(15,Ao sa po (.slice ao ks.length cap)),(16,.bool false),(17,.bool true),(18,.bool true)]
     ⟨ym r5,Ae [.int .i64 a] Tryz.func75 (by kernel_rfl) rq4 ⟨(oy rfl rfl),ALu⟩ (Au fun W g=>KE ha W),Cl r6 (fun _=>BJ),ym r5,Ap rq9 (fun _ g=>Ac (BX hsa hpo (.slice ao ks.length cap) rfl) (Af (AF g Ab (by simp)))),Bf [Ao sa po (.slice ao ks.length cap)] Tryz.func51 (by kernel_rfl) r7 ⟨(oy rfl rfl),ALu⟩ (Au fun W g=>Iy hsa hpo (hr.kn g) hv),Fc rfl rfl (gy rfl rfl rfl) (oy rfl rfl) (fun _=>BJ) (fun _=>rfl),Ax rq9,ALu⟩ fun a16 w16 g16 Cu=>?_
   refine AE ?_
   refine k10 _ _ ?_
   refine Ay Cu rfl rfl ?_
   refine ALo fun K17 k17=>?_
   refine ALn ?_
   replace Bo:=AC g16 Bo
   refine AI Cu 1 [(19,AP AQ)]
     ⟨Ba (vs:=[]) rfl rfl trivial trivial (fun _=>bD0 _) (fun _=>rfl),ALu⟩ fun a18 w18 g18 CU=>?_
   refine As CU r7 (CD AQ AO.1) (AC g18 Bo) (IB AO) fun w19 g19 h19=>?_
   replace BT:=Al g18 g19 (AC g16 BT) Bk
   refine As CU r7 (EU 1) BT rfl fun w20 g20 h20=>?_
   replace Ab:=AY g20 (Al g18 g19 (AC g16 Ab) (Ne.symm Dx)) (Ne.symm Dc)
   replace AZ:=AY g20 (Al g18 g19 (AC g16 AZ) (Ne.symm Ec)) (Ne.symm Dy)
   replace Bo:=AY g20 h19 (Ne.symm Bk)
   replace hr:=(((hr.kn g16).kn g18).offR g19 (AV FH)).offR g20 (AV Ed)
   replace HG:=AD (AD (AA (AA HG g16) g18) g19 Hf) g20 GO
   replace BT:=h20
   refine AE ?_
   refine k17 _ _ ?_
   refine ALr ?_
   repeat refine AL ?_
   refine BU (fn:=Tryz.f32) CU (Bj (p:=6) (q:=7) Tryz.results32 CU rfl rfl rfl rfl (CD AQ AO.1) (EU 1) Bo BT) (Bz Tryz.func77 (by kernel_rfl) rfl _ _) (JZ _ _ _) ?_
   exact⟨AEm (Xt (.inr hv)),HG⟩
 · obtain⟨i,hi⟩:∃i,pos (ks.map VK.p) o=i:=⟨_,rfl⟩
   have h64:ks.length≤64:=by have:=(Et.1 hv).1;simpa using this
   refine ALn ?_
   refine AI sv8 8 [(11,.int .i64 a),(12,.bool true),(13,.bool false),(14,.bool false),(15,Ao sa po (.slice ao ks.length cap)),(16,.bool true),(17,.bool false),(18,.bool false)]
     ⟨ym r5,Ae [.int .i64 a] Tryz.func75 (by kernel_rfl) rq4 ⟨(oy rfl rfl),ALu⟩ (Au fun W g=>KE ha W),Cl r6 (fun _=>BJ),ym r5,Ap rq9 (fun _ g=>Ac (BX hsa hpo (.slice ao ks.length cap) rfl) (Af (AF g Ab (by simp)))),Bf [Ao sa po (.slice ao ks.length cap)] Tryz.func51 (by kernel_rfl) r7 ⟨(oy rfl rfl),ALu⟩ (Au fun W g=>Iy hsa hpo (hr.kn g) hv),Fc rfl rfl (gy rfl rfl rfl) (oy rfl rfl) (fun _=>BJ) (fun _=>rfl),Ax rq9,ALu⟩ fun a21 w21 g21 Da=>?_
   refine AE ?_
   refine k10 _ _ ?_
   refine Az Da rfl rfl ?_
   refine ALs ?_
   refine k9 _ _ ?_
   refine ALo fun K22 k22=>?_
   replace Ab:=AC g21 Ab
   replace AZ:=AC g21 AZ
   replace Bo:=AC g21 Bo
   replace BT:=AC g21 BT
   replace hr:=hr.kn g21
   replace HG:=AA HG g21
   cases hf:IT (ks.map VK.p) o
   · refine ALn ?_
     refine AI Da 6 [(21,Ao sa po (.slice ao ks.length cap)),(22,AP o),(23,.tuple #[.int .i64 ((i:Int)),.bool false]),(20,.tuple #[.int .i64 ((i:Int)),.bool false]),(24,.int .i64 ((i:Int))),(25,.bool false)]
      ⟨yl r6 (BX hsa hpo (.slice ao ks.length cap) rfl) Ab,yl r6 (CD o ho.1) AZ,Ae [Ao sa po (.slice ao ks.length cap),AP o] Tryz.func71 (by kernel_rfl) rq4 ⟨(oy rfl rfl),(oy rfl rfl),ALu⟩ (Au fun W g=>Rp hsa hpo ho (hr.kn g) hv hf hi),ym r5,BC rq4 (fun _ _ h=>⟨_,_,h,rfl,rfl⟩),BC rq4 (fun _ _ h=>⟨_,_,h,rfl,rfl⟩),ALu⟩ fun a23 w23 g23 Cz=>?_
     refine Aa (v:=.int .i64 ((i:Int))) Cz r6 fun a24 CI=>?_
     refine Aa (v:=.bool false) CI r6 fun a25 DY=>?_
     have Cj:Sv _ _ [_,_,_,_,_,_,_,_,_,_,_,_,_,_,_,_,_] _:=DY.dl [21,22,23,20,24,25,4]
     refine AE ?_
     refine k22 _ _ ?_
     refine ALo fun K27 k27=>?_
     refine ALo fun K28 k28=>?_
     refine ALn ?_
     refine AI Cj 2 [(26,.bool false),(27,.bool true)]
      ⟨ym r5,Cl r6 (fun _=>BJ),ALu⟩ fun a29 w29 g29 CR=>?_
     have Gu:=AA g23 g29
     refine AE ?_
     refine k28 _ _ ?_
     refine Ay CR rfl rfl ?_
     refine ALo fun K30 k30=>?_
     refine ALn ?_
     replace Bo:=AC Gu Bo
     refine AI CR 1 [(28,AP AQ)]
      ⟨Ba (vs:=[]) rfl rfl trivial trivial (fun _=>bD0 _) (fun _=>rfl),ALu⟩ fun a31 w31 g31 Hu=>?_
     refine As Hu r7 (CD AQ AO.1) (AC g31 Bo) (IB AO) fun w32 g32 h32=>?_
     replace BT:=Al g31 g32 (AC Gu BT) Bk
     refine As Hu r7 (EU 10) BT rfl fun w33 g33 h33=>?_
     replace Ab:=AY g33 (Al g31 g32 (AC Gu Ab) (Ne.symm Dx)) (Ne.symm Dc)
     replace AZ:=AY g33 (Al g31 g32 (AC Gu AZ) (Ne.symm Ec)) (Ne.symm Dy)
     replace Bo:=AY g33 h32 (Ne.symm Bk)
     replace hr:=(((hr.kn Gu).kn g31).offR g32 (AV FH)).offR g33 (AV Ed)
     replace HG:=AD (AD (AA (AA HG Gu) g31) g32 Hf) g33 GO
     replace BT:=h33
     refine AE ?_
     refine k30 _ _ ?_
     refine ALr ?_
     repeat refine AL ?_
     refine BU (fn:=Tryz.f32) Hu (Bj (p:=6) (q:=7) Tryz.results32 Hu rfl rfl rfl rfl (CD AQ AO.1) (EU 10) Bo BT) (Bz Tryz.func77 (by kernel_rfl) rfl _ _) (JZ _ _ _) ?_
     exact⟨AEm (ACm ha hv hf),HG⟩
   · have hil:i<ks.length:=by have:=(KT hf).1;rw[hi] at this;simpa using this
     obtain⟨x,hx_x⟩:∃x,ks[i]'hil=x:=⟨_,rfl⟩
     have htr:tr (ks.map VK.p) i=x.l:=by rw[VO hil,hx_x]
     refine ALn ?_
     refine AI Da 6 [(21,Ao sa po (.slice ao ks.length cap)),(22,AP o),(23,.tuple #[.int .i64 ((i:Int)),.bool true]),(20,.tuple #[.int .i64 ((i:Int)),.bool true]),(24,.int .i64 ((i:Int))),(25,.bool true)]
      ⟨yl r6 (BX hsa hpo (.slice ao ks.length cap) rfl) Ab,yl r6 (CD o ho.1) AZ,Ae [Ao sa po (.slice ao ks.length cap),AP o] Tryz.func71 (by kernel_rfl) rq4 ⟨(oy rfl rfl),(oy rfl rfl),ALu⟩ (Au fun W g=>Rp hsa hpo ho (hr.kn g) hv hf hi),ym r5,BC rq4 (fun _ _ h=>⟨_,_,h,rfl,rfl⟩),BC rq4 (fun _ _ h=>⟨_,_,h,rfl,rfl⟩),ALu⟩ fun a34 w34 g34 M3=>?_
     refine Aa (v:=.int .i64 ((i:Int))) M3 r6 fun a35 Js=>?_
     refine Aa (v:=.bool true) Js r6 fun a36 F5=>?_
     have Jt:Sv _ _ [_,_,_,_,_,_,_,_,_,_,_,_,_,_,_,_,_] _:=F5.dl [21,22,23,20,24,25,4]
     refine AE ?_
     refine k22 _ _ ?_
     refine ALo fun K38 k38=>?_
     refine ALo fun K39 k39=>?_
     refine ALn ?_
     refine AI Jt 2 [(26,.bool true),(27,.bool false)]
      ⟨ym r5,Cl r6 (fun _=>BJ),ALu⟩ fun a40 w40 g40 Lc=>?_
     have QS:=AA g34 g40
     refine AE ?_
     refine k39 _ _ ?_
     refine Az Lc rfl rfl ?_
     refine ALs ?_
     refine k38 _ _ ?_
     refine ALo fun K41 k41=>?_
     refine ALn ?_
     replace Ab:=AC QS Ab
     replace Bo:=AC QS Bo
     replace hr:=hr.kn QS
     refine AI Lc 10 [(29,pk Ia 64),(30,.slice ao ks.length cap),(31,.int .i64 ((i:Int))),(32,pk ((bO ao)) (oO ao+i*33)),(33,pk ((bO ao)) (oO ao+i*33+32)),(34,.agg #[VK.s x]),(35,.int .i64 a),(36,.tuple #[AP ((DM x.l a).1),.int .i64 ((DM x.l a).2)]),(37,AP ((DM x.l a).1)),(38,.int .i64 ((DM x.l a).2))]
      ⟨yf r6 (fun _=>by kernel_rfl),yp (i:=2) r6 (Eb (.slice ao ks.length cap) rfl) Ab rfl (by simp[AJ,AU,hsa.1,hpo.1]),ym r5,BV rq8 (fun w=>Ce Tryz.underlying34 (by kernel_rfl) (hr.1.1) (by omega) (rfl) w),yf r6 (fun _=>by kernel_rfl),CE r6 (fun _ g=>Ac (QK (VK.s x) rfl) (RdK.treeX (hr.kn g) rfl hil hx_x)),ym r5,Ae [.agg #[VK.s x],.int .i64 a] Tryz.func78 (by kernel_rfl) rq4 ⟨(oy rfl rfl),(oy rfl rfl),ALu⟩ (Au fun W g=>ACN rfl ((hr.kn g).kt hil hx_x)),BC rq4 (fun _ _ h=>⟨_,_,h,rfl,rfl⟩),BC rq4 (fun _ _ h=>⟨_,_,h,rfl,rfl⟩),ALu⟩ fun a42 w42 g42 GK=>?_
     refine As GK r7 (CD ((DM x.l a).1) (Mh ((hr.kt hil hx_x).2.1) a).1) (AC g42 Bo) (IB (Mh ((hr.kt hil hx_x).2.1) a)) fun w43 g43 h43=>?_
     replace BT:=Al g42 g43 (AC QS BT) Bk
     refine As GK r7 (EU ((DM x.l a).2)) BT rfl fun w44 g44 h44=>?_
     replace Bo:=AY g44 h43 (Ne.symm Bk)
     replace hr:=((hr.kn g42).offR g43 (AV FH)).offR g44 (AV Ed)
     replace HG:=AD (AD (AA (AA HG QS) g42) g43 Hf) g44 GO
     replace BT:=h44
     have CL:Sv _ _ [_,_,_,_,_,_,_,_,_,_,_,_,_,_,_,_,_,_] _:=GK.dl [29,30,31,32,33,34,35,36,37,38,8]
     refine AE ?_
     refine k41 _ _ ?_
     refine ALr ?_
     repeat refine AL ?_
     refine BU (fn:=Tryz.f32) CL (Bj (p:=6) (q:=7) Tryz.results32 CL rfl rfl rfl rfl (CD ((DM x.l a).1) (Mh ((hr.kt hil hx_x).2.1) a).1) (EU ((DM x.l a).2)) Bo BT) (Bz Tryz.func77 (by kernel_rfl) rfl _ _) (JZ _ _ _) ?_
     exact⟨AK4 (Uh ha hv hf hi htr).symm,HG⟩
end Go.Proofs.YtbfjfnbcmojpiaaGreat
namespace Go.Proofs.YtbfjfnbcmojpiaaGreat
open Go.RowKit
def Sp.made (B:Nat) (e:TypeId) (sz n:Nat) (xs:List Value):Sp:=⟨fun w v=>∃A,v=.slice (some ⟨A,0,none⟩) n n∧Own w e sz (.slice (some ⟨A,0,none⟩) n n) n xs∧B≤A,fun _ _ _ hg ⟨A,h1,h2,h3⟩=>⟨A,h1,h2.kn hg,h3⟩⟩
section
variable {P:Program} {ops:Array Oper} {L:Nat→Sp} {n:Nat} {w0:World} {o:Oper}
theorem Rh {z:Value} {sz:Nat} (hz:z.cells.size=sz) (hp:0<sz) (m:Nat):(madeCells z.cells (m*sz)).toList=(List.replicate m ()).flatMap fun _=>z.cells.toList:=by
 refine List.ext_getElem? fun i=>?_
 have hl:((List.replicate m ()).flatMap fun _=>z.cells.toList).length=m*sz:=by rw[H0 (sz:=sz) (fun _=>by simpa using hz)];simp
 by_cases hi:i<m*sz
 · have h1:i/sz<m:=(Nat.div_lt_iff_lt_mul hp).2 hi
   have h2:i%sz<sz:=Nat.mod_lt _ hp
   have e1:(madeCells z.cells (m*sz)).toList[i]?=some z.cells[i%sz]!:=by rw[←hz] at hi ⊢;simp[madeCells,hi]
   have e2:((List.replicate m ()).flatMap fun _=>z.cells.toList)[i]?=some (z.cells[i%sz]'(by omega)):=by
    have hsp:=Lx (c:=fun _=>z.cells.toList) (L:=List.replicate m ()) (j:=i/sz) (by simpa using h1)
    rw[hsp,List.getElem?_append_right (by rw[H0 (sz:=sz) (fun _=>by simpa using hz),List.length_take,List.length_replicate,Nat.min_eq_left (Nat.le_of_lt h1)];exact Nat.div_mul_le_self i sz),H0 (sz:=sz) (fun _=>by simpa using hz),List.length_take,List.length_replicate,Nat.min_eq_left (Nat.le_of_lt h1)]
    have e3:i-i/sz*sz=i%sz:=by have:=Nat.div_add_mod i sz;rw[Nat.mul_comm] at this;omega
    rw[e3,List.getElem?_append_left (by simpa [hz] using h2),Array.getElem?_toList,Array.getElem?_eq_getElem (by omega)]
   rw[e1,e2,getElem!_pos z.cells _ (by omega)]
 · rw[List.getElem?_eq_none (by simp[madeCells];omega),List.getElem?_eq_none (by omega)]
theorem AGj {t e:TypeId} {z:Value} {size bytes d B m:Nat} {x:Operand} {xs:List Value} (E:ET P t e z size bytes) (ho:o.op=.makeSlice t x x) (hd:o.dst=some d) (hg:GX ops L n o.guard) (hB:B≤w0.heap.size)
  (hx:OpX L n x (.int .i64 (m:Int))) (hm:m≤1000000) (hxs:xs=(List.replicate m ()).flatMap fun _=>z.cells.toList)
  (h:∀w v,(Sp.made B e size m xs).on w v→(L d).on w v):OX P ops L n w0 o:=by
 intro a w hw hl hs
 unfold OpSays
 rw[if_pos (hg.wanted hl hs)]
 have e1:=hx.eval (o:=o) (a:=a) (w:=w) (by simp[ho,Op.operands]) hl
 obtain⟨i,hi,hz,rfl,hby⟩:=E.inf
 have hb:=E.bnd
 have hbytes:(i.bytes:Int)*(m:Int)≤281474976710656:=by
  have h1:i.bytes*m≤128*1000000:=Nat.mul_le_mul (by omega) hm
  have h2:((i.bytes*m:Nat):Int)≤((128*1000000:Nat):Int):=by omega
  rw[Int.natCast_mul] at h2
  omega
 have hr:=run_make (P:=P) w t e i z E.und hi hz .i64 .i64 (m:Int) (m:Int) (by omega) (by omega) hbytes (by omega)
 have hrr:(execOp a.eval o).run P w=.ok (.value (.slice (some ⟨w.heap.size,0,none⟩) m m)) (w.alloc (.cells (madeCells z.cells (m*i.size)) e)):=by
  simp only[execOp,ho,e1,Sem.run_bind,Sem.run_pure,Result.andThen_ok,hr,Int.toNat_natCast]
 rw[hrr]
 refine⟨World.grownBy_alloc _ _ _,DP hd (h _ _ ⟨_,rfl,?_,Nat.le_trans hB hw.size⟩)⟩
 have hcl:(madeCells z.cells (m*i.size)).size=m*i.size:=size_madeCells _ _
 refine⟨by rw[hxs,←Rh E.zsz E.pos,Array.length_toList,hcl],.inr ⟨w.heap.size,m,_,rfl,Nat.zero_le _,Aj rfl,Nat.le_refl _,by unfold maxLen;omega,hcl,?_⟩⟩
 rw[hxs,←Rh E.zsz E.pos,List.take_of_length_le (by rw[Array.length_toList,hcl];exact Nat.le_refl _)]
theorem VG {t e:TypeId} (ht:P.underlying t=some (.slice e)) {x y:Operand} {ao:Option Addr} {l c:Nat} {r:Bool} (hr:ao.isNone=r) {w:World}:(do eqGuard .eql t x y (.slice ao l c) (.slice none 0 0);binOp .eql t (.slice ao l c) (.slice none 0 0):Sem Value).run P w=.ok (.bool r) w:=by
 subst hr
 have:=run_eql_slice_nil (P:=P) w t e ao l c ht
 simp[eqGuard,this]
end
def Ri:VK:=⟨AQ,AO,none,0,[]⟩
theorem AJw (m:Nat):((List.replicate m ()).flatMap fun _=>zK.cells.toList)=(List.replicate m Ri).flatMap Ag:=by
 induction m with
 | zero=>rfl
 | succ m ih=>rw[List.replicate_succ,List.replicate_succ,List.flatMap_cons,List.flatMap_cons,ih];rfl
theorem KsR.rep (w:World) (m:Nat):KsR w (List.replicate m Ri):=fun k hk=>by
 obtain⟨_,rfl⟩:=List.mem_replicate.1 hk
 exact RdT.nil w
theorem Lz (m b:Nat):¬DU (List.replicate m Ri) b:=by
 rintro ⟨k,hk,h⟩
 obtain⟨_,rfl⟩:=List.mem_replicate.1 hk
 simp[Nv,VK.s,Ri,Value.ownBlock] at h
theorem KsR.set {w:World} {ms:List VK} (h:KsR w ms) {x:VK} (hx:RdT w x.s x.l) (i:Nat):KsR w (ms.set i x):=fun k hk=>(List.mem_or_eq_of_mem_set hk).elim (h k) fun e=>e▸hx
theorem Ep {ms:List VK} {x:VK} {i b:Nat} (h:DU (ms.set i x) b):DU ms b∨Nv x.s b:=by
 obtain⟨k,hk,hb⟩:=h
 exact(List.mem_or_eq_of_mem_set hk).elim (fun h=>.inl ⟨k,h,hb⟩) fun e=>.inr (e▸hb)
def KsT (w:World) (ms:List VK):Prop:=KsR w ms∧∀k,DU ms k→TagB w k
section
variable {w w':World} {ms:List VK}
theorem KsT.kn (h:KsT w ms) (g:w.grownBy w' none):KsT w' ms:=⟨h.1.kn g,fun k hk=>(h.2 k hk).keep g (by simp)⟩
theorem KsT.offR (h:KsT w ms) {row:Option Nat} (g:w.grownBy w' row) (hb:∀k,DU ms k→row≠some k):KsT w' ms:=⟨h.1.offR g hb,fun k hk=>(h.2 k hk).keep g (hb k hk)⟩
theorem KsT.lt (h:KsT w ms):∀k,DU ms k→k<w.heap.size:=h.1.lt
theorem KsT.rep (w:World) (m:Nat):KsT w (List.replicate m Ri):=⟨KsR.rep w m,fun k hk=>(Lz m k hk).elim⟩
theorem KsT.set (h:KsT w ms) {x:VK} (hx:RdTg w x.s x.l) (i:Nat):KsT w (ms.set i x):=⟨h.1.set hx.1 i,fun k hk=>(Ep hk).elim (h.2 k) (hx.2 k)⟩
end
def Sp.ck (B:Nat) (o:List Nat) (l:List Nd):Sp:=⟨fun w v=>∃x:VK,v=IA x∧x.o=o∧x.l=l∧RdTg w x.s x.l∧∀k,Nv x.s k→B≤k,fun _ _ _ hg ⟨x,h1,h2,h3,h4,h5⟩=>⟨x,h1,h2,h3,h4.kn hg,h5⟩⟩
section
variable {ops:Array Oper} {L:Nat→Sp} {n:Nat} {w0:World} {o:Oper}
theorem AJx {B:Nat} {l:List Nd} {w:World} {u:Value} (h:(Sp.cl B l).on w u):∃v,(Instr.build 56 #[(0,u)]).run Tryz.prog w=.ok v w∧(Sp.ct B l).on w v:=by
 obtain⟨ao,cap,rfl,h2,h3⟩:=h
 exact⟨_,AK1 ao _ cap w,ao,cap,rfl,h2,h3⟩
theorem AEW {B:Nat} {l:List Nd} {x:List Nat} (hx:Dg x) {w:World} {u t:Value} (hu:u=AP x) (h:(Sp.ct B l).on w t):∃v,(Instr.build 58 #[(0,u),(1,t)]).run Tryz.prog w=.ok v w∧(Sp.ck B x l).on w v:=by
 obtain⟨ao,cap,rfl,h2,h3⟩:=h
 subst hu
 exact⟨_,bK2 (k:=⟨x,hx,ao,cap,l⟩) w,⟨x,hx,ao,cap,l⟩,rfl,rfl,rfl,h2,h3⟩
end
theorem AJy (x:VK) (w:World):(Instr.buildSlice 34 1 #[(0,IA x)]).run Tryz.prog w=.ok (.slice (some ⟨w.heap.size,0,none⟩) 1 1) (w.alloc (.cells (Ag x).toArray 58)):=by
 obtain⟨o,ho,ao,cap,l⟩:=x
 obtain⟨x0,x1,x2,x3,x4,x5,x6,x7,x8,x9,x10,x11,x12,x13,x14,x15,x16,x17,x18,x19,x20,x21,x22,x23,x24,x25,x26,x27,x28,x29,x30,x31,rfl⟩:=Is _ ho.1
 kernel_rfl
theorem AGk {ks ms:List VK} {i:Nat} {x y:VK} (hl:ms.length=ks.length) (hi:i<ks.length) (hx:ks[i]=x) (ho:y.o=x.o) (hll:y.l=x.l) (h:∀j,j<i→(ms.map VK.p)[j]?=(ks.map VK.p)[j]?):∀j,j<i+1→((ms.set i y).map VK.p)[j]?=(ks.map VK.p)[j]?:=by
 intro j hj
 rw[List.getElem?_map,List.getElem?_set]
 by_cases e:i=j
 · subst e
   rw[if_pos rfl,if_pos (by omega),List.getElem?_map,List.getElem?_eq_getElem hi,hx]
   simp[VK.p,ho,hll]
 · rw[if_neg e,←List.getElem?_map]
   exact h j (by omega)
theorem AIl {ks ms:List VK} {i:Nat} (hl:ms.length=ks.length) (hi:¬i<ks.length) (h:∀j,j<i→(ms.map VK.p)[j]?=(ks.map VK.p)[j]?):ms.map VK.p=ks.map VK.p:=by
 refine List.ext_getElem? fun j=>?_
 by_cases hj:j<ks.length
 · exact h j (by omega)
 · rw[List.getElem?_eq_none (by simpa [hl] using hj),List.getElem?_eq_none (by simpa using hj)]
end Go.Proofs.YtbfjfnbcmojpiaaGreat
