import Derived.Test.YtbfjfnbcmojpiaaGreatDaV4
import Derived.Lib.AppendZerosOnto
import Derived.Lib.SliceRun
import Derived.Laws.Externs
import Derived.Laws.IdiomCopy
import Derived.Deep.RegionLaw
import Derived.Test.YtbfjfnbcmojpiaaGreatDaSG
set_option linter.unusedSimpArgs false
set_option linter.unusedVariables false
set_option maxRecDepth 100000
set_option maxHeartbeats 4000000
namespace Go.Proofs.YtbfjfnbcmojpiaaGreat
open Go.RowKit
def zK:Value:=.agg ([bv AR,[.slice none 0 0]].flatten).toArray
theorem AHX:zK.cells.size=33:=rfl
theorem AAR:ET Tryz.prog 34 58 zK 33 56:=⟨Tryz.underlying34,info_parts (by kernel_rfl),rfl,by decide,by decide⟩
theorem L8 (l:List VK):(l.flatMap Ar).length=l.length*33:=JG EB l
theorem Own.blk {w:World} {e:TypeId} {sz g n cap:Nat} {xs:List Value} (h:Own w e sz (.slice (some ⟨g,0,none⟩) n cap) n xs):∃C:List Value,w.heap[g]?=some (.cells C.toArray e (0,0))∧n≤cap∧cap≤maxLen∧C.length=cap*sz∧C.take (n*sz)=xs:=by
 obtain⟨hl,h2⟩:=h
 rcases h2 with ⟨h3,_⟩|⟨g',cap',cur,h3,hb,hg,hnc,hcm,hcs,ht⟩
 · cases h3
 · simp only[Value.slice.injEq,Option.some.injEq,Addr.mk.injEq,and_true] at h3
   obtain⟨rfl,_,rfl⟩:=h3
   exact⟨cur.toList,by simpa using hg,hnc,hcm,by simpa using hcs,ht⟩
theorem Own.mk' {w:World} {e:TypeId} {sz g n cap:Nat} {xs C:List Value} (h1:w.heap[g]?=some (.cells C.toArray e (0,0))) (h2:n≤cap) (h3:cap≤maxLen) (h4:C.length=cap*sz) (h5:C.take (n*sz)=xs):Own w e sz (.slice (some ⟨g,0,none⟩) n cap) n xs:=by
 have hm:n*sz≤cap*sz:=Nat.mul_le_mul_right _ h2
 exact⟨by rw[←h5,List.length_take];omega,.inr ⟨g,cap,C.toArray,rfl,Nat.zero_le _,h1,h2,h3,by simpa using h4,by simpa using h5⟩⟩
theorem AC1 {P:Program} (w:World) (dT sT ty elem:TypeId) (size:Nat) (b o dLen dCap:Nat) (a:Addr) (sLen sCap:Nat) (cs:List Value)
  (hu:P.underlying dT=some (.slice elem)) (hs:(P.info? elem).map (·.size)=some size) (hn:cs.length=Nat.min sLen dLen*size)
  (hsrc:∀j v,cs[j]?=some v→w.cell? (a.add j)=some v) (hc:∀j,j<cs.length→(w.cell? ⟨b,o+j,none⟩).isSome=true) (hf:∀j,j<cs.length→w.frozen? ⟨b,o+j,none⟩=false) (h1:∀v∈cs,v.oneCell'=true) :
  (Builtin.copy_ #[dT,sT] ty #[.slice (some ⟨b,o,none⟩) dLen dCap,.slice (some a) sLen sCap]).run P w=.ok (goInt (Nat.min sLen dLen)) (w.setCells b o cs):=by
 have hl:=run_loadCells_list (P:=P) w a cs hsrc
 have hst:=run_storeCells_cells (P:=P) b o cs 0 w (by simpa using hc) (by simpa using hf) h1
 cases hq:P.info? elem with
 | none=>simp[hq] at hs
 | some i =>
  have hi:i.size=size:=by simpa [hq] using hs
  simp only[Nat.add_zero] at hst
  rw[hn] at hl
  simp[Builtin.copy_,run_underlying hu,Builtin.lenOf,Builtin.firstCells,sizeOf,typeInfo,hq,hi,hl,hst]
theorem WU {P:Program} (w:World) (dT sT ty elem:TypeId) (size:Nat) (g o dLen dCap:Nat) (a:Addr) (sLen sCap:Nat) (cs C:List Value)
  (hu:P.underlying dT=some (.slice elem)) (hs:(P.info? elem).map (·.size)=some size) (hn:cs.length=Nat.min sLen dLen*size)
  (hsrc:∀j v,cs[j]?=some v→w.cell? (a.add j)=some v) (hb:w.heap[g]?=some (.cells C.toArray elem (0,0))) (hfit:o+cs.length≤C.length) (h1:∀v∈cs,v.oneCell'=true) :
  ∃w',(Builtin.copy_ #[dT,sT] ty #[.slice (some ⟨g,o,none⟩) dLen dCap,.slice (some a) sLen sCap]).run P w=.ok (goInt (Nat.min sLen dLen)) w'∧w.grownBy w' (some g)∧w'.heap[g]?=some (.cells (C.take o++(cs++C.drop (o+cs.length))).toArray elem (0,0)):=by
 refine⟨_,AC1 w dT sT ty elem size g o dLen dCap a sLen sCap cs hu hs hn hsrc (fun j hj=>?_) (fun j hj=>AOV w g _ _ elem hb) h1,Dw _ _ _ _,Ls C o cs hb hfit⟩
 rw[NN hb,List.getElem?_eq_getElem (by omega)]
 rfl
theorem Ms {P:Program} {w:World} {ops:Array Oper} {rest:List Oper} {o:Oper} {a:Act} {Q:Exit→Act→World→Prop} (hgd:o.guard=none) (s x:Operand) (t t':TypeId)
  (ho:o.op=.call { callee:=.builtin .append,args:=#[s,x],argTypes:=#[t,t'] }) (v u:Value) (hs:a.eval s=v) (hx:a.eval x=u) {v':Value} {w':World}
  (hr:(Builtin.append_ #[t,t'] o.type #[v,u]).run P w=.ok v' w') (h:wpList P ops Q rest (a.put o.dst v') w'):wpList P ops Q (o::rest) a w:=by
 refine wpList_plain hgd fun K hK=>?_
 unfold Oper.wp execOp
 simp only[ho,resolve,invoke,builtin,Sem.run_bind,Sem.run_pure,Result.andThen_ok,List.map_toArray,List.map_cons,List.map_nil,hs,hx,hr]
 exact hK _ _ h
theorem AHY {w:World} {V:Nat} {x:VK} (h:w.heap[V]?=some (.cells (Ar x).toArray 58 (0,0))):Sl w 33 (.slice (some ⟨V,0,none⟩) 1 1) 1 (Ar x):=
 ⟨by rw[EB],some ⟨V,0,none⟩,1,rfl,Nat.le_refl _,by unfold maxLen;omega,fun h=>(by cases h),fun a ha=>by
  obtain rfl:=Option.some.inj ha
  refine⟨fun _=>rfl,fun j u hu=>?_⟩
  rw[Nat.zero_add,NN h]
  exact hu⟩
theorem AHZ (l:List VK):∀v∈l.flatMap Ar,v.oneCell'=true:=List.all_eq_true.1 (SO l)
theorem AFd (l:List VK) (i:Nat) (hi:i≤l.length):(l.take i).flatMap Ar=(l.flatMap Ar).take (i*33):=by
 have e:l.flatMap Ar=(l.take i).flatMap Ar++(l.drop i).flatMap Ar:=by rw[←List.flatMap_append,List.take_append_drop]
 rw[e,List.take_left' (by rw[L8,List.length_take];omega)]
theorem AFe (l:List VK) (i:Nat) (hi:i≤l.length):(l.drop i).flatMap Ar=(l.flatMap Ar).drop (i*33):=by
 have e:l.flatMap Ar=(l.take i).flatMap Ar++(l.drop i).flatMap Ar:=by rw[←List.flatMap_append,List.take_append_drop]
 rw[e,List.drop_left' (by rw[L8,List.length_take];omega)]
theorem ALZ {α:Type} (C X Y:List α) (a:Nat) (hC:a+X.length+Y.length≤C.length) :
  ((C.take a++(X++C.drop (a+X.length))).take (a+X.length)++(Y++(C.take a++(X++C.drop (a+X.length))).drop (a+X.length+Y.length))).take (a+X.length+Y.length)=C.take a++(X++Y):=by
 have h1:(C.take a).length=a:=by rw[List.length_take];omega
 have h2:(C.take a++(X++C.drop (a+X.length))).take (a+X.length)=C.take a++X:=by
  rw[←List.append_assoc,List.take_left' (by rw[List.length_append,h1])]
 rw[h2,←List.append_assoc,List.take_left' (by simp only[List.length_append,h1]),List.append_assoc]
theorem AFf (l:List VK) (x:VK) (i:Nat) (hi:i≤l.length):(l.take i++x::l.drop i).flatMap Ar=(l.flatMap Ar).take (i*33)++(Ar x++(l.flatMap Ar).drop (i*33)):=by
 rw[List.flatMap_append,List.flatMap_cons,AFd l i hi,AFe l i hi]
theorem XV {P:Program} {t e:TypeId} {z:Value} {size bytes:Nat} (E:ET P t e z size bytes) (ty:TypeId) {w:World} {A n0:Nat} {xs:List Value} (hown:Own w e size (.slice (some ⟨A,0,none⟩) n0 n0) n0 xs)
  {sv:Value} {m:Nat} {news:List Value} (hs:Sl w size sv m news) (h1:news.all Value.oneCell'=true) (hm:0<m) (h63:n0+m≤1000000000) :
  ∃v' w',(Builtin.append_ #[t,t] ty #[.slice (some ⟨A,0,none⟩) n0 n0,sv]).run P w=.ok v' w'∧Own w' e size v' (n0+m) (xs++news)∧w.grownBy w' none∧∀k,BC v' k→w.heap.size≤k:=by
 obtain⟨i,hi,hz,rfl,hby⟩:=E.inf
 have hb:=E.bnd
 obtain⟨v',w',hr,hown',hst⟩:=Wo E ty hown hs h1 (by omega)
 have hold:=(Sl.of_own hown)
 obtain⟨hlo,ao0,cap0,e0,_,_,_,hc0⟩:=hold
 simp only[Value.slice.injEq,true_and] at e0
 obtain⟨rfl,rfl⟩:=e0
 obtain⟨hl,ao,cap,rfl,hm1,hm2,h3,h4⟩:=hs
 cases ao with
 | none=>have:=h3 rfl;omega
 | some ad =>
  obtain⟨b,off,spot⟩:=ad
  obtain⟨hsp,hc⟩:=h4 _ rfl
  have hsp:=hsp hm
  simp at hsp
  subst hsp
  have hbytes:(n0+m)*bytes≤140737488355328:=by
   have:(n0+m)*bytes≤1000000000*128:=Nat.mul_le_mul h63 hb
   omega
  have hr2:=run_append_grow (P:=P) w t ty e i z E.und hi hz ⟨A,0,none⟩ n0 n0 xs hlo (fun j u hj=>by rw[Addr.add_lit];exact(hc0 _ rfl).2 j u hj) ⟨b,off,none⟩ m cap news hl (fun j u hj=>by rw[Addr.add_lit];exact hc j u hj) (by omega) (by omega) (growslice_fits (by omega) (by subst hby;exact hbytes))
  have hr3:=hr2
  rw[hr] at hr2
  simp only[Result.ok.injEq] at hr2
  obtain⟨rfl,rfl⟩:=hr2
  exact⟨_,_,hr3,hown',AA (Cz w) (World.grownBy_alloc _ _ _),fun k hk=>by simp[BC,Value.ownBlock] at hk;omega⟩
theorem Qu (l:List VK) (x:VK) (g V:Nat) (w:World) (hown:Own w 58 33 (.slice (some ⟨g,0,none⟩) l.length l.length) l.length (l.flatMap Ar)) (hv:w.heap[V]?=some (.cells (Ar x).toArray 58 (0,0))) (hn:l.length≤1000000) :
  Calls Tryz.prog 83 #[.slice (some ⟨g,0,none⟩) l.length l.length,.int .i64 (l.length:Nat),.slice (some ⟨V,0,none⟩) 1 1] w fun e w'=>∃v',e=.returned v'∧Own w' 58 33 v' (l.length+1) ((l++[x]).flatMap Ar)∧w.grownBy w' none∧∀k,BC v' k→w.heap.size≤k:=by
 have hx:=AHY hv
 have hflat:(l++[x]).flatMap Ar=l.flatMap Ar++Ar x:=by simp
 obtain⟨v5,w5,hr,ho,hg,hf⟩:=XV AAR 34 hown hx (List.all_eq_true.2 (Jw x)) (by omega) (by omega)
 have HF:=AK hflat
 have HR:=AK hr
 have HO:=AK ho
 have HG:=AK hg
 have HX:=AK hf
 have z1:(0:Int)≤(l.length:Int):=by omega
 clear hx hown hv hflat hr ho hg hf
 go_enter Tryz.func83,Tryz.ntmps83
 go_wp2_with (first|(at_builtin;refine Ms rfl (.tmp 23) (.tmp 24) 34 34 rfl _ _ rfl rfl HR.out ?_)|(refine Ms rfl (.tmp 23) (.tmp 24) 34 34 rfl _ _ rfl rfl HR.out ?_)|fail)
 go_ret
 exact⟨_,rfl,by rw[HF.out];exact HO.out,HG.out,HX.out⟩
theorem Pr (l:List VK) (x:VK) (i g cap V:Nat) (w:World) (hown:Own w 58 33 (.slice (some ⟨g,0,none⟩) l.length cap) l.length (l.flatMap Ar)) (hv:w.heap[V]?=some (.cells (Ar x).toArray 58 (0,0))) (hi:i<l.length) (hroom:cap<l.length+1) (hn:l.length≤1000000) :
  Calls Tryz.prog 83 #[.slice (some ⟨g,0,none⟩) l.length cap,.int .i64 i,.slice (some ⟨V,0,none⟩) 1 1] w fun e w'=>∃v',e=.returned v'∧Own w' 58 33 v' (l.length+1) ((l.take i++x::l.drop i).flatMap Ar)∧w.grownBy w' none∧∀k,BC v' k→w.heap.size≤k:=by
 obtain⟨C,hb,hnc,hcm,hCl,hCt⟩:=hown.blk
 obtain rfl:cap=l.length:=by omega
 have hX4:(Ar x).length=33:=EB x
 have hYl:((l.flatMap Ar).drop (i*33)).length=(l.length-i)*33:=by rw[List.length_drop,L8];omega
 obtain⟨i0,hi0,hz0,hzs,hzb⟩:=AAR.inf
 have hold:(Builtin.firstCells i0.size i (.slice (some ⟨g,0,none⟩) i l.length)).run Tryz.prog w.drew=.ok ((l.flatMap Ar).take (i*33)).toArray w.drew:=by
  rw[hzs]
  exact run_firstCells_some w.drew 33 i ⟨g,0,none⟩ i l.length ((l.flatMap Ar).take (i*33)) (by rw[List.length_take,L8];omega) (fun j v hj=>by
   rw[Addr.add_lit,Nat.zero_add]
   have h3:w.cell? ⟨g,j,none⟩=some v:=by
    have hjl:=(List.getElem?_eq_some_iff.1 hj).1
    rw[List.length_take,L8] at hjl
    rw[List.getElem?_take,if_pos (by omega),←hCt,List.getElem?_take,if_pos (by omega)] at hj
    rw[NN hb,hj]
   exact h3)
 have hrz:=Lib.run_append_grow_zeros w 34 3 34 58 i0 _ .i64 .i64 Tryz.underlying34 Tryz.underlying3 hi0 hz0 (some ⟨g,0,none⟩) i l.length ((l.flatMap Ar).take (i*33)) hold (l.length+1-i) (by omega) (by omega) (by omega) (by omega) (by rw[hzb];omega) (by rw[hzb,show i+(l.length+1-i)=l.length+1 by omega];exact growslice_fits (by omega) (by omega))
 rw[show i+(l.length+1-i)=l.length+1 by omega] at hrz
 have hGge:l.length+1≤grownCap w (l.length+1) l.length 58:=grownCap_ge w _ _ _
 have hGle:grownCap w (l.length+1) l.length 58≤maxLen:=grownCap_le_maxLen w _ _ _ (by unfold maxLen;omega)
 generalize hG:grownCap w (l.length+1) l.length 58=G at *
 obtain⟨R,hR⟩:∃R:List Value,R=((l.flatMap Ar).take (i*33))++(Builtin.zeroCells zK.cells (l.length+1-i)).toList++(Builtin.zeroCells zK.cells (G-(l.length+1))).toList:=⟨_,rfl⟩
 have hRa:((l.flatMap Ar).take (i*33)).toArray++Builtin.zeroCells zK.cells (l.length+1-i)++Builtin.zeroCells zK.cells (G-(l.length+1))=R.toArray:=by
  rw[hR]
  apply Array.ext'
  simp
 rw[hRa] at hrz
 have hzl:∀k,(Builtin.zeroCells zK.cells k).toList.length=k*33:=fun k=>by simp[Builtin.zeroCells,AHX]
 have hRl:R.length=G*33:=by rw[hR,List.length_append,List.length_append,hzl,hzl,List.length_take,L8];omega
 have hRt:R.take (i*33)=(l.flatMap Ar).take (i*33):=by rw[hR,List.append_assoc,List.take_left' (by rw[List.length_take,L8];omega)]
 have hgw:g<w.heap.size:=(Array.getElem?_eq_some_iff.1 hb).1
 have hVw:V<w.heap.size:=(Array.getElem?_eq_some_iff.1 hv).1
 have gW:=AA (Cz w) (World.grownBy_alloc w.drew (.cells R.toArray 58) none)
 have hbN:(w.drew.alloc (.cells R.toArray 58)).heap[w.heap.size]?=some (.cells R.toArray 58 (0,0)):=Ak rfl
 have hvW:=AF gW hv (by simp)
 have hbW:=AF gW hb (by simp)
 generalize w.drew.alloc (.cells R.toArray 58)=W1 at *
 obtain⟨w2,hr2,hg2,hb2⟩:=WU (P:=Tryz.prog) W1 34 34 3 58 33 w.heap.size (i*33) (l.length+1-i) (G-i) ⟨V,0,none⟩ 1 1 (Ar x) R Tryz.underlying34 (by kernel_rfl)
  (by rw[hX4,show Nat.min 1 (l.length+1-i)=1 by simp[Nat.min_def];omega])
  (fun j v hj=>by rw[Addr.add_lit,Nat.zero_add,NN hvW];exact hj) hbN (by rw[hX4,hRl];omega) (Jw x)
 have hb2g:=AF hg2 hbW (by simp;omega)
 obtain⟨w3,hr3,hg3,hb3⟩:=WU (P:=Tryz.prog) w2.drew 34 34 3 58 33 w.heap.size ((i+1)*33) (l.length-i) (G-(i+1)) ⟨g,i*33,none⟩ (l.length-i) (l.length-i) ((l.flatMap Ar).drop (i*33)) _ Tryz.underlying34 (by kernel_rfl)
  (by rw[hYl,show Nat.min (l.length-i) (l.length-i)=l.length-i by simp[Nat.min_def]])
  (fun j v hj=>by
   rw[Addr.add_lit]
   have h3:w2.cell? ⟨g,i*33+j,none⟩=some v:=by
    have hjl:=(List.getElem?_eq_some_iff.1 hj).1
    rw[hYl] at hjl
    rw[List.getElem?_drop,←hCt,List.getElem?_take,if_pos (by omega)] at hj
    rw[NN hb2g,hj]
   exact h3) hb2 (by simp only[List.length_append,List.length_take,List.length_drop,hX4,hYl,hRl];omega) (fun v hv=>AHZ l v (List.mem_of_mem_drop hv))
 have e1:Nat.min (l.length-i) (l.length-i)=l.length-i:=by simp[Nat.min_def]
 have e2:Nat.min 1 (l.length+1-i)=1:=by simp[Nat.min_def];omega
 rw[e1] at hr3
 rw[e2] at hr2
 have ho:Own w3 58 33 (.slice (some ⟨w.heap.size,0,none⟩) (l.length+1) G) (l.length+1) ((l.take i++x::l.drop i).flatMap Ar):=by
  refine Own.mk' hb3 hGge hGle (by simp only[List.length_append,List.length_take,List.length_drop,hX4,hYl,hRl];omega) ?_
  rw[AFf l x i (by omega),←hRt]
  have ht:=ALZ R (Ar x) ((l.flatMap Ar).drop (i*33)) (i*33) (by rw[hX4,hYl,hRl];omega)
  rw[hX4,hYl,show i*33+33+(l.length-i)*33=(l.length+1)*33 by omega] at ht
  rw[hX4,hYl,show(i+1)*33=i*33+33 by omega,show i*33+33+(l.length-i)*33=(l.length+1)*33 by omega]
  exact ht
 have hkk:(((l.length+1-i:Nat):Nat):Int)=(l.length:Int)+1-(i:Int):=by omega
 rw[hkk] at hrz
 have HRZ:=AK hrz
 have HR2:=AK hr2
 have HR3:=AK hr3
 have O3:=AK ho
 have G3:=AK (AE (AE gW hg2 (Nat.le_refl _)) (show w2.grownBy w3 (some w.heap.size) from⟨hg3.os,hg3.tape,hg3.output,hg3.size,hg3.block⟩) (Nat.le_refl _))
 have z1:(0:Int)≤(i:Int):=by omega
 have z2:(i:Int)≤(l.length:Int):=by omega
 have z3:¬((i:Int)=(l.length:Int)):=by omega
 have z4:(l.length:Int)<(l.length:Int)+1:=by omega
 have z5:¬(l.length=i):=by omega
 have z6:¬(G=i+1):=by omega
 have z7:¬(G=i):=by omega
 have z8:(i:Int)+1≤(l.length:Int)+1:=by omega
 have z9:l.length+1-(i+1)=l.length-i:=by omega
 have y2:(i:Int)≤(l.length:Int)+1:=by omega
 have y4:((i:Int)+1).toNat=i+1:=by omega
 have y5:(0:Int)≤(i:Int)+1:=by omega
 have y6:(0:Int)≤(l.length:Int)+1:=by omega
 have y7:IntKind.i64.wrap ((i:Int)+1)=(i:Int)+1:=by rw[IntKind.wrap_i64];omega
 clear hown hv hb hCl hCt hX4 hYl hi0 hz0 hzs hzb hold hrz hGge hGle hG hR hRa hzl hRl hRt gW hbN hvW hbW hr2 hg2 hb2 hb2g hr3 hg3 hb3 e1 e2 ho hkk hroom hnc hcm
 go_enter Tryz.func83,Tryz.ntmps83
 go_wp2_with (first|(at_builtin;refine Ms rfl (.tmp 34) (.tmp 39) 34 3 rfl _ _ rfl rfl HRZ.out ?_)|(refine Od rfl (.tmp 43) (.tmp 44) 34 34 rfl _ _ rfl rfl HR2.out ?_)|fail)
 go_region_law (first|(refine ACa rfl (.tmp 50) (.tmp 53) 34 34 rfl _ _ (by simp[Act.eval,Act.put]) (by simp[Act.eval,Act.put]) HR3.out ?_)|fail)
 all_goals
  go_wp2
  go_ret
  exact⟨_,rfl,O3.out,G3.out,fun k hk=>by simp[BC,Value.ownBlock] at hk;omega⟩
theorem AAS (l:List VK) (x:VK) (i g V:Nat) (w:World) (hown:Own w 58 33 (.slice (some ⟨g,0,none⟩) l.length l.length) l.length (l.flatMap Ar)) (hv:w.heap[V]?=some (.cells (Ar x).toArray 58 (0,0))) (hi:i≤l.length) (hn:l.length≤1000000) :
   Calls Tryz.prog 83 #[.slice (some ⟨g,0,none⟩) l.length l.length,.int .i64 i,.slice (some ⟨V,0,none⟩) 1 1] w fun e w'=>∃v',e=.returned v'∧Own w' 58 33 v' (l.length+1) ((l.take i++x::l.drop i).flatMap Ar)∧w.grownBy w' none∧∀k,BC v' k→w.heap.size≤k:=by
 by_cases hil:i<l.length
 · exact Pr l x i g l.length V w hown hv hil (by omega) hn
 · obtain rfl:i=l.length:=by omega
   rw[List.take_length,List.drop_length]
   exact Qu l x g V w hown hv hn
theorem Own.rdk {w:World} {ao:Option Addr} {n cap:Nat} {ks:List VK} {e:TypeId} (h:Own w e 33 (.slice ao n cap) n (ks.flatMap Ar)):n=ks.length:=ALN (Sl.of_own h) EB (by decide)
end Go.Proofs.YtbfjfnbcmojpiaaGreat
namespace Go.Proofs.YtbfjfnbcmojpiaaGreat
open Go.RowKit Go.Shelf
def kd (n:Nat) (k:List Nat):List Nat:=Nq (BitVec.ofNat 64 n) k []
theorem Bp (n:Nat) (k:List Nat):Dg (kd n k):=⟨Io _ _,Pj _ _⟩
theorem Ox {n:Nat} (hn:n<1000) {c:Int} (hc:c=(n:Int)) {k:List Nat} (hk:Dg k) (w:World):Calls Tryz.prog 66 #[.int .u64 c,AQ k,.slice none 0 0] w fun e w'=>e=.returned (AQ (kd n k))∧w.grownBy w' none:=by
 have e:c=wi (BitVec.ofNat 64 n):=by rw[hc,←Lu,IntKind.wrap_u64];omega
 rw[e]
 exact N9 (BitVec.ofNat 64 n) k [] hk.1 hk.2 (by simp) (by simp) _ w (Sl.nil w 1)
theorem Lb {n:Nat} (hn:n<1000) {c:Int} (hc:c=(n:Int)) {k:List Nat} (hk:Dg k) (w:World):Calls Tryz.prog 35 #[.int .u64 c,AQ k,.slice none 0 0] w fun e w'=>e=.returned (AQ (kd n k))∧w.grownBy w' none:=by
 have e:c=wi (BitVec.ofNat 64 n):=by rw[hc,←Lu,IntKind.wrap_u64];omega
 rw[e]
 exact Mi (BitVec.ofNat 64 n) k [] hk.1 hk.2 (by simp) (by simp) _ w (Sl.nil w 1)
theorem bV0 (w:World):(Instr.build 36 #[]).run Tryz.prog w=.ok (Ay AR AR (.slice none 0 0)) w:=by kernel_rfl
theorem bV2 {sa po:List Nat} (hs:Dg sa) (hp:Dg po) (w:World):(Instr.build 36 #[(0,AQ sa),(1,AQ po)]).run Tryz.prog w=.ok (Ay sa po (.slice none 0 0)) w:=by
 obtain⟨x0,x1,x2,x3,x4,x5,x6,x7,x8,x9,x10,x11,x12,x13,x14,x15,x16,x17,x18,x19,x20,x21,x22,x23,x24,x25,x26,x27,x28,x29,x30,x31,rfl⟩:=Jq _ hs.1
 obtain⟨y0,y1,y2,y3,y4,y5,y6,y7,y8,y9,y10,y11,y12,y13,y14,y15,y16,y17,y18,y19,y20,y21,y22,y23,y24,y25,y26,y27,y28,y29,y30,y31,rfl⟩:=Jq _ hp.1
 kernel_rfl
theorem bV3 {sa po:List Nat} (hs:Dg sa) (hp:Dg po) (ao:Option Addr) (n cap:Nat) (w:World):(Instr.build 36 #[(0,AQ sa),(1,AQ po),(2,.slice ao n cap)]).run Tryz.prog w=.ok (Ay sa po (.slice ao n cap)) w:=by
 obtain⟨x0,x1,x2,x3,x4,x5,x6,x7,x8,x9,x10,x11,x12,x13,x14,x15,x16,x17,x18,x19,x20,x21,x22,x23,x24,x25,x26,x27,x28,x29,x30,x31,rfl⟩:=Jq _ hs.1
 obtain⟨y0,y1,y2,y3,y4,y5,y6,y7,y8,y9,y10,y11,y12,y13,y14,y15,y16,y17,y18,y19,y20,y21,y22,y23,y24,y25,y26,y27,y28,y29,y30,y31,rfl⟩:=Jq _ hp.1
 kernel_rfl
theorem ANS {o:List Nat} (ho:Dg o) (ao:Option Addr) (n cap:Nat) (w:World):(Instr.build 58 #[(0,AQ o),(1,.agg #[.slice ao n cap])]).run Tryz.prog w=.ok (.agg ([bv o,[.slice ao n cap]].flatten).toArray) w:=by
 obtain⟨x0,x1,x2,x3,x4,x5,x6,x7,x8,x9,x10,x11,x12,x13,x14,x15,x16,x17,x18,x19,x20,x21,x22,x23,x24,x25,x26,x27,x28,x29,x30,x31,rfl⟩:=Jq _ ho.1
 kernel_rfl
theorem bK2 {k:VK} (w:World):(Instr.build 58 #[(0,AQ k.o),(1,.agg #[k.s])]).run Tryz.prog w=.ok (JH k) w:=ANS k.ho k.ao k.l.length k.cap w
theorem ANQ (ao:Option Addr) (n cap:Nat) (w:World):(Instr.build 56 #[(0,.slice ao n cap)]).run Tryz.prog w=.ok (.agg #[.slice ao n cap]) w:=by kernel_rfl
theorem SS {a:Int} {b:Bool} (h:Ci a=b) (w:World):Calls Tryz.prog 75 #[.int .i64 a] w fun e w'=>e=.returned (.bool b)∧w.grownBy w' none:=(Ml a w).mono fun e w' ⟨h1,h2⟩=>⟨h▸h1,h2▸World.grownBy.refl _ _⟩
theorem Mt {w:World} {ks:List VK} {ao:Option Addr} {cap:Nat} {sa po:List Nat} (hsa:Dg sa) (hpo:Dg po) (hr:RdK w (.slice ao ks.length cap) ks) {b:Bool} (hb:Co (ks.map VK.p)=b):Calls Tryz.prog 51 #[Ay sa po (.slice ao ks.length cap)] w fun e w'=>e=.returned (.bool b)∧w.grownBy w' none:=hb▸AAM ks ao cap sa po hsa hpo w hr
theorem IZ {w:World} {ks:List VK} {ao:Option Addr} {cap:Nat} {sa po:List Nat} (hsa:Dg sa) (hpo:Dg po) (hr:RdK w (.slice ao ks.length cap) ks) {b:Bool} (hb:Co (ks.map VK.p)=b):Calls Tryz.prog 40 #[Ay sa po (.slice ao ks.length cap)] w fun e w'=>e=.returned (.bool b)∧w.grownBy w' none:=hb▸XU ks ao cap sa po hsa hpo w hr
theorem AC2 {w:World} {ks:List VK} {ao:Option Addr} {cap:Nat} {sa po o:List Nat} (hsa:Dg sa) (hpo:Dg po) (ho:Dg o) (hr:RdK w (.slice ao ks.length cap) ks) (hv:Co (ks.map VK.p)=true) {b:Bool} (hb:Ly (ks.map VK.p) o=b) {i:Nat} (hi:pos (ks.map VK.p) o=i):Calls Tryz.prog 71 #[Ay sa po (.slice ao ks.length cap),AQ o] w fun e w'=>e=.returned (.tuple #[.int .i64 (i:Int),.bool b])∧w.grownBy w' none:=
 hb▸hi▸AFc ks ao cap sa po hsa hpo o ho w hr (Srt.of hv) (by have:=(Fx.1 hv).1;simpa using this)
theorem AJh {w:World} {ks:List VK} {ao:Option Addr} {cap:Nat} {sa po o:List Nat} (hsa:Dg sa) (hpo:Dg po) (ho:Dg o) (hr:RdK w (.slice ao ks.length cap) ks) (hv:Co (ks.map VK.p)=true) {c:Int} (hc:atV (ks.map VK.p) o=c):Calls Tryz.prog 84 #[Ay sa po (.slice ao ks.length cap),AQ o] w fun e w'=>e=.returned (.int .i64 c)∧w.grownBy w' none:=
 hc▸AJf ks ao cap sa po hsa hpo o ho w hr (Srt.of hv)
theorem AHa {P:List VP} {o:List Nat} (h:Ly P o=true) {i:Nat} (hi:pos P o=i):atV P o=(i:Int):=by unfold atV;rw[h,hi];rfl
theorem AKk {P:List VP} {o:List Nat} (h:Ly P o=false):atV P o=-1:=by unfold atV;rw[h];rfl
theorem AMW {x y:List Nat×Int} (h:x=y):Ending.returned (.tuple #[AQ x.1,.int .i64 x.2])=Ending.returned (.tuple #[AQ y.1,.int .i64 y.2]):=by rw[h]
theorem SU {x:List Nat} {c:Int} {y:List Nat×Int} (h:y=(x,c)):Ending.returned (.tuple #[AQ x,.int .i64 c])=Ending.returned (.tuple #[AQ y.1,.int .i64 y.2]):=by rw[h]
theorem Mu {P:List VP} {o:List Nat} {a:Int} (h:Ci a=false∨Co P=false):DI P o a=(AR,1):=by
 unfold DI
 rcases h with h|h<;>simp[h]
theorem WV {P:List VP} {o:List Nat} {a:Int} (h1:Ci a=true) (h2:Co P=true) (h3:Ly P o=false):DI P o a=(AR,10):=by
 unfold DI
 simp[h1,h2,h3]
theorem Ps {P:List VP} {o:List Nat} {a:Int} (h1:Ci a=true) (h2:Co P=true) (h3:Ly P o=true) {i:Nat} (hi:pos P o=i) {l:List Nd} (hl:tr P i=l):DI P o a=Ca l a:=by
 unfold DI
 simp[h1,h2,h3,hi,hl]
theorem AFg {a:Int} (h:Ci a=false):a<0∨17179869184≤a:=by
 unfold Ci at h
 simp at h
 omega
theorem SV {a:Int} (h:Ci a=true):0≤a∧a<17179869184:=by
 unfold Ci at h
 simpa using h
theorem AFh (k:List Nat) (hk:Dg k) (w:World) :
  Calls Tryz.prog 24 #[AQ k] w fun e w'=>e=.returned (Ay (kd 273 k) (kd 274 k) (.slice none 0 0))∧w.grownBy w' none:=by
 refine FY Tryz.func24 rfl Tryz.ntmps24 rfl fun a0 sv0=>?_
 have HG:=World.grownBy.refl w none
 replace sv0:Sv 8 [] [(0,AQ k)] a0:=sv0
 refine AOQ fun K1 k1=>?_
 refine AOP ?_
 refine Bi sv0 r6 (Bb k hk.1) fun a2 w2 B8 Gx g2 z2 Ac sv2=>?_
 replace HG:=AA HG g2
 refine A9 (T:=36) (Z:=([bv AR,bv AR,[.slice none 0 0]].flatten)) sv2 rfl rfl rfl (fun a w=>by kernel_rfl) fun a3 w3 Pt Kh g3 z3 Cy sv3=>?_
 have L9:=Bq HG Kh
 replace Ac:=AC g3 Ac
 refine AD ?_
 refine k1 _ _ ?_
 refine AOQ fun K4 k4=>?_
 refine AOP ?_
 refine Gh sv3 rfl (dd:={ target:=.fn (.func 65) #[],args:=#[] }) rfl (by simp[execOp,resolve,Deferred.ofValue];try rfl) fun a5 sv5=>?_
 refine AD ?_
 refine k4 _ _ ?_
 refine AOQ fun K6 k6=>?_
 refine DP (sv5.st w3) (by kernel_rfl) 5 [(3,Sp.is (AQ k)),(4,Sp.is (AQ ((kd 273 k)))),(5,Sp.is (AQ k)),(6,Sp.is (AQ ((kd 274 k)))),(7,Sp.is (Ay ((kd 273 k)) ((kd 274 k)) (.slice none 0 0)))] rfl (by kernel_rfl) (by kernel_rfl) (by kernel_rfl) [] (by kernel_rfl)
  ⟨yl r6 (Bb k hk.1) Ac,Ag [.int .u64 273,AQ k,.slice none 0 0] Tryz.func66 (by kernel_rfl) rq4 ⟨rfl,(oy rfl rfl),rfl,AOW⟩ (A1 fun W g=>Ox (n:=273) (by decide) rfl hk W),yl r6 (Bb k hk.1) Ac,Ag [.int .u64 274,AQ k,.slice none 0 0] Tryz.func66 (by kernel_rfl) rq4 ⟨rfl,(oy rfl rfl),rfl,AOW⟩ (A1 fun W g=>Ox (n:=274) (by decide) rfl hk W),BG (vs:=[AQ ((kd 273 k)),AQ ((kd 274 k))]) rfl rfl trivial ⟨(oy rfl rfl),(oy rfl rfl),AOW⟩ (fun _=>bV2 (Bp _ _) (Bp _ _) _) (fun _=>rfl),AOW⟩ trivial
  [] (by kernel_rfl) trivial ⟨.inl rfl,.inl rfl,.inl rfl,.inl rfl,.inl rfl,AOW⟩ (by kernel_rfl) fun a7 w7 g7 st7 nd7=>?_
 obtain⟨hn7,hd7,e7_3,e7_4,e7_5,e7_6,e7_7,e7_2,e7_1,e7_0,-⟩:=st7
 have sv7:Sv 8 [{ target:=.fn (.func 65) #[],args:=#[] }] [(2,_),(1,_),(0,_),(7,_)] a7:=⟨hn7,hd7,e7_2,e7_1,e7_0,e7_7,AOW⟩
 refine Aq sv7 r7 (B6 (Bp _ _) (Bp _ _) (.slice none 0 0) rfl) (AC g7 Cy) (by first|rfl|simp[Ar,AO,Af,(Bp _ _).1,(Bp _ _).1]) fun w8 g8 h8=>?_
 replace HG:=AE (AA (AA HG g3) g7) g8 L9
 replace Cy:=h8
 refine AD ?_
 refine k6 _ _ ?_
 refine AOT ?_
 repeat refine AM ?_
 refine Bz (fn:=Tryz.f24) sv7 (EE (p:=2) Tryz.results24 sv7 rfl rfl (B6 (Bp _ _) (Bp _ _) (.slice none 0 0) rfl) Cy) (Ch Tryz.func65 (by kernel_rfl) rfl _ _) (Pq _) ?_
 exact⟨rfl,HG⟩
theorem AC3 (k:List Nat) (hk:Dg k) (w:World) :
  Calls Tryz.prog 38 #[AQ k] w fun e w'=>e=.returned (Ay (kd 273 k) (kd 274 k) (.slice none 0 0))∧w.grownBy w' none:=by
 refine BV Tryz.func38 rfl Tryz.ntmps38 rfl fun a0 sv0=>?_
 have HG:=World.grownBy.refl w none
 replace sv0:Sv 8 [] [(0,AQ k)] a0:=sv0
 refine AOQ fun K1 k1=>?_
 refine AOP ?_
 refine Bi sv0 r6 (Bb k hk.1) fun a2 w2 B8 Gx g2 z2 Ac sv2=>?_
 replace HG:=AA HG g2
 refine A9 (T:=36) (Z:=([bv AR,bv AR,[.slice none 0 0]].flatten)) sv2 rfl rfl rfl (fun a w=>by kernel_rfl) fun a3 w3 Pt Kh g3 z3 Cy sv3=>?_
 have L9:=Bq HG Kh
 replace Ac:=AC g3 Ac
 refine AD ?_
 refine k1 _ _ ?_
 refine AOQ fun K4 k4=>?_
 refine DP (sv3.st w3) (by kernel_rfl) 5 [(3,Sp.is (AQ k)),(4,Sp.is (AQ ((kd 273 k)))),(5,Sp.is (AQ k)),(6,Sp.is (AQ ((kd 274 k)))),(7,Sp.is (Ay ((kd 273 k)) ((kd 274 k)) (.slice none 0 0)))] rfl (by kernel_rfl) (by kernel_rfl) (by kernel_rfl) [] (by kernel_rfl)
  ⟨yl r6 (Bb k hk.1) Ac,Ag [.int .u64 273,AQ k,.slice none 0 0] Tryz.func35 (by kernel_rfl) rq4 ⟨rfl,(oy rfl rfl),rfl,AOW⟩ (A1 fun W g=>Lb (n:=273) (by decide) rfl hk W),yl r6 (Bb k hk.1) Ac,Ag [.int .u64 274,AQ k,.slice none 0 0] Tryz.func35 (by kernel_rfl) rq4 ⟨rfl,(oy rfl rfl),rfl,AOW⟩ (A1 fun W g=>Lb (n:=274) (by decide) rfl hk W),BG (vs:=[AQ ((kd 273 k)),AQ ((kd 274 k))]) rfl rfl trivial ⟨(oy rfl rfl),(oy rfl rfl),AOW⟩ (fun _=>bV2 (Bp _ _) (Bp _ _) _) (fun _=>rfl),AOW⟩ trivial
  [] (by kernel_rfl) trivial ⟨.inl rfl,.inl rfl,.inl rfl,.inl rfl,.inl rfl,AOW⟩ (by kernel_rfl) fun a5 w5 g5 st5 nd5=>?_
 obtain⟨hn5,hd5,e5_3,e5_4,e5_5,e5_6,e5_7,e5_2,e5_1,e5_0,-⟩:=st5
 have sv5:Sv 8 [] [(2,_),(1,_),(0,_),(7,_)] a5:=⟨hn5,hd5,e5_2,e5_1,e5_0,e5_7,AOW⟩
 refine Aq sv5 r7 (B6 (Bp _ _) (Bp _ _) (.slice none 0 0) rfl) (AC g5 Cy) (by first|rfl|simp[Ar,AO,Af,(Bp _ _).1,(Bp _ _).1]) fun w6 g6 h6=>?_
 replace HG:=AE (AA (AA HG g3) g5) g6 L9
 replace Cy:=h6
 refine AD ?_
 refine k4 _ _ ?_
 refine AOT ?_
 repeat refine AM ?_
 refine Ap (fn:=Tryz.f38) sv5 (EE (p:=2) Tryz.results38 sv5 rfl rfl (B6 (Bp _ _) (Bp _ _) (.slice none 0 0) rfl) Cy) ?_
 exact⟨rfl,HG⟩
theorem AHb (ks:List VK) (ao:Option Addr) (cap:Nat) (sa po:List Nat) (hsa:Dg sa) (hpo:Dg po) (o:List Nat) (ho:Dg o) (a:Int) (w:World) (hr:RdK w (.slice ao ks.length cap) ks) :
   Calls Tryz.prog 32 #[Ay sa po (.slice ao ks.length cap),AQ o,.int .i64 a] w fun e w'=>e=.returned (.tuple #[AQ (DI (ks.map VK.p) o a).1,.int .i64 (DI (ks.map VK.p) o a).2])∧w.grownBy w' none:=by
 refine FY Tryz.func32 rfl Tryz.ntmps32 rfl fun a0 sv0=>?_
 have HG:=World.grownBy.refl w none
 replace sv0:Sv 39 [] [(0,Ay sa po (.slice ao ks.length cap)),(1,AQ o),(2,.int .i64 a)] a0:=sv0
 refine AOQ fun K1 k1=>?_
 refine AOP ?_
 refine Bi sv0 r6 (B6 hsa hpo (.slice ao ks.length cap) rfl) fun a2 w2 I8 Ki g2 z2 An sv2=>?_
 refine Bi sv2 r6 (Bb o ho.1) fun a3 w3 KR RX g3 z3 Bc sv3=>?_
 replace An:=AC g3 An
 replace hr:=(hr.kn g2).kn g3
 replace HG:=AA (AA HG g2) g3
 refine A9 (T:=23) (Z:=(bv AR)) sv3 rfl rfl rfl (fun a w=>by kernel_rfl) fun a4 w4 AMX JZ g4 z4 Cg sv4=>?_
 have ES:=Ao An JZ
 have EU:=Ao Bc JZ
 have Ir:=Bq HG JZ
 have Ec:=Aw (hr.lt) JZ
 replace An:=AC g4 An
 replace Bc:=AC g4 Bc
 replace hr:=hr.kn g4
 replace HG:=AA HG g4
 refine A9 (T:=38) (Z:=[.int .i64 0]) sv4 rfl rfl rfl (fun a w=>by kernel_rfl) fun a5 w5 ANT Oy g5 z5 GQ sv5=>?_
 have MB:=Ao An Oy
 have MC:=Ao Bc Oy
 have EV:=Ao Cg Oy
 have RY:=Bq HG Oy
 have ME:=Aw (hr.lt) Oy
 replace An:=AC g5 An
 replace Bc:=AC g5 Bc
 replace Cg:=AC g5 Cg
 replace hr:=hr.kn g5
 replace HG:=AA HG g5
 refine AD ?_
 refine k1 _ _ ?_
 refine AOQ fun K6 k6=>?_
 refine AOP ?_
 refine I5 sv5 rfl rfl rfl rfl rfl rfl fun a7 sv7=>?_
 refine Gh sv7 rfl (dd:={ target:=.fn (.func 77) #[pt AMX,pt ANT],args:=#[] }) rfl (by have e1:=sv7.ev (x:=.tmp 10) rfl rfl;simp[execOp,resolve,Deferred.ofValue,e1];try rfl) fun a8 sv8=>?_
 refine AD ?_
 refine k6 _ _ ?_
 refine AOQ fun K9 k9=>?_
 refine AOQ fun K10 k10=>?_
 rcases(show Ci a=false∨(Ci a=true∧Co (ks.map VK.p)=false)∨(Ci a=true∧Co (ks.map VK.p)=true) by cases Ci a<;>cases Co (ks.map VK.p)<;>simp) with ha|⟨ha,hv⟩|⟨ha,hv⟩
 · refine AOP ?_
   refine AH sv8 8 [(11,.int .i64 a),(12,.bool false),(13,.bool true),(14,.bool true),(15,undef),(16,undef),(17,undef),(18,.bool true)]
     ⟨ym r5,Ag [.int .i64 a] Tryz.func75 (by kernel_rfl) rq4 ⟨(oy rfl rfl),AOW⟩ (A1 fun W g=>SS ha W),C7 r6 (fun _=>Bf),ym r5,AN r6,AN r6,AN r6,BF r7,AOW⟩ fun a11 w11 g11 CQ=>?_
   refine AD ?_
   refine k10 _ _ ?_
   refine Am CQ rfl rfl ?_
   refine AOQ fun K12 k12=>?_
   refine AOP ?_
   replace Cg:=AC g11 Cg
   refine AH CQ 1 [(19,AQ AR)]
     ⟨BG (vs:=[]) rfl rfl trivial trivial (fun _=>ZQ _) (fun _=>rfl),AOW⟩ fun a13 w13 g13 Cx=>?_
   refine Aq Cx r7 (Bb AR AU.1) (AC g13 Cg) (EM AU) fun w14 g14 h14=>?_
   replace GQ:=Ab g13 g14 (AC g11 GQ) EV
   refine Aq Cx r7 (Gc 1) GQ rfl fun w15 g15 h15=>?_
   replace An:=Aa g15 (Ab g13 g14 (AC g11 An) (Ne.symm ES)) (Ne.symm MB)
   replace Bc:=Aa g15 (Ab g13 g14 (AC g11 Bc) (Ne.symm EU)) (Ne.symm MC)
   replace Cg:=Aa g15 h14 (Ne.symm EV)
   replace hr:=(((hr.kn g11).kn g13).offR g14 (AP Ec)).offR g15 (AP ME)
   replace HG:=AE (AE (AA (AA HG g11) g13) g14 Ir) g15 RY
   replace GQ:=h15
   refine AD ?_
   refine k12 _ _ ?_
   refine AOT ?_
   repeat refine AM ?_
   refine Bz (fn:=Tryz.f32) Cx (CR (p:=6) (q:=7) Tryz.results32 Cx rfl rfl rfl rfl (Bb AR AU.1) (Gc 1) Cg GQ) (Ch Tryz.func77 (by kernel_rfl) rfl _ _) (KY _ _ _) ?_
   exact⟨SU (Mu (.inl ha)),HG⟩
 · refine AOP ?_
   refine AH sv8 8 [(11,.int .i64 a),(12,.bool true),(13,.bool false),(14,.bool false),(15,Ay sa po (.slice ao ks.length cap)),(16,.bool false),(17,.bool true),(18,.bool true)]
     ⟨ym r5,Ag [.int .i64 a] Tryz.func75 (by kernel_rfl) rq4 ⟨(oy rfl rfl),AOW⟩ (A1 fun W g=>SS ha W),C7 r6 (fun _=>Bf),ym r5,A8 rq9 (fun _ g=>Ad (B6 hsa hpo (.slice ao ks.length cap) rfl) (Av (AF g An (by simp)))),CG [Ay sa po (.slice ao ks.length cap)] Tryz.func51 (by kernel_rfl) r7 ⟨(oy rfl rfl),AOW⟩ (A1 fun W g=>Mt hsa hpo (hr.kn g) hv),I3 rfl rfl (gy rfl rfl rfl) (oy rfl rfl) (fun _=>Bf) (fun _=>rfl),Ah rq9,AOW⟩ fun a16 w16 g16 DG=>?_
   refine AD ?_
   refine k10 _ _ ?_
   refine Am DG rfl rfl ?_
   refine AOQ fun K17 k17=>?_
   refine AOP ?_
   replace Cg:=AC g16 Cg
   refine AH DG 1 [(19,AQ AR)]
     ⟨BG (vs:=[]) rfl rfl trivial trivial (fun _=>ZQ _) (fun _=>rfl),AOW⟩ fun a18 w18 g18 CY=>?_
   refine Aq CY r7 (Bb AR AU.1) (AC g18 Cg) (EM AU) fun w19 g19 h19=>?_
   replace GQ:=Ab g18 g19 (AC g16 GQ) EV
   refine Aq CY r7 (Gc 1) GQ rfl fun w20 g20 h20=>?_
   replace An:=Aa g20 (Ab g18 g19 (AC g16 An) (Ne.symm ES)) (Ne.symm MB)
   replace Bc:=Aa g20 (Ab g18 g19 (AC g16 Bc) (Ne.symm EU)) (Ne.symm MC)
   replace Cg:=Aa g20 h19 (Ne.symm EV)
   replace hr:=(((hr.kn g16).kn g18).offR g19 (AP Ec)).offR g20 (AP ME)
   replace HG:=AE (AE (AA (AA HG g16) g18) g19 Ir) g20 RY
   replace GQ:=h20
   refine AD ?_
   refine k17 _ _ ?_
   refine AOT ?_
   repeat refine AM ?_
   refine Bz (fn:=Tryz.f32) CY (CR (p:=6) (q:=7) Tryz.results32 CY rfl rfl rfl rfl (Bb AR AU.1) (Gc 1) Cg GQ) (Ch Tryz.func77 (by kernel_rfl) rfl _ _) (KY _ _ _) ?_
   exact⟨SU (Mu (.inr hv)),HG⟩
 · obtain⟨i,hi⟩:∃i,pos (ks.map VK.p) o=i:=⟨_,rfl⟩
   have h64:ks.length≤64:=by have:=(Fx.1 hv).1;simpa using this
   refine AOP ?_
   refine AH sv8 8 [(11,.int .i64 a),(12,.bool true),(13,.bool false),(14,.bool false),(15,Ay sa po (.slice ao ks.length cap)),(16,.bool true),(17,.bool false),(18,.bool false)]
     ⟨ym r5,Ag [.int .i64 a] Tryz.func75 (by kernel_rfl) rq4 ⟨(oy rfl rfl),AOW⟩ (A1 fun W g=>SS ha W),C7 r6 (fun _=>Bf),ym r5,A8 rq9 (fun _ g=>Ad (B6 hsa hpo (.slice ao ks.length cap) rfl) (Av (AF g An (by simp)))),CG [Ay sa po (.slice ao ks.length cap)] Tryz.func51 (by kernel_rfl) r7 ⟨(oy rfl rfl),AOW⟩ (A1 fun W g=>Mt hsa hpo (hr.kn g) hv),I3 rfl rfl (gy rfl rfl rfl) (oy rfl rfl) (fun _=>Bf) (fun _=>rfl),Ah rq9,AOW⟩ fun a21 w21 g21 Dl=>?_
   refine AD ?_
   refine k10 _ _ ?_
   refine Au Dl rfl rfl ?_
   refine AOU ?_
   refine k9 _ _ ?_
   refine AOQ fun K22 k22=>?_
   replace An:=AC g21 An
   replace Bc:=AC g21 Bc
   replace Cg:=AC g21 Cg
   replace GQ:=AC g21 GQ
   replace hr:=hr.kn g21
   replace HG:=AA HG g21
   cases hf:Ly (ks.map VK.p) o
   · refine AOP ?_
     refine AH Dl 6 [(21,Ay sa po (.slice ao ks.length cap)),(22,AQ o),(23,.tuple #[.int .i64 ((i:Int)),.bool false]),(20,.tuple #[.int .i64 ((i:Int)),.bool false]),(24,.int .i64 ((i:Int))),(25,.bool false)]
      ⟨yl r6 (B6 hsa hpo (.slice ao ks.length cap) rfl) An,yl r6 (Bb o ho.1) Bc,Ag [Ay sa po (.slice ao ks.length cap),AQ o] Tryz.func71 (by kernel_rfl) rq4 ⟨(oy rfl rfl),(oy rfl rfl),AOW⟩ (A1 fun W g=>AC2 hsa hpo ho (hr.kn g) hv hf hi),ym r5,Bh rq4 (fun _ _ h=>⟨_,_,h,rfl,rfl⟩),Bh rq4 (fun _ _ h=>⟨_,_,h,rfl,rfl⟩),AOW⟩ fun a23 w23 g23 Cc=>?_
     refine AS (v:=.int .i64 ((i:Int))) Cc r6 fun a24 EN=>?_
     refine AS (v:=.bool false) EN r6 fun a25 DR=>?_
     have DH:Sv _ _ [_,_,_,_,_,_,_,_,_,_,_,_,_,_,_,_,_] _:=DR.dl [21,22,23,20,24,25,4]
     refine AD ?_
     refine k22 _ _ ?_
     refine AOQ fun K27 k27=>?_
     refine AOQ fun K28 k28=>?_
     refine AOP ?_
     refine AH DH 2 [(26,.bool false),(27,.bool true)]
      ⟨ym r5,C7 r6 (fun _=>Bf),AOW⟩ fun a29 w29 g29 Ck=>?_
     have La:=AA g23 g29
     refine AD ?_
     refine k28 _ _ ?_
     refine Am Ck rfl rfl ?_
     refine AOQ fun K30 k30=>?_
     refine AOP ?_
     replace Cg:=AC La Cg
     refine AH Ck 1 [(28,AQ AR)]
      ⟨BG (vs:=[]) rfl rfl trivial trivial (fun _=>ZQ _) (fun _=>rfl),AOW⟩ fun a31 w31 g31 IJ=>?_
     refine Aq IJ r7 (Bb AR AU.1) (AC g31 Cg) (EM AU) fun w32 g32 h32=>?_
     replace GQ:=Ab g31 g32 (AC La GQ) EV
     refine Aq IJ r7 (Gc 10) GQ rfl fun w33 g33 h33=>?_
     replace An:=Aa g33 (Ab g31 g32 (AC La An) (Ne.symm ES)) (Ne.symm MB)
     replace Bc:=Aa g33 (Ab g31 g32 (AC La Bc) (Ne.symm EU)) (Ne.symm MC)
     replace Cg:=Aa g33 h32 (Ne.symm EV)
     replace hr:=(((hr.kn La).kn g31).offR g32 (AP Ec)).offR g33 (AP ME)
     replace HG:=AE (AE (AA (AA HG La) g31) g32 Ir) g33 RY
     replace GQ:=h33
     refine AD ?_
     refine k30 _ _ ?_
     refine AOT ?_
     repeat refine AM ?_
     refine Bz (fn:=Tryz.f32) IJ (CR (p:=6) (q:=7) Tryz.results32 IJ rfl rfl rfl rfl (Bb AR AU.1) (Gc 10) Cg GQ) (Ch Tryz.func77 (by kernel_rfl) rfl _ _) (KY _ _ _) ?_
     exact⟨SU (WV ha hv hf),HG⟩
   · have hil:i<ks.length:=by have:=(XF hf).1;rw[hi] at this;simpa using this
     obtain⟨x,hx_x⟩:∃x,ks[i]'hil=x:=⟨_,rfl⟩
     have htr:tr (ks.map VK.p) i=x.l:=by rw[XQ hil,hx_x]
     refine AOP ?_
     refine AH Dl 6 [(21,Ay sa po (.slice ao ks.length cap)),(22,AQ o),(23,.tuple #[.int .i64 ((i:Int)),.bool true]),(20,.tuple #[.int .i64 ((i:Int)),.bool true]),(24,.int .i64 ((i:Int))),(25,.bool true)]
      ⟨yl r6 (B6 hsa hpo (.slice ao ks.length cap) rfl) An,yl r6 (Bb o ho.1) Bc,Ag [Ay sa po (.slice ao ks.length cap),AQ o] Tryz.func71 (by kernel_rfl) rq4 ⟨(oy rfl rfl),(oy rfl rfl),AOW⟩ (A1 fun W g=>AC2 hsa hpo ho (hr.kn g) hv hf hi),ym r5,Bh rq4 (fun _ _ h=>⟨_,_,h,rfl,rfl⟩),Bh rq4 (fun _ _ h=>⟨_,_,h,rfl,rfl⟩),AOW⟩ fun a34 w34 g34 DW=>?_
     refine AS (v:=.int .i64 ((i:Int))) DW r6 fun a35 Kw=>?_
     refine AS (v:=.bool true) Kw r6 fun a36 GC=>?_
     have Gi:Sv _ _ [_,_,_,_,_,_,_,_,_,_,_,_,_,_,_,_,_] _:=GC.dl [21,22,23,20,24,25,4]
     refine AD ?_
     refine k22 _ _ ?_
     refine AOQ fun K38 k38=>?_
     refine AOQ fun K39 k39=>?_
     refine AOP ?_
     refine AH Gi 2 [(26,.bool true),(27,.bool false)]
      ⟨ym r5,C7 r6 (fun _=>Bf),AOW⟩ fun a40 w40 g40 I7=>?_
     have Uc:=AA g34 g40
     refine AD ?_
     refine k39 _ _ ?_
     refine Au I7 rfl rfl ?_
     refine AOU ?_
     refine k38 _ _ ?_
     refine AOQ fun K41 k41=>?_
     refine AOP ?_
     replace An:=AC Uc An
     replace Cg:=AC Uc Cg
     replace hr:=hr.kn Uc
     refine AH I7 10 [(29,pk I8 64),(30,.slice ao ks.length cap),(31,.int .i64 ((i:Int))),(32,pk ((bO ao)) (oO ao+i*33)),(33,pk ((bO ao)) (oO ao+i*33+32)),(34,.agg #[VK.s x]),(35,.int .i64 a),(36,.tuple #[AQ ((Ca x.l a).1),.int .i64 ((Ca x.l a).2)]),(37,AQ ((Ca x.l a).1)),(38,.int .i64 ((Ca x.l a).2))]
      ⟨yf r6 (fun _=>by kernel_rfl),yp (i:=2) r6 (FP (.slice ao ks.length cap) rfl) An rfl (by simp[AO,Af,hsa.1,hpo.1]),ym r5,BD rq8 (fun w=>CF Tryz.underlying34 (by kernel_rfl) (hr.1.1) (by omega) (rfl) w),yf r6 (fun _=>by kernel_rfl),Bj r6 (fun _ g=>Ad (tyT (VK.s x) rfl) (RdK.treeX (hr.kn g) rfl hil hx_x)),ym r5,Ag [.agg #[VK.s x],.int .i64 a] Tryz.func78 (by kernel_rfl) rq4 ⟨(oy rfl rfl),(oy rfl rfl),AOW⟩ (A1 fun W g=>AFJ rfl ((hr.kn g).kt hil hx_x)),Bh rq4 (fun _ _ h=>⟨_,_,h,rfl,rfl⟩),Bh rq4 (fun _ _ h=>⟨_,_,h,rfl,rfl⟩),AOW⟩ fun a42 w42 g42 Gj=>?_
     refine Aq Gj r7 (Bb ((Ca x.l a).1) (IV ((hr.kt hil hx_x).2.1) a).1) (AC g42 Cg) (EM (IV ((hr.kt hil hx_x).2.1) a)) fun w43 g43 h43=>?_
     replace GQ:=Ab g42 g43 (AC Uc GQ) EV
     refine Aq Gj r7 (Gc ((Ca x.l a).2)) GQ rfl fun w44 g44 h44=>?_
     replace Cg:=Aa g44 h43 (Ne.symm EV)
     replace hr:=((hr.kn g42).offR g43 (AP Ec)).offR g44 (AP ME)
     replace HG:=AE (AE (AA (AA HG Uc) g42) g43 Ir) g44 RY
     replace GQ:=h44
     have FT:Sv _ _ [_,_,_,_,_,_,_,_,_,_,_,_,_,_,_,_,_,_] _:=Gj.dl [29,30,31,32,33,34,35,36,37,38,8]
     refine AD ?_
     refine k41 _ _ ?_
     refine AOT ?_
     repeat refine AM ?_
     refine Bz (fn:=Tryz.f32) FT (CR (p:=6) (q:=7) Tryz.results32 FT rfl rfl rfl rfl (Bb ((Ca x.l a).1) (IV ((hr.kt hil hx_x).2.1) a).1) (Gc ((Ca x.l a).2)) Cg GQ) (Ch Tryz.func77 (by kernel_rfl) rfl _ _) (KY _ _ _) ?_
     exact⟨AMW (Ps ha hv hf hi htr).symm,HG⟩
theorem AFi (ks:List VK) (ao:Option Addr) (cap:Nat) (sa po:List Nat) (hsa:Dg sa) (hpo:Dg po) (o:List Nat) (ho:Dg o) (a:Int) (w:World) (hr:RdK w (.slice ao ks.length cap) ks) :
   Calls Tryz.prog 42 #[Ay sa po (.slice ao ks.length cap),AQ o,.int .i64 a] w fun e w'=>e=.returned (.tuple #[AQ (DI (ks.map VK.p) o a).1,.int .i64 (DI (ks.map VK.p) o a).2])∧w.grownBy w' none:=by
 refine BV Tryz.func42 rfl Tryz.ntmps42 rfl fun a0 sv0=>?_
 have HG:=World.grownBy.refl w none
 replace sv0:Sv 37 [] [(0,Ay sa po (.slice ao ks.length cap)),(1,AQ o),(2,.int .i64 a)] a0:=sv0
 refine AOQ fun K1 k1=>?_
 refine AOP ?_
 refine Bi sv0 r6 (B6 hsa hpo (.slice ao ks.length cap) rfl) fun a2 w2 I8 Ki g2 z2 An sv2=>?_
 refine Bi sv2 r6 (Bb o ho.1) fun a3 w3 KR RX g3 z3 Bc sv3=>?_
 replace An:=AC g3 An
 replace hr:=(hr.kn g2).kn g3
 replace HG:=AA (AA HG g2) g3
 refine A9 (T:=23) (Z:=(bv AR)) sv3 rfl rfl rfl (fun a w=>by kernel_rfl) fun a4 w4 AMX JZ g4 z4 Cg sv4=>?_
 have ES:=Ao An JZ
 have EU:=Ao Bc JZ
 have Ir:=Bq HG JZ
 have Ec:=Aw (hr.lt) JZ
 replace An:=AC g4 An
 replace Bc:=AC g4 Bc
 replace hr:=hr.kn g4
 replace HG:=AA HG g4
 refine AS (v:=.int .i64 0) sv4 r6 fun a5 sv5=>?_
 refine AD ?_
 refine k1 _ _ ?_
 refine AOQ fun K6 k6=>?_
 refine AOQ fun K7 k7=>?_
 rcases(show Co (ks.map VK.p)=false∨(Co (ks.map VK.p)=true∧a<0)∨(Co (ks.map VK.p)=true∧17179869184≤a)∨(Co (ks.map VK.p)=true∧Ci a=true) by
     cases Co (ks.map VK.p)<;>cases h:Ci a<;>simp<;>exact AFg h) with hv|⟨hv,ha⟩|⟨hv,ha⟩|⟨hv,ha⟩
 · refine AOP ?_
   refine AH sv5 11 [(9,Ay sa po (.slice ao ks.length cap)),(10,.bool false),(11,.bool true),(12,.bool true),(13,undef),(14,undef),(15,.bool true),(16,.bool true),(17,undef),(18,undef),(19,.bool true)]
     ⟨yl r6 (B6 hsa hpo (.slice ao ks.length cap) rfl) An,Ag [Ay sa po (.slice ao ks.length cap)] Tryz.func40 (by kernel_rfl) rq4 ⟨(oy rfl rfl),AOW⟩ (A1 fun W g=>IZ hsa hpo (hr.kn g) hv),C7 r6 (fun _=>Bf),ym r5,AN r6,AN r6,BF r7,ym r5,AN r6,AN r6,BF r7,AOW⟩ fun a8 w8 g8 sv8=>?_
   refine AD ?_
   refine k7 _ _ ?_
   refine Am sv8 rfl rfl ?_
   refine AOQ fun K9 k9=>?_
   refine AOP ?_
   replace Cg:=AC g8 Cg
   refine AH sv8 1 [(20,AQ AR)]
     ⟨BG (vs:=[]) rfl rfl trivial trivial (fun _=>ZQ _) (fun _=>rfl),AOW⟩ fun a10 w10 g10 Bt=>?_
   refine Aq Bt r7 (Bb AR AU.1) (AC g10 Cg) (EM AU) fun w11 g11 h11=>?_
   replace An:=Ab g10 g11 (AC g8 An) (Ne.symm ES)
   replace Bc:=Ab g10 g11 (AC g8 Bc) (Ne.symm EU)
   replace hr:=((hr.kn g8).kn g10).offR g11 (AP Ec)
   replace HG:=AE (AA (AA HG g8) g10) g11 Ir
   replace Cg:=h11
   refine AS (v:=.int .i64 1) Bt r6 fun a12 DF=>?_
   refine AD ?_
   refine k9 _ _ ?_
   refine AOT ?_
   repeat refine AM ?_
   refine Ap (fn:=Tryz.f42) DF (Cb (p:=6) (q:=7) Tryz.results42 DF rfl rfl rfl rfl (Bb AR AU.1) Cg) ?_
   exact⟨SU (Mu (.inr hv)),HG⟩
 · refine AOP ?_
   refine AH sv5 11 [(9,Ay sa po (.slice ao ks.length cap)),(10,.bool true),(11,.bool false),(12,.bool false),(13,.int .i64 a),(14,.bool true),(15,.bool true),(16,.bool true),(17,undef),(18,undef),(19,.bool true)]
     ⟨yl r6 (B6 hsa hpo (.slice ao ks.length cap) rfl) An,Ag [Ay sa po (.slice ao ks.length cap)] Tryz.func40 (by kernel_rfl) rq4 ⟨(oy rfl rfl),AOW⟩ (A1 fun W g=>IZ hsa hpo (hr.kn g) hv),C7 r6 (fun _=>Bf),ym r5,Ae rq8,Ai rq9 (fun _=>BR (decide_eq_true (by omega))),Ah rq9,ym r5,AN r6,AN r6,BF r7,AOW⟩ fun a13 w13 g13 Cx=>?_
   refine AD ?_
   refine k7 _ _ ?_
   refine Am Cx rfl rfl ?_
   refine AOQ fun K14 k14=>?_
   refine AOP ?_
   replace Cg:=AC g13 Cg
   refine AH Cx 1 [(20,AQ AR)]
     ⟨BG (vs:=[]) rfl rfl trivial trivial (fun _=>ZQ _) (fun _=>rfl),AOW⟩ fun a15 w15 g15 Fp=>?_
   refine Aq Fp r7 (Bb AR AU.1) (AC g15 Cg) (EM AU) fun w16 g16 h16=>?_
   replace An:=Ab g15 g16 (AC g13 An) (Ne.symm ES)
   replace Bc:=Ab g15 g16 (AC g13 Bc) (Ne.symm EU)
   replace hr:=((hr.kn g13).kn g15).offR g16 (AP Ec)
   replace HG:=AE (AA (AA HG g13) g15) g16 Ir
   replace Cg:=h16
   refine AS (v:=.int .i64 1) Fp r6 fun a17 EK=>?_
   refine AD ?_
   refine k14 _ _ ?_
   refine AOT ?_
   repeat refine AM ?_
   refine Ap (fn:=Tryz.f42) EK (Cb (p:=6) (q:=7) Tryz.results42 EK rfl rfl rfl rfl (Bb AR AU.1) Cg) ?_
   exact⟨SU (Mu (.inl (by unfold Ci;simp;omega))),HG⟩
 · refine AOP ?_
   refine AH sv5 11 [(9,Ay sa po (.slice ao ks.length cap)),(10,.bool true),(11,.bool false),(12,.bool false),(13,.int .i64 a),(14,.bool false),(15,.bool false),(16,.bool false),(17,.int .i64 a),(18,.bool true),(19,.bool true)]
     ⟨yl r6 (B6 hsa hpo (.slice ao ks.length cap) rfl) An,Ag [Ay sa po (.slice ao ks.length cap)] Tryz.func40 (by kernel_rfl) rq4 ⟨(oy rfl rfl),AOW⟩ (A1 fun W g=>IZ hsa hpo (hr.kn g) hv),C7 r6 (fun _=>Bf),ym r5,Ae rq8,Ai rq9 (fun _=>BR (decide_eq_false (by omega))),Ah rq9,ym r5,Ae rq8,Ai rq9 (fun _=>Dp (decide_eq_true (by omega))),Ah rq9,AOW⟩ fun a18 w18 g18 CY=>?_
   refine AD ?_
   refine k7 _ _ ?_
   refine Am CY rfl rfl ?_
   refine AOQ fun K19 k19=>?_
   refine AOP ?_
   replace Cg:=AC g18 Cg
   refine AH CY 1 [(20,AQ AR)]
     ⟨BG (vs:=[]) rfl rfl trivial trivial (fun _=>ZQ _) (fun _=>rfl),AOW⟩ fun a20 w20 g20 Du=>?_
   refine Aq Du r7 (Bb AR AU.1) (AC g20 Cg) (EM AU) fun w21 g21 h21=>?_
   replace An:=Ab g20 g21 (AC g18 An) (Ne.symm ES)
   replace Bc:=Ab g20 g21 (AC g18 Bc) (Ne.symm EU)
   replace hr:=((hr.kn g18).kn g20).offR g21 (AP Ec)
   replace HG:=AE (AA (AA HG g18) g20) g21 Ir
   replace Cg:=h21
   refine AS (v:=.int .i64 1) Du r6 fun a22 B7=>?_
   refine AD ?_
   refine k19 _ _ ?_
   refine AOT ?_
   repeat refine AM ?_
   refine Ap (fn:=Tryz.f42) B7 (Cb (p:=6) (q:=7) Tryz.results42 B7 rfl rfl rfl rfl (Bb AR AU.1) Cg) ?_
   exact⟨SU (Mu (.inl (by unfold Ci;simp;omega))),HG⟩
 · have haa:=SV ha
   obtain⟨i,hi⟩:∃i,pos (ks.map VK.p) o=i:=⟨_,rfl⟩
   have h64:ks.length≤64:=by have:=(Fx.1 hv).1;simpa using this
   refine AOP ?_
   refine AH sv5 11 [(9,Ay sa po (.slice ao ks.length cap)),(10,.bool true),(11,.bool false),(12,.bool false),(13,.int .i64 a),(14,.bool false),(15,.bool false),(16,.bool false),(17,.int .i64 a),(18,.bool false),(19,.bool false)]
     ⟨yl r6 (B6 hsa hpo (.slice ao ks.length cap) rfl) An,Ag [Ay sa po (.slice ao ks.length cap)] Tryz.func40 (by kernel_rfl) rq4 ⟨(oy rfl rfl),AOW⟩ (A1 fun W g=>IZ hsa hpo (hr.kn g) hv),C7 r6 (fun _=>Bf),ym r5,Ae rq8,Ai rq9 (fun _=>BR (decide_eq_false (by omega))),Ah rq9,ym r5,Ae rq8,Ai rq9 (fun _=>Dp (decide_eq_false (by omega))),Ah rq9,AOW⟩ fun a23 w23 g23 Cc=>?_
   refine AD ?_
   refine k7 _ _ ?_
   refine Au Cc rfl rfl ?_
   refine AOU ?_
   refine k6 _ _ ?_
   refine AOQ fun K24 k24=>?_
   replace An:=AC g23 An
   replace Bc:=AC g23 Bc
   replace Cg:=AC g23 Cg
   replace hr:=hr.kn g23
   replace HG:=AA HG g23
   cases hf:Ly (ks.map VK.p) o
   · refine AOP ?_
     refine AH Cc 3 [(21,Ay sa po (.slice ao ks.length cap)),(22,AQ o),(23,.int .i64 ((-1)))]
      ⟨yl r6 (B6 hsa hpo (.slice ao ks.length cap) rfl) An,yl r6 (Bb o ho.1) Bc,Ag [Ay sa po (.slice ao ks.length cap),AQ o] Tryz.func84 (by kernel_rfl) rq4 ⟨(oy rfl rfl),(oy rfl rfl),AOW⟩ (A1 fun W g=>AJh hsa hpo ho (hr.kn g) hv (AKk hf)),AOW⟩ fun a25 w25 g25 DR=>?_
     refine AS (v:=.int .i64 ((-1))) DR r6 fun a26 DH=>?_
     have HU:Sv _ _ [_,_,_,_,_,_,_,_,_,_,_,_,_,_,_,_,_,_] _:=DH.dl [21,22,23,4]
     refine AD ?_
     refine k24 _ _ ?_
     refine AOQ fun K28 k28=>?_
     refine AOQ fun K29 k29=>?_
     refine AOP ?_
     refine AH HU 2 [(24,.int .i64 ((-1))),(25,.bool true)]
      ⟨ym r5,Ce r6 (fun _=>BR (by decide)),AOW⟩ fun a30 w30 g30 EF=>?_
     have Ub:=AA g25 g30
     refine AD ?_
     refine k29 _ _ ?_
     refine Am EF rfl rfl ?_
     refine AOQ fun K31 k31=>?_
     refine AOP ?_
     replace Cg:=AC Ub Cg
     refine AH EF 1 [(26,AQ AR)]
      ⟨BG (vs:=[]) rfl rfl trivial trivial (fun _=>ZQ _) (fun _=>rfl),AOW⟩ fun a32 w32 g32 Cu=>?_
     refine Aq Cu r7 (Bb AR AU.1) (AC g32 Cg) (EM AU) fun w33 g33 h33=>?_
     replace An:=Ab g32 g33 (AC Ub An) (Ne.symm ES)
     replace Bc:=Ab g32 g33 (AC Ub Bc) (Ne.symm EU)
     replace hr:=((hr.kn Ub).kn g32).offR g33 (AP Ec)
     replace HG:=AE (AA (AA HG Ub) g32) g33 Ir
     replace Cg:=h33
     refine AS (v:=.int .i64 10) Cu r6 fun a34 DW=>?_
     refine AD ?_
     refine k31 _ _ ?_
     refine AOT ?_
     repeat refine AM ?_
     refine Ap (fn:=Tryz.f42) DW (Cb (p:=6) (q:=7) Tryz.results42 DW rfl rfl rfl rfl (Bb AR AU.1) Cg) ?_
     exact⟨SU (WV ha hv hf),HG⟩
   · have hil:i<ks.length:=by have:=(XF hf).1;rw[hi] at this;simpa using this
     obtain⟨x,hx_x⟩:∃x,ks[i]'hil=x:=⟨_,rfl⟩
     have htr:tr (ks.map VK.p) i=x.l:=by rw[XQ hil,hx_x]
     refine AOP ?_
     refine AH Cc 3 [(21,Ay sa po (.slice ao ks.length cap)),(22,AQ o),(23,.int .i64 ((i:Int)))]
      ⟨yl r6 (B6 hsa hpo (.slice ao ks.length cap) rfl) An,yl r6 (Bb o ho.1) Bc,Ag [Ay sa po (.slice ao ks.length cap),AQ o] Tryz.func84 (by kernel_rfl) rq4 ⟨(oy rfl rfl),(oy rfl rfl),AOW⟩ (A1 fun W g=>AJh hsa hpo ho (hr.kn g) hv (AHa hf hi)),AOW⟩ fun a35 w35 g35 Kw=>?_
     refine AS (v:=.int .i64 ((i:Int))) Kw r6 fun a36 GC=>?_
     have Gi:Sv _ _ [_,_,_,_,_,_,_,_,_,_,_,_,_,_,_,_,_,_] _:=GC.dl [21,22,23,4]
     refine AD ?_
     refine k24 _ _ ?_
     refine AOQ fun K38 k38=>?_
     refine AOQ fun K39 k39=>?_
     refine AOP ?_
     refine AH Gi 2 [(24,.int .i64 ((i:Int))),(25,.bool false)]
      ⟨ym r5,Ce r6 (fun _=>BR (decide_eq_false (by omega))),AOW⟩ fun a40 w40 g40 I7=>?_
     have Uc:=AA g35 g40
     refine AD ?_
     refine k39 _ _ ?_
     refine Au I7 rfl rfl ?_
     refine AOU ?_
     refine k38 _ _ ?_
     refine AOQ fun K41 k41=>?_
     refine AOP ?_
     replace An:=AC Uc An
     replace Cg:=AC Uc Cg
     replace hr:=hr.kn Uc
     refine AH I7 10 [(27,pk I8 64),(28,.slice ao ks.length cap),(29,.int .i64 ((i:Int))),(30,pk ((bO ao)) (oO ao+i*33)),(31,pk ((bO ao)) (oO ao+i*33+32)),(32,.agg #[VK.s x]),(33,.int .i64 a),(34,.tuple #[AQ ((Ca x.l a).1),.int .i64 ((Ca x.l a).2)]),(35,AQ ((Ca x.l a).1)),(36,.int .i64 ((Ca x.l a).2))]
      ⟨yf r6 (fun _=>by kernel_rfl),yp (i:=2) r6 (FP (.slice ao ks.length cap) rfl) An rfl (by simp[AO,Af,hsa.1,hpo.1]),ym r5,BD rq8 (fun w=>CF Tryz.underlying34 (by kernel_rfl) (hr.1.1) (by omega) (rfl) w),yf r6 (fun _=>by kernel_rfl),Bj r6 (fun _ g=>Ad (tyT (VK.s x) rfl) (RdK.treeX (hr.kn g) rfl hil hx_x)),ym r5,Ag [.agg #[VK.s x],.int .i64 a] Tryz.func89 (by kernel_rfl) rq4 ⟨(oy rfl rfl),(oy rfl rfl),AOW⟩ (A1 fun W g=>ACm rfl ((hr.kn g).kt hil hx_x)),Bh rq4 (fun _ _ h=>⟨_,_,h,rfl,rfl⟩),Bh rq4 (fun _ _ h=>⟨_,_,h,rfl,rfl⟩),AOW⟩ fun a42 w42 g42 Gj=>?_
     refine Aq Gj r7 (Bb ((Ca x.l a).1) (IV ((hr.kt hil hx_x).2.1) a).1) (AC g42 Cg) (EM (IV ((hr.kt hil hx_x).2.1) a)) fun w43 g43 h43=>?_
     replace hr:=(hr.kn g42).offR g43 (AP Ec)
     replace HG:=AE (AA (AA HG Uc) g42) g43 Ir
     replace Cg:=h43
     refine AS (v:=.int .i64 ((Ca x.l a).2)) Gj r6 fun a44 Mv=>?_
     have FT:Sv _ _ [_,_,_,_,_,_,_,_,_,_,_,_,_,_,_,_,_,_,_,_] _:=Mv.dl [27,28,29,30,31,32,33,34,35,36]
     refine AD ?_
     refine k41 _ _ ?_
     refine AOT ?_
     repeat refine AM ?_
     refine Ap (fn:=Tryz.f42) FT (Cb (p:=6) (q:=7) Tryz.results42 FT rfl rfl rfl rfl (Bb ((Ca x.l a).1) (IV ((hr.kt hil hx_x).2.1) a).1) Cg) ?_
     exact⟨AMW (Ps ha hv hf hi htr).symm,HG⟩
end Go.Proofs.YtbfjfnbcmojpiaaGreat
