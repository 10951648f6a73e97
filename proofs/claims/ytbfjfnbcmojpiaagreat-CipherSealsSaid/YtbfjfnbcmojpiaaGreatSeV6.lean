import Derived.Test.YtbfjfnbcmojpiaaGreatSeV4
import Derived.Lib.AppendZerosOnto
import Derived.Lib.SliceRun
import Derived.Laws.Externs
import Derived.Laws.IdiomCopy
import Derived.Deep.RegionLaw
import Derived.Test.YtbfjfnbcmojpiaaGreatSeSG
set_option linter.unusedSimpArgs false
set_option linter.unusedVariables false
set_option maxRecDepth 100000
set_option maxHeartbeats 4000000
namespace Go.Proofs.YtbfjfnbcmojpiaaGreat
open Go.RowKit
def zK:Value:=.agg ([bv AM,[.slice none 0 0]].flatten).toArray
theorem AEX:zK.cells.size=33:=rfl
theorem Xd:ET Tryz.prog 34 58 zK 33 56:=⟨Tryz.underlying34,info_parts (by kernel_rfl),rfl,by decide,by decide⟩
theorem KG (l:List VK):(l.flatMap Ak).length=l.length*33:=IB DZ l
theorem Own.blk {w:World} {e:TypeId} {sz g n cap:Nat} {xs:List Value} (h:Own w e sz (.slice (some ⟨g,0,none⟩) n cap) n xs):∃C:List Value,w.heap[g]?=some (.cells C.toArray e (0,0))∧n≤cap∧cap≤maxLen∧C.length=cap*sz∧C.take (n*sz)=xs:=by
 obtain⟨hl,h2⟩:=h
 rcases h2 with ⟨h3,_⟩|⟨g',cap',cur,h3,hb,hg,hnc,hcm,hcs,ht⟩
 · cases h3
 · simp only[Value.slice.injEq,Option.some.injEq,Addr.mk.injEq,and_true] at h3
   obtain⟨rfl,_,rfl⟩:=h3
   exact⟨cur.toList,by simpa using hg,hnc,hcm,by simpa using hcs,ht⟩
theorem Own.mk' {w:World} {e:TypeId} {sz g n cap:Nat} {xs C:List Value} (h1:w.heap[g]?=some (.cells C.toArray e (0,0))) (h2:n≤cap) (h3:cap≤maxLen) (h4:C.length=cap*sz) (h5:C.take (n*sz)=xs):Own w e sz (.slice (some ⟨g,0,none⟩) n cap) n xs:=by
 have hm:n*sz≤cap*sz:=Nat.mul_le_mul_right _ h2
 exact⟨by rw[←h5,List.length_take];omega,.inr ⟨g,cap,C.toArray,rfl,Nat.zero_le _,h1,h2,h3,by simpa using h4,by simpa using h5⟩⟩
theorem Z6 {P:Program} (w:World) (dT sT ty elem:TypeId) (size:Nat) (b o dLen dCap:Nat) (a:Addr) (sLen sCap:Nat) (cs:List Value)
  (hu:P.underlying dT=some (.slice elem)) (hs:(P.info? elem).map (·.size)=some size) (hn:cs.length=Nat.min sLen dLen*size)
  (hsrc:∀j v,cs[j]?=some v→w.cell? (a.add j)=some v) (hc:∀j,j<cs.length→(w.cell? ⟨b,o+j,none⟩).isSome=true) (hf:∀j,j<cs.length→w.frozen? ⟨b,o+j,none⟩=false) (h1:∀v∈cs,v.oneCell'=true) :
  (Builtin.copy_ #[dT,sT] ty #[.slice (some ⟨b,o,none⟩) dLen dCap,.slice (some a) sLen sCap]).run P w=.ok (goInt (Nat.min sLen dLen)) (w.setCells b o cs):=by
 have hl:=run_loadCells_list (P:=P) w a cs hsrc
 have hst:=run_storeCells_cells (P:=P) b o cs 0 w (by simpa using hc) (by simpa using hf) h1
 cases hq:P.info? elem with
 | none=>simp[hq] at hs
 | some i =>
  have hi:i.size=size:=by simpa [hq] using hs
  simp only[Nat.add_zero] at hst
  rw[hn] at hl
  simp[Builtin.copy_,run_underlying hu,Builtin.lenOf,Builtin.firstCells,sizeOf,typeInfo,hq,hi,hl,hst]
theorem Tt {P:Program} (w:World) (dT sT ty elem:TypeId) (size:Nat) (g o dLen dCap:Nat) (a:Addr) (sLen sCap:Nat) (cs C:List Value)
  (hu:P.underlying dT=some (.slice elem)) (hs:(P.info? elem).map (·.size)=some size) (hn:cs.length=Nat.min sLen dLen*size)
  (hsrc:∀j v,cs[j]?=some v→w.cell? (a.add j)=some v) (hb:w.heap[g]?=some (.cells C.toArray elem (0,0))) (hfit:o+cs.length≤C.length) (h1:∀v∈cs,v.oneCell'=true) :
  ∃w',(Builtin.copy_ #[dT,sT] ty #[.slice (some ⟨g,o,none⟩) dLen dCap,.slice (some a) sLen sCap]).run P w=.ok (goInt (Nat.min sLen dLen)) w'∧w.grownBy w' (some g)∧w'.heap[g]?=some (.cells (C.take o++(cs++C.drop (o+cs.length))).toArray elem (0,0)):=by
 refine⟨_,Z6 w dT sT ty elem size g o dLen dCap a sLen sCap cs hu hs hn hsrc (fun j hj=>?_) (fun j hj=>ALf w g _ _ elem hb) h1,DT _ _ _ _,J0 C o cs hb hfit⟩
 rw[Lm hb,List.getElem?_eq_getElem (by omega)]
 rfl
theorem LM {P:Program} {w:World} {ops:Array Oper} {rest:List Oper} {o:Oper} {a:Act} {Q:Exit→Act→World→Prop} (hgd:o.guard=none) (s x:Operand) (t t':TypeId)
  (ho:o.op=.call { callee:=.builtin .append,args:=#[s,x],argTypes:=#[t,t'] }) (v u:Value) (hs:a.eval s=v) (hx:a.eval x=u) {v':Value} {w':World}
  (hr:(Builtin.append_ #[t,t'] o.type #[v,u]).run P w=.ok v' w') (h:wpList P ops Q rest (a.put o.dst v') w'):wpList P ops Q (o::rest) a w:=by
 refine wpList_plain hgd fun K hK=>?_
 unfold Oper.wp execOp
 simp only[ho,resolve,invoke,builtin,Sem.run_bind,Sem.run_pure,Result.andThen_ok,List.map_toArray,List.map_cons,List.map_nil,hs,hx,hr]
 exact hK _ _ h
theorem AEY {w:World} {V:Nat} {x:VK} (h:w.heap[V]?=some (.cells (Ak x).toArray 58 (0,0))):Sl w 33 (.slice (some ⟨V,0,none⟩) 1 1) 1 (Ak x):=
 ⟨by rw[DZ],some ⟨V,0,none⟩,1,rfl,Nat.le_refl _,by unfold maxLen;omega,fun h=>(by cases h),fun a ha=>by
  obtain rfl:=Option.some.inj ha
  refine⟨fun _=>rfl,fun j u hu=>?_⟩
  rw[Nat.zero_add,Lm h]
  exact hu⟩
theorem AEZ (l:List VK):∀v∈l.flatMap Ak,v.oneCell'=true:=List.all_eq_true.1 (QK l)
theorem ACc (l:List VK) (i:Nat) (hi:i≤l.length):(l.take i).flatMap Ak=(l.flatMap Ak).take (i*33):=by
 have e:l.flatMap Ak=(l.take i).flatMap Ak++(l.drop i).flatMap Ak:=by rw[←List.flatMap_append,List.take_append_drop]
 rw[e,List.take_left' (by rw[KG,List.length_take];omega)]
theorem ACd (l:List VK) (i:Nat) (hi:i≤l.length):(l.drop i).flatMap Ak=(l.flatMap Ak).drop (i*33):=by
 have e:l.flatMap Ak=(l.take i).flatMap Ak++(l.drop i).flatMap Ak:=by rw[←List.flatMap_append,List.take_append_drop]
 rw[e,List.drop_left' (by rw[KG,List.length_take];omega)]
theorem AIi {α:Type} (C X Y:List α) (a:Nat) (hC:a+X.length+Y.length≤C.length) :
  ((C.take a++(X++C.drop (a+X.length))).take (a+X.length)++(Y++(C.take a++(X++C.drop (a+X.length))).drop (a+X.length+Y.length))).take (a+X.length+Y.length)=C.take a++(X++Y):=by
 have h1:(C.take a).length=a:=by rw[List.length_take];omega
 have h2:(C.take a++(X++C.drop (a+X.length))).take (a+X.length)=C.take a++X:=by
  rw[←List.append_assoc,List.take_left' (by rw[List.length_append,h1])]
 rw[h2,←List.append_assoc,List.take_left' (by simp only[List.length_append,h1]),List.append_assoc]
theorem ACe (l:List VK) (x:VK) (i:Nat) (hi:i≤l.length):(l.take i++x::l.drop i).flatMap Ak=(l.flatMap Ak).take (i*33)++(Ak x++(l.flatMap Ak).drop (i*33)):=by
 rw[List.flatMap_append,List.flatMap_cons,ACc l i hi,ACd l i hi]
theorem Ux {P:Program} {t e:TypeId} {z:Value} {size bytes:Nat} (E:ET P t e z size bytes) (ty:TypeId) {w:World} {A n0:Nat} {xs:List Value} (hown:Own w e size (.slice (some ⟨A,0,none⟩) n0 n0) n0 xs)
  {sv:Value} {m:Nat} {news:List Value} (hs:Sl w size sv m news) (h1:news.all Value.oneCell'=true) (hm:0<m) (h63:n0+m≤1000000000) :
  ∃v' w',(Builtin.append_ #[t,t] ty #[.slice (some ⟨A,0,none⟩) n0 n0,sv]).run P w=.ok v' w'∧Own w' e size v' (n0+m) (xs++news)∧w.grownBy w' none∧∀k,BM v' k→w.heap.size≤k:=by
 obtain⟨i,hi,hz,rfl,hby⟩:=E.inf
 have hb:=E.bnd
 obtain⟨v',w',hr,hown',hst⟩:=UH E ty hown hs h1 (by omega)
 have hold:=(Sl.of_own hown)
 obtain⟨hlo,ao0,cap0,e0,_,_,_,hc0⟩:=hold
 simp only[Value.slice.injEq,true_and] at e0
 obtain⟨rfl,rfl⟩:=e0
 obtain⟨hl,ao,cap,rfl,hm1,hm2,h3,h4⟩:=hs
 cases ao with
 | none=>have:=h3 rfl;omega
 | some ad =>
  obtain⟨b,off,spot⟩:=ad
  obtain⟨hsp,hc⟩:=h4 _ rfl
  have hsp:=hsp hm
  simp at hsp
  subst hsp
  have hbytes:(n0+m)*bytes≤140737488355328:=by
   have:(n0+m)*bytes≤1000000000*128:=Nat.mul_le_mul h63 hb
   omega
  have hr2:=run_append_grow (P:=P) w t ty e i z E.und hi hz ⟨A,0,none⟩ n0 n0 xs hlo (fun j u hj=>by rw[Addr.add_lit];exact(hc0 _ rfl).2 j u hj) ⟨b,off,none⟩ m cap news hl (fun j u hj=>by rw[Addr.add_lit];exact hc j u hj) (by omega) (by omega) (growslice_fits (by omega) (by subst hby;exact hbytes))
  have hr3:=hr2
  rw[hr] at hr2
  simp only[Result.ok.injEq] at hr2
  obtain⟨rfl,rfl⟩:=hr2
  exact⟨_,_,hr3,hown',AA (Cn w) (World.grownBy_alloc _ _ _),fun k hk=>by simp[BM,Value.ownBlock] at hk;omega⟩
theorem O8 (l:List VK) (x:VK) (g V:Nat) (w:World) (hown:Own w 58 33 (.slice (some ⟨g,0,none⟩) l.length l.length) l.length (l.flatMap Ak)) (hv:w.heap[V]?=some (.cells (Ak x).toArray 58 (0,0))) (hn:l.length≤1000000) :
  Calls Tryz.prog 83 #[.slice (some ⟨g,0,none⟩) l.length l.length,.int .i64 (l.length:Nat),.slice (some ⟨V,0,none⟩) 1 1] w fun e w'=>∃v',e=.returned v'∧Own w' 58 33 v' (l.length+1) ((l++[x]).flatMap Ak)∧w.grownBy w' none∧∀k,BM v' k→w.heap.size≤k:=by
 have hx:=AEY hv
 have hflat:(l++[x]).flatMap Ak=l.flatMap Ak++Ak x:=by simp
 obtain⟨v5,w5,hr,ho,hg,hf⟩:=Ux Xd 34 hown hx (List.all_eq_true.2 (Im x)) (by omega) (by omega)
 have HF:=AI hflat
 have HR:=AI hr
 have HO:=AI ho
 have HG:=AI hg
 have HX:=AI hf
 have z1:(0:Int)≤(l.length:Int):=by omega
 clear hx hown hv hflat hr ho hg hf
 go_enter Tryz.func83,Tryz.ntmps83
 go_wp2_with (first|(at_builtin;refine LM rfl (.tmp 23) (.tmp 24) 34 34 rfl _ _ rfl rfl HR.out ?_)|(refine LM rfl (.tmp 23) (.tmp 24) 34 34 rfl _ _ rfl rfl HR.out ?_)|fail)
 go_ret
 exact⟨_,rfl,by rw[HF.out];exact HO.out,HG.out,HX.out⟩
theorem N3 (l:List VK) (x:VK) (i g cap V:Nat) (w:World) (hown:Own w 58 33 (.slice (some ⟨g,0,none⟩) l.length cap) l.length (l.flatMap Ak)) (hv:w.heap[V]?=some (.cells (Ak x).toArray 58 (0,0))) (hi:i<l.length) (hroom:cap<l.length+1) (hn:l.length≤1000000) :
  Calls Tryz.prog 83 #[.slice (some ⟨g,0,none⟩) l.length cap,.int .i64 i,.slice (some ⟨V,0,none⟩) 1 1] w fun e w'=>∃v',e=.returned v'∧Own w' 58 33 v' (l.length+1) ((l.take i++x::l.drop i).flatMap Ak)∧w.grownBy w' none∧∀k,BM v' k→w.heap.size≤k:=by
 obtain⟨C,hb,hnc,hcm,hCl,hCt⟩:=hown.blk
 obtain rfl:cap=l.length:=by omega
 have hX4:(Ak x).length=33:=DZ x
 have hYl:((l.flatMap Ak).drop (i*33)).length=(l.length-i)*33:=by rw[List.length_drop,KG];omega
 obtain⟨i0,hi0,hz0,hzs,hzb⟩:=Xd.inf
 have hold:(Builtin.firstCells i0.size i (.slice (some ⟨g,0,none⟩) i l.length)).run Tryz.prog w.drew=.ok ((l.flatMap Ak).take (i*33)).toArray w.drew:=by
  rw[hzs]
  exact run_firstCells_some w.drew 33 i ⟨g,0,none⟩ i l.length ((l.flatMap Ak).take (i*33)) (by rw[List.length_take,KG];omega) (fun j v hj=>by
   rw[Addr.add_lit,Nat.zero_add]
   have h3:w.cell? ⟨g,j,none⟩=some v:=by
    have hjl:=(List.getElem?_eq_some_iff.1 hj).1
    rw[List.length_take,KG] at hjl
    rw[List.getElem?_take,if_pos (by omega),←hCt,List.getElem?_take,if_pos (by omega)] at hj
    rw[Lm hb,hj]
   exact h3)
 have hrz:=Lib.run_append_grow_zeros w 34 3 34 58 i0 _ .i64 .i64 Tryz.underlying34 Tryz.underlying3 hi0 hz0 (some ⟨g,0,none⟩) i l.length ((l.flatMap Ak).take (i*33)) hold (l.length+1-i) (by omega) (by omega) (by omega) (by omega) (by rw[hzb];omega) (by rw[hzb,show i+(l.length+1-i)=l.length+1 by omega];exact growslice_fits (by omega) (by omega))
 rw[show i+(l.length+1-i)=l.length+1 by omega] at hrz
 have hGge:l.length+1≤grownCap w (l.length+1) l.length 58:=grownCap_ge w _ _ _
 have hGle:grownCap w (l.length+1) l.length 58≤maxLen:=grownCap_le_maxLen w _ _ _ (by unfold maxLen;omega)
 generalize hG:grownCap w (l.length+1) l.length 58=G at *
 obtain⟨R,hR⟩:∃R:List Value,R=((l.flatMap Ak).take (i*33))++(Builtin.zeroCells zK.cells (l.length+1-i)).toList++(Builtin.zeroCells zK.cells (G-(l.length+1))).toList:=⟨_,rfl⟩
 have hRa:((l.flatMap Ak).take (i*33)).toArray++Builtin.zeroCells zK.cells (l.length+1-i)++Builtin.zeroCells zK.cells (G-(l.length+1))=R.toArray:=by
  rw[hR]
  apply Array.ext'
  simp
 rw[hRa] at hrz
 have hzl:∀k,(Builtin.zeroCells zK.cells k).toList.length=k*33:=fun k=>by simp[Builtin.zeroCells,AEX]
 have hRl:R.length=G*33:=by rw[hR,List.length_append,List.length_append,hzl,hzl,List.length_take,KG];omega
 have hRt:R.take (i*33)=(l.flatMap Ak).take (i*33):=by rw[hR,List.append_assoc,List.take_left' (by rw[List.length_take,KG];omega)]
 have hgw:g<w.heap.size:=(Array.getElem?_eq_some_iff.1 hb).1
 have hVw:V<w.heap.size:=(Array.getElem?_eq_some_iff.1 hv).1
 have gW:=AA (Cn w) (World.grownBy_alloc w.drew (.cells R.toArray 58) none)
 have hbN:(w.drew.alloc (.cells R.toArray 58)).heap[w.heap.size]?=some (.cells R.toArray 58 (0,0)):=Aj rfl
 have hvW:=AF gW hv (by simp)
 have hbW:=AF gW hb (by simp)
 generalize w.drew.alloc (.cells R.toArray 58)=W1 at *
 obtain⟨w2,hr2,hg2,hb2⟩:=Tt (P:=Tryz.prog) W1 34 34 3 58 33 w.heap.size (i*33) (l.length+1-i) (G-i) ⟨V,0,none⟩ 1 1 (Ak x) R Tryz.underlying34 (by kernel_rfl)
  (by rw[hX4,show Nat.min 1 (l.length+1-i)=1 by simp[Nat.min_def];omega])
  (fun j v hj=>by rw[Addr.add_lit,Nat.zero_add,Lm hvW];exact hj) hbN (by rw[hX4,hRl];omega) (Im x)
 have hb2g:=AF hg2 hbW (by simp;omega)
 obtain⟨w3,hr3,hg3,hb3⟩:=Tt (P:=Tryz.prog) w2.drew 34 34 3 58 33 w.heap.size ((i+1)*33) (l.length-i) (G-(i+1)) ⟨g,i*33,none⟩ (l.length-i) (l.length-i) ((l.flatMap Ak).drop (i*33)) _ Tryz.underlying34 (by kernel_rfl)
  (by rw[hYl,show Nat.min (l.length-i) (l.length-i)=l.length-i by simp[Nat.min_def]])
  (fun j v hj=>by
   rw[Addr.add_lit]
   have h3:w2.cell? ⟨g,i*33+j,none⟩=some v:=by
    have hjl:=(List.getElem?_eq_some_iff.1 hj).1
    rw[hYl] at hjl
    rw[List.getElem?_drop,←hCt,List.getElem?_take,if_pos (by omega)] at hj
    rw[Lm hb2g,hj]
   exact h3) hb2 (by simp only[List.length_append,List.length_take,List.length_drop,hX4,hYl,hRl];omega) (fun v hv=>AEZ l v (List.mem_of_mem_drop hv))
 have e1:Nat.min (l.length-i) (l.length-i)=l.length-i:=by simp[Nat.min_def]
 have e2:Nat.min 1 (l.length+1-i)=1:=by simp[Nat.min_def];omega
 rw[e1] at hr3
 rw[e2] at hr2
 have ho:Own w3 58 33 (.slice (some ⟨w.heap.size,0,none⟩) (l.length+1) G) (l.length+1) ((l.take i++x::l.drop i).flatMap Ak):=by
  refine Own.mk' hb3 hGge hGle (by simp only[List.length_append,List.length_take,List.length_drop,hX4,hYl,hRl];omega) ?_
  rw[ACe l x i (by omega),←hRt]
  have ht:=AIi R (Ak x) ((l.flatMap Ak).drop (i*33)) (i*33) (by rw[hX4,hYl,hRl];omega)
  rw[hX4,hYl,show i*33+33+(l.length-i)*33=(l.length+1)*33 by omega] at ht
  rw[hX4,hYl,show(i+1)*33=i*33+33 by omega,show i*33+33+(l.length-i)*33=(l.length+1)*33 by omega]
  exact ht
 have hkk:(((l.length+1-i:Nat):Nat):Int)=(l.length:Int)+1-(i:Int):=by omega
 rw[hkk] at hrz
 have HRZ:=AI hrz
 have HR2:=AI hr2
 have HR3:=AI hr3
 have O3:=AI ho
 have G3:=AI (AD (AD gW hg2 (Nat.le_refl _)) (show w2.grownBy w3 (some w.heap.size) from⟨hg3.os,hg3.tape,hg3.output,hg3.size,hg3.block⟩) (Nat.le_refl _))
 have z1:(0:Int)≤(i:Int):=by omega
 have z2:(i:Int)≤(l.length:Int):=by omega
 have z3:¬((i:Int)=(l.length:Int)):=by omega
 have z4:(l.length:Int)<(l.length:Int)+1:=by omega
 have z5:¬(l.length=i):=by omega
 have z6:¬(G=i+1):=by omega
 have z7:¬(G=i):=by omega
 have z8:(i:Int)+1≤(l.length:Int)+1:=by omega
 have z9:l.length+1-(i+1)=l.length-i:=by omega
 have y2:(i:Int)≤(l.length:Int)+1:=by omega
 have y4:((i:Int)+1).toNat=i+1:=by omega
 have y5:(0:Int)≤(i:Int)+1:=by omega
 have y6:(0:Int)≤(l.length:Int)+1:=by omega
 have y7:IntKind.i64.wrap ((i:Int)+1)=(i:Int)+1:=by rw[IntKind.wrap_i64];omega
 clear hown hv hb hCl hCt hX4 hYl hi0 hz0 hzs hzb hold hrz hGge hGle hG hR hRa hzl hRl hRt gW hbN hvW hbW hr2 hg2 hb2 hb2g hr3 hg3 hb3 e1 e2 ho hkk hroom hnc hcm
 go_enter Tryz.func83,Tryz.ntmps83
 go_wp2_with (first|(at_builtin;refine LM rfl (.tmp 34) (.tmp 39) 34 3 rfl _ _ rfl rfl HRZ.out ?_)|(refine My rfl (.tmp 43) (.tmp 44) 34 34 rfl _ _ rfl rfl HR2.out ?_)|fail)
 go_region_law (first|(refine Za rfl (.tmp 50) (.tmp 53) 34 34 rfl _ _ (by simp[Act.eval,Act.put]) (by simp[Act.eval,Act.put]) HR3.out ?_)|fail)
 all_goals
  go_wp2
  go_ret
  exact⟨_,rfl,O3.out,G3.out,fun k hk=>by simp[BM,Value.ownBlock] at hk;omega⟩
theorem Xe (l:List VK) (x:VK) (i g V:Nat) (w:World) (hown:Own w 58 33 (.slice (some ⟨g,0,none⟩) l.length l.length) l.length (l.flatMap Ak)) (hv:w.heap[V]?=some (.cells (Ak x).toArray 58 (0,0))) (hi:i≤l.length) (hn:l.length≤1000000) :
   Calls Tryz.prog 83 #[.slice (some ⟨g,0,none⟩) l.length l.length,.int .i64 i,.slice (some ⟨V,0,none⟩) 1 1] w fun e w'=>∃v',e=.returned v'∧Own w' 58 33 v' (l.length+1) ((l.take i++x::l.drop i).flatMap Ak)∧w.grownBy w' none∧∀k,BM v' k→w.heap.size≤k:=by
 by_cases hil:i<l.length
 · exact N3 l x i g l.length V w hown hv hil (by omega) hn
 · obtain rfl:i=l.length:=by omega
   rw[List.take_length,List.drop_length]
   exact O8 l x g V w hown hv hn
theorem Own.rdk {w:World} {ao:Option Addr} {n cap:Nat} {ks:List VK} {e:TypeId} (h:Own w e 33 (.slice ao n cap) n (ks.flatMap Ak)):n=ks.length:=AIV (Sl.of_own h) DZ (by decide)
end Go.Proofs.YtbfjfnbcmojpiaaGreat
namespace Go.Proofs.YtbfjfnbcmojpiaaGreat
open Go.RowKit Go.Shelf
def kd (n:Nat) (k:List Nat):List Nat:=MM (BitVec.ofNat 64 n) k []
theorem Be (n:Nat) (k:List Nat):Dg (kd n k):=⟨Hd _ _,Nu _ _⟩
theorem NF {n:Nat} (hn:n<1000) {c:Int} (hc:c=(n:Int)) {k:List Nat} (hk:Dg k) (w:World):Calls Tryz.prog 66 #[.int .u64 c,AO k,.slice none 0 0] w fun e w'=>e=.returned (AO (kd n k))∧w.grownBy w' none:=by
 have e:c=wi (BitVec.ofNat 64 n):=by rw[hc,←J1,IntKind.wrap_u64];omega
 rw[e]
 exact Ma (BitVec.ofNat 64 n) k [] hk.1 hk.2 (by simp) (by simp) _ w (Sl.nil w 1)
theorem Jn {n:Nat} (hn:n<1000) {c:Int} (hc:c=(n:Int)) {k:List Nat} (hk:Dg k) (w:World):Calls Tryz.prog 35 #[.int .u64 c,AO k,.slice none 0 0] w fun e w'=>e=.returned (AO (kd n k))∧w.grownBy w' none:=by
 have e:c=wi (BitVec.ofNat 64 n):=by rw[hc,←J1,IntKind.wrap_u64];omega
 rw[e]
 exact Kx (BitVec.ofNat 64 n) k [] hk.1 hk.2 (by simp) (by simp) _ w (Sl.nil w 1)
theorem bV0 (w:World):(Instr.build 36 #[]).run Tryz.prog w=.ok (Aw AM AM (.slice none 0 0)) w:=by kernel_rfl
theorem bV2 {sa po:List Nat} (hs:Dg sa) (hp:Dg po) (w:World):(Instr.build 36 #[(0,AO sa),(1,AO po)]).run Tryz.prog w=.ok (Aw sa po (.slice none 0 0)) w:=by
 obtain⟨x0,x1,x2,x3,x4,x5,x6,x7,x8,x9,x10,x11,x12,x13,x14,x15,x16,x17,x18,x19,x20,x21,x22,x23,x24,x25,x26,x27,x28,x29,x30,x31,rfl⟩:=Ih _ hs.1
 obtain⟨y0,y1,y2,y3,y4,y5,y6,y7,y8,y9,y10,y11,y12,y13,y14,y15,y16,y17,y18,y19,y20,y21,y22,y23,y24,y25,y26,y27,y28,y29,y30,y31,rfl⟩:=Ih _ hp.1
 kernel_rfl
theorem bV3 {sa po:List Nat} (hs:Dg sa) (hp:Dg po) (ao:Option Addr) (n cap:Nat) (w:World):(Instr.build 36 #[(0,AO sa),(1,AO po),(2,.slice ao n cap)]).run Tryz.prog w=.ok (Aw sa po (.slice ao n cap)) w:=by
 obtain⟨x0,x1,x2,x3,x4,x5,x6,x7,x8,x9,x10,x11,x12,x13,x14,x15,x16,x17,x18,x19,x20,x21,x22,x23,x24,x25,x26,x27,x28,x29,x30,x31,rfl⟩:=Ih _ hs.1
 obtain⟨y0,y1,y2,y3,y4,y5,y6,y7,y8,y9,y10,y11,y12,y13,y14,y15,y16,y17,y18,y19,y20,y21,y22,y23,y24,y25,y26,y27,y28,y29,y30,y31,rfl⟩:=Ih _ hp.1
 kernel_rfl
theorem AKi {o:List Nat} (ho:Dg o) (ao:Option Addr) (n cap:Nat) (w:World):(Instr.build 58 #[(0,AO o),(1,.agg #[.slice ao n cap])]).run Tryz.prog w=.ok (.agg ([bv o,[.slice ao n cap]].flatten).toArray) w:=by
 obtain⟨x0,x1,x2,x3,x4,x5,x6,x7,x8,x9,x10,x11,x12,x13,x14,x15,x16,x17,x18,x19,x20,x21,x22,x23,x24,x25,x26,x27,x28,x29,x30,x31,rfl⟩:=Ih _ ho.1
 kernel_rfl
theorem bK2 {k:VK} (w:World):(Instr.build 58 #[(0,AO k.o),(1,.agg #[k.s])]).run Tryz.prog w=.ok (IE k) w:=AKi k.ho k.ao k.l.length k.cap w
theorem AKg (ao:Option Addr) (n cap:Nat) (w:World):(Instr.build 56 #[(0,.slice ao n cap)]).run Tryz.prog w=.ok (.agg #[.slice ao n cap]) w:=by kernel_rfl
theorem QP {a:Int} {b:Bool} (h:Cg a=b) (w:World):Calls Tryz.prog 75 #[.int .i64 a] w fun e w'=>e=.returned (.bool b)∧w.grownBy w' none:=(Kz a w).mono fun e w' ⟨h1,h2⟩=>⟨h▸h1,h2▸World.grownBy.refl _ _⟩
theorem LN {w:World} {ks:List VK} {ao:Option Addr} {cap:Nat} {sa po:List Nat} (hsa:Dg sa) (hpo:Dg po) (hr:RdK w (.slice ao ks.length cap) ks) {b:Bool} (hb:CZ (ks.map VK.p)=b):Calls Tryz.prog 51 #[Aw sa po (.slice ao ks.length cap)] w fun e w'=>e=.returned (.bool b)∧w.grownBy w' none:=hb▸XY ks ao cap sa po hsa hpo w hr
theorem Gy {w:World} {ks:List VK} {ao:Option Addr} {cap:Nat} {sa po:List Nat} (hsa:Dg sa) (hpo:Dg po) (hr:RdK w (.slice ao ks.length cap) ks) {b:Bool} (hb:CZ (ks.map VK.p)=b):Calls Tryz.prog 40 #[Aw sa po (.slice ao ks.length cap)] w fun e w'=>e=.returned (.bool b)∧w.grownBy w' none:=hb▸Uv ks ao cap sa po hsa hpo w hr
theorem Z7 {w:World} {ks:List VK} {ao:Option Addr} {cap:Nat} {sa po o:List Nat} (hsa:Dg sa) (hpo:Dg po) (ho:Dg o) (hr:RdK w (.slice ao ks.length cap) ks) (hv:CZ (ks.map VK.p)=true) {b:Bool} (hb:J5 (ks.map VK.p) o=b) {i:Nat} (hi:pos (ks.map VK.p) o=i):Calls Tryz.prog 71 #[Aw sa po (.slice ao ks.length cap),AO o] w fun e w'=>e=.returned (.tuple #[.int .i64 (i:Int),.bool b])∧w.grownBy w' none:=
 hb▸hi▸ACb ks ao cap sa po hsa hpo o ho w hr (Srt.of hv) (by have:=(FH.1 hv).1;simpa using this)
theorem AGi {w:World} {ks:List VK} {ao:Option Addr} {cap:Nat} {sa po o:List Nat} (hsa:Dg sa) (hpo:Dg po) (ho:Dg o) (hr:RdK w (.slice ao ks.length cap) ks) (hv:CZ (ks.map VK.p)=true) {c:Int} (hc:atV (ks.map VK.p) o=c):Calls Tryz.prog 84 #[Aw sa po (.slice ao ks.length cap),AO o] w fun e w'=>e=.returned (.int .i64 c)∧w.grownBy w' none:=
 hc▸AGg ks ao cap sa po hsa hpo o ho w hr (Srt.of hv)
theorem AEa {P:List VP} {o:List Nat} (h:J5 P o=true) {i:Nat} (hi:pos P o=i):atV P o=(i:Int):=by unfold atV;rw[h,hi];rfl
theorem AHq {P:List VP} {o:List Nat} (h:J5 P o=false):atV P o=-1:=by unfold atV;rw[h];rfl
theorem AJl {x y:List Nat×Int} (h:x=y):Ending.returned (.tuple #[AO x.1,.int .i64 x.2])=Ending.returned (.tuple #[AO y.1,.int .i64 y.2]):=by rw[h]
theorem QQ {x:List Nat} {c:Int} {y:List Nat×Int} (h:y=(x,c)):Ending.returned (.tuple #[AO x,.int .i64 c])=Ending.returned (.tuple #[AO y.1,.int .i64 y.2]):=by rw[h]
theorem LO {P:List VP} {o:List Nat} {a:Int} (h:Cg a=false∨CZ P=false):DI P o a=(AM,1):=by
 unfold DI
 rcases h with h|h<;>simp[h]
theorem Tu {P:List VP} {o:List Nat} {a:Int} (h1:Cg a=true) (h2:CZ P=true) (h3:J5 P o=false):DI P o a=(AM,10):=by
 unfold DI
 simp[h1,h2,h3]
theorem N5 {P:List VP} {o:List Nat} {a:Int} (h1:Cg a=true) (h2:CZ P=true) (h3:J5 P o=true) {i:Nat} (hi:pos P o=i) {l:List Nd} (hl:tr P i=l):DI P o a=CF l a:=by
 unfold DI
 simp[h1,h2,h3,hi,hl]
theorem ACf {a:Int} (h:Cg a=false):a<0∨17179869184≤a:=by
 unfold Cg at h
 simp at h
 omega
theorem QR {a:Int} (h:Cg a=true):0≤a∧a<17179869184:=by
 unfold Cg at h
 simpa using h
theorem ACg (k:List Nat) (hk:Dg k) (w:World) :
  Calls Tryz.prog 24 #[AO k] w fun e w'=>e=.returned (Aw (kd 273 k) (kd 274 k) (.slice none 0 0))∧w.grownBy w' none:=by
 refine Eu Tryz.func24 rfl Tryz.ntmps24 rfl fun a0 sv0=>?_
 have HG:=World.grownBy.refl w none
 replace sv0:Sv 8 [] [(0,AO k)] a0:=sv0
 refine ALa fun K1 k1=>?_
 refine ALZ ?_
 refine BZ sv0 r6 (BV k hk.1) fun a2 w2 CP GZ g2 z2 Ad sv2=>?_
 replace HG:=AA HG g2
 refine Az (T:=36) (Z:=([bv AM,bv AM,[.slice none 0 0]].flatten)) sv2 rfl rfl rfl (fun a w=>by kernel_rfl) fun a3 w3 N6 JG g3 z3 CW sv3=>?_
 have KH:=Bk HG JG
 replace Ad:=AC g3 Ad
 refine AE ?_
 refine k1 _ _ ?_
 refine ALa fun K4 k4=>?_
 refine ALZ ?_
 refine Fe sv3 rfl (dd:={ target:=.fn (.func 65) #[],args:=#[] }) rfl (by simp[execOp,resolve,Deferred.ofValue];try rfl) fun a5 sv5=>?_
 refine AE ?_
 refine k4 _ _ ?_
 refine ALa fun K6 k6=>?_
 refine DM (sv5.st w3) (by kernel_rfl) 5 [(3,Sp.is (AO k)),(4,Sp.is (AO ((kd 273 k)))),(5,Sp.is (AO k)),(6,Sp.is (AO ((kd 274 k)))),(7,Sp.is (Aw ((kd 273 k)) ((kd 274 k)) (.slice none 0 0)))] rfl (by kernel_rfl) (by kernel_rfl) (by kernel_rfl) [] (by kernel_rfl)
  ⟨yl r6 (BV k hk.1) Ad,Ae [.int .u64 273,AO k,.slice none 0 0] Tryz.func66 (by kernel_rfl) rq4 ⟨rfl,(oy rfl rfl),rfl,ALg⟩ (Au fun W g=>NF (n:=273) (by decide) rfl hk W),yl r6 (BV k hk.1) Ad,Ae [.int .u64 274,AO k,.slice none 0 0] Tryz.func66 (by kernel_rfl) rq4 ⟨rfl,(oy rfl rfl),rfl,ALg⟩ (Au fun W g=>NF (n:=274) (by decide) rfl hk W),BR (vs:=[AO ((kd 273 k)),AO ((kd 274 k))]) rfl rfl trivial ⟨(oy rfl rfl),(oy rfl rfl),ALg⟩ (fun _=>bV2 (Be _ _) (Be _ _) _) (fun _=>rfl),ALg⟩ trivial
  [] (by kernel_rfl) trivial ⟨.inl rfl,.inl rfl,.inl rfl,.inl rfl,.inl rfl,ALg⟩ (by kernel_rfl) fun a7 w7 g7 st7 nd7=>?_
 obtain⟨hn7,hd7,e7_3,e7_4,e7_5,e7_6,e7_7,e7_2,e7_1,e7_0,-⟩:=st7
 have sv7:Sv 8 [{ target:=.fn (.func 65) #[],args:=#[] }] [(2,_),(1,_),(0,_),(7,_)] a7:=⟨hn7,hd7,e7_2,e7_1,e7_0,e7_7,ALg⟩
 refine As sv7 r7 (Bq (Be _ _) (Be _ _) (.slice none 0 0) rfl) (AC g7 CW) (by first|rfl|simp[Ak,AL,AZ,(Be _ _).1,(Be _ _).1]) fun w8 g8 h8=>?_
 replace HG:=AD (AA (AA HG g3) g7) g8 KH
 replace CW:=h8
 refine AE ?_
 refine k6 _ _ ?_
 refine ALd ?_
 repeat refine AJ ?_
 refine Bi (fn:=Tryz.f24) sv7 (Dc (p:=2) Tryz.results24 sv7 rfl rfl (Bq (Be _ _) (Be _ _) (.slice none 0 0) rfl) CW) (CH Tryz.func65 (by kernel_rfl) rfl _ _) (N1 _) ?_
 exact⟨rfl,HG⟩
theorem Z8 (k:List Nat) (hk:Dg k) (w:World) :
  Calls Tryz.prog 38 #[AO k] w fun e w'=>e=.returned (Aw (kd 273 k) (kd 274 k) (.slice none 0 0))∧w.grownBy w' none:=by
 refine BF Tryz.func38 rfl Tryz.ntmps38 rfl fun a0 sv0=>?_
 have HG:=World.grownBy.refl w none
 replace sv0:Sv 8 [] [(0,AO k)] a0:=sv0
 refine ALa fun K1 k1=>?_
 refine ALZ ?_
 refine BZ sv0 r6 (BV k hk.1) fun a2 w2 CP GZ g2 z2 Ad sv2=>?_
 replace HG:=AA HG g2
 refine Az (T:=36) (Z:=([bv AM,bv AM,[.slice none 0 0]].flatten)) sv2 rfl rfl rfl (fun a w=>by kernel_rfl) fun a3 w3 N6 JG g3 z3 CW sv3=>?_
 have KH:=Bk HG JG
 replace Ad:=AC g3 Ad
 refine AE ?_
 refine k1 _ _ ?_
 refine ALa fun K4 k4=>?_
 refine DM (sv3.st w3) (by kernel_rfl) 5 [(3,Sp.is (AO k)),(4,Sp.is (AO ((kd 273 k)))),(5,Sp.is (AO k)),(6,Sp.is (AO ((kd 274 k)))),(7,Sp.is (Aw ((kd 273 k)) ((kd 274 k)) (.slice none 0 0)))] rfl (by kernel_rfl) (by kernel_rfl) (by kernel_rfl) [] (by kernel_rfl)
  ⟨yl r6 (BV k hk.1) Ad,Ae [.int .u64 273,AO k,.slice none 0 0] Tryz.func35 (by kernel_rfl) rq4 ⟨rfl,(oy rfl rfl),rfl,ALg⟩ (Au fun W g=>Jn (n:=273) (by decide) rfl hk W),yl r6 (BV k hk.1) Ad,Ae [.int .u64 274,AO k,.slice none 0 0] Tryz.func35 (by kernel_rfl) rq4 ⟨rfl,(oy rfl rfl),rfl,ALg⟩ (Au fun W g=>Jn (n:=274) (by decide) rfl hk W),BR (vs:=[AO ((kd 273 k)),AO ((kd 274 k))]) rfl rfl trivial ⟨(oy rfl rfl),(oy rfl rfl),ALg⟩ (fun _=>bV2 (Be _ _) (Be _ _) _) (fun _=>rfl),ALg⟩ trivial
  [] (by kernel_rfl) trivial ⟨.inl rfl,.inl rfl,.inl rfl,.inl rfl,.inl rfl,ALg⟩ (by kernel_rfl) fun a5 w5 g5 st5 nd5=>?_
 obtain⟨hn5,hd5,e5_3,e5_4,e5_5,e5_6,e5_7,e5_2,e5_1,e5_0,-⟩:=st5
 have sv5:Sv 8 [] [(2,_),(1,_),(0,_),(7,_)] a5:=⟨hn5,hd5,e5_2,e5_1,e5_0,e5_7,ALg⟩
 refine As sv5 r7 (Bq (Be _ _) (Be _ _) (.slice none 0 0) rfl) (AC g5 CW) (by first|rfl|simp[Ak,AL,AZ,(Be _ _).1,(Be _ _).1]) fun w6 g6 h6=>?_
 replace HG:=AD (AA (AA HG g3) g5) g6 KH
 replace CW:=h6
 refine AE ?_
 refine k4 _ _ ?_
 refine ALd ?_
 repeat refine AJ ?_
 refine Ar (fn:=Tryz.f38) sv5 (Dc (p:=2) Tryz.results38 sv5 rfl rfl (Bq (Be _ _) (Be _ _) (.slice none 0 0) rfl) CW) ?_
 exact⟨rfl,HG⟩
theorem AEb (ks:List VK) (ao:Option Addr) (cap:Nat) (sa po:List Nat) (hsa:Dg sa) (hpo:Dg po) (o:List Nat) (ho:Dg o) (a:Int) (w:World) (hr:RdK w (.slice ao ks.length cap) ks) :
   Calls Tryz.prog 32 #[Aw sa po (.slice ao ks.length cap),AO o,.int .i64 a] w fun e w'=>e=.returned (.tuple #[AO (DI (ks.map VK.p) o a).1,.int .i64 (DI (ks.map VK.p) o a).2])∧w.grownBy w' none:=by
 refine Eu Tryz.func32 rfl Tryz.ntmps32 rfl fun a0 sv0=>?_
 have HG:=World.grownBy.refl w none
 replace sv0:Sv 39 [] [(0,Aw sa po (.slice ao ks.length cap)),(1,AO o),(2,.int .i64 a)] a0:=sv0
 refine ALa fun K1 k1=>?_
 refine ALZ ?_
 refine BZ sv0 r6 (Bq hsa hpo (.slice ao ks.length cap) rfl) fun a2 w2 Ml JH g2 z2 Aq sv2=>?_
 refine BZ sv2 r6 (BV o ho.1) fun a3 w3 N7 Pa g3 z3 BU sv3=>?_
 replace Aq:=AC g3 Aq
 replace hr:=(hr.kn g2).kn g3
 replace HG:=AA (AA HG g2) g3
 refine Az (T:=23) (Z:=(bv AM)) sv3 rfl rfl rfl (fun a w=>by kernel_rfl) fun a4 w4 AJm IS g4 z4 CE sv4=>?_
 have Dt:=Ax Aq IS
 have Du:=Ax BU IS
 have Hf:=Bk HG IS
 have D8:=Ay (hr.lt) IS
 replace Aq:=AC g4 Aq
 replace BU:=AC g4 BU
 replace hr:=hr.kn g4
 replace HG:=AA HG g4
 refine Az (T:=38) (Z:=[.int .i64 0]) sv4 rfl rfl rfl (fun a w=>by kernel_rfl) fun a5 w5 AKj NG g5 z5 FY sv5=>?_
 have KI:=Ax Aq NG
 have KJ:=Ax BU NG
 have Dv:=Ax CE NG
 have Pb:=Bk HG NG
 have KM:=Ay (hr.lt) NG
 replace Aq:=AC g5 Aq
 replace BU:=AC g5 BU
 replace CE:=AC g5 CE
 replace hr:=hr.kn g5
 replace HG:=AA HG g5
 refine AE ?_
 refine k1 _ _ ?_
 refine ALa fun K6 k6=>?_
 refine ALZ ?_
 refine Ht sv5 rfl rfl rfl rfl rfl rfl fun a7 sv7=>?_
 refine Fe sv7 rfl (dd:={ target:=.fn (.func 77) #[pt AJm,pt AKj],args:=#[] }) rfl (by have e1:=sv7.ev (x:=.tmp 10) rfl rfl;simp[execOp,resolve,Deferred.ofValue,e1];try rfl) fun a8 sv8=>?_
 refine AE ?_
 refine k6 _ _ ?_
 refine ALa fun K9 k9=>?_
 refine ALa fun K10 k10=>?_
 rcases(show Cg a=false∨(Cg a=true∧CZ (ks.map VK.p)=false)∨(Cg a=true∧CZ (ks.map VK.p)=true) by cases Cg a<;>cases CZ (ks.map VK.p)<;>simp) with ha|⟨ha,hv⟩|⟨ha,hv⟩
 · refine ALZ ?_
   refine AH sv8 8 [(11,.int .i64 a),(12,.bool false),(13,.bool true),(14,.bool true),(15,undef),(16,undef),(17,undef),(18,.bool true)]
     ⟨ym r5,Ae [.int .i64 a] Tryz.func75 (by kernel_rfl) rq4 ⟨(oy rfl rfl),ALg⟩ (Au fun W g=>QP ha W),Cr r6 (fun _=>Ba),ym r5,AS r6,AS r6,AS r6,BQ r7,ALg⟩ fun a11 w11 g11 B7=>?_
   refine AE ?_
   refine k10 _ _ ?_
   refine Av B7 rfl rfl ?_
   refine ALa fun K12 k12=>?_
   refine ALZ ?_
   replace CE:=AC g11 CE
   refine AH B7 1 [(19,AO AM)]
     ⟨BR (vs:=[]) rfl rfl trivial trivial (fun _=>XC _) (fun _=>rfl),ALg⟩ fun a13 w13 g13 Cl=>?_
   refine As Cl r7 (BV AM AP.1) (AC g13 CE) (En AP) fun w14 g14 h14=>?_
   replace FY:=Af g13 g14 (AC g11 FY) Dv
   refine As Cl r7 (GI 1) FY rfl fun w15 g15 h15=>?_
   replace Aq:=Ac g15 (Af g13 g14 (AC g11 Aq) (Ne.symm Dt)) (Ne.symm KI)
   replace BU:=Ac g15 (Af g13 g14 (AC g11 BU) (Ne.symm Du)) (Ne.symm KJ)
   replace CE:=Ac g15 h14 (Ne.symm Dv)
   replace hr:=(((hr.kn g11).kn g13).offR g14 (AR D8)).offR g15 (AR KM)
   replace HG:=AD (AD (AA (AA HG g11) g13) g14 Hf) g15 Pb
   replace FY:=h15
   refine AE ?_
   refine k12 _ _ ?_
   refine ALd ?_
   repeat refine AJ ?_
   refine Bi (fn:=Tryz.f32) Cl (B6 (p:=6) (q:=7) Tryz.results32 Cl rfl rfl rfl rfl (BV AM AP.1) (GI 1) CE FY) (CH Tryz.func77 (by kernel_rfl) rfl _ _) (JD _ _ _) ?_
   exact⟨QQ (LO (.inl ha)),HG⟩
 · refine ALZ ?_
   refine AH sv8 8 [(11,.int .i64 a),(12,.bool true),(13,.bool false),(14,.bool false),(15,Aw sa po (.slice ao ks.length cap)),(16,.bool false),(17,.bool true),(18,.bool true)]
     ⟨ym r5,Ae [.int .i64 a] Tryz.func75 (by kernel_rfl) rq4 ⟨(oy rfl rfl),ALg⟩ (Au fun W g=>QP ha W),Cr r6 (fun _=>Ba),ym r5,A2 rq9 (fun _ g=>Ab (Bq hsa hpo (.slice ao ks.length cap) rfl) (Am (AF g Aq (by simp)))),Bn [Aw sa po (.slice ao ks.length cap)] Tryz.func51 (by kernel_rfl) r7 ⟨(oy rfl rfl),ALg⟩ (Au fun W g=>LN hsa hpo (hr.kn g) hv),Ik rfl rfl (gy rfl rfl rfl) (oy rfl rfl) (fun _=>Ba) (fun _=>rfl),Ag rq9,ALg⟩ fun a16 w16 g16 Ch=>?_
   refine AE ?_
   refine k10 _ _ ?_
   refine Av Ch rfl rfl ?_
   refine ALa fun K17 k17=>?_
   refine ALZ ?_
   replace CE:=AC g16 CE
   refine AH Ch 1 [(19,AO AM)]
     ⟨BR (vs:=[]) rfl rfl trivial trivial (fun _=>XC _) (fun _=>rfl),ALg⟩ fun a18 w18 g18 CD=>?_
   refine As CD r7 (BV AM AP.1) (AC g18 CE) (En AP) fun w19 g19 h19=>?_
   replace FY:=Af g18 g19 (AC g16 FY) Dv
   refine As CD r7 (GI 1) FY rfl fun w20 g20 h20=>?_
   replace Aq:=Ac g20 (Af g18 g19 (AC g16 Aq) (Ne.symm Dt)) (Ne.symm KI)
   replace BU:=Ac g20 (Af g18 g19 (AC g16 BU) (Ne.symm Du)) (Ne.symm KJ)
   replace CE:=Ac g20 h19 (Ne.symm Dv)
   replace hr:=(((hr.kn g16).kn g18).offR g19 (AR D8)).offR g20 (AR KM)
   replace HG:=AD (AD (AA (AA HG g16) g18) g19 Hf) g20 Pb
   replace FY:=h20
   refine AE ?_
   refine k17 _ _ ?_
   refine ALd ?_
   repeat refine AJ ?_
   refine Bi (fn:=Tryz.f32) CD (B6 (p:=6) (q:=7) Tryz.results32 CD rfl rfl rfl rfl (BV AM AP.1) (GI 1) CE FY) (CH Tryz.func77 (by kernel_rfl) rfl _ _) (JD _ _ _) ?_
   exact⟨QQ (LO (.inr hv)),HG⟩
 · obtain⟨i,hi⟩:∃i,pos (ks.map VK.p) o=i:=⟨_,rfl⟩
   have h64:ks.length≤64:=by have:=(FH.1 hv).1;simpa using this
   refine ALZ ?_
   refine AH sv8 8 [(11,.int .i64 a),(12,.bool true),(13,.bool false),(14,.bool false),(15,Aw sa po (.slice ao ks.length cap)),(16,.bool true),(17,.bool false),(18,.bool false)]
     ⟨ym r5,Ae [.int .i64 a] Tryz.func75 (by kernel_rfl) rq4 ⟨(oy rfl rfl),ALg⟩ (Au fun W g=>QP ha W),Cr r6 (fun _=>Ba),ym r5,A2 rq9 (fun _ g=>Ab (Bq hsa hpo (.slice ao ks.length cap) rfl) (Am (AF g Aq (by simp)))),Bn [Aw sa po (.slice ao ks.length cap)] Tryz.func51 (by kernel_rfl) r7 ⟨(oy rfl rfl),ALg⟩ (Au fun W g=>LN hsa hpo (hr.kn g) hv),Ik rfl rfl (gy rfl rfl rfl) (oy rfl rfl) (fun _=>Ba) (fun _=>rfl),Ag rq9,ALg⟩ fun a21 w21 g21 Di=>?_
   refine AE ?_
   refine k10 _ _ ?_
   refine A1 Di rfl rfl ?_
   refine ALe ?_
   refine k9 _ _ ?_
   refine ALa fun K22 k22=>?_
   replace Aq:=AC g21 Aq
   replace BU:=AC g21 BU
   replace CE:=AC g21 CE
   replace FY:=AC g21 FY
   replace hr:=hr.kn g21
   replace HG:=AA HG g21
   cases hf:J5 (ks.map VK.p) o
   · refine ALZ ?_
     refine AH Di 6 [(21,Aw sa po (.slice ao ks.length cap)),(22,AO o),(23,.tuple #[.int .i64 ((i:Int)),.bool false]),(20,.tuple #[.int .i64 ((i:Int)),.bool false]),(24,.int .i64 ((i:Int))),(25,.bool false)]
      ⟨yl r6 (Bq hsa hpo (.slice ao ks.length cap) rfl) Aq,yl r6 (BV o ho.1) BU,Ae [Aw sa po (.slice ao ks.length cap),AO o] Tryz.func71 (by kernel_rfl) rq4 ⟨(oy rfl rfl),(oy rfl rfl),ALg⟩ (Au fun W g=>Z7 hsa hpo ho (hr.kn g) hv hf hi),ym r5,BX rq4 (fun _ _ h=>⟨_,_,h,rfl,rfl⟩),BX rq4 (fun _ _ h=>⟨_,_,h,rfl,rfl⟩),ALg⟩ fun a23 w23 g23 CS=>?_
     refine AX (v:=.int .i64 ((i:Int))) CS r6 fun a24 ER=>?_
     refine AX (v:=.bool false) ER r6 fun a25 Co=>?_
     have Cp:Sv _ _ [_,_,_,_,_,_,_,_,_,_,_,_,_,_,_,_,_] _:=Co.dl [21,22,23,20,24,25,4]
     refine AE ?_
     refine k22 _ _ ?_
     refine ALa fun K27 k27=>?_
     refine ALa fun K28 k28=>?_
     refine ALZ ?_
     refine AH Cp 2 [(26,.bool false),(27,.bool true)]
      ⟨ym r5,Cr r6 (fun _=>Ba),ALg⟩ fun a29 w29 g29 CU=>?_
     have Jk:=AA g23 g29
     refine AE ?_
     refine k28 _ _ ?_
     refine Av CU rfl rfl ?_
     refine ALa fun K30 k30=>?_
     refine ALZ ?_
     replace CE:=AC Jk CE
     refine AH CU 1 [(28,AO AM)]
      ⟨BR (vs:=[]) rfl rfl trivial trivial (fun _=>XC _) (fun _=>rfl),ALg⟩ fun a31 w31 g31 Hv=>?_
     refine As Hv r7 (BV AM AP.1) (AC g31 CE) (En AP) fun w32 g32 h32=>?_
     replace FY:=Af g31 g32 (AC Jk FY) Dv
     refine As Hv r7 (GI 10) FY rfl fun w33 g33 h33=>?_
     replace Aq:=Ac g33 (Af g31 g32 (AC Jk Aq) (Ne.symm Dt)) (Ne.symm KI)
     replace BU:=Ac g33 (Af g31 g32 (AC Jk BU) (Ne.symm Du)) (Ne.symm KJ)
     replace CE:=Ac g33 h32 (Ne.symm Dv)
     replace hr:=(((hr.kn Jk).kn g31).offR g32 (AR D8)).offR g33 (AR KM)
     replace HG:=AD (AD (AA (AA HG Jk) g31) g32 Hf) g33 Pb
     replace FY:=h33
     refine AE ?_
     refine k30 _ _ ?_
     refine ALd ?_
     repeat refine AJ ?_
     refine Bi (fn:=Tryz.f32) Hv (B6 (p:=6) (q:=7) Tryz.results32 Hv rfl rfl rfl rfl (BV AM AP.1) (GI 10) CE FY) (CH Tryz.func77 (by kernel_rfl) rfl _ _) (JD _ _ _) ?_
     exact⟨QQ (Tu ha hv hf),HG⟩
   · have hil:i<ks.length:=by have:=(Ug hf).1;rw[hi] at this;simpa using this
     obtain⟨x,hx_x⟩:∃x,ks[i]'hil=x:=⟨_,rfl⟩
     have htr:tr (ks.map VK.p) i=x.l:=by rw[Ur hil,hx_x]
     refine ALZ ?_
     refine AH Di 6 [(21,Aw sa po (.slice ao ks.length cap)),(22,AO o),(23,.tuple #[.int .i64 ((i:Int)),.bool true]),(20,.tuple #[.int .i64 ((i:Int)),.bool true]),(24,.int .i64 ((i:Int))),(25,.bool true)]
      ⟨yl r6 (Bq hsa hpo (.slice ao ks.length cap) rfl) Aq,yl r6 (BV o ho.1) BU,Ae [Aw sa po (.slice ao ks.length cap),AO o] Tryz.func71 (by kernel_rfl) rq4 ⟨(oy rfl rfl),(oy rfl rfl),ALg⟩ (Au fun W g=>Z7 hsa hpo ho (hr.kn g) hv hf hi),ym r5,BX rq4 (fun _ _ h=>⟨_,_,h,rfl,rfl⟩),BX rq4 (fun _ _ h=>⟨_,_,h,rfl,rfl⟩),ALg⟩ fun a34 w34 g34 Hw=>?_
     refine AX (v:=.int .i64 ((i:Int))) Hw r6 fun a35 Mj=>?_
     refine AX (v:=.bool true) Mj r6 fun a36 FG=>?_
     have Gx:Sv _ _ [_,_,_,_,_,_,_,_,_,_,_,_,_,_,_,_,_] _:=FG.dl [21,22,23,20,24,25,4]
     refine AE ?_
     refine k22 _ _ ?_
     refine ALa fun K38 k38=>?_
     refine ALa fun K39 k39=>?_
     refine ALZ ?_
     refine AH Gx 2 [(26,.bool true),(27,.bool false)]
      ⟨ym r5,Cr r6 (fun _=>Ba),ALg⟩ fun a40 w40 g40 Jm=>?_
     have Rz:=AA g34 g40
     refine AE ?_
     refine k39 _ _ ?_
     refine A1 Jm rfl rfl ?_
     refine ALe ?_
     refine k38 _ _ ?_
     refine ALa fun K41 k41=>?_
     refine ALZ ?_
     replace Aq:=AC Rz Aq
     replace CE:=AC Rz CE
     replace hr:=hr.kn Rz
     refine AH Jm 10 [(29,pk Ml 64),(30,.slice ao ks.length cap),(31,.int .i64 ((i:Int))),(32,pk ((bO ao)) (oO ao+i*33)),(33,pk ((bO ao)) (oO ao+i*33+32)),(34,.agg #[VK.s x]),(35,.int .i64 a),(36,.tuple #[AO ((CF x.l a).1),.int .i64 ((CF x.l a).2)]),(37,AO ((CF x.l a).1)),(38,.int .i64 ((CF x.l a).2))]
      ⟨yf r6 (fun _=>by kernel_rfl),yp (i:=2) r6 (Eo (.slice ao ks.length cap) rfl) Aq rfl (by simp[AL,AZ,hsa.1,hpo.1]),ym r5,BA rq8 (fun w=>B8 Tryz.underlying34 (by kernel_rfl) (hr.1.1) (by omega) (rfl) w),yf r6 (fun _=>by kernel_rfl),Bc r6 (fun _ g=>Ab (tyT (VK.s x) rfl) (RdK.treeX (hr.kn g) rfl hil hx_x)),ym r5,Ae [.agg #[VK.s x],.int .i64 a] Tryz.func78 (by kernel_rfl) rq4 ⟨(oy rfl rfl),(oy rfl rfl),ALg⟩ (Au fun W g=>ACI rfl ((hr.kn g).kt hil hx_x)),BX rq4 (fun _ _ h=>⟨_,_,h,rfl,rfl⟩),BX rq4 (fun _ _ h=>⟨_,_,h,rfl,rfl⟩),ALg⟩ fun a42 w42 g42 GH=>?_
     refine As GH r7 (BV ((CF x.l a).1) (Gr ((hr.kt hil hx_x).2.1) a).1) (AC g42 CE) (En (Gr ((hr.kt hil hx_x).2.1) a)) fun w43 g43 h43=>?_
     replace FY:=Af g42 g43 (AC Rz FY) Dv
     refine As GH r7 (GI ((CF x.l a).2)) FY rfl fun w44 g44 h44=>?_
     replace CE:=Ac g44 h43 (Ne.symm Dv)
     replace hr:=((hr.kn g42).offR g43 (AR D8)).offR g44 (AR KM)
     replace HG:=AD (AD (AA (AA HG Rz) g42) g43 Hf) g44 Pb
     replace FY:=h44
     have Ep:Sv _ _ [_,_,_,_,_,_,_,_,_,_,_,_,_,_,_,_,_,_] _:=GH.dl [29,30,31,32,33,34,35,36,37,38,8]
     refine AE ?_
     refine k41 _ _ ?_
     refine ALd ?_
     repeat refine AJ ?_
     refine Bi (fn:=Tryz.f32) Ep (B6 (p:=6) (q:=7) Tryz.results32 Ep rfl rfl rfl rfl (BV ((CF x.l a).1) (Gr ((hr.kt hil hx_x).2.1) a).1) (GI ((CF x.l a).2)) CE FY) (CH Tryz.func77 (by kernel_rfl) rfl _ _) (JD _ _ _) ?_
     exact⟨AJl (N5 ha hv hf hi htr).symm,HG⟩
theorem ACh (ks:List VK) (ao:Option Addr) (cap:Nat) (sa po:List Nat) (hsa:Dg sa) (hpo:Dg po) (o:List Nat) (ho:Dg o) (a:Int) (w:World) (hr:RdK w (.slice ao ks.length cap) ks) :
   Calls Tryz.prog 42 #[Aw sa po (.slice ao ks.length cap),AO o,.int .i64 a] w fun e w'=>e=.returned (.tuple #[AO (DI (ks.map VK.p) o a).1,.int .i64 (DI (ks.map VK.p) o a).2])∧w.grownBy w' none:=by
 refine BF Tryz.func42 rfl Tryz.ntmps42 rfl fun a0 sv0=>?_
 have HG:=World.grownBy.refl w none
 replace sv0:Sv 37 [] [(0,Aw sa po (.slice ao ks.length cap)),(1,AO o),(2,.int .i64 a)] a0:=sv0
 refine ALa fun K1 k1=>?_
 refine ALZ ?_
 refine BZ sv0 r6 (Bq hsa hpo (.slice ao ks.length cap) rfl) fun a2 w2 Ml JH g2 z2 Aq sv2=>?_
 refine BZ sv2 r6 (BV o ho.1) fun a3 w3 N7 Pa g3 z3 BU sv3=>?_
 replace Aq:=AC g3 Aq
 replace hr:=(hr.kn g2).kn g3
 replace HG:=AA (AA HG g2) g3
 refine Az (T:=23) (Z:=(bv AM)) sv3 rfl rfl rfl (fun a w=>by kernel_rfl) fun a4 w4 AJm IS g4 z4 CE sv4=>?_
 have Dt:=Ax Aq IS
 have Du:=Ax BU IS
 have Hf:=Bk HG IS
 have D8:=Ay (hr.lt) IS
 replace Aq:=AC g4 Aq
 replace BU:=AC g4 BU
 replace hr:=hr.kn g4
 replace HG:=AA HG g4
 refine AX (v:=.int .i64 0) sv4 r6 fun a5 sv5=>?_
 refine AE ?_
 refine k1 _ _ ?_
 refine ALa fun K6 k6=>?_
 refine ALa fun K7 k7=>?_
 rcases(show CZ (ks.map VK.p)=false∨(CZ (ks.map VK.p)=true∧a<0)∨(CZ (ks.map VK.p)=true∧17179869184≤a)∨(CZ (ks.map VK.p)=true∧Cg a=true) by
     cases CZ (ks.map VK.p)<;>cases h:Cg a<;>simp<;>exact ACf h) with hv|⟨hv,ha⟩|⟨hv,ha⟩|⟨hv,ha⟩
 · refine ALZ ?_
   refine AH sv5 11 [(9,Aw sa po (.slice ao ks.length cap)),(10,.bool false),(11,.bool true),(12,.bool true),(13,undef),(14,undef),(15,.bool true),(16,.bool true),(17,undef),(18,undef),(19,.bool true)]
     ⟨yl r6 (Bq hsa hpo (.slice ao ks.length cap) rfl) Aq,Ae [Aw sa po (.slice ao ks.length cap)] Tryz.func40 (by kernel_rfl) rq4 ⟨(oy rfl rfl),ALg⟩ (Au fun W g=>Gy hsa hpo (hr.kn g) hv),Cr r6 (fun _=>Ba),ym r5,AS r6,AS r6,BQ r7,ym r5,AS r6,AS r6,BQ r7,ALg⟩ fun a8 w8 g8 sv8=>?_
   refine AE ?_
   refine k7 _ _ ?_
   refine Av sv8 rfl rfl ?_
   refine ALa fun K9 k9=>?_
   refine ALZ ?_
   replace CE:=AC g8 CE
   refine AH sv8 1 [(20,AO AM)]
     ⟨BR (vs:=[]) rfl rfl trivial trivial (fun _=>XC _) (fun _=>rfl),ALg⟩ fun a10 w10 g10 Bj=>?_
   refine As Bj r7 (BV AM AP.1) (AC g10 CE) (En AP) fun w11 g11 h11=>?_
   replace Aq:=Af g10 g11 (AC g8 Aq) (Ne.symm Dt)
   replace BU:=Af g10 g11 (AC g8 BU) (Ne.symm Du)
   replace hr:=((hr.kn g8).kn g10).offR g11 (AR D8)
   replace HG:=AD (AA (AA HG g8) g10) g11 Hf
   replace CE:=h11
   refine AX (v:=.int .i64 1) Bj r6 fun a12 Cx=>?_
   refine AE ?_
   refine k9 _ _ ?_
   refine ALd ?_
   repeat refine AJ ?_
   refine Ar (fn:=Tryz.f42) Cx (DY (p:=6) (q:=7) Tryz.results42 Cx rfl rfl rfl rfl (BV AM AP.1) CE) ?_
   exact⟨QQ (LO (.inr hv)),HG⟩
 · refine ALZ ?_
   refine AH sv5 11 [(9,Aw sa po (.slice ao ks.length cap)),(10,.bool true),(11,.bool false),(12,.bool false),(13,.int .i64 a),(14,.bool true),(15,.bool true),(16,.bool true),(17,undef),(18,undef),(19,.bool true)]
     ⟨yl r6 (Bq hsa hpo (.slice ao ks.length cap) rfl) Aq,Ae [Aw sa po (.slice ao ks.length cap)] Tryz.func40 (by kernel_rfl) rq4 ⟨(oy rfl rfl),ALg⟩ (Au fun W g=>Gy hsa hpo (hr.kn g) hv),Cr r6 (fun _=>Ba),ym r5,Aa rq8,Ap rq9 (fun _=>BE (decide_eq_true (by omega))),Ag rq9,ym r5,AS r6,AS r6,BQ r7,ALg⟩ fun a13 w13 g13 Cl=>?_
   refine AE ?_
   refine k7 _ _ ?_
   refine Av Cl rfl rfl ?_
   refine ALa fun K14 k14=>?_
   refine ALZ ?_
   replace CE:=AC g13 CE
   refine AH Cl 1 [(20,AO AM)]
     ⟨BR (vs:=[]) rfl rfl trivial trivial (fun _=>XC _) (fun _=>rfl),ALg⟩ fun a15 w15 g15 Gh=>?_
   refine As Gh r7 (BV AM AP.1) (AC g15 CE) (En AP) fun w16 g16 h16=>?_
   replace Aq:=Af g15 g16 (AC g13 Aq) (Ne.symm Dt)
   replace BU:=Af g15 g16 (AC g13 BU) (Ne.symm Du)
   replace hr:=((hr.kn g13).kn g15).offR g16 (AR D8)
   replace HG:=AD (AA (AA HG g13) g15) g16 Hf
   replace CE:=h16
   refine AX (v:=.int .i64 1) Gh r6 fun a17 Dq=>?_
   refine AE ?_
   refine k14 _ _ ?_
   refine ALd ?_
   repeat refine AJ ?_
   refine Ar (fn:=Tryz.f42) Dq (DY (p:=6) (q:=7) Tryz.results42 Dq rfl rfl rfl rfl (BV AM AP.1) CE) ?_
   exact⟨QQ (LO (.inl (by unfold Cg;simp;omega))),HG⟩
 · refine ALZ ?_
   refine AH sv5 11 [(9,Aw sa po (.slice ao ks.length cap)),(10,.bool true),(11,.bool false),(12,.bool false),(13,.int .i64 a),(14,.bool false),(15,.bool false),(16,.bool false),(17,.int .i64 a),(18,.bool true),(19,.bool true)]
     ⟨yl r6 (Bq hsa hpo (.slice ao ks.length cap) rfl) Aq,Ae [Aw sa po (.slice ao ks.length cap)] Tryz.func40 (by kernel_rfl) rq4 ⟨(oy rfl rfl),ALg⟩ (Au fun W g=>Gy hsa hpo (hr.kn g) hv),Cr r6 (fun _=>Ba),ym r5,Aa rq8,Ap rq9 (fun _=>BE (decide_eq_false (by omega))),Ag rq9,ym r5,Aa rq8,Ap rq9 (fun _=>DG (decide_eq_true (by omega))),Ag rq9,ALg⟩ fun a18 w18 g18 CD=>?_
   refine AE ?_
   refine k7 _ _ ?_
   refine Av CD rfl rfl ?_
   refine ALa fun K19 k19=>?_
   refine ALZ ?_
   replace CE:=AC g18 CE
   refine AH CD 1 [(20,AO AM)]
     ⟨BR (vs:=[]) rfl rfl trivial trivial (fun _=>XC _) (fun _=>rfl),ALg⟩ fun a20 w20 g20 DR=>?_
   refine As DR r7 (BV AM AP.1) (AC g20 CE) (En AP) fun w21 g21 h21=>?_
   replace Aq:=Af g20 g21 (AC g18 Aq) (Ne.symm Dt)
   replace BU:=Af g20 g21 (AC g18 BU) (Ne.symm Du)
   replace hr:=((hr.kn g18).kn g20).offR g21 (AR D8)
   replace HG:=AD (AA (AA HG g18) g20) g21 Hf
   replace CE:=h21
   refine AX (v:=.int .i64 1) DR r6 fun a22 Bl=>?_
   refine AE ?_
   refine k19 _ _ ?_
   refine ALd ?_
   repeat refine AJ ?_
   refine Ar (fn:=Tryz.f42) Bl (DY (p:=6) (q:=7) Tryz.results42 Bl rfl rfl rfl rfl (BV AM AP.1) CE) ?_
   exact⟨QQ (LO (.inl (by unfold Cg;simp;omega))),HG⟩
 · have haa:=QR ha
   obtain⟨i,hi⟩:∃i,pos (ks.map VK.p) o=i:=⟨_,rfl⟩
   have h64:ks.length≤64:=by have:=(FH.1 hv).1;simpa using this
   refine ALZ ?_
   refine AH sv5 11 [(9,Aw sa po (.slice ao ks.length cap)),(10,.bool true),(11,.bool false),(12,.bool false),(13,.int .i64 a),(14,.bool false),(15,.bool false),(16,.bool false),(17,.int .i64 a),(18,.bool false),(19,.bool false)]
     ⟨yl r6 (Bq hsa hpo (.slice ao ks.length cap) rfl) Aq,Ae [Aw sa po (.slice ao ks.length cap)] Tryz.func40 (by kernel_rfl) rq4 ⟨(oy rfl rfl),ALg⟩ (Au fun W g=>Gy hsa hpo (hr.kn g) hv),Cr r6 (fun _=>Ba),ym r5,Aa rq8,Ap rq9 (fun _=>BE (decide_eq_false (by omega))),Ag rq9,ym r5,Aa rq8,Ap rq9 (fun _=>DG (decide_eq_false (by omega))),Ag rq9,ALg⟩ fun a23 w23 g23 CS=>?_
   refine AE ?_
   refine k7 _ _ ?_
   refine A1 CS rfl rfl ?_
   refine ALe ?_
   refine k6 _ _ ?_
   refine ALa fun K24 k24=>?_
   replace Aq:=AC g23 Aq
   replace BU:=AC g23 BU
   replace CE:=AC g23 CE
   replace hr:=hr.kn g23
   replace HG:=AA HG g23
   cases hf:J5 (ks.map VK.p) o
   · refine ALZ ?_
     refine AH CS 3 [(21,Aw sa po (.slice ao ks.length cap)),(22,AO o),(23,.int .i64 ((-1)))]
      ⟨yl r6 (Bq hsa hpo (.slice ao ks.length cap) rfl) Aq,yl r6 (BV o ho.1) BU,Ae [Aw sa po (.slice ao ks.length cap),AO o] Tryz.func84 (by kernel_rfl) rq4 ⟨(oy rfl rfl),(oy rfl rfl),ALg⟩ (Au fun W g=>AGi hsa hpo ho (hr.kn g) hv (AHq hf)),ALg⟩ fun a25 w25 g25 Co=>?_
     refine AX (v:=.int .i64 ((-1))) Co r6 fun a26 Cp=>?_
     have GF:Sv _ _ [_,_,_,_,_,_,_,_,_,_,_,_,_,_,_,_,_,_] _:=Cp.dl [21,22,23,4]
     refine AE ?_
     refine k24 _ _ ?_
     refine ALa fun K28 k28=>?_
     refine ALa fun K29 k29=>?_
     refine ALZ ?_
     refine AH GF 2 [(24,.int .i64 ((-1))),(25,.bool true)]
      ⟨ym r5,Cm r6 (fun _=>BE (by decide)),ALg⟩ fun a30 w30 g30 Ds=>?_
     have Ry:=AA g25 g30
     refine AE ?_
     refine k29 _ _ ?_
     refine Av Ds rfl rfl ?_
     refine ALa fun K31 k31=>?_
     refine ALZ ?_
     replace CE:=AC Ry CE
     refine AH Ds 1 [(26,AO AM)]
      ⟨BR (vs:=[]) rfl rfl trivial trivial (fun _=>XC _) (fun _=>rfl),ALg⟩ fun a32 w32 g32 Ci=>?_
     refine As Ci r7 (BV AM AP.1) (AC g32 CE) (En AP) fun w33 g33 h33=>?_
     replace Aq:=Af g32 g33 (AC Ry Aq) (Ne.symm Dt)
     replace BU:=Af g32 g33 (AC Ry BU) (Ne.symm Du)
     replace hr:=((hr.kn Ry).kn g32).offR g33 (AR D8)
     replace HG:=AD (AA (AA HG Ry) g32) g33 Hf
     replace CE:=h33
     refine AX (v:=.int .i64 10) Ci r6 fun a34 Hw=>?_
     refine AE ?_
     refine k31 _ _ ?_
     refine ALd ?_
     repeat refine AJ ?_
     refine Ar (fn:=Tryz.f42) Hw (DY (p:=6) (q:=7) Tryz.results42 Hw rfl rfl rfl rfl (BV AM AP.1) CE) ?_
     exact⟨QQ (Tu ha hv hf),HG⟩
   · have hil:i<ks.length:=by have:=(Ug hf).1;rw[hi] at this;simpa using this
     obtain⟨x,hx_x⟩:∃x,ks[i]'hil=x:=⟨_,rfl⟩
     have htr:tr (ks.map VK.p) i=x.l:=by rw[Ur hil,hx_x]
     refine ALZ ?_
     refine AH CS 3 [(21,Aw sa po (.slice ao ks.length cap)),(22,AO o),(23,.int .i64 ((i:Int)))]
      ⟨yl r6 (Bq hsa hpo (.slice ao ks.length cap) rfl) Aq,yl r6 (BV o ho.1) BU,Ae [Aw sa po (.slice ao ks.length cap),AO o] Tryz.func84 (by kernel_rfl) rq4 ⟨(oy rfl rfl),(oy rfl rfl),ALg⟩ (Au fun W g=>AGi hsa hpo ho (hr.kn g) hv (AEa hf hi)),ALg⟩ fun a35 w35 g35 Mj=>?_
     refine AX (v:=.int .i64 ((i:Int))) Mj r6 fun a36 FG=>?_
     have Gx:Sv _ _ [_,_,_,_,_,_,_,_,_,_,_,_,_,_,_,_,_,_] _:=FG.dl [21,22,23,4]
     refine AE ?_
     refine k24 _ _ ?_
     refine ALa fun K38 k38=>?_
     refine ALa fun K39 k39=>?_
     refine ALZ ?_
     refine AH Gx 2 [(24,.int .i64 ((i:Int))),(25,.bool false)]
      ⟨ym r5,Cm r6 (fun _=>BE (decide_eq_false (by omega))),ALg⟩ fun a40 w40 g40 Jm=>?_
     have Rz:=AA g35 g40
     refine AE ?_
     refine k39 _ _ ?_
     refine A1 Jm rfl rfl ?_
     refine ALe ?_
     refine k38 _ _ ?_
     refine ALa fun K41 k41=>?_
     refine ALZ ?_
     replace Aq:=AC Rz Aq
     replace CE:=AC Rz CE
     replace hr:=hr.kn Rz
     refine AH Jm 10 [(27,pk Ml 64),(28,.slice ao ks.length cap),(29,.int .i64 ((i:Int))),(30,pk ((bO ao)) (oO ao+i*33)),(31,pk ((bO ao)) (oO ao+i*33+32)),(32,.agg #[VK.s x]),(33,.int .i64 a),(34,.tuple #[AO ((CF x.l a).1),.int .i64 ((CF x.l a).2)]),(35,AO ((CF x.l a).1)),(36,.int .i64 ((CF x.l a).2))]
      ⟨yf r6 (fun _=>by kernel_rfl),yp (i:=2) r6 (Eo (.slice ao ks.length cap) rfl) Aq rfl (by simp[AL,AZ,hsa.1,hpo.1]),ym r5,BA rq8 (fun w=>B8 Tryz.underlying34 (by kernel_rfl) (hr.1.1) (by omega) (rfl) w),yf r6 (fun _=>by kernel_rfl),Bc r6 (fun _ g=>Ab (tyT (VK.s x) rfl) (RdK.treeX (hr.kn g) rfl hil hx_x)),ym r5,Ae [.agg #[VK.s x],.int .i64 a] Tryz.func89 (by kernel_rfl) rq4 ⟨(oy rfl rfl),(oy rfl rfl),ALg⟩ (Au fun W g=>Zn rfl ((hr.kn g).kt hil hx_x)),BX rq4 (fun _ _ h=>⟨_,_,h,rfl,rfl⟩),BX rq4 (fun _ _ h=>⟨_,_,h,rfl,rfl⟩),ALg⟩ fun a42 w42 g42 GH=>?_
     refine As GH r7 (BV ((CF x.l a).1) (Gr ((hr.kt hil hx_x).2.1) a).1) (AC g42 CE) (En (Gr ((hr.kt hil hx_x).2.1) a)) fun w43 g43 h43=>?_
     replace hr:=(hr.kn g42).offR g43 (AR D8)
     replace HG:=AD (AA (AA HG Rz) g42) g43 Hf
     replace CE:=h43
     refine AX (v:=.int .i64 ((CF x.l a).2)) GH r6 fun a44 R3=>?_
     have Ep:Sv _ _ [_,_,_,_,_,_,_,_,_,_,_,_,_,_,_,_,_,_,_,_] _:=R3.dl [27,28,29,30,31,32,33,34,35,36]
     refine AE ?_
     refine k41 _ _ ?_
     refine ALd ?_
     repeat refine AJ ?_
     refine Ar (fn:=Tryz.f42) Ep (DY (p:=6) (q:=7) Tryz.results42 Ep rfl rfl rfl rfl (BV ((CF x.l a).1) (Gr ((hr.kt hil hx_x).2.1) a).1) CE) ?_
     exact⟨AJl (N5 ha hv hf hi htr).symm,HG⟩
end Go.Proofs.YtbfjfnbcmojpiaaGreat
