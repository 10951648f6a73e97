import Derived.Test.YtbfjfnbcmojpiaaGreatOtV4
import Derived.Lib.AppendZerosOnto
import Derived.Lib.SliceRun
import Derived.Laws.Externs
import Derived.Laws.IdiomCopy
import Derived.Deep.RegionLaw
import Derived.Test.YtbfjfnbcmojpiaaGreatOtSG
import Derived.Laws.MakeOwn
import Derived.Lib.LazyBuf
set_option linter.unusedSimpArgs false
set_option linter.unusedVariables false
set_option maxRecDepth 100000
set_option maxHeartbeats 4000000
namespace Go.Proofs.YtbfjfnbcmojpiaaGreat
open Go.RowKit
def zK:Value:=.agg ([bv AS,[.slice none 0 0]].flatten).toArray
theorem AEU:zK.cells.size=33:=rfl
theorem RF:ET Tryz.prog 34 58 zK 33 56:=⟨Tryz.underlying34,info_parts (by kernel_rfl),rfl,by decide,by decide⟩
theorem AJr (w:World):(zeroValue 58).run Tryz.prog w=.ok zK w:=by kernel_rfl
theorem ACT:∀v∈zK.cells.toList,v.oneCell'=true:=List.all_eq_true.1 (by rfl)
theorem Ff (l:List VK):(l.flatMap AY).length=l.length*33:=Hn C6 l
theorem Own.less {w:World} {e:TypeId} {sz g n cap i:Nat} {xs:List Value} (h:Own w e sz (.slice (some ⟨g,0,none⟩) n cap) n xs) (hi:i≤n):Own w e sz (.slice (some ⟨g,0,none⟩) i cap) i (xs.take (i*sz)):=by
 obtain⟨hl,h2⟩:=h
 rcases h2 with ⟨h3,_⟩|⟨g',cap',cur,h3,hb,hg,hnc,hcm,hcs,ht⟩
 · cases h3
 · simp only[Value.slice.injEq,Option.some.injEq,Addr.mk.injEq,and_true] at h3
   obtain⟨rfl,_,rfl⟩:=h3
   have hm:i*sz≤n*sz:=Nat.mul_le_mul_right _ hi
   refine⟨by rw[List.length_take,hl];omega,.inr ⟨g,cap,cur,rfl,hb,hg,Nat.le_trans hi hnc,hcm,hcs,?_⟩⟩
   rw[←ht,List.take_take,Nat.min_eq_left hm]
theorem Own.blk {w:World} {e:TypeId} {sz g n cap:Nat} {xs:List Value} (h:Own w e sz (.slice (some ⟨g,0,none⟩) n cap) n xs):∃C:List Value,w.heap[g]?=some (.cells C.toArray e (0,0))∧n≤cap∧cap≤maxLen∧C.length=cap*sz∧C.take (n*sz)=xs:=by
 obtain⟨hl,h2⟩:=h
 rcases h2 with ⟨h3,_⟩|⟨g',cap',cur,h3,hb,hg,hnc,hcm,hcs,ht⟩
 · cases h3
 · simp only[Value.slice.injEq,Option.some.injEq,Addr.mk.injEq,and_true] at h3
   obtain⟨rfl,_,rfl⟩:=h3
   exact⟨cur.toList,by simpa using hg,hnc,hcm,by simpa using hcs,ht⟩
theorem Own.mk' {w:World} {e:TypeId} {sz g n cap:Nat} {xs C:List Value} (h1:w.heap[g]?=some (.cells C.toArray e (0,0))) (h2:n≤cap) (h3:cap≤maxLen) (h4:C.length=cap*sz) (h5:C.take (n*sz)=xs):Own w e sz (.slice (some ⟨g,0,none⟩) n cap) n xs:=by
 have hm:n*sz≤cap*sz:=Nat.mul_le_mul_right _ h2
 exact⟨by rw[←h5,List.length_take];omega,.inr ⟨g,cap,C.toArray,rfl,Nat.zero_le _,h1,h2,h3,by simpa using h4,by simpa using h5⟩⟩
theorem Own.shp {w:World} {e:TypeId} {sz n:Nat} {v:Value} {xs:List Value} (h:Own w e sz v n xs) (hn:0<n):∃g cap,v=.slice (some ⟨g,0,none⟩) n cap:=by
 rcases h.2 with ⟨_,h3⟩|⟨g,cap,cur,h3,_⟩
 · omega
 · exact⟨g,cap,h3⟩
theorem Zq {P:Program} (w:World) (dT sT ty elem:TypeId) (size:Nat) (b o dLen dCap:Nat) (a:Addr) (sLen sCap:Nat) (cs:List Value)
  (hu:P.underlying dT=some (.slice elem)) (hs:(P.info? elem).map (·.size)=some size) (hn:cs.length=Nat.min sLen dLen*size)
  (hsrc:∀j v,cs[j]?=some v→w.cell? (a.add j)=some v) (hc:∀j,j<cs.length→(w.cell? ⟨b,o+j,none⟩).isSome=true) (hf:∀j,j<cs.length→w.frozen? ⟨b,o+j,none⟩=false) (h1:∀v∈cs,v.oneCell'=true) :
  (Builtin.copy_ #[dT,sT] ty #[.slice (some ⟨b,o,none⟩) dLen dCap,.slice (some a) sLen sCap]).run P w=.ok (goInt (Nat.min sLen dLen)) (w.setCells b o cs):=by
 have hl:=run_loadCells_list (P:=P) w a cs hsrc
 have hst:=run_storeCells_cells (P:=P) b o cs 0 w (by simpa using hc) (by simpa using hf) h1
 cases hq:P.info? elem with
 | none=>simp[hq] at hs
 | some i =>
  have hi:i.size=size:=by simpa [hq] using hs
  simp only[Nat.add_zero] at hst
  rw[hn] at hl
  simp[Builtin.copy_,run_underlying hu,Builtin.lenOf,Builtin.firstCells,sizeOf,typeInfo,hq,hi,hl,hst]
theorem UF {P:Program} (w:World) (dT sT ty elem:TypeId) (size:Nat) (g o dLen dCap:Nat) (a:Addr) (sLen sCap:Nat) (cs C:List Value)
  (hu:P.underlying dT=some (.slice elem)) (hs:(P.info? elem).map (·.size)=some size) (hn:cs.length=Nat.min sLen dLen*size)
  (hsrc:∀j v,cs[j]?=some v→w.cell? (a.add j)=some v) (hb:w.heap[g]?=some (.cells C.toArray elem (0,0))) (hfit:o+cs.length≤C.length) (h1:∀v∈cs,v.oneCell'=true) :
  ∃w',(Builtin.copy_ #[dT,sT] ty #[.slice (some ⟨g,o,none⟩) dLen dCap,.slice (some a) sLen sCap]).run P w=.ok (goInt (Nat.min sLen dLen)) w'∧w.grownBy w' (some g)∧w'.heap[g]?=some (.cells (C.take o++(cs++C.drop (o+cs.length))).toArray elem (0,0)):=by
 refine⟨_,Zq w dT sT ty elem size g o dLen dCap a sLen sCap cs hu hs hn hsrc (fun j hj=>?_) (fun j hj=>ALq w g _ _ elem hb) h1,Cs _ _ _ _,Hy C o cs hb hfit⟩
 rw[JB hb,List.getElem?_eq_getElem (by omega)]
 rfl
theorem Ss {P:Program} {t e:TypeId} {z:Value} {size bytes:Nat} (E:ET P t e z size bytes) (hv:∀w,(zeroValue e).run P w=.ok z w) (h1:∀v∈z.cells.toList,v.oneCell'=true) (ty:TypeId) (w:World)
   (g m cap i c cc:Nat) (ao:Option Addr) (xs:List Value) (hown:Own w e size (.slice (some ⟨g,0,none⟩) m cap) m xs) (hao:0<c→ao=some ⟨g,i*size,none⟩) (hmi:m≤i) (hic:i+c≤cap) :
   ∃w',(Builtin.clear_ #[t] ty #[.slice ao c cc]).run P w=.ok (.tuple #[]) w'∧w.grownBy w' (some g)∧Own w' e size (.slice (some ⟨g,0,none⟩) m cap) m xs:=by
 by_cases hc:c=0
 · subst hc
   refine⟨w,?_,World.grownBy.refl _ _,hown⟩
   cases ao<;>simp[Builtin.clear_,run_underlying E.und]
 · have hao:=hao (by omega)
   subst hao
   obtain⟨C,hb,hnc,hcm,hcl,hct⟩:=hown.blk
   have hzl:(Builtin.zeroCells z.cells c).toList.length=c*size:=by simp[Builtin.zeroCells,E.zsz]
   have h1z:∀v∈(Builtin.zeroCells z.cells c).toList,v.oneCell'=true:=by
     intro v hv'
     simp only[Builtin.zeroCells,Array.toList_map,List.mem_map] at hv'
     obtain⟨j,_,rfl⟩:=hv'
     have hp:=E.pos
     have hjm:j%z.cells.size<z.cells.size:=Nat.mod_lt _ (by rw[E.zsz];exact hp)
     rw[getElem!_pos z.cells _ hjm]
     exact h1 _ (by simp)
   have hfit:i*size+c*size≤C.length:=by rw[hcl,←Nat.add_mul];exact Nat.mul_le_mul_right _ hic
   have hst:=run_storeCells_cells (P:=P) g (i*size) (Builtin.zeroCells z.cells c).toList 0 w (fun j hj=>by
     rw[JB hb,List.getElem?_eq_getElem (by omega)];rfl) (fun j hj=>ALq w g _ _ e hb) h1z
   simp only[Nat.add_zero] at hst
   have hm:=Hy C (i*size) (Builtin.zeroCells z.cells c).toList hb (by rw[hzl];exact hfit)
   refine⟨w.setCells g (i*size) (Builtin.zeroCells z.cells c).toList,?_,Cs _ _ _ _,Own.mk' hm hnc hcm ?_ ?_⟩
   · obtain⟨k,rfl⟩:∃k,c=k+1:=⟨c-1,by omega⟩
     simp[Builtin.clear_,run_underlying E.und,hv,hst]
   · have e1:min (i*size) C.length=i*size:=by omega
     simp only[List.length_append,List.length_take,List.length_drop,hzl,e1]
     omega
   · have h2:m*size≤i*size:=Nat.mul_le_mul_right _ hmi
     rw[List.take_append_of_le_length (by rw[List.length_take];omega),List.take_take,Nat.min_eq_left h2,hct]
theorem Mc {P:Program} {w:World} {ops:Array Oper} {rest:List Oper} {o:Oper} {a:Act} {Q:Exit→Act→World→Prop} (hgd:o.guard=none) (s:Operand) (t:TypeId)
  (ho:o.op=.call { callee:=.builtin .clear,args:=#[s],argTypes:=#[t] }) (v:Value) (hs:a.eval s=v) {v':Value} {w':World}
  (hr:(Builtin.clear_ #[t] o.type #[v]).run P w=.ok v' w') (h:wpList P ops Q rest (a.put o.dst v') w'):wpList P ops Q (o::rest) a w:=by
 refine wpList_plain hgd fun K hK=>?_
 unfold Oper.wp execOp
 simp only[ho,resolve,invoke,builtin,Sem.run_bind,Sem.run_pure,Result.andThen_ok,List.map_toArray,List.map_cons,List.map_nil,hs,hr]
 exact hK _ _ h
theorem Uw {P:Program} {t e:TypeId} {z:Value} {size bytes:Nat} (E:ET P t e z size bytes) (ty:TypeId) {w:World} {g n cap:Nat} {xs:List Value} (hown:Own w e size (.slice (some ⟨g,0,none⟩) n cap) n xs)
  {sv:Value} {m:Nat} {news:List Value} (hs:Sl w size sv m news) (h1:news.all Value.oneCell'=true) (hroom:n+m≤cap) (h63:n+m≤1099511627776) :
  ∃w',(Builtin.append_ #[t,t] ty #[.slice (some ⟨g,0,none⟩) n cap,sv]).run P w=.ok (.slice (some ⟨g,0,none⟩) (n+m) cap) w'∧Own w' e size (.slice (some ⟨g,0,none⟩) (n+m) cap) (n+m) (xs++news)∧w.grownBy w' (some g):=by
 obtain⟨v',w',hr,hown',hst⟩:=QC E ty hown hs h1 h63
 obtain⟨i,hi,hz,rfl,hby⟩:=E.inf
 have hsl:=hs
 obtain⟨hl,ao,cap2,rfl,hm1,hm2,h3,h4⟩:=hs
 cases ao with
 | none =>
  obtain rfl:=h3 rfl
  obtain rfl:m=0:=by omega
  have hr2:=run_append_owned_none (P:=P) w 0 t ty e i i.size E.und hi (.slice (some ⟨g,0,none⟩) n cap) n xs hown
  rw[hr2] at hr
  simp only[Result.ok.injEq] at hr
  obtain⟨rfl,rfl⟩:=hr
  exact⟨_,hr2,hown',World.grownBy.refl _ _⟩
 | some ad =>
  have hc':=hsl.rd
  obtain⟨C,hb,hnc,hcm,hcl,hct⟩:=hown.blk
  have hr2:=run_append_room (P:=P) w t ty e i E.und hi g n cap C.toArray hb ad m cap2 news hl hc' (List.all_eq_true.1 h1) hroom (by simp only[List.size_toArray];rw[hl,hcl,←Nat.add_mul];exact Nat.mul_le_mul_right _ hroom)
  have hr3:=hr2
  rw[hr] at hr2
  simp only[Result.ok.injEq] at hr2
  obtain⟨rfl,hw⟩:=hr2
  refine⟨w',hr,hown',hst.1⟩
theorem LV {P:Program} {w:World} {ops:Array Oper} {rest:List Oper} {o:Oper} {a:Act} {Q:Exit→Act→World→Prop} (hgd:o.guard=none) (s x:Operand) (t t':TypeId)
  (ho:o.op=.call { callee:=.builtin .append,args:=#[s,x],argTypes:=#[t,t'] }) (v u:Value) (hs:a.eval s=v) (hx:a.eval x=u) {v':Value} {w':World}
  (hr:(Builtin.append_ #[t,t'] o.type #[v,u]).run P w=.ok v' w') (h:wpList P ops Q rest (a.put o.dst v') w'):wpList P ops Q (o::rest) a w:=by
 refine wpList_plain hgd fun K hK=>?_
 unfold Oper.wp execOp
 simp only[ho,resolve,invoke,builtin,Sem.run_bind,Sem.run_pure,Result.andThen_ok,List.map_toArray,List.map_cons,List.map_nil,hs,hx,hr]
 exact hK _ _ h
theorem UG {P:Program} {ops:Array Oper} {o:Oper} {a:Act} {w:World} {K:Act→World→Prop} {Q:Exit→Act→World→Prop} {E:Prop}
  (hg:o.guard=none) (s x:Operand) (t t':TypeId) (hop:o.op=Op.call { callee:=Callee.builtin Builtin.append,args:=#[s,x],argTypes:=#[t,t'] })
  (v u:Value) (hs:a.eval s=v) (hx:a.eval x=u) {v':Value} {w':World} (hr:(Builtin.append_ #[t,t'] o.type #[v,u]).run P w=.ok v' w') (hK:K (a.put o.dst v') w') :
  if Region.wanted o (yielded ops a.tmps)=true then Oper.wp P o a w K Q else E:=by
 have hw:Region.wanted o (yielded ops a.tmps)=true:=by simp[Region.wanted,hg]
 rw[if_pos hw]
 unfold Oper.wp
 simp[execOp,hop,resolve,invoke,builtin,hs,hx,hr,Result.andThen]
 exact hK
theorem Xb (l:List VK) (i:Nat) (s:Value) (w:World) (hown:Own w 58 33 s l.length (l.flatMap AY)) (hi:i<l.length) (hn:l.length≤1000000) :
   Calls Tryz.prog 73 #[s,.int .i64 i,.int .i64 ((i:Int)+1)] w fun e w'=>∃v',e=.returned v'∧Own w' 58 33 v' (l.take i++l.drop (i+1)).length ((l.take i++l.drop (i+1)).flatMap AY)∧Step w s w' v':=by
 obtain⟨g,cap,rfl⟩:=hown.shp (by omega)
 obtain⟨D,hD,hnc,hcm,hDl,hDt⟩:=hown.blk
 have hcm:cap≤9223372036854775807:=hcm
 have hlen:(l.take i++l.drop (i+1)).length=l.length-1:=by simp;omega
 obtain⟨off,hoff1,hoff2⟩:∃off,(cap=i+1→off=0)∧(¬cap=i+1→off=(i+1)*33):=⟨if cap=i+1 then 0 else (i+1)*33,fun h=>if_pos h,fun h=>if_neg h⟩
 have hsrc:Sl w.drew 33 (.slice (some ⟨g,off,none⟩) (l.length-(i+1)) (cap-(i+1))) (l.length-(i+1)) ((l.drop (i+1)).flatMap AY):=by
   refine⟨by rw[Ff,List.length_drop],some ⟨g,off,none⟩,cap-(i+1),rfl,by omega,by unfold maxLen;omega,fun h=>(by cases h),fun a ha=>?_⟩
   obtain rfl:=Option.some.inj ha
   refine⟨fun _=>rfl,fun j u hu=>?_⟩
   have e:l.flatMap AY=(l.take (i+1)).flatMap AY++(l.drop (i+1)).flatMap AY:=by rw[←List.flatMap_append,List.take_append_drop]
   have hj:=(List.getElem?_eq_some_iff.1 hu).1
   rw[Ff,List.length_drop] at hj
   obtain rfl:=hoff2 (by omega)
   have h2:(l.flatMap AY)[(i+1)*33+j]?=some u:=by
    rw[e,List.getElem?_append_right (by rw[Ff,List.length_take];omega),Ff,List.length_take,Nat.min_eq_left (by omega),Nat.add_sub_cancel_left]
    exact hu
   have h3:w.cell? ⟨g,(i+1)*33+j,none⟩=some u:=by
    rw[JB hD,←h2,←hDt,List.getElem?_take,if_pos (by omega)]
   exact h3
 have hless:Own w.drew 58 33 (.slice (some ⟨g,0,none⟩) i cap) i ((l.flatMap AY).take (i*33)):=(hown.less (by omega)).drew
 have htk:(l.flatMap AY).take (i*33)=(l.take i).flatMap AY:=by
   have e:l.flatMap AY=(l.take i).flatMap AY++(l.drop i).flatMap AY:=by rw[←List.flatMap_append,List.take_append_drop]
   rw[e,List.take_left' (by rw[Ff,List.length_take];omega)]
 rw[htk] at hless
 obtain⟨w2,hr2,ho2,hg2⟩:=Uw RF 34 hless hsrc (My _) (by omega) (by omega)
 rw[←List.flatMap_append] at ho2
 have hsum:i+(l.length-(i+1))=l.length-1:=by omega
 rw[hsum] at hr2 ho2
 obtain⟨w3,hr3,hg3,ho3⟩:=Ss RF AJr ACT 0 w2 g (l.length-1) cap (l.length-1) 1 (cap-(l.length-1)) (some ⟨g,(l.length-1)*33,none⟩) _ ho2 (fun _=>rfl) (Nat.le_refl _) (by omega)
 have HR2:=AG hr2
 have HR3:=AG hr3
 have O3:=AG ho3
 have G3:=AG (AA (AA (Dz (row:=some g) (CP w)) hg2) hg3)
 have HLEN:=AG hlen
 have z1:(0:Int)≤(i:Int):=by omega
 have z2:(i:Int)<(l.length:Int):=by omega
 have z3:(l.length:Int)≤(cap:Int):=by omega
 have z4:(i:Int)≤(cap:Int):=by omega
 have z5:(i:Int)+1≤(l.length:Int):=by omega
 have z6:(0:Int)≤(i:Int)+1:=by omega
 have z7:((i:Int)+1).toNat=i+1:=by omega
 have z8:(i:Int)≤(i:Int)+1:=by omega
 have q1:¬(cap=l.length-1):=by omega
 have q2:l.length-(l.length-1)=1:=by omega
 have q3:((l.length-1:Nat):Int)≤(l.length:Int):=by omega
 have q4:(0:Int)≤((l.length-1:Nat):Int):=by omega
 have q5:(l.length:Int)≤(cap:Int):=by omega
 have hcm2:(cap:Int)≤9223372036854775807:=by omega
 clear hD hDl hDt hsrc hless htk hr2 hr3 ho2 hg2 ho3 hg3 hlen hown
 go_enter Tryz.func73,Tryz.ntmps73
 by_cases hci:cap=i+1
 · obtain rfl:=hoff1 hci
   clear hoff1 hoff2
   have hr2:=HR2.out
   have hr3:=HR3.out
   have ho3:=O3.out
   rw[hci] at hr2 hr3 ho3
   rw[Nat.sub_self (i+1)] at hr2
   have HR2:=AG hr2
   have HR3:=AG hr3
   have O3:=AG ho3
   clear hr2 hr3 ho3
   go_wp2_with fail
   go_region_law (first|(refine UG rfl (.tmp 22) (.tmp 25) 34 34 rfl _ _ (by simp[Act.eval,Act.put]) (by simp[Act.eval,Act.put]) HR2.out ?_)|fail)
   all_goals
    go_wp2_with (first|(refine Mc rfl (.tmp 31) 34 rfl _ rfl HR3.out ?_)|fail)
    go_ret
    exact⟨_,rfl,by rw[HLEN.out];exact O3.out,G3.out,fun k hk=>.inl hk⟩
 · obtain rfl:=hoff2 hci
   go_wp2_with fail
   go_region_law (first|(refine UG rfl (.tmp 22) (.tmp 25) 34 34 rfl _ _ (by simp[Act.eval,Act.put]) (by simp[Act.eval,Act.put]) HR2.out ?_)|fail)
   all_goals
    go_wp2_with (first|(refine Mc rfl (.tmp 31) 34 rfl _ rfl HR3.out ?_)|fail)
    go_ret
    exact⟨_,rfl,by rw[HLEN.out];exact O3.out,G3.out,fun k hk=>.inl hk⟩
theorem AEV {w:World} {V:Nat} {x:VK} (h:w.heap[V]?=some (.cells (AY x).toArray 58 (0,0))):Sl w 33 (.slice (some ⟨V,0,none⟩) 1 1) 1 (AY x):=
 ⟨by rw[C6],some ⟨V,0,none⟩,1,rfl,Nat.le_refl _,by unfold maxLen;omega,fun h=>(by cases h),fun a ha=>by
  obtain rfl:=Option.some.inj ha
  refine⟨fun _=>rfl,fun j u hu=>?_⟩
  rw[Nat.zero_add,JB h]
  exact hu⟩
theorem AEW (l:List VK):∀v∈l.flatMap AY,v.oneCell'=true:=List.all_eq_true.1 (My l)
theorem ACU (l:List VK) (i:Nat) (hi:i≤l.length):(l.take i).flatMap AY=(l.flatMap AY).take (i*33):=by
 have e:l.flatMap AY=(l.take i).flatMap AY++(l.drop i).flatMap AY:=by rw[←List.flatMap_append,List.take_append_drop]
 rw[e,List.take_left' (by rw[Ff,List.length_take];omega)]
theorem ACV (l:List VK) (i:Nat) (hi:i≤l.length):(l.drop i).flatMap AY=(l.flatMap AY).drop (i*33):=by
 have e:l.flatMap AY=(l.take i).flatMap AY++(l.drop i).flatMap AY:=by rw[←List.flatMap_append,List.take_append_drop]
 rw[e,List.drop_left' (by rw[Ff,List.length_take];omega)]
theorem AIc {α:Type} (C X Y:List α) (a:Nat) (hC:a+X.length+Y.length≤C.length) :
  ((C.take a++(X++C.drop (a+X.length))).take (a+X.length)++(Y++(C.take a++(X++C.drop (a+X.length))).drop (a+X.length+Y.length))).take (a+X.length+Y.length)=C.take a++(X++Y):=by
 have h1:(C.take a).length=a:=by rw[List.length_take];omega
 have h2:(C.take a++(X++C.drop (a+X.length))).take (a+X.length)=C.take a++X:=by
  rw[←List.append_assoc,List.take_left' (by rw[List.length_append,h1])]
 rw[h2,←List.append_assoc,List.take_left' (by simp only[List.length_append,h1]),List.append_assoc]
theorem ACW (l:List VK) (x:VK) (i:Nat) (hi:i≤l.length):(l.take i++x::l.drop i).flatMap AY=(l.flatMap AY).take (i*33)++(AY x++(l.flatMap AY).drop (i*33)):=by
 rw[List.flatMap_append,List.flatMap_cons,ACU l i hi,ACV l i hi]
theorem Ux {P:Program} {t e:TypeId} {z:Value} {size bytes:Nat} (E:ET P t e z size bytes) (ty:TypeId) {w:World} {A n0:Nat} {xs:List Value} (hown:Own w e size (.slice (some ⟨A,0,none⟩) n0 n0) n0 xs)
  {sv:Value} {m:Nat} {news:List Value} (hs:Sl w size sv m news) (h1:news.all Value.oneCell'=true) (hm:0<m) (h63:n0+m≤1000000000) :
  ∃v' w',(Builtin.append_ #[t,t] ty #[.slice (some ⟨A,0,none⟩) n0 n0,sv]).run P w=.ok v' w'∧Own w' e size v' (n0+m) (xs++news)∧w.grownBy w' none∧∀k,Bi v' k→w.heap.size≤k:=by
 obtain⟨i,hi,hz,rfl,hby⟩:=E.inf
 have hb:=E.bnd
 obtain⟨v',w',hr,hown',hst⟩:=QC E ty hown hs h1 (by omega)
 have hold:=(Sl.of_own hown)
 obtain⟨hlo,ao0,cap0,e0,_,_,_,hc0⟩:=hold
 simp only[Value.slice.injEq,true_and] at e0
 obtain⟨rfl,rfl⟩:=e0
 obtain⟨hl,ao,cap,rfl,hm1,hm2,h3,h4⟩:=hs
 cases ao with
 | none=>have:=h3 rfl;omega
 | some ad =>
  obtain⟨b,off,spot⟩:=ad
  obtain⟨hsp,hc⟩:=h4 _ rfl
  have hsp:=hsp hm
  simp at hsp
  subst hsp
  have hbytes:(n0+m)*bytes≤140737488355328:=by
   have:(n0+m)*bytes≤1000000000*128:=Nat.mul_le_mul h63 hb
   omega
  have hr2:=run_append_grow (P:=P) w t ty e i z E.und hi hz ⟨A,0,none⟩ n0 n0 xs hlo (fun j u hj=>by rw[Addr.add_lit];exact(hc0 _ rfl).2 j u hj) ⟨b,off,none⟩ m cap news hl (fun j u hj=>by rw[Addr.add_lit];exact hc j u hj) (by omega) (by omega) (growslice_fits (by omega) (by subst hby;exact hbytes))
  have hr3:=hr2
  rw[hr] at hr2
  simp only[Result.ok.injEq] at hr2
  obtain⟨rfl,rfl⟩:=hr2
  exact⟨_,_,hr3,hown',AA (CP w) (World.grownBy_alloc _ _ _),fun k hk=>by simp[Bi,Value.ownBlock] at hk;omega⟩
theorem Pi (l:List VK) (x:VK) (g V:Nat) (w:World) (hown:Own w 58 33 (.slice (some ⟨g,0,none⟩) l.length l.length) l.length (l.flatMap AY)) (hv:w.heap[V]?=some (.cells (AY x).toArray 58 (0,0))) (hn:l.length≤1000000) :
  Calls Tryz.prog 83 #[.slice (some ⟨g,0,none⟩) l.length l.length,.int .i64 (l.length:Nat),.slice (some ⟨V,0,none⟩) 1 1] w fun e w'=>∃v',e=.returned v'∧Own w' 58 33 v' (l.length+1) ((l++[x]).flatMap AY)∧w.grownBy w' none∧∀k,Bi v' k→w.heap.size≤k:=by
 have hx:=AEV hv
 have hflat:(l++[x]).flatMap AY=l.flatMap AY++AY x:=by simp
 obtain⟨v5,w5,hr,ho,hg,hf⟩:=Ux RF 34 hown hx (List.all_eq_true.2 (Ie x)) (by omega) (by omega)
 have HF:=AG hflat
 have HR:=AG hr
 have HO:=AG ho
 have HG:=AG hg
 have HX:=AG hf
 have z1:(0:Int)≤(l.length:Int):=by omega
 clear hx hown hv hflat hr ho hg hf
 go_enter Tryz.func83,Tryz.ntmps83
 go_wp2_with (first|(at_builtin;refine LV rfl (.tmp 23) (.tmp 24) 34 34 rfl _ _ rfl rfl HR.out ?_)|(refine LV rfl (.tmp 23) (.tmp 24) 34 34 rfl _ _ rfl rfl HR.out ?_)|fail)
 go_ret
 exact⟨_,rfl,by rw[HF.out];exact HO.out,HG.out,HX.out⟩
theorem Of (l:List VK) (x:VK) (i g cap V:Nat) (w:World) (hown:Own w 58 33 (.slice (some ⟨g,0,none⟩) l.length cap) l.length (l.flatMap AY)) (hv:w.heap[V]?=some (.cells (AY x).toArray 58 (0,0))) (hi:i<l.length) (hroom:cap<l.length+1) (hn:l.length≤1000000) :
  Calls Tryz.prog 83 #[.slice (some ⟨g,0,none⟩) l.length cap,.int .i64 i,.slice (some ⟨V,0,none⟩) 1 1] w fun e w'=>∃v',e=.returned v'∧Own w' 58 33 v' (l.length+1) ((l.take i++x::l.drop i).flatMap AY)∧w.grownBy w' none∧∀k,Bi v' k→w.heap.size≤k:=by
 obtain⟨C,hb,hnc,hcm,hCl,hCt⟩:=hown.blk
 obtain rfl:cap=l.length:=by omega
 have hX4:(AY x).length=33:=C6 x
 have hYl:((l.flatMap AY).drop (i*33)).length=(l.length-i)*33:=by rw[List.length_drop,Ff];omega
 obtain⟨i0,hi0,hz0,hzs,hzb⟩:=RF.inf
 have hold:(Builtin.firstCells i0.size i (.slice (some ⟨g,0,none⟩) i l.length)).run Tryz.prog w.drew=.ok ((l.flatMap AY).take (i*33)).toArray w.drew:=by
  rw[hzs]
  exact run_firstCells_some w.drew 33 i ⟨g,0,none⟩ i l.length ((l.flatMap AY).take (i*33)) (by rw[List.length_take,Ff];omega) (fun j v hj=>by
   rw[Addr.add_lit,Nat.zero_add]
   have h3:w.cell? ⟨g,j,none⟩=some v:=by
    have hjl:=(List.getElem?_eq_some_iff.1 hj).1
    rw[List.length_take,Ff] at hjl
    rw[List.getElem?_take,if_pos (by omega),←hCt,List.getElem?_take,if_pos (by omega)] at hj
    rw[JB hb,hj]
   exact h3)
 have hrz:=Lib.run_append_grow_zeros w 34 3 34 58 i0 _ .i64 .i64 Tryz.underlying34 Tryz.underlying3 hi0 hz0 (some ⟨g,0,none⟩) i l.length ((l.flatMap AY).take (i*33)) hold (l.length+1-i) (by omega) (by omega) (by omega) (by omega) (by rw[hzb];omega) (by rw[hzb,show i+(l.length+1-i)=l.length+1 by omega];exact growslice_fits (by omega) (by omega))
 rw[show i+(l.length+1-i)=l.length+1 by omega] at hrz
 have hGge:l.length+1≤grownCap w (l.length+1) l.length 58:=grownCap_ge w _ _ _
 have hGle:grownCap w (l.length+1) l.length 58≤maxLen:=grownCap_le_maxLen w _ _ _ (by unfold maxLen;omega)
 generalize hG:grownCap w (l.length+1) l.length 58=G at *
 obtain⟨R,hR⟩:∃R:List Value,R=((l.flatMap AY).take (i*33))++(Builtin.zeroCells zK.cells (l.length+1-i)).toList++(Builtin.zeroCells zK.cells (G-(l.length+1))).toList:=⟨_,rfl⟩
 have hRa:((l.flatMap AY).take (i*33)).toArray++Builtin.zeroCells zK.cells (l.length+1-i)++Builtin.zeroCells zK.cells (G-(l.length+1))=R.toArray:=by
  rw[hR]
  apply Array.ext'
  simp
 rw[hRa] at hrz
 have hzl:∀k,(Builtin.zeroCells zK.cells k).toList.length=k*33:=fun k=>by simp[Builtin.zeroCells,AEU]
 have hRl:R.length=G*33:=by rw[hR,List.length_append,List.length_append,hzl,hzl,List.length_take,Ff];omega
 have hRt:R.take (i*33)=(l.flatMap AY).take (i*33):=by rw[hR,List.append_assoc,List.take_left' (by rw[List.length_take,Ff];omega)]
 have hgw:g<w.heap.size:=(Array.getElem?_eq_some_iff.1 hb).1
 have hVw:V<w.heap.size:=(Array.getElem?_eq_some_iff.1 hv).1
 have gW:=AA (CP w) (World.grownBy_alloc w.drew (.cells R.toArray 58) none)
 have hbN:(w.drew.alloc (.cells R.toArray 58)).heap[w.heap.size]?=some (.cells R.toArray 58 (0,0)):=Ag rfl
 have hvW:=AF gW hv (by simp)
 have hbW:=AF gW hb (by simp)
 generalize w.drew.alloc (.cells R.toArray 58)=W1 at *
 obtain⟨w2,hr2,hg2,hb2⟩:=UF (P:=Tryz.prog) W1 34 34 3 58 33 w.heap.size (i*33) (l.length+1-i) (G-i) ⟨V,0,none⟩ 1 1 (AY x) R Tryz.underlying34 (by kernel_rfl)
  (by rw[hX4,show Nat.min 1 (l.length+1-i)=1 by simp[Nat.min_def];omega])
  (fun j v hj=>by rw[Addr.add_lit,Nat.zero_add,JB hvW];exact hj) hbN (by rw[hX4,hRl];omega) (Ie x)
 have hb2g:=AF hg2 hbW (by simp;omega)
 obtain⟨w3,hr3,hg3,hb3⟩:=UF (P:=Tryz.prog) w2.drew 34 34 3 58 33 w.heap.size ((i+1)*33) (l.length-i) (G-(i+1)) ⟨g,i*33,none⟩ (l.length-i) (l.length-i) ((l.flatMap AY).drop (i*33)) _ Tryz.underlying34 (by kernel_rfl)
  (by rw[hYl,show Nat.min (l.length-i) (l.length-i)=l.length-i by simp[Nat.min_def]])
  (fun j v hj=>by
   rw[Addr.add_lit]
   have h3:w2.cell? ⟨g,i*33+j,none⟩=some v:=by
    have hjl:=(List.getElem?_eq_some_iff.1 hj).1
    rw[hYl] at hjl
    rw[List.getElem?_drop,←hCt,List.getElem?_take,if_pos (by omega)] at hj
    rw[JB hb2g,hj]
   exact h3) hb2 (by simp only[List.length_append,List.length_take,List.length_drop,hX4,hYl,hRl];omega) (fun v hv=>AEW l v (List.mem_of_mem_drop hv))
 have e1:Nat.min (l.length-i) (l.length-i)=l.length-i:=by simp[Nat.min_def]
 have e2:Nat.min 1 (l.length+1-i)=1:=by simp[Nat.min_def];omega
 rw[e1] at hr3
 rw[e2] at hr2
 have ho:Own w3 58 33 (.slice (some ⟨w.heap.size,0,none⟩) (l.length+1) G) (l.length+1) ((l.take i++x::l.drop i).flatMap AY):=by
  refine Own.mk' hb3 hGge hGle (by simp only[List.length_append,List.length_take,List.length_drop,hX4,hYl,hRl];omega) ?_
  rw[ACW l x i (by omega),←hRt]
  have ht:=AIc R (AY x) ((l.flatMap AY).drop (i*33)) (i*33) (by rw[hX4,hYl,hRl];omega)
  rw[hX4,hYl,show i*33+33+(l.length-i)*33=(l.length+1)*33 by omega] at ht
  rw[hX4,hYl,show(i+1)*33=i*33+33 by omega,show i*33+33+(l.length-i)*33=(l.length+1)*33 by omega]
  exact ht
 have hkk:(((l.length+1-i:Nat):Nat):Int)=(l.length:Int)+1-(i:Int):=by omega
 rw[hkk] at hrz
 have HRZ:=AG hrz
 have HR2:=AG hr2
 have HR3:=AG hr3
 have O3:=AG ho
 have G3:=AG (AD (AD gW hg2 (Nat.le_refl _)) (show w2.grownBy w3 (some w.heap.size) from⟨hg3.os,hg3.tape,hg3.output,hg3.size,hg3.block⟩) (Nat.le_refl _))
 have z1:(0:Int)≤(i:Int):=by omega
 have z2:(i:Int)≤(l.length:Int):=by omega
 have z3:¬((i:Int)=(l.length:Int)):=by omega
 have z4:(l.length:Int)<(l.length:Int)+1:=by omega
 have z5:¬(l.length=i):=by omega
 have z6:¬(G=i+1):=by omega
 have z7:¬(G=i):=by omega
 have z8:(i:Int)+1≤(l.length:Int)+1:=by omega
 have z9:l.length+1-(i+1)=l.length-i:=by omega
 have y2:(i:Int)≤(l.length:Int)+1:=by omega
 have y4:((i:Int)+1).toNat=i+1:=by omega
 have y5:(0:Int)≤(i:Int)+1:=by omega
 have y6:(0:Int)≤(l.length:Int)+1:=by omega
 have y7:IntKind.i64.wrap ((i:Int)+1)=(i:Int)+1:=by rw[IntKind.wrap_i64];omega
 clear hown hv hb hCl hCt hX4 hYl hi0 hz0 hzs hzb hold hrz hGge hGle hG hR hRa hzl hRl hRt gW hbN hvW hbW hr2 hg2 hb2 hb2g hr3 hg3 hb3 e1 e2 ho hkk hroom hnc hcm
 go_enter Tryz.func83,Tryz.ntmps83
 go_wp2_with (first|(at_builtin;refine LV rfl (.tmp 34) (.tmp 39) 34 3 rfl _ _ rfl rfl HRZ.out ?_)|(refine NE rfl (.tmp 43) (.tmp 44) 34 34 rfl _ _ rfl rfl HR2.out ?_)|fail)
 go_region_law (first|(refine ZN rfl (.tmp 50) (.tmp 53) 34 34 rfl _ _ (by simp[Act.eval,Act.put]) (by simp[Act.eval,Act.put]) HR3.out ?_)|fail)
 all_goals
  go_wp2
  go_ret
  exact⟨_,rfl,O3.out,G3.out,fun k hk=>by simp[Bi,Value.ownBlock] at hk;omega⟩
theorem Xc (l:List VK) (x:VK) (i g V:Nat) (w:World) (hown:Own w 58 33 (.slice (some ⟨g,0,none⟩) l.length l.length) l.length (l.flatMap AY)) (hv:w.heap[V]?=some (.cells (AY x).toArray 58 (0,0))) (hi:i≤l.length) (hn:l.length≤1000000) :
   Calls Tryz.prog 83 #[.slice (some ⟨g,0,none⟩) l.length l.length,.int .i64 i,.slice (some ⟨V,0,none⟩) 1 1] w fun e w'=>∃v',e=.returned v'∧Own w' 58 33 v' (l.length+1) ((l.take i++x::l.drop i).flatMap AY)∧w.grownBy w' none∧∀k,Bi v' k→w.heap.size≤k:=by
 by_cases hil:i<l.length
 · exact Of l x i g l.length V w hown hv hil (by omega) hn
 · obtain rfl:i=l.length:=by omega
   rw[List.take_length,List.drop_length]
   exact Pi l x g V w hown hv hn
theorem Own.rdk {w:World} {ao:Option Addr} {n cap:Nat} {ks:List VK} {e:TypeId} (h:Own w e 33 (.slice ao n cap) n (ks.flatMap AY)):n=ks.length:=AIP (Sl.of_own h) C6 (by decide)
end Go.Proofs.YtbfjfnbcmojpiaaGreat
namespace Go.Proofs.YtbfjfnbcmojpiaaGreat
open Go.RowKit Go.Shelf
def kd (n:Nat) (k:List Nat):List Nat:=NH (BitVec.ofNat 64 n) k []
theorem Bb (n:Nat) (k:List Nat):Dg (kd n k):=⟨Gs _ _,OB _ _⟩
theorem NX {n:Nat} (hn:n<1000) {c:Int} (hc:c=(n:Int)) {k:List Nat} (hk:Dg k) (w:World):Calls Tryz.prog 66 #[.int .u64 c,AR k,.slice none 0 0] w fun e w'=>e=.returned (AR (kd n k))∧w.grownBy w' none:=by
 have e:c=wi (BitVec.ofNat 64 n):=by rw[hc,←OA,IntKind.wrap_u64];omega
 rw[e]
 exact Mo (BitVec.ofNat 64 n) k [] hk.1 hk.2 (by simp) (by simp) _ w (Sl.nil w 1)
theorem LY {n:Nat} (hn:n<1000) {c:Int} (hc:c=(n:Int)) {k:List Nat} (hk:Dg k) (w:World):Calls Tryz.prog 35 #[.int .u64 c,AR k,.slice none 0 0] w fun e w'=>e=.returned (AR (kd n k))∧w.grownBy w' none:=by
 have e:c=wi (BitVec.ofNat 64 n):=by rw[hc,←OA,IntKind.wrap_u64];omega
 rw[e]
 exact PD (BitVec.ofNat 64 n) k [] hk.1 hk.2 (by simp) (by simp) _ w (Sl.nil w 1)
theorem bV0 (w:World):(Instr.build 36 #[]).run Tryz.prog w=.ok (Ao AS AS (.slice none 0 0)) w:=by kernel_rfl
theorem bV2 {sa po:List Nat} (hs:Dg sa) (hp:Dg po) (w:World):(Instr.build 36 #[(0,AR sa),(1,AR po)]).run Tryz.prog w=.ok (Ao sa po (.slice none 0 0)) w:=by
 obtain⟨x0,x1,x2,x3,x4,x5,x6,x7,x8,x9,x10,x11,x12,x13,x14,x15,x16,x17,x18,x19,x20,x21,x22,x23,x24,x25,x26,x27,x28,x29,x30,x31,rfl⟩:=IW _ hs.1
 obtain⟨y0,y1,y2,y3,y4,y5,y6,y7,y8,y9,y10,y11,y12,y13,y14,y15,y16,y17,y18,y19,y20,y21,y22,y23,y24,y25,y26,y27,y28,y29,y30,y31,rfl⟩:=IW _ hp.1
 kernel_rfl
theorem bV3 {sa po:List Nat} (hs:Dg sa) (hp:Dg po) (ao:Option Addr) (n cap:Nat) (w:World):(Instr.build 36 #[(0,AR sa),(1,AR po),(2,.slice ao n cap)]).run Tryz.prog w=.ok (Ao sa po (.slice ao n cap)) w:=by
 obtain⟨x0,x1,x2,x3,x4,x5,x6,x7,x8,x9,x10,x11,x12,x13,x14,x15,x16,x17,x18,x19,x20,x21,x22,x23,x24,x25,x26,x27,x28,x29,x30,x31,rfl⟩:=IW _ hs.1
 obtain⟨y0,y1,y2,y3,y4,y5,y6,y7,y8,y9,y10,y11,y12,y13,y14,y15,y16,y17,y18,y19,y20,y21,y22,y23,y24,y25,y26,y27,y28,y29,y30,y31,rfl⟩:=IW _ hp.1
 kernel_rfl
theorem AKz {o:List Nat} (ho:Dg o) (ao:Option Addr) (n cap:Nat) (w:World):(Instr.build 58 #[(0,AR o),(1,.agg #[.slice ao n cap])]).run Tryz.prog w=.ok (.agg ([bv o,[.slice ao n cap]].flatten).toArray) w:=by
 obtain⟨x0,x1,x2,x3,x4,x5,x6,x7,x8,x9,x10,x11,x12,x13,x14,x15,x16,x17,x18,x19,x20,x21,x22,x23,x24,x25,x26,x27,x28,x29,x30,x31,rfl⟩:=IW _ ho.1
 kernel_rfl
theorem bK2 {k:VK} (w:World):(Instr.build 58 #[(0,AR k.o),(1,.agg #[k.s])]).run Tryz.prog w=.ok (Hp k) w:=AKz k.ho k.ao k.l.length k.cap w
theorem AKy (ao:Option Addr) (n cap:Nat) (w:World):(Instr.build 56 #[(0,.slice ao n cap)]).run Tryz.prog w=.ok (.agg #[.slice ao n cap]) w:=by kernel_rfl
theorem Jt {a:Int} {b:Bool} (h:Bn a=b) (w:World):Calls Tryz.prog 75 #[.int .i64 a] w fun e w'=>e=.returned (.bool b)∧w.grownBy w' none:=(IX a w).mono fun e w' ⟨h1,h2⟩=>⟨h▸h1,h2▸World.grownBy.refl _ _⟩
theorem F8 {w:World} {ks:List VK} {ao:Option Addr} {cap:Nat} {sa po:List Nat} (hsa:Dg sa) (hpo:Dg po) (hr:RdK w (.slice ao ks.length cap) ks) {b:Bool} (hb:CI (ks.map VK.p)=b):Calls Tryz.prog 51 #[Ao sa po (.slice ao ks.length cap)] w fun e w'=>e=.returned (.bool b)∧w.grownBy w' none:=hb▸XV ks ao cap sa po hsa hpo w hr
theorem UH {w:World} {ks:List VK} {ao:Option Addr} {cap:Nat} {sa po:List Nat} (hsa:Dg sa) (hpo:Dg po) (hr:RdK w (.slice ao ks.length cap) ks) {b:Bool} (hb:CI (ks.map VK.p)=b):Calls Tryz.prog 40 #[Ao sa po (.slice ao ks.length cap)] w fun e w'=>e=.returned (.bool b)∧w.grownBy w' none:=hb▸Uv ks ao cap sa po hsa hpo w hr
theorem M1 {w:World} {ks:List VK} {ao:Option Addr} {cap:Nat} {sa po o:List Nat} (hsa:Dg sa) (hpo:Dg po) (ho:Dg o) (hr:RdK w (.slice ao ks.length cap) ks) (hv:CI (ks.map VK.p)=true) {b:Bool} (hb:Gx (ks.map VK.p) o=b) {i:Nat} (hi:pos (ks.map VK.p) o=i):Calls Tryz.prog 71 #[Ao sa po (.slice ao ks.length cap),AR o] w fun e w'=>e=.returned (.tuple #[.int .i64 (i:Int),.bool b])∧w.grownBy w' none:=
 hb▸hi▸ACS ks ao cap sa po hsa hpo o ho w hr (Srt.of hv) (by have:=(Dq.1 hv).1;simpa using this)
theorem AJs {w:World} {ks:List VK} {ao:Option Addr} {cap:Nat} {sa po o:List Nat} (hsa:Dg sa) (hpo:Dg po) (ho:Dg o) (hr:RdK w (.slice ao ks.length cap) ks) (hv:CI (ks.map VK.p)=true) {c:Int} (hc:atV (ks.map VK.p) o=c):Calls Tryz.prog 84 #[Ao sa po (.slice ao ks.length cap),AR o] w fun e w'=>e=.returned (.int .i64 c)∧w.grownBy w' none:=
 hc▸AGa ks ao cap sa po hsa hpo o ho w hr (Srt.of hv)
theorem AId {P:List VP} {o:List Nat} (h:Gx P o=true) {i:Nat} (hi:pos P o=i):atV P o=(i:Int):=by unfold atV;rw[h,hi];rfl
theorem AJt {P:List VP} {o:List Nat} (h:Gx P o=false):atV P o=-1:=by unfold atV;rw[h];rfl
theorem AK0 {x y:List Nat×Int} (h:x=y):Ending.returned (.tuple #[AR x.1,.int .i64 x.2])=Ending.returned (.tuple #[AR y.1,.int .i64 y.2]):=by rw[h]
theorem AEX {x:List Nat} {c:Int} {y:List Nat×Int} (h:y=(x,c)):Ending.returned (.tuple #[AR x,.int .i64 c])=Ending.returned (.tuple #[AR y.1,.int .i64 y.2]):=by rw[h]
theorem Xd {P:List VP} {o:List Nat} {a:Int} (h:Bn a=false∨CI P=false):Cb P o a=(AS,1):=by
 unfold Cb
 rcases h with h|h<;>simp[h]
theorem ACX {P:List VP} {o:List Nat} {a:Int} (h1:Bn a=true) (h2:CI P=true) (h3:Gx P o=false):Cb P o a=(AS,10):=by
 unfold Cb
 simp[h1,h2,h3]
theorem UI {P:List VP} {o:List Nat} {a:Int} (h1:Bn a=true) (h2:CI P=true) (h3:Gx P o=true) {i:Nat} (hi:pos P o=i) {l:List Nd} (hl:tr P i=l):Cb P o a=C4 l a:=by
 unfold Cb
 simp[h1,h2,h3,hi,hl]
theorem Zr {a:Int} (h:Bn a=true):0≤a∧a<17179869184:=by
 unfold Bn at h
 simpa using h
theorem ACY (k:List Nat) (hk:Dg k) (w:World) :
  Calls Tryz.prog 24 #[AR k] w fun e w'=>e=.returned (Ao (kd 273 k) (kd 274 k) (.slice none 0 0))∧w.grownBy w' none:=by
 refine Dn Tryz.func24 rfl Tryz.ntmps24 rfl fun a0 sv0=>?_
 have HG:=World.grownBy.refl w none
 replace sv0:Sv 8 [] [(0,AR k)] a0:=sv0
 refine ALl fun K1 k1=>?_
 refine ALk ?_
 refine Bm sv0 r6 (CB k hk.1) fun a2 w2 CO F7 g2 z2 Ac sv2=>?_
 replace HG:=AA HG g2
 refine Ax (T:=36) (Z:=([bv AS,bv AS,[.slice none 0 0]].flatten)) sv2 rfl rfl rfl (fun a w=>by kernel_rfl) fun a3 w3 Og JK g3 z3 CS sv3=>?_
 have KG:=B7 HG JK
 replace Ac:=AC g3 Ac
 refine AE ?_
 refine k1 _ _ ?_
 refine ALl fun K4 k4=>?_
 refine ALk ?_
 refine Ei sv3 rfl (dd:={ target:=.fn (.func 65) #[],args:=#[] }) rfl (by simp[execOp,resolve,Deferred.ofValue];try rfl) fun a5 sv5=>?_
 refine AE ?_
 refine k4 _ _ ?_
 refine ALl fun K6 k6=>?_
 refine DU (sv5.st w3) (by kernel_rfl) 5 [(3,Sp.is (AR k)),(4,Sp.is (AR ((kd 273 k)))),(5,Sp.is (AR k)),(6,Sp.is (AR ((kd 274 k)))),(7,Sp.is (Ao ((kd 273 k)) ((kd 274 k)) (.slice none 0 0)))] rfl (by kernel_rfl) (by kernel_rfl) (by kernel_rfl) [] (by kernel_rfl)
  ⟨yl r6 (CB k hk.1) Ac,Ad [.int .u64 273,AR k,.slice none 0 0] Tryz.func66 (by kernel_rfl) rq4 ⟨rfl,(oy rfl rfl),rfl,ALr⟩ (As fun W g=>NX (n:=273) (by decide) rfl hk W),yl r6 (CB k hk.1) Ac,Ad [.int .u64 274,AR k,.slice none 0 0] Tryz.func66 (by kernel_rfl) rq4 ⟨rfl,(oy rfl rfl),rfl,ALr⟩ (As fun W g=>NX (n:=274) (by decide) rfl hk W),BV (vs:=[AR ((kd 273 k)),AR ((kd 274 k))]) rfl rfl trivial ⟨(oy rfl rfl),(oy rfl rfl),ALr⟩ (fun _=>bV2 (Bb _ _) (Bb _ _) _) (fun _=>rfl),ALr⟩ trivial
  [] (by kernel_rfl) trivial ⟨.inl rfl,.inl rfl,.inl rfl,.inl rfl,.inl rfl,ALr⟩ (by kernel_rfl) fun a7 w7 g7 st7 nd7=>?_
 obtain⟨hn7,hd7,e7_3,e7_4,e7_5,e7_6,e7_7,e7_2,e7_1,e7_0,-⟩:=st7
 have sv7:Sv 8 [{ target:=.fn (.func 65) #[],args:=#[] }] [(2,_),(1,_),(0,_),(7,_)] a7:=⟨hn7,hd7,e7_2,e7_1,e7_0,e7_7,ALr⟩
 refine Ap sv7 r7 (BR (Bb _ _) (Bb _ _) (.slice none 0 0) rfl) (AC g7 CS) (by first|rfl|simp[AY,AI,AQ,(Bb _ _).1,(Bb _ _).1]) fun w8 g8 h8=>?_
 replace HG:=AD (AA (AA HG g3) g7) g8 KG
 replace CS:=h8
 refine AE ?_
 refine k6 _ _ ?_
 refine ALo ?_
 repeat refine AM ?_
 refine BK (fn:=Tryz.f24) sv7 (E4 (p:=2) Tryz.results24 sv7 rfl rfl (BR (Bb _ _) (Bb _ _) (.slice none 0 0) rfl) CS) (Bp Tryz.func65 (by kernel_rfl) rfl _ _) (Oe _) ?_
 exact⟨rfl,HG⟩
theorem Zs (k:List Nat) (hk:Dg k) (w:World) :
  Calls Tryz.prog 38 #[AR k] w fun e w'=>e=.returned (Ao (kd 273 k) (kd 274 k) (.slice none 0 0))∧w.grownBy w' none:=by
 refine Be Tryz.func38 rfl Tryz.ntmps38 rfl fun a0 sv0=>?_
 have HG:=World.grownBy.refl w none
 replace sv0:Sv 8 [] [(0,AR k)] a0:=sv0
 refine ALl fun K1 k1=>?_
 refine ALk ?_
 refine Bm sv0 r6 (CB k hk.1) fun a2 w2 CO F7 g2 z2 Ac sv2=>?_
 replace HG:=AA HG g2
 refine Ax (T:=36) (Z:=([bv AS,bv AS,[.slice none 0 0]].flatten)) sv2 rfl rfl rfl (fun a w=>by kernel_rfl) fun a3 w3 Og JK g3 z3 CS sv3=>?_
 have KG:=B7 HG JK
 replace Ac:=AC g3 Ac
 refine AE ?_
 refine k1 _ _ ?_
 refine ALl fun K4 k4=>?_
 refine DU (sv3.st w3) (by kernel_rfl) 5 [(3,Sp.is (AR k)),(4,Sp.is (AR ((kd 273 k)))),(5,Sp.is (AR k)),(6,Sp.is (AR ((kd 274 k)))),(7,Sp.is (Ao ((kd 273 k)) ((kd 274 k)) (.slice none 0 0)))] rfl (by kernel_rfl) (by kernel_rfl) (by kernel_rfl) [] (by kernel_rfl)
  ⟨yl r6 (CB k hk.1) Ac,Ad [.int .u64 273,AR k,.slice none 0 0] Tryz.func35 (by kernel_rfl) rq4 ⟨rfl,(oy rfl rfl),rfl,ALr⟩ (As fun W g=>LY (n:=273) (by decide) rfl hk W),yl r6 (CB k hk.1) Ac,Ad [.int .u64 274,AR k,.slice none 0 0] Tryz.func35 (by kernel_rfl) rq4 ⟨rfl,(oy rfl rfl),rfl,ALr⟩ (As fun W g=>LY (n:=274) (by decide) rfl hk W),BV (vs:=[AR ((kd 273 k)),AR ((kd 274 k))]) rfl rfl trivial ⟨(oy rfl rfl),(oy rfl rfl),ALr⟩ (fun _=>bV2 (Bb _ _) (Bb _ _) _) (fun _=>rfl),ALr⟩ trivial
  [] (by kernel_rfl) trivial ⟨.inl rfl,.inl rfl,.inl rfl,.inl rfl,.inl rfl,ALr⟩ (by kernel_rfl) fun a5 w5 g5 st5 nd5=>?_
 obtain⟨hn5,hd5,e5_3,e5_4,e5_5,e5_6,e5_7,e5_2,e5_1,e5_0,-⟩:=st5
 have sv5:Sv 8 [] [(2,_),(1,_),(0,_),(7,_)] a5:=⟨hn5,hd5,e5_2,e5_1,e5_0,e5_7,ALr⟩
 refine Ap sv5 r7 (BR (Bb _ _) (Bb _ _) (.slice none 0 0) rfl) (AC g5 CS) (by first|rfl|simp[AY,AI,AQ,(Bb _ _).1,(Bb _ _).1]) fun w6 g6 h6=>?_
 replace HG:=AD (AA (AA HG g3) g5) g6 KG
 replace CS:=h6
 refine AE ?_
 refine k4 _ _ ?_
 refine ALo ?_
 repeat refine AM ?_
 refine BQ (fn:=Tryz.f38) sv5 (E4 (p:=2) Tryz.results38 sv5 rfl rfl (BR (Bb _ _) (Bb _ _) (.slice none 0 0) rfl) CS) ?_
 exact⟨rfl,HG⟩
theorem AEY (ks:List VK) (ao:Option Addr) (cap:Nat) (sa po:List Nat) (hsa:Dg sa) (hpo:Dg po) (o:List Nat) (ho:Dg o) (a:Int) (w:World) (hr:RdK w (.slice ao ks.length cap) ks) :
   Calls Tryz.prog 32 #[Ao sa po (.slice ao ks.length cap),AR o,.int .i64 a] w fun e w'=>e=.returned (.tuple #[AR (Cb (ks.map VK.p) o a).1,.int .i64 (Cb (ks.map VK.p) o a).2])∧w.grownBy w' none:=by
 refine Dn Tryz.func32 rfl Tryz.ntmps32 rfl fun a0 sv0=>?_
 have HG:=World.grownBy.refl w none
 replace sv0:Sv 39 [] [(0,Ao sa po (.slice ao ks.length cap)),(1,AR o),(2,.int .i64 a)] a0:=sv0
 refine ALl fun K1 k1=>?_
 refine ALk ?_
 refine Bm sv0 r6 (BR hsa hpo (.slice ao ks.length cap) rfl) fun a2 w2 Hh JL g2 z2 AZ sv2=>?_
 refine Bm sv2 r6 (CB o ho.1) fun a3 w3 II QL g3 z3 Am sv3=>?_
 replace AZ:=AC g3 AZ
 replace hr:=(hr.kn g2).kn g3
 replace HG:=AA (AA HG g2) g3
 refine Ax (T:=23) (Z:=(bv AS)) sv3 rfl rfl rfl (fun a w=>by kernel_rfl) fun a4 w4 Pj IJ g4 z4 Bj sv4=>?_
 have Dr:=Au AZ IJ
 have EV:=Au Am IJ
 have Gz:=B7 HG IJ
 have E6:=A2 (hr.lt) IJ
 replace AZ:=AC g4 AZ
 replace Am:=AC g4 Am
 replace hr:=hr.kn g4
 replace HG:=AA HG g4
 refine Ax (T:=38) (Z:=[.int .i64 0]) sv4 rfl rfl rfl (fun a w=>by kernel_rfl) fun a5 w5 NY F9 g5 z5 BM sv5=>?_
 have DW:=Au AZ F9
 have Ds:=Au Am F9
 have Bf:=Au Bj F9
 have GC:=B7 HG F9
 have EW:=A2 (hr.lt) F9
 replace AZ:=AC g5 AZ
 replace Am:=AC g5 Am
 replace Bj:=AC g5 Bj
 replace hr:=hr.kn g5
 replace HG:=AA HG g5
 refine AE ?_
 refine k1 _ _ ?_
 refine ALl fun K6 k6=>?_
 refine ALk ?_
 refine E2 sv5 rfl rfl rfl rfl rfl rfl fun a7 sv7=>?_
 refine Ei sv7 rfl (dd:={ target:=.fn (.func 77) #[pt Pj,pt NY],args:=#[] }) rfl (by have e1:=sv7.ev (x:=.tmp 10) rfl rfl;simp[execOp,resolve,Deferred.ofValue,e1];try rfl) fun a8 sv8=>?_
 refine AE ?_
 refine k6 _ _ ?_
 refine ALl fun K9 k9=>?_
 refine ALl fun K10 k10=>?_
 rcases(show Bn a=false∨(Bn a=true∧CI (ks.map VK.p)=false)∨(Bn a=true∧CI (ks.map VK.p)=true) by cases Bn a<;>cases CI (ks.map VK.p)<;>simp) with ha|⟨ha,hv⟩|⟨ha,hv⟩
 · refine ALk ?_
   refine AK sv8 8 [(11,.int .i64 a),(12,.bool false),(13,.bool true),(14,.bool true),(15,undef),(16,undef),(17,undef),(18,.bool true)]
     ⟨ym r5,Ad [.int .i64 a] Tryz.func75 (by kernel_rfl) rq4 ⟨(oy rfl rfl),ALr⟩ (As fun W g=>Jt ha W),Cu r6 (fun _=>Bc),ym r5,Ab r6,Ab r6,Ab r6,CK r7,ALr⟩ fun a11 w11 g11 CY=>?_
   refine AE ?_
   refine k10 _ _ ?_
   refine Ar CY rfl rfl ?_
   refine ALl fun K12 k12=>?_
   refine ALk ?_
   replace Bj:=AC g11 Bj
   refine AK CY 1 [(19,AR AS)]
     ⟨BV (vs:=[]) rfl rfl trivial trivial (fun _=>bD0 _) (fun _=>rfl),ALr⟩ fun a13 w13 g13 Dh=>?_
   refine Ap Dh r7 (CB AS AN.1) (AC g13 Bj) (Hq AN) fun w14 g14 h14=>?_
   replace BM:=Ah g13 g14 (AC g11 BM) Bf
   refine Ap Dh r7 (Dy 1) BM rfl fun w15 g15 h15=>?_
   replace AZ:=AX g15 (Ah g13 g14 (AC g11 AZ) (Ne.symm Dr)) (Ne.symm DW)
   replace Am:=AX g15 (Ah g13 g14 (AC g11 Am) (Ne.symm EV)) (Ne.symm Ds)
   replace Bj:=AX g15 h14 (Ne.symm Bf)
   replace hr:=(((hr.kn g11).kn g13).offR g14 (AU E6)).offR g15 (AU EW)
   replace HG:=AD (AD (AA (AA HG g11) g13) g14 Gz) g15 GC
   replace BM:=h15
   refine AE ?_
   refine k12 _ _ ?_
   refine ALo ?_
   repeat refine AM ?_
   refine BK (fn:=Tryz.f32) Dh (BU (p:=6) (q:=7) Tryz.results32 Dh rfl rfl rfl rfl (CB AS AN.1) (Dy 1) Bj BM) (Bp Tryz.func77 (by kernel_rfl) rfl _ _) (JH _ _ _) ?_
   exact⟨AEX (Xd (.inl ha)),HG⟩
 · refine ALk ?_
   refine AK sv8 8 [(11,.int .i64 a),(12,.bool true),(13,.bool false),(14,.bool false),(15,Ao sa po (.slice ao ks.length cap)),(16,.bool false),(17,.bool true),(18,.bool true)]
     ⟨ym r5,Ad [.int .i64 a] Tryz.func75 (by kernel_rfl) rq4 ⟨(oy rfl rfl),ALr⟩ (As fun W g=>Jt ha W),Cu r6 (fun _=>Bc),ym r5,A9 rq9 (fun _ g=>Ae (BR hsa hpo (.slice ao ks.length cap) rfl) (Ai (AF g AZ (by simp)))),CL [Ao sa po (.slice ao ks.length cap)] Tryz.func51 (by kernel_rfl) r7 ⟨(oy rfl rfl),ALr⟩ (As fun W g=>F8 hsa hpo (hr.kn g) hv),Ib rfl rfl (gy rfl rfl rfl) (oy rfl rfl) (fun _=>Bc) (fun _=>rfl),BC rq9,ALr⟩ fun a16 w16 g16 Cp=>?_
   refine AE ?_
   refine k10 _ _ ?_
   refine Ar Cp rfl rfl ?_
   refine ALl fun K17 k17=>?_
   refine ALk ?_
   replace Bj:=AC g16 Bj
   refine AK Cp 1 [(19,AR AS)]
     ⟨BV (vs:=[]) rfl rfl trivial trivial (fun _=>bD0 _) (fun _=>rfl),ALr⟩ fun a18 w18 g18 Ca=>?_
   refine Ap Ca r7 (CB AS AN.1) (AC g18 Bj) (Hq AN) fun w19 g19 h19=>?_
   replace BM:=Ah g18 g19 (AC g16 BM) Bf
   refine Ap Ca r7 (Dy 1) BM rfl fun w20 g20 h20=>?_
   replace AZ:=AX g20 (Ah g18 g19 (AC g16 AZ) (Ne.symm Dr)) (Ne.symm DW)
   replace Am:=AX g20 (Ah g18 g19 (AC g16 Am) (Ne.symm EV)) (Ne.symm Ds)
   replace Bj:=AX g20 h19 (Ne.symm Bf)
   replace hr:=(((hr.kn g16).kn g18).offR g19 (AU E6)).offR g20 (AU EW)
   replace HG:=AD (AD (AA (AA HG g16) g18) g19 Gz) g20 GC
   replace BM:=h20
   refine AE ?_
   refine k17 _ _ ?_
   refine ALo ?_
   repeat refine AM ?_
   refine BK (fn:=Tryz.f32) Ca (BU (p:=6) (q:=7) Tryz.results32 Ca rfl rfl rfl rfl (CB AS AN.1) (Dy 1) Bj BM) (Bp Tryz.func77 (by kernel_rfl) rfl _ _) (JH _ _ _) ?_
   exact⟨AEX (Xd (.inr hv)),HG⟩
 · obtain⟨i,hi⟩:∃i,pos (ks.map VK.p) o=i:=⟨_,rfl⟩
   have h64:ks.length≤64:=by have:=(Dq.1 hv).1;simpa using this
   refine ALk ?_
   refine AK sv8 8 [(11,.int .i64 a),(12,.bool true),(13,.bool false),(14,.bool false),(15,Ao sa po (.slice ao ks.length cap)),(16,.bool true),(17,.bool false),(18,.bool false)]
     ⟨ym r5,Ad [.int .i64 a] Tryz.func75 (by kernel_rfl) rq4 ⟨(oy rfl rfl),ALr⟩ (As fun W g=>Jt ha W),Cu r6 (fun _=>Bc),ym r5,A9 rq9 (fun _ g=>Ae (BR hsa hpo (.slice ao ks.length cap) rfl) (Ai (AF g AZ (by simp)))),CL [Ao sa po (.slice ao ks.length cap)] Tryz.func51 (by kernel_rfl) r7 ⟨(oy rfl rfl),ALr⟩ (As fun W g=>F8 hsa hpo (hr.kn g) hv),Ib rfl rfl (gy rfl rfl rfl) (oy rfl rfl) (fun _=>Bc) (fun _=>rfl),BC rq9,ALr⟩ fun a21 w21 g21 Db=>?_
   refine AE ?_
   refine k10 _ _ ?_
   refine Av Db rfl rfl ?_
   refine ALp ?_
   refine k9 _ _ ?_
   refine ALl fun K22 k22=>?_
   replace AZ:=AC g21 AZ
   replace Am:=AC g21 Am
   replace Bj:=AC g21 Bj
   replace BM:=AC g21 BM
   replace hr:=hr.kn g21
   replace HG:=AA HG g21
   cases hf:Gx (ks.map VK.p) o
   · refine ALk ?_
     refine AK Db 6 [(21,Ao sa po (.slice ao ks.length cap)),(22,AR o),(23,.tuple #[.int .i64 ((i:Int)),.bool false]),(20,.tuple #[.int .i64 ((i:Int)),.bool false]),(24,.int .i64 ((i:Int))),(25,.bool false)]
      ⟨yl r6 (BR hsa hpo (.slice ao ks.length cap) rfl) AZ,yl r6 (CB o ho.1) Am,Ad [Ao sa po (.slice ao ks.length cap),AR o] Tryz.func71 (by kernel_rfl) rq4 ⟨(oy rfl rfl),(oy rfl rfl),ALr⟩ (As fun W g=>M1 hsa hpo ho (hr.kn g) hv hf hi),ym r5,BE rq4 (fun _ _ h=>⟨_,_,h,rfl,rfl⟩),BE rq4 (fun _ _ h=>⟨_,_,h,rfl,rfl⟩),ALr⟩ fun a23 w23 g23 Cy=>?_
     refine Aa (v:=.int .i64 ((i:Int))) Cy r6 fun a24 Cn=>?_
     refine Aa (v:=.bool false) Cn r6 fun a25 DM=>?_
     have Co:Sv _ _ [_,_,_,_,_,_,_,_,_,_,_,_,_,_,_,_,_] _:=DM.dl [21,22,23,20,24,25,4]
     refine AE ?_
     refine k22 _ _ ?_
     refine ALl fun K27 k27=>?_
     refine ALl fun K28 k28=>?_
     refine ALk ?_
     refine AK Co 2 [(26,.bool false),(27,.bool true)]
      ⟨ym r5,Cu r6 (fun _=>Bc),ALr⟩ fun a29 w29 g29 Cc=>?_
     have Gk:=AA g23 g29
     refine AE ?_
     refine k28 _ _ ?_
     refine Ar Cc rfl rfl ?_
     refine ALl fun K30 k30=>?_
     refine ALk ?_
     replace Bj:=AC Gk Bj
     refine AK Cc 1 [(28,AR AS)]
      ⟨BV (vs:=[]) rfl rfl trivial trivial (fun _=>bD0 _) (fun _=>rfl),ALr⟩ fun a31 w31 g31 GO=>?_
     refine Ap GO r7 (CB AS AN.1) (AC g31 Bj) (Hq AN) fun w32 g32 h32=>?_
     replace BM:=Ah g31 g32 (AC Gk BM) Bf
     refine Ap GO r7 (Dy 10) BM rfl fun w33 g33 h33=>?_
     replace AZ:=AX g33 (Ah g31 g32 (AC Gk AZ) (Ne.symm Dr)) (Ne.symm DW)
     replace Am:=AX g33 (Ah g31 g32 (AC Gk Am) (Ne.symm EV)) (Ne.symm Ds)
     replace Bj:=AX g33 h32 (Ne.symm Bf)
     replace hr:=(((hr.kn Gk).kn g31).offR g32 (AU E6)).offR g33 (AU EW)
     replace HG:=AD (AD (AA (AA HG Gk) g31) g32 Gz) g33 GC
     replace BM:=h33
     refine AE ?_
     refine k30 _ _ ?_
     refine ALo ?_
     repeat refine AM ?_
     refine BK (fn:=Tryz.f32) GO (BU (p:=6) (q:=7) Tryz.results32 GO rfl rfl rfl rfl (CB AS AN.1) (Dy 10) Bj BM) (Bp Tryz.func77 (by kernel_rfl) rfl _ _) (JH _ _ _) ?_
     exact⟨AEX (ACX ha hv hf),HG⟩
   · have hil:i<ks.length:=by have:=(Ia hf).1;rw[hi] at this;simpa using this
     obtain⟨x,hx_x⟩:∃x,ks[i]'hil=x:=⟨_,rfl⟩
     have htr:tr (ks.map VK.p) i=x.l:=by rw[RB hil,hx_x]
     refine ALk ?_
     refine AK Db 6 [(21,Ao sa po (.slice ao ks.length cap)),(22,AR o),(23,.tuple #[.int .i64 ((i:Int)),.bool true]),(20,.tuple #[.int .i64 ((i:Int)),.bool true]),(24,.int .i64 ((i:Int))),(25,.bool true)]
      ⟨yl r6 (BR hsa hpo (.slice ao ks.length cap) rfl) AZ,yl r6 (CB o ho.1) Am,Ad [Ao sa po (.slice ao ks.length cap),AR o] Tryz.func71 (by kernel_rfl) rq4 ⟨(oy rfl rfl),(oy rfl rfl),ALr⟩ (As fun W g=>M1 hsa hpo ho (hr.kn g) hv hf hi),ym r5,BE rq4 (fun _ _ h=>⟨_,_,h,rfl,rfl⟩),BE rq4 (fun _ _ h=>⟨_,_,h,rfl,rfl⟩),ALr⟩ fun a34 w34 g34 Kv=>?_
     refine Aa (v:=.int .i64 ((i:Int))) Kv r6 fun a35 Jr=>?_
     refine Aa (v:=.bool true) Jr r6 fun a36 FS=>?_
     have IG:Sv _ _ [_,_,_,_,_,_,_,_,_,_,_,_,_,_,_,_,_] _:=FS.dl [21,22,23,20,24,25,4]
     refine AE ?_
     refine k22 _ _ ?_
     refine ALl fun K38 k38=>?_
     refine ALl fun K39 k39=>?_
     refine ALk ?_
     refine AK IG 2 [(26,.bool true),(27,.bool false)]
      ⟨ym r5,Cu r6 (fun _=>Bc),ALr⟩ fun a40 w40 g40 I3=>?_
     have Ja:=AA g34 g40
     refine AE ?_
     refine k39 _ _ ?_
     refine Av I3 rfl rfl ?_
     refine ALp ?_
     refine k38 _ _ ?_
     refine ALl fun K41 k41=>?_
     refine ALk ?_
     replace AZ:=AC Ja AZ
     replace Bj:=AC Ja Bj
     replace hr:=hr.kn Ja
     refine AK I3 10 [(29,pk Hh 64),(30,.slice ao ks.length cap),(31,.int .i64 ((i:Int))),(32,pk ((bO ao)) (oO ao+i*33)),(33,pk ((bO ao)) (oO ao+i*33+32)),(34,.agg #[VK.s x]),(35,.int .i64 a),(36,.tuple #[AR ((C4 x.l a).1),.int .i64 ((C4 x.l a).2)]),(37,AR ((C4 x.l a).1)),(38,.int .i64 ((C4 x.l a).2))]
      ⟨yf r6 (fun _=>by kernel_rfl),yp (i:=2) r6 (EC (.slice ao ks.length cap) rfl) AZ rfl (by simp[AI,AQ,hsa.1,hpo.1]),ym r5,BJ rq8 (fun w=>CW Tryz.underlying34 (by kernel_rfl) (hr.1.1) (by omega) (rfl) w),yf r6 (fun _=>by kernel_rfl),CD r6 (fun _ g=>Ae (Pc (VK.s x) rfl) (RdK.treeX (hr.kn g) rfl hil hx_x)),ym r5,Ad [.agg #[VK.s x],.int .i64 a] Tryz.func78 (by kernel_rfl) rq4 ⟨(oy rfl rfl),(oy rfl rfl),ALr⟩ (As fun W g=>AB7 rfl ((hr.kn g).kt hil hx_x)),BE rq4 (fun _ _ h=>⟨_,_,h,rfl,rfl⟩),BE rq4 (fun _ _ h=>⟨_,_,h,rfl,rfl⟩),ALr⟩ fun a42 w42 g42 GR=>?_
     refine Ap GR r7 (CB ((C4 x.l a).1) (L3 ((hr.kt hil hx_x).2.1) a).1) (AC g42 Bj) (Hq (L3 ((hr.kt hil hx_x).2.1) a)) fun w43 g43 h43=>?_
     replace BM:=Ah g42 g43 (AC Ja BM) Bf
     refine Ap GR r7 (Dy ((C4 x.l a).2)) BM rfl fun w44 g44 h44=>?_
     replace Bj:=AX g44 h43 (Ne.symm Bf)
     replace hr:=((hr.kn g42).offR g43 (AU E6)).offR g44 (AU EW)
     replace HG:=AD (AD (AA (AA HG Ja) g42) g43 Gz) g44 GC
     replace BM:=h44
     have FT:Sv _ _ [_,_,_,_,_,_,_,_,_,_,_,_,_,_,_,_,_,_] _:=GR.dl [29,30,31,32,33,34,35,36,37,38,8]
     refine AE ?_
     refine k41 _ _ ?_
     refine ALo ?_
     repeat refine AM ?_
     refine BK (fn:=Tryz.f32) FT (BU (p:=6) (q:=7) Tryz.results32 FT rfl rfl rfl rfl (CB ((C4 x.l a).1) (L3 ((hr.kt hil hx_x).2.1) a).1) (Dy ((C4 x.l a).2)) Bj BM) (Bp Tryz.func77 (by kernel_rfl) rfl _ _) (JH _ _ _) ?_
     exact⟨AK0 (UI ha hv hf hi htr).symm,HG⟩
end Go.Proofs.YtbfjfnbcmojpiaaGreat
namespace Go.Proofs.YtbfjfnbcmojpiaaGreat
open Go.RowKit
def Sp.made (B:Nat) (e:TypeId) (sz n:Nat) (xs:List Value):Sp:=⟨fun w v=>∃A,v=.slice (some ⟨A,0,none⟩) n n∧Own w e sz (.slice (some ⟨A,0,none⟩) n n) n xs∧B≤A,fun _ _ _ hg ⟨A,h1,h2,h3⟩=>⟨A,h1,h2.kn hg,h3⟩⟩
section
variable {P:Program} {ops:Array Oper} {L:Nat→Sp} {n:Nat} {w0:World} {o:Oper}
theorem Q2 {z:Value} {sz:Nat} (hz:z.cells.size=sz) (hp:0<sz) (m:Nat):(madeCells z.cells (m*sz)).toList=(List.replicate m ()).flatMap fun _=>z.cells.toList:=by
 refine List.ext_getElem? fun i=>?_
 have hl:((List.replicate m ()).flatMap fun _=>z.cells.toList).length=m*sz:=by rw[Hn (sz:=sz) (fun _=>by simpa using hz)];simp
 by_cases hi:i<m*sz
 · have h1:i/sz<m:=(Nat.div_lt_iff_lt_mul hp).2 hi
   have h2:i%sz<sz:=Nat.mod_lt _ hp
   have e1:(madeCells z.cells (m*sz)).toList[i]?=some z.cells[i%sz]!:=by rw[←hz] at hi ⊢;simp[madeCells,hi]
   have e2:((List.replicate m ()).flatMap fun _=>z.cells.toList)[i]?=some (z.cells[i%sz]'(by omega)):=by
    have hsp:=LO (c:=fun _=>z.cells.toList) (L:=List.replicate m ()) (j:=i/sz) (by simpa using h1)
    rw[hsp,List.getElem?_append_right (by rw[Hn (sz:=sz) (fun _=>by simpa using hz),List.length_take,List.length_replicate,Nat.min_eq_left (Nat.le_of_lt h1)];exact Nat.div_mul_le_self i sz),Hn (sz:=sz) (fun _=>by simpa using hz),List.length_take,List.length_replicate,Nat.min_eq_left (Nat.le_of_lt h1)]
    have e3:i-i/sz*sz=i%sz:=by have:=Nat.div_add_mod i sz;rw[Nat.mul_comm] at this;omega
    rw[e3,List.getElem?_append_left (by simpa [hz] using h2),Array.getElem?_toList,Array.getElem?_eq_getElem (by omega)]
   rw[e1,e2,getElem!_pos z.cells _ (by omega)]
 · rw[List.getElem?_eq_none (by simp[madeCells];omega),List.getElem?_eq_none (by omega)]
theorem AGS {t e:TypeId} {z:Value} {size bytes d B m:Nat} {x:Operand} {xs:List Value} (E:ET P t e z size bytes) (ho:o.op=.makeSlice t x x) (hd:o.dst=some d) (hg:GX ops L n o.guard) (hB:B≤w0.heap.size)
  (hx:OpX L n x (.int .i64 (m:Int))) (hm:m≤1000000) (hxs:xs=(List.replicate m ()).flatMap fun _=>z.cells.toList)
  (h:∀w v,(Sp.made B e size m xs).on w v→(L d).on w v):OX P ops L n w0 o:=by
 intro a w hw hl hs
 unfold OpSays
 rw[if_pos (hg.wanted hl hs)]
 have e1:=hx.eval (o:=o) (a:=a) (w:=w) (by simp[ho,Op.operands]) hl
 obtain⟨i,hi,hz,rfl,hby⟩:=E.inf
 have hb:=E.bnd
 have hbytes:(i.bytes:Int)*(m:Int)≤281474976710656:=by
  have h1:i.bytes*m≤128*1000000:=Nat.mul_le_mul (by omega) hm
  have h2:((i.bytes*m:Nat):Int)≤((128*1000000:Nat):Int):=by omega
  rw[Int.natCast_mul] at h2
  omega
 have hr:=run_make (P:=P) w t e i z E.und hi hz .i64 .i64 (m:Int) (m:Int) (by omega) (by omega) hbytes (by omega)
 have hrr:(execOp a.eval o).run P w=.ok (.value (.slice (some ⟨w.heap.size,0,none⟩) m m)) (w.alloc (.cells (madeCells z.cells (m*i.size)) e)):=by
  simp only[execOp,ho,e1,Sem.run_bind,Sem.run_pure,Result.andThen_ok,hr,Int.toNat_natCast]
 rw[hrr]
 refine⟨World.grownBy_alloc _ _ _,DH hd (h _ _ ⟨_,rfl,?_,Nat.le_trans hB hw.size⟩)⟩
 have hcl:(madeCells z.cells (m*i.size)).size=m*i.size:=size_madeCells _ _
 refine⟨by rw[hxs,←Q2 E.zsz E.pos,Array.length_toList,hcl],.inr ⟨w.heap.size,m,_,rfl,Nat.zero_le _,Ag rfl,Nat.le_refl _,by unfold maxLen;omega,hcl,?_⟩⟩
 rw[hxs,←Q2 E.zsz E.pos,List.take_of_length_le (by rw[Array.length_toList,hcl];exact Nat.le_refl _)]
theorem Ul {t e:TypeId} (ht:P.underlying t=some (.slice e)) {x y:Operand} {ao:Option Addr} {l c:Nat} {r:Bool} (hr:ao.isNone=r) {w:World}:(do eqGuard .eql t x y (.slice ao l c) (.slice none 0 0);binOp .eql t (.slice ao l c) (.slice none 0 0):Sem Value).run P w=.ok (.bool r) w:=by
 subst hr
 have:=run_eql_slice_nil (P:=P) w t e ao l c ht
 simp[eqGuard,this]
end
def Q7:VK:=⟨AS,AN,none,0,[]⟩
theorem AJm (m:Nat):((List.replicate m ()).flatMap fun _=>zK.cells.toList)=(List.replicate m Q7).flatMap AY:=by
 induction m with
 | zero=>rfl
 | succ m ih=>rw[List.replicate_succ,List.replicate_succ,List.flatMap_cons,List.flatMap_cons,ih];rfl
theorem KsR.rep (w:World) (m:Nat):KsR w (List.replicate m Q7):=fun k hk=>by
 obtain⟨_,rfl⟩:=List.mem_replicate.1 hk
 exact RdT.nil w
theorem LQ (m b:Nat):¬DI (List.replicate m Q7) b:=by
 rintro ⟨k,hk,h⟩
 obtain⟨_,rfl⟩:=List.mem_replicate.1 hk
 simp[NA,VK.s,Q7,Value.ownBlock] at h
theorem KsR.set {w:World} {ms:List VK} (h:KsR w ms) {x:VK} (hx:RdT w x.s x.l) (i:Nat):KsR w (ms.set i x):=fun k hk=>(List.mem_or_eq_of_mem_set hk).elim (h k) fun e=>e▸hx
theorem Eh {ms:List VK} {x:VK} {i b:Nat} (h:DI (ms.set i x) b):DI ms b∨NA x.s b:=by
 obtain⟨k,hk,hb⟩:=h
 exact(List.mem_or_eq_of_mem_set hk).elim (fun h=>.inl ⟨k,h,hb⟩) fun e=>.inr (e▸hb)
def KsT (w:World) (ms:List VK):Prop:=KsR w ms∧∀k,DI ms k→TagB w k
section
variable {w w':World} {ms:List VK}
theorem KsT.kn (h:KsT w ms) (g:w.grownBy w' none):KsT w' ms:=⟨h.1.kn g,fun k hk=>(h.2 k hk).keep g (by simp)⟩
theorem KsT.offR (h:KsT w ms) {row:Option Nat} (g:w.grownBy w' row) (hb:∀k,DI ms k→row≠some k):KsT w' ms:=⟨h.1.offR g hb,fun k hk=>(h.2 k hk).keep g (hb k hk)⟩
theorem KsT.lt (h:KsT w ms):∀k,DI ms k→k<w.heap.size:=h.1.lt
theorem KsT.rep (w:World) (m:Nat):KsT w (List.replicate m Q7):=⟨KsR.rep w m,fun k hk=>(LQ m k hk).elim⟩
theorem KsT.set (h:KsT w ms) {x:VK} (hx:RdTg w x.s x.l) (i:Nat):KsT w (ms.set i x):=⟨h.1.set hx.1 i,fun k hk=>(Eh hk).elim (h.2 k) (hx.2 k)⟩
end
def Sp.ck (B:Nat) (o:List Nat) (l:List Nd):Sp:=⟨fun w v=>∃x:VK,v=Hp x∧x.o=o∧x.l=l∧RdTg w x.s x.l∧∀k,NA x.s k→B≤k,fun _ _ _ hg ⟨x,h1,h2,h3,h4,h5⟩=>⟨x,h1,h2,h3,h4.kn hg,h5⟩⟩
section
variable {ops:Array Oper} {L:Nat→Sp} {n:Nat} {w0:World} {o:Oper}
theorem AJn {B:Nat} {l:List Nd} {w:World} {u:Value} (h:(Sp.cl B l).on w u):∃v,(Instr.build 56 #[(0,u)]).run Tryz.prog w=.ok v w∧(Sp.ct B l).on w v:=by
 obtain⟨ao,cap,rfl,h2,h3⟩:=h
 exact⟨_,AKy ao _ cap w,ao,cap,rfl,h2,h3⟩
theorem AEH {B:Nat} {l:List Nd} {x:List Nat} (hx:Dg x) {w:World} {u t:Value} (hu:u=AR x) (h:(Sp.ct B l).on w t):∃v,(Instr.build 58 #[(0,u),(1,t)]).run Tryz.prog w=.ok v w∧(Sp.ck B x l).on w v:=by
 obtain⟨ao,cap,rfl,h2,h3⟩:=h
 subst hu
 exact⟨_,bK2 (k:=⟨x,hx,ao,cap,l⟩) w,⟨x,hx,ao,cap,l⟩,rfl,rfl,rfl,h2,h3⟩
end
theorem AJo (x:VK) (w:World):(Instr.buildSlice 34 1 #[(0,Hp x)]).run Tryz.prog w=.ok (.slice (some ⟨w.heap.size,0,none⟩) 1 1) (w.alloc (.cells (AY x).toArray 58)):=by
 obtain⟨o,ho,ao,cap,l⟩:=x
 obtain⟨x0,x1,x2,x3,x4,x5,x6,x7,x8,x9,x10,x11,x12,x13,x14,x15,x16,x17,x18,x19,x20,x21,x22,x23,x24,x25,x26,x27,x28,x29,x30,x31,rfl⟩:=IW _ ho.1
 kernel_rfl
theorem AGT {ks ms:List VK} {i:Nat} {x y:VK} (hl:ms.length=ks.length) (hi:i<ks.length) (hx:ks[i]=x) (ho:y.o=x.o) (hll:y.l=x.l) (h:∀j,j<i→(ms.map VK.p)[j]?=(ks.map VK.p)[j]?):∀j,j<i+1→((ms.set i y).map VK.p)[j]?=(ks.map VK.p)[j]?:=by
 intro j hj
 rw[List.getElem?_map,List.getElem?_set]
 by_cases e:i=j
 · subst e
   rw[if_pos rfl,if_pos (by omega),List.getElem?_map,List.getElem?_eq_getElem hi,hx]
   simp[VK.p,ho,hll]
 · rw[if_neg e,←List.getElem?_map]
   exact h j (by omega)
theorem AIV {ks ms:List VK} {i:Nat} (hl:ms.length=ks.length) (hi:¬i<ks.length) (h:∀j,j<i→(ms.map VK.p)[j]?=(ks.map VK.p)[j]?):ms.map VK.p=ks.map VK.p:=by
 refine List.ext_getElem? fun j=>?_
 by_cases hj:j<ks.length
 · exact h j (by omega)
 · rw[List.getElem?_eq_none (by simpa [hl] using hj),List.getElem?_eq_none (by simpa using hj)]
end Go.Proofs.YtbfjfnbcmojpiaaGreat
