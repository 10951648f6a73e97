import Derived.Test.YtbfjfnbcmojpiaaGreatDrV4
import Derived.Lib.AppendZerosOnto
import Derived.Lib.SliceRun
import Derived.Laws.Externs
import Derived.Laws.IdiomCopy
import Derived.Deep.RegionLaw
import Derived.Test.YtbfjfnbcmojpiaaGreatDrSG
import Derived.Laws.MakeOwn
import Derived.Lib.LazyBuf
set_option linter.unusedSimpArgs false
set_option linter.unusedVariables false
set_option maxRecDepth 100000
set_option maxHeartbeats 4000000
namespace Go.Proofs.YtbfjfnbcmojpiaaGreat
open Go.RowKit
def zK:Value:=.agg ([bv AS,[.slice none 0 0]].flatten).toArray
theorem ABP:zK.cells.size=33:=rfl
theorem Oq:ET Tryz.prog 34 58 zK 33 56:=⟨Tryz.underlying34,info_parts (by kernel_rfl),rfl,by decide,by decide⟩
theorem AGm (w:World):(zeroValue 58).run Tryz.prog w=.ok zK w:=by kernel_rfl
theorem ZX:∀v∈zK.cells.toList,v.oneCell'=true:=List.all_eq_true.1 (by rfl)
theorem Ej (l:List VK):(l.flatMap AZ).length=l.length*33:=Fz Ct l
theorem Own.less {w:World} {e:TypeId} {sz g n cap i:Nat} {xs:List Value} (h:Own w e sz (.slice (some ⟨g,0,none⟩) n cap) n xs) (hi:i≤n):Own w e sz (.slice (some ⟨g,0,none⟩) i cap) i (xs.take (i*sz)):=by
 obtain⟨hl,h2⟩:=h
 rcases h2 with ⟨h3,_⟩|⟨g',cap',cur,h3,hb,hg,hnc,hcm,hcs,ht⟩
 · cases h3
 · simp only[Value.slice.injEq,Option.some.injEq,Addr.mk.injEq,and_true] at h3
   obtain⟨rfl,_,rfl⟩:=h3
   have hm:i*sz≤n*sz:=Nat.mul_le_mul_right _ hi
   refine⟨by rw[List.length_take,hl];omega,.inr ⟨g,cap,cur,rfl,hb,hg,Nat.le_trans hi hnc,hcm,hcs,?_⟩⟩
   rw[←ht,List.take_take,Nat.min_eq_left hm]
theorem Own.blk {w:World} {e:TypeId} {sz g n cap:Nat} {xs:List Value} (h:Own w e sz (.slice (some ⟨g,0,none⟩) n cap) n xs):∃C:List Value,w.heap[g]?=some (.cells C.toArray e (0,0))∧n≤cap∧cap≤maxLen∧C.length=cap*sz∧C.take (n*sz)=xs:=by
 obtain⟨hl,h2⟩:=h
 rcases h2 with ⟨h3,_⟩|⟨g',cap',cur,h3,hb,hg,hnc,hcm,hcs,ht⟩
 · cases h3
 · simp only[Value.slice.injEq,Option.some.injEq,Addr.mk.injEq,and_true] at h3
   obtain⟨rfl,_,rfl⟩:=h3
   exact⟨cur.toList,by simpa using hg,hnc,hcm,by simpa using hcs,ht⟩
theorem Own.mk' {w:World} {e:TypeId} {sz g n cap:Nat} {xs C:List Value} (h1:w.heap[g]?=some (.cells C.toArray e (0,0))) (h2:n≤cap) (h3:cap≤maxLen) (h4:C.length=cap*sz) (h5:C.take (n*sz)=xs):Own w e sz (.slice (some ⟨g,0,none⟩) n cap) n xs:=by
 have hm:n*sz≤cap*sz:=Nat.mul_le_mul_right _ h2
 exact⟨by rw[←h5,List.length_take];omega,.inr ⟨g,cap,C.toArray,rfl,Nat.zero_le _,h1,h2,h3,by simpa using h4,by simpa using h5⟩⟩
theorem Own.shp {w:World} {e:TypeId} {sz n:Nat} {v:Value} {xs:List Value} (h:Own w e sz v n xs) (hn:0<n):∃g cap,v=.slice (some ⟨g,0,none⟩) n cap:=by
 rcases h.2 with ⟨_,h3⟩|⟨g,cap,cur,h3,_⟩
 · omega
 · exact⟨g,cap,h3⟩
theorem WY {P:Program} (w:World) (dT sT ty elem:TypeId) (size:Nat) (b o dLen dCap:Nat) (a:Addr) (sLen sCap:Nat) (cs:List Value)
  (hu:P.underlying dT=some (.slice elem)) (hs:(P.info? elem).map (·.size)=some size) (hn:cs.length=Nat.min sLen dLen*size)
  (hsrc:∀j v,cs[j]?=some v→w.cell? (a.add j)=some v) (hc:∀j,j<cs.length→(w.cell? ⟨b,o+j,none⟩).isSome=true) (hf:∀j,j<cs.length→w.frozen? ⟨b,o+j,none⟩=false) (h1:∀v∈cs,v.oneCell'=true) :
  (Builtin.copy_ #[dT,sT] ty #[.slice (some ⟨b,o,none⟩) dLen dCap,.slice (some a) sLen sCap]).run P w=.ok (goInt (Nat.min sLen dLen)) (w.setCells b o cs):=by
 have hl:=run_loadCells_list (P:=P) w a cs hsrc
 have hst:=run_storeCells_cells (P:=P) b o cs 0 w (by simpa using hc) (by simpa using hf) h1
 cases hq:P.info? elem with
 | none=>simp[hq] at hs
 | some i =>
  have hi:i.size=size:=by simpa [hq] using hs
  simp only[Nat.add_zero] at hst
  rw[hn] at hl
  simp[Builtin.copy_,run_underlying hu,Builtin.lenOf,Builtin.firstCells,sizeOf,typeInfo,hq,hi,hl,hst]
theorem RH {P:Program} (w:World) (dT sT ty elem:TypeId) (size:Nat) (g o dLen dCap:Nat) (a:Addr) (sLen sCap:Nat) (cs C:List Value)
  (hu:P.underlying dT=some (.slice elem)) (hs:(P.info? elem).map (·.size)=some size) (hn:cs.length=Nat.min sLen dLen*size)
  (hsrc:∀j v,cs[j]?=some v→w.cell? (a.add j)=some v) (hb:w.heap[g]?=some (.cells C.toArray elem (0,0))) (hfit:o+cs.length≤C.length) (h1:∀v∈cs,v.oneCell'=true) :
  ∃w',(Builtin.copy_ #[dT,sT] ty #[.slice (some ⟨g,o,none⟩) dLen dCap,.slice (some a) sLen sCap]).run P w=.ok (goInt (Nat.min sLen dLen)) w'∧w.grownBy w' (some g)∧w'.heap[g]?=some (.cells (C.take o++(cs++C.drop (o+cs.length))).toArray elem (0,0)):=by
 refine⟨_,WY w dT sT ty elem size g o dLen dCap a sLen sCap cs hu hs hn hsrc (fun j hj=>?_) (fun j hj=>AIn w g _ _ elem hb) h1,CY _ _ _ _,GC C o cs hb hfit⟩
 rw[Hi hb,List.getElem?_eq_getElem (by omega)]
 rfl
theorem P8 {P:Program} {t e:TypeId} {z:Value} {size bytes:Nat} (E:ET P t e z size bytes) (hv:∀w,(zeroValue e).run P w=.ok z w) (h1:∀v∈z.cells.toList,v.oneCell'=true) (ty:TypeId) (w:World)
   (g m cap i c cc:Nat) (ao:Option Addr) (xs:List Value) (hown:Own w e size (.slice (some ⟨g,0,none⟩) m cap) m xs) (hao:0<c→ao=some ⟨g,i*size,none⟩) (hmi:m≤i) (hic:i+c≤cap) :
   ∃w',(Builtin.clear_ #[t] ty #[.slice ao c cc]).run P w=.ok (.tuple #[]) w'∧w.grownBy w' (some g)∧Own w' e size (.slice (some ⟨g,0,none⟩) m cap) m xs:=by
 by_cases hc:c=0
 · subst hc
   refine⟨w,?_,World.grownBy.refl _ _,hown⟩
   cases ao<;>simp[Builtin.clear_,run_underlying E.und]
 · have hao:=hao (by omega)
   subst hao
   obtain⟨C,hb,hnc,hcm,hcl,hct⟩:=hown.blk
   have hzl:(Builtin.zeroCells z.cells c).toList.length=c*size:=by simp[Builtin.zeroCells,E.zsz]
   have h1z:∀v∈(Builtin.zeroCells z.cells c).toList,v.oneCell'=true:=by
     intro v hv'
     simp only[Builtin.zeroCells,Array.toList_map,List.mem_map] at hv'
     obtain⟨j,_,rfl⟩:=hv'
     have hp:=E.pos
     have hjm:j%z.cells.size<z.cells.size:=Nat.mod_lt _ (by rw[E.zsz];exact hp)
     rw[getElem!_pos z.cells _ hjm]
     exact h1 _ (by simp)
   have hfit:i*size+c*size≤C.length:=by rw[hcl,←Nat.add_mul];exact Nat.mul_le_mul_right _ hic
   have hst:=run_storeCells_cells (P:=P) g (i*size) (Builtin.zeroCells z.cells c).toList 0 w (fun j hj=>by
     rw[Hi hb,List.getElem?_eq_getElem (by omega)];rfl) (fun j hj=>AIn w g _ _ e hb) h1z
   simp only[Nat.add_zero] at hst
   have hm:=GC C (i*size) (Builtin.zeroCells z.cells c).toList hb (by rw[hzl];exact hfit)
   refine⟨w.setCells g (i*size) (Builtin.zeroCells z.cells c).toList,?_,CY _ _ _ _,Own.mk' hm hnc hcm ?_ ?_⟩
   · obtain⟨k,rfl⟩:∃k,c=k+1:=⟨c-1,by omega⟩
     simp[Builtin.clear_,run_underlying E.und,hv,hst]
   · have e1:min (i*size) C.length=i*size:=by omega
     simp only[List.length_append,List.length_take,List.length_drop,hzl,e1]
     omega
   · have h2:m*size≤i*size:=Nat.mul_le_mul_right _ hmi
     rw[List.take_append_of_le_length (by rw[List.length_take];omega),List.take_take,Nat.min_eq_left h2,hct]
theorem Km {P:Program} {w:World} {ops:Array Oper} {rest:List Oper} {o:Oper} {a:Act} {Q:Exit→Act→World→Prop} (hgd:o.guard=none) (s:Operand) (t:TypeId)
  (ho:o.op=.call { callee:=.builtin .clear,args:=#[s],argTypes:=#[t] }) (v:Value) (hs:a.eval s=v) {v':Value} {w':World}
  (hr:(Builtin.clear_ #[t] o.type #[v]).run P w=.ok v' w') (h:wpList P ops Q rest (a.put o.dst v') w'):wpList P ops Q (o::rest) a w:=by
 refine wpList_plain hgd fun K hK=>?_
 unfold Oper.wp execOp
 simp only[ho,resolve,invoke,builtin,Sem.run_bind,Sem.run_pure,Result.andThen_ok,List.map_toArray,List.map_cons,List.map_nil,hs,hr]
 exact hK _ _ h
theorem SA {P:Program} {t e:TypeId} {z:Value} {size bytes:Nat} (E:ET P t e z size bytes) (ty:TypeId) {w:World} {g n cap:Nat} {xs:List Value} (hown:Own w e size (.slice (some ⟨g,0,none⟩) n cap) n xs)
  {sv:Value} {m:Nat} {news:List Value} (hs:Sl w size sv m news) (h1:news.all Value.oneCell'=true) (hroom:n+m≤cap) (h63:n+m≤1099511627776) :
  ∃w',(Builtin.append_ #[t,t] ty #[.slice (some ⟨g,0,none⟩) n cap,sv]).run P w=.ok (.slice (some ⟨g,0,none⟩) (n+m) cap) w'∧Own w' e size (.slice (some ⟨g,0,none⟩) (n+m) cap) (n+m) (xs++news)∧w.grownBy w' (some g):=by
 obtain⟨v',w',hr,hown',hst⟩:=Nx E ty hown hs h1 h63
 obtain⟨i,hi,hz,rfl,hby⟩:=E.inf
 have hsl:=hs
 obtain⟨hl,ao,cap2,rfl,hm1,hm2,h3,h4⟩:=hs
 cases ao with
 | none =>
  obtain rfl:=h3 rfl
  obtain rfl:m=0:=by omega
  have hr2:=run_append_owned_none (P:=P) w 0 t ty e i i.size E.und hi (.slice (some ⟨g,0,none⟩) n cap) n xs hown
  rw[hr2] at hr
  simp only[Result.ok.injEq] at hr
  obtain⟨rfl,rfl⟩:=hr
  exact⟨_,hr2,hown',World.grownBy.refl _ _⟩
 | some ad =>
  have hc':=hsl.rd
  obtain⟨C,hb,hnc,hcm,hcl,hct⟩:=hown.blk
  have hr2:=run_append_room (P:=P) w t ty e i E.und hi g n cap C.toArray hb ad m cap2 news hl hc' (List.all_eq_true.1 h1) hroom (by simp only[List.size_toArray];rw[hl,hcl,←Nat.add_mul];exact Nat.mul_le_mul_right _ hroom)
  have hr3:=hr2
  rw[hr] at hr2
  simp only[Result.ok.injEq] at hr2
  obtain⟨rfl,hw⟩:=hr2
  refine⟨w',hr,hown',hst.1⟩
theorem Jj {P:Program} {w:World} {ops:Array Oper} {rest:List Oper} {o:Oper} {a:Act} {Q:Exit→Act→World→Prop} (hgd:o.guard=none) (s x:Operand) (t t':TypeId)
  (ho:o.op=.call { callee:=.builtin .append,args:=#[s,x],argTypes:=#[t,t'] }) (v u:Value) (hs:a.eval s=v) (hx:a.eval x=u) {v':Value} {w':World}
  (hr:(Builtin.append_ #[t,t'] o.type #[v,u]).run P w=.ok v' w') (h:wpList P ops Q rest (a.put o.dst v') w'):wpList P ops Q (o::rest) a w:=by
 refine wpList_plain hgd fun K hK=>?_
 unfold Oper.wp execOp
 simp only[ho,resolve,invoke,builtin,Sem.run_bind,Sem.run_pure,Result.andThen_ok,List.map_toArray,List.map_cons,List.map_nil,hs,hx,hr]
 exact hK _ _ h
theorem RI {P:Program} {ops:Array Oper} {o:Oper} {a:Act} {w:World} {K:Act→World→Prop} {Q:Exit→Act→World→Prop} {E:Prop}
  (hg:o.guard=none) (s x:Operand) (t t':TypeId) (hop:o.op=Op.call { callee:=Callee.builtin Builtin.append,args:=#[s,x],argTypes:=#[t,t'] })
  (v u:Value) (hs:a.eval s=v) (hx:a.eval x=u) {v':Value} {w':World} (hr:(Builtin.append_ #[t,t'] o.type #[v,u]).run P w=.ok v' w') (hK:K (a.put o.dst v') w') :
  if Region.wanted o (yielded ops a.tmps)=true then Oper.wp P o a w K Q else E:=by
 have hw:Region.wanted o (yielded ops a.tmps)=true:=by simp[Region.wanted,hg]
 rw[if_pos hw]
 unfold Oper.wp
 simp[execOp,hop,resolve,invoke,builtin,hs,hx,hr,Result.andThen]
 exact hK
theorem UY (l:List VK) (i:Nat) (s:Value) (w:World) (hown:Own w 58 33 s l.length (l.flatMap AZ)) (hi:i<l.length) (hn:l.length≤1000000) :
   Calls Tryz.prog 73 #[s,.int .i64 i,.int .i64 ((i:Int)+1)] w fun e w'=>∃v',e=.returned v'∧Own w' 58 33 v' (l.take i++l.drop (i+1)).length ((l.take i++l.drop (i+1)).flatMap AZ)∧Step w s w' v':=by
 obtain⟨g,cap,rfl⟩:=hown.shp (by omega)
 obtain⟨D,hD,hnc,hcm,hDl,hDt⟩:=hown.blk
 have hcm:cap≤9223372036854775807:=hcm
 have hlen:(l.take i++l.drop (i+1)).length=l.length-1:=by simp;omega
 obtain⟨off,hoff1,hoff2⟩:∃off,(cap=i+1→off=0)∧(¬cap=i+1→off=(i+1)*33):=⟨if cap=i+1 then 0 else (i+1)*33,fun h=>if_pos h,fun h=>if_neg h⟩
 have hsrc:Sl w.drew 33 (.slice (some ⟨g,off,none⟩) (l.length-(i+1)) (cap-(i+1))) (l.length-(i+1)) ((l.drop (i+1)).flatMap AZ):=by
   refine⟨by rw[Ej,List.length_drop],some ⟨g,off,none⟩,cap-(i+1),rfl,by omega,by unfold maxLen;omega,fun h=>(by cases h),fun a ha=>?_⟩
   obtain rfl:=Option.some.inj ha
   refine⟨fun _=>rfl,fun j u hu=>?_⟩
   have e:l.flatMap AZ=(l.take (i+1)).flatMap AZ++(l.drop (i+1)).flatMap AZ:=by rw[←List.flatMap_append,List.take_append_drop]
   have hj:=(List.getElem?_eq_some_iff.1 hu).1
   rw[Ej,List.length_drop] at hj
   obtain rfl:=hoff2 (by omega)
   have h2:(l.flatMap AZ)[(i+1)*33+j]?=some u:=by
    rw[e,List.getElem?_append_right (by rw[Ej,List.length_take];omega),Ej,List.length_take,Nat.min_eq_left (by omega),Nat.add_sub_cancel_left]
    exact hu
   have h3:w.cell? ⟨g,(i+1)*33+j,none⟩=some u:=by
    rw[Hi hD,←h2,←hDt,List.getElem?_take,if_pos (by omega)]
   exact h3
 have hless:Own w.drew 58 33 (.slice (some ⟨g,0,none⟩) i cap) i ((l.flatMap AZ).take (i*33)):=(hown.less (by omega)).drew
 have htk:(l.flatMap AZ).take (i*33)=(l.take i).flatMap AZ:=by
   have e:l.flatMap AZ=(l.take i).flatMap AZ++(l.drop i).flatMap AZ:=by rw[←List.flatMap_append,List.take_append_drop]
   rw[e,List.take_left' (by rw[Ej,List.length_take];omega)]
 rw[htk] at hless
 obtain⟨w2,hr2,ho2,hg2⟩:=SA Oq 34 hless hsrc (LN _) (by omega) (by omega)
 rw[←List.flatMap_append] at ho2
 have hsum:i+(l.length-(i+1))=l.length-1:=by omega
 rw[hsum] at hr2 ho2
 obtain⟨w3,hr3,hg3,ho3⟩:=P8 Oq AGm ZX 0 w2 g (l.length-1) cap (l.length-1) 1 (cap-(l.length-1)) (some ⟨g,(l.length-1)*33,none⟩) _ ho2 (fun _=>rfl) (Nat.le_refl _) (by omega)
 have HR2:=AH hr2
 have HR3:=AH hr3
 have O3:=AH ho3
 have G3:=AH (AA (AA (Dl (row:=some g) (CZ w)) hg2) hg3)
 have HLEN:=AH hlen
 have z1:(0:Int)≤(i:Int):=by omega
 have z2:(i:Int)<(l.length:Int):=by omega
 have z3:(l.length:Int)≤(cap:Int):=by omega
 have z4:(i:Int)≤(cap:Int):=by omega
 have z5:(i:Int)+1≤(l.length:Int):=by omega
 have z6:(0:Int)≤(i:Int)+1:=by omega
 have z7:((i:Int)+1).toNat=i+1:=by omega
 have z8:(i:Int)≤(i:Int)+1:=by omega
 have q1:¬(cap=l.length-1):=by omega
 have q2:l.length-(l.length-1)=1:=by omega
 have q3:((l.length-1:Nat):Int)≤(l.length:Int):=by omega
 have q4:(0:Int)≤((l.length-1:Nat):Int):=by omega
 have q5:(l.length:Int)≤(cap:Int):=by omega
 have hcm2:(cap:Int)≤9223372036854775807:=by omega
 clear hD hDl hDt hsrc hless htk hr2 hr3 ho2 hg2 ho3 hg3 hlen hown
 go_enter Tryz.func73,Tryz.ntmps73
 by_cases hci:cap=i+1
 · obtain rfl:=hoff1 hci
   clear hoff1 hoff2
   have hr2:=HR2.out
   have hr3:=HR3.out
   have ho3:=O3.out
   rw[hci] at hr2 hr3 ho3
   rw[Nat.sub_self (i+1)] at hr2
   have HR2:=AH hr2
   have HR3:=AH hr3
   have O3:=AH ho3
   clear hr2 hr3 ho3
   go_wp2_with fail
   go_region_law (first|(refine RI rfl (.tmp 22) (.tmp 25) 34 34 rfl _ _ (by simp[Act.eval,Act.put]) (by simp[Act.eval,Act.put]) HR2.out ?_)|fail)
   all_goals
    go_wp2_with (first|(refine Km rfl (.tmp 31) 34 rfl _ rfl HR3.out ?_)|fail)
    go_ret
    exact⟨_,rfl,by rw[HLEN.out];exact O3.out,G3.out,fun k hk=>.inl hk⟩
 · obtain rfl:=hoff2 hci
   go_wp2_with fail
   go_region_law (first|(refine RI rfl (.tmp 22) (.tmp 25) 34 34 rfl _ _ (by simp[Act.eval,Act.put]) (by simp[Act.eval,Act.put]) HR2.out ?_)|fail)
   all_goals
    go_wp2_with (first|(refine Km rfl (.tmp 31) 34 rfl _ rfl HR3.out ?_)|fail)
    go_ret
    exact⟨_,rfl,by rw[HLEN.out];exact O3.out,G3.out,fun k hk=>.inl hk⟩
theorem ABQ {w:World} {V:Nat} {x:VK} (h:w.heap[V]?=some (.cells (AZ x).toArray 58 (0,0))):Sl w 33 (.slice (some ⟨V,0,none⟩) 1 1) 1 (AZ x):=
 ⟨by rw[Ct],some ⟨V,0,none⟩,1,rfl,Nat.le_refl _,by unfold maxLen;omega,fun h=>(by cases h),fun a ha=>by
  obtain rfl:=Option.some.inj ha
  refine⟨fun _=>rfl,fun j u hu=>?_⟩
  rw[Nat.zero_add,Hi h]
  exact hu⟩
theorem ABR (l:List VK):∀v∈l.flatMap AZ,v.oneCell'=true:=List.all_eq_true.1 (LN l)
theorem ZY (l:List VK) (i:Nat) (hi:i≤l.length):(l.take i).flatMap AZ=(l.flatMap AZ).take (i*33):=by
 have e:l.flatMap AZ=(l.take i).flatMap AZ++(l.drop i).flatMap AZ:=by rw[←List.flatMap_append,List.take_append_drop]
 rw[e,List.take_left' (by rw[Ej,List.length_take];omega)]
theorem ZZ (l:List VK) (i:Nat) (hi:i≤l.length):(l.drop i).flatMap AZ=(l.flatMap AZ).drop (i*33):=by
 have e:l.flatMap AZ=(l.take i).flatMap AZ++(l.drop i).flatMap AZ:=by rw[←List.flatMap_append,List.take_append_drop]
 rw[e,List.drop_left' (by rw[Ej,List.length_take];omega)]
theorem AFd {α:Type} (C X Y:List α) (a:Nat) (hC:a+X.length+Y.length≤C.length) :
  ((C.take a++(X++C.drop (a+X.length))).take (a+X.length)++(Y++(C.take a++(X++C.drop (a+X.length))).drop (a+X.length+Y.length))).take (a+X.length+Y.length)=C.take a++(X++Y):=by
 have h1:(C.take a).length=a:=by rw[List.length_take];omega
 have h2:(C.take a++(X++C.drop (a+X.length))).take (a+X.length)=C.take a++X:=by
  rw[←List.append_assoc,List.take_left' (by rw[List.length_append,h1])]
 rw[h2,←List.append_assoc,List.take_left' (by simp only[List.length_append,h1]),List.append_assoc]
theorem Za (l:List VK) (x:VK) (i:Nat) (hi:i≤l.length):(l.take i++x::l.drop i).flatMap AZ=(l.flatMap AZ).take (i*33)++(AZ x++(l.flatMap AZ).drop (i*33)):=by
 rw[List.flatMap_append,List.flatMap_cons,ZY l i hi,ZZ l i hi]
theorem SB {P:Program} {t e:TypeId} {z:Value} {size bytes:Nat} (E:ET P t e z size bytes) (ty:TypeId) {w:World} {A n0:Nat} {xs:List Value} (hown:Own w e size (.slice (some ⟨A,0,none⟩) n0 n0) n0 xs)
  {sv:Value} {m:Nat} {news:List Value} (hs:Sl w size sv m news) (h1:news.all Value.oneCell'=true) (hm:0<m) (h63:n0+m≤1000000000) :
  ∃v' w',(Builtin.append_ #[t,t] ty #[.slice (some ⟨A,0,none⟩) n0 n0,sv]).run P w=.ok v' w'∧Own w' e size v' (n0+m) (xs++news)∧w.grownBy w' none∧∀k,BO v' k→w.heap.size≤k:=by
 obtain⟨i,hi,hz,rfl,hby⟩:=E.inf
 have hb:=E.bnd
 obtain⟨v',w',hr,hown',hst⟩:=Nx E ty hown hs h1 (by omega)
 have hold:=(Sl.of_own hown)
 obtain⟨hlo,ao0,cap0,e0,_,_,_,hc0⟩:=hold
 simp only[Value.slice.injEq,true_and] at e0
 obtain⟨rfl,rfl⟩:=e0
 obtain⟨hl,ao,cap,rfl,hm1,hm2,h3,h4⟩:=hs
 cases ao with
 | none=>have:=h3 rfl;omega
 | some ad =>
  obtain⟨b,off,spot⟩:=ad
  obtain⟨hsp,hc⟩:=h4 _ rfl
  have hsp:=hsp hm
  simp at hsp
  subst hsp
  have hbytes:(n0+m)*bytes≤140737488355328:=by
   have:(n0+m)*bytes≤1000000000*128:=Nat.mul_le_mul h63 hb
   omega
  have hr2:=run_append_grow (P:=P) w t ty e i z E.und hi hz ⟨A,0,none⟩ n0 n0 xs hlo (fun j u hj=>by rw[Addr.add_lit];exact(hc0 _ rfl).2 j u hj) ⟨b,off,none⟩ m cap news hl (fun j u hj=>by rw[Addr.add_lit];exact hc j u hj) (by omega) (by omega) (growslice_fits (by omega) (by subst hby;exact hbytes))
  have hr3:=hr2
  rw[hr] at hr2
  simp only[Result.ok.injEq] at hr2
  obtain⟨rfl,rfl⟩:=hr2
  exact⟨_,_,hr3,hown',AA (CZ w) (World.grownBy_alloc _ _ _),fun k hk=>by simp[BO,Value.ownBlock] at hk;omega⟩
theorem Ni (l:List VK) (x:VK) (g V:Nat) (w:World) (hown:Own w 58 33 (.slice (some ⟨g,0,none⟩) l.length l.length) l.length (l.flatMap AZ)) (hv:w.heap[V]?=some (.cells (AZ x).toArray 58 (0,0))) (hn:l.length≤1000000) :
  Calls Tryz.prog 83 #[.slice (some ⟨g,0,none⟩) l.length l.length,.int .i64 (l.length:Nat),.slice (some ⟨V,0,none⟩) 1 1] w fun e w'=>∃v',e=.returned v'∧Own w' 58 33 v' (l.length+1) ((l++[x]).flatMap AZ)∧w.grownBy w' none∧∀k,BO v' k→w.heap.size≤k:=by
 have hx:=ABQ hv
 have hflat:(l++[x]).flatMap AZ=l.flatMap AZ++AZ x:=by simp
 obtain⟨v5,w5,hr,ho,hg,hf⟩:=SB Oq 34 hown hx (List.all_eq_true.2 (Gg x)) (by omega) (by omega)
 have HF:=AH hflat
 have HR:=AH hr
 have HO:=AH ho
 have HG:=AH hg
 have HX:=AH hf
 have z1:(0:Int)≤(l.length:Int):=by omega
 clear hx hown hv hflat hr ho hg hf
 go_enter Tryz.func83,Tryz.ntmps83
 go_wp2_with (first|(at_builtin;refine Jj rfl (.tmp 23) (.tmp 24) 34 34 rfl _ _ rfl rfl HR.out ?_)|(refine Jj rfl (.tmp 23) (.tmp 24) 34 34 rfl _ _ rfl rfl HR.out ?_)|fail)
 go_ret
 exact⟨_,rfl,by rw[HF.out];exact HO.out,HG.out,HX.out⟩
theorem Mw (l:List VK) (x:VK) (i g cap V:Nat) (w:World) (hown:Own w 58 33 (.slice (some ⟨g,0,none⟩) l.length cap) l.length (l.flatMap AZ)) (hv:w.heap[V]?=some (.cells (AZ x).toArray 58 (0,0))) (hi:i<l.length) (hroom:cap<l.length+1) (hn:l.length≤1000000) :
  Calls Tryz.prog 83 #[.slice (some ⟨g,0,none⟩) l.length cap,.int .i64 i,.slice (some ⟨V,0,none⟩) 1 1] w fun e w'=>∃v',e=.returned v'∧Own w' 58 33 v' (l.length+1) ((l.take i++x::l.drop i).flatMap AZ)∧w.grownBy w' none∧∀k,BO v' k→w.heap.size≤k:=by
 obtain⟨C,hb,hnc,hcm,hCl,hCt⟩:=hown.blk
 obtain rfl:cap=l.length:=by omega
 have hX4:(AZ x).length=33:=Ct x
 have hYl:((l.flatMap AZ).drop (i*33)).length=(l.length-i)*33:=by rw[List.length_drop,Ej];omega
 obtain⟨i0,hi0,hz0,hzs,hzb⟩:=Oq.inf
 have hold:(Builtin.firstCells i0.size i (.slice (some ⟨g,0,none⟩) i l.length)).run Tryz.prog w.drew=.ok ((l.flatMap AZ).take (i*33)).toArray w.drew:=by
  rw[hzs]
  exact run_firstCells_some w.drew 33 i ⟨g,0,none⟩ i l.length ((l.flatMap AZ).take (i*33)) (by rw[List.length_take,Ej];omega) (fun j v hj=>by
   rw[Addr.add_lit,Nat.zero_add]
   have h3:w.cell? ⟨g,j,none⟩=some v:=by
    have hjl:=(List.getElem?_eq_some_iff.1 hj).1
    rw[List.length_take,Ej] at hjl
    rw[List.getElem?_take,if_pos (by omega),←hCt,List.getElem?_take,if_pos (by omega)] at hj
    rw[Hi hb,hj]
   exact h3)
 have hrz:=Lib.run_append_grow_zeros w 34 3 34 58 i0 _ .i64 .i64 Tryz.underlying34 Tryz.underlying3 hi0 hz0 (some ⟨g,0,none⟩) i l.length ((l.flatMap AZ).take (i*33)) hold (l.length+1-i) (by omega) (by omega) (by omega) (by omega) (by rw[hzb];omega) (by rw[hzb,show i+(l.length+1-i)=l.length+1 by omega];exact growslice_fits (by omega) (by omega))
 rw[show i+(l.length+1-i)=l.length+1 by omega] at hrz
 have hGge:l.length+1≤grownCap w (l.length+1) l.length 58:=grownCap_ge w _ _ _
 have hGle:grownCap w (l.length+1) l.length 58≤maxLen:=grownCap_le_maxLen w _ _ _ (by unfold maxLen;omega)
 generalize hG:grownCap w (l.length+1) l.length 58=G at *
 obtain⟨R,hR⟩:∃R:List Value,R=((l.flatMap AZ).take (i*33))++(Builtin.zeroCells zK.cells (l.length+1-i)).toList++(Builtin.zeroCells zK.cells (G-(l.length+1))).toList:=⟨_,rfl⟩
 have hRa:((l.flatMap AZ).take (i*33)).toArray++Builtin.zeroCells zK.cells (l.length+1-i)++Builtin.zeroCells zK.cells (G-(l.length+1))=R.toArray:=by
  rw[hR]
  apply Array.ext'
  simp
 rw[hRa] at hrz
 have hzl:∀k,(Builtin.zeroCells zK.cells k).toList.length=k*33:=fun k=>by simp[Builtin.zeroCells,ABP]
 have hRl:R.length=G*33:=by rw[hR,List.length_append,List.length_append,hzl,hzl,List.length_take,Ej];omega
 have hRt:R.take (i*33)=(l.flatMap AZ).take (i*33):=by rw[hR,List.append_assoc,List.take_left' (by rw[List.length_take,Ej];omega)]
 have hgw:g<w.heap.size:=(Array.getElem?_eq_some_iff.1 hb).1
 have hVw:V<w.heap.size:=(Array.getElem?_eq_some_iff.1 hv).1
 have gW:=AA (CZ w) (World.grownBy_alloc w.drew (.cells R.toArray 58) none)
 have hbN:(w.drew.alloc (.cells R.toArray 58)).heap[w.heap.size]?=some (.cells R.toArray 58 (0,0)):=Ah rfl
 have hvW:=AF gW hv (by simp)
 have hbW:=AF gW hb (by simp)
 generalize w.drew.alloc (.cells R.toArray 58)=W1 at *
 obtain⟨w2,hr2,hg2,hb2⟩:=RH (P:=Tryz.prog) W1 34 34 3 58 33 w.heap.size (i*33) (l.length+1-i) (G-i) ⟨V,0,none⟩ 1 1 (AZ x) R Tryz.underlying34 (by kernel_rfl)
  (by rw[hX4,show Nat.min 1 (l.length+1-i)=1 by simp[Nat.min_def];omega])
  (fun j v hj=>by rw[Addr.add_lit,Nat.zero_add,Hi hvW];exact hj) hbN (by rw[hX4,hRl];omega) (Gg x)
 have hb2g:=AF hg2 hbW (by simp;omega)
 obtain⟨w3,hr3,hg3,hb3⟩:=RH (P:=Tryz.prog) w2.drew 34 34 3 58 33 w.heap.size ((i+1)*33) (l.length-i) (G-(i+1)) ⟨g,i*33,none⟩ (l.length-i) (l.length-i) ((l.flatMap AZ).drop (i*33)) _ Tryz.underlying34 (by kernel_rfl)
  (by rw[hYl,show Nat.min (l.length-i) (l.length-i)=l.length-i by simp[Nat.min_def]])
  (fun j v hj=>by
   rw[Addr.add_lit]
   have h3:w2.cell? ⟨g,i*33+j,none⟩=some v:=by
    have hjl:=(List.getElem?_eq_some_iff.1 hj).1
    rw[hYl] at hjl
    rw[List.getElem?_drop,←hCt,List.getElem?_take,if_pos (by omega)] at hj
    rw[Hi hb2g,hj]
   exact h3) hb2 (by simp only[List.length_append,List.length_take,List.length_drop,hX4,hYl,hRl];omega) (fun v hv=>ABR l v (List.mem_of_mem_drop hv))
 have e1:Nat.min (l.length-i) (l.length-i)=l.length-i:=by simp[Nat.min_def]
 have e2:Nat.min 1 (l.length+1-i)=1:=by simp[Nat.min_def];omega
 rw[e1] at hr3
 rw[e2] at hr2
 have ho:Own w3 58 33 (.slice (some ⟨w.heap.size,0,none⟩) (l.length+1) G) (l.length+1) ((l.take i++x::l.drop i).flatMap AZ):=by
  refine Own.mk' hb3 hGge hGle (by simp only[List.length_append,List.length_take,List.length_drop,hX4,hYl,hRl];omega) ?_
  rw[Za l x i (by omega),←hRt]
  have ht:=AFd R (AZ x) ((l.flatMap AZ).drop (i*33)) (i*33) (by rw[hX4,hYl,hRl];omega)
  rw[hX4,hYl,show i*33+33+(l.length-i)*33=(l.length+1)*33 by omega] at ht
  rw[hX4,hYl,show(i+1)*33=i*33+33 by omega,show i*33+33+(l.length-i)*33=(l.length+1)*33 by omega]
  exact ht
 have hkk:(((l.length+1-i:Nat):Nat):Int)=(l.length:Int)+1-(i:Int):=by omega
 rw[hkk] at hrz
 have HRZ:=AH hrz
 have HR2:=AH hr2
 have HR3:=AH hr3
 have O3:=AH ho
 have G3:=AH (AD (AD gW hg2 (Nat.le_refl _)) (show w2.grownBy w3 (some w.heap.size) from⟨hg3.os,hg3.tape,hg3.output,hg3.size,hg3.block⟩) (Nat.le_refl _))
 have z1:(0:Int)≤(i:Int):=by omega
 have z2:(i:Int)≤(l.length:Int):=by omega
 have z3:¬((i:Int)=(l.length:Int)):=by omega
 have z4:(l.length:Int)<(l.length:Int)+1:=by omega
 have z5:¬(l.length=i):=by omega
 have z6:¬(G=i+1):=by omega
 have z7:¬(G=i):=by omega
 have z8:(i:Int)+1≤(l.length:Int)+1:=by omega
 have z9:l.length+1-(i+1)=l.length-i:=by omega
 have y2:(i:Int)≤(l.length:Int)+1:=by omega
 have y4:((i:Int)+1).toNat=i+1:=by omega
 have y5:(0:Int)≤(i:Int)+1:=by omega
 have y6:(0:Int)≤(l.length:Int)+1:=by omega
 have y7:IntKind.i64.wrap ((i:Int)+1)=(i:Int)+1:=by rw[IntKind.wrap_i64];omega
 clear hown hv hb hCl hCt hX4 hYl hi0 hz0 hzs hzb hold hrz hGge hGle hG hR hRa hzl hRl hRt gW hbN hvW hbW hr2 hg2 hb2 hb2g hr3 hg3 hb3 e1 e2 ho hkk hroom hnc hcm
 go_enter Tryz.func83,Tryz.ntmps83
 go_wp2_with (first|(at_builtin;refine Jj rfl (.tmp 34) (.tmp 39) 34 3 rfl _ _ rfl rfl HRZ.out ?_)|(refine Lf rfl (.tmp 43) (.tmp 44) 34 34 rfl _ _ rfl rfl HR2.out ?_)|fail)
 go_region_law (first|(refine Vx rfl (.tmp 50) (.tmp 53) 34 34 rfl _ _ (by simp[Act.eval,Act.put]) (by simp[Act.eval,Act.put]) HR3.out ?_)|fail)
 all_goals
  go_wp2
  go_ret
  exact⟨_,rfl,O3.out,G3.out,fun k hk=>by simp[BO,Value.ownBlock] at hk;omega⟩
theorem UZ (l:List VK) (x:VK) (i g V:Nat) (w:World) (hown:Own w 58 33 (.slice (some ⟨g,0,none⟩) l.length l.length) l.length (l.flatMap AZ)) (hv:w.heap[V]?=some (.cells (AZ x).toArray 58 (0,0))) (hi:i≤l.length) (hn:l.length≤1000000) :
   Calls Tryz.prog 83 #[.slice (some ⟨g,0,none⟩) l.length l.length,.int .i64 i,.slice (some ⟨V,0,none⟩) 1 1] w fun e w'=>∃v',e=.returned v'∧Own w' 58 33 v' (l.length+1) ((l.take i++x::l.drop i).flatMap AZ)∧w.grownBy w' none∧∀k,BO v' k→w.heap.size≤k:=by
 by_cases hil:i<l.length
 · exact Mw l x i g l.length V w hown hv hil (by omega) hn
 · obtain rfl:i=l.length:=by omega
   rw[List.take_length,List.drop_length]
   exact Ni l x g V w hown hv hn
theorem Own.rdk {w:World} {ao:Option Addr} {n cap:Nat} {ks:List VK} {e:TypeId} (h:Own w e 33 (.slice ao n cap) n (ks.flatMap AZ)):n=ks.length:=AFR (Sl.of_own h) Ct (by decide)
end Go.Proofs.YtbfjfnbcmojpiaaGreat
namespace Go.Proofs.YtbfjfnbcmojpiaaGreat
open Go.RowKit Go.Shelf
def kd (n:Nat) (k:List Nat):List Nat:=Li (BitVec.ofNat 64 n) k []
theorem BF (n:Nat) (k:List Nat):Dg (kd n k):=⟨Fd _ _,Mi _ _⟩
theorem Ly {n:Nat} (hn:n<1000) {c:Int} (hc:c=(n:Int)) {k:List Nat} (hk:Dg k) (w:World):Calls Tryz.prog 66 #[.int .u64 c,AO k,.slice none 0 0] w fun e w'=>e=.returned (AO (kd n k))∧w.grownBy w' none:=by
 have e:c=wi (BitVec.ofNat 64 n):=by rw[hc,←Mh,IntKind.wrap_u64];omega
 rw[e]
 exact LC (BitVec.ofNat 64 n) k [] hk.1 hk.2 (by simp) (by simp) _ w (Sl.nil w 1)
theorem Jk {n:Nat} (hn:n<1000) {c:Int} (hc:c=(n:Int)) {k:List Nat} (hk:Dg k) (w:World):Calls Tryz.prog 35 #[.int .u64 c,AO k,.slice none 0 0] w fun e w'=>e=.returned (AO (kd n k))∧w.grownBy w' none:=by
 have e:c=wi (BitVec.ofNat 64 n):=by rw[hc,←Mh,IntKind.wrap_u64];omega
 rw[e]
 exact NH (BitVec.ofNat 64 n) k [] hk.1 hk.2 (by simp) (by simp) _ w (Sl.nil w 1)
theorem bV0 (w:World):(Instr.build 36 #[]).run Tryz.prog w=.ok (Ao AS AS (.slice none 0 0)) w:=by kernel_rfl
theorem bV2 {sa po:List Nat} (hs:Dg sa) (hp:Dg po) (w:World):(Instr.build 36 #[(0,AO sa),(1,AO po)]).run Tryz.prog w=.ok (Ao sa po (.slice none 0 0)) w:=by
 obtain⟨x0,x1,x2,x3,x4,x5,x6,x7,x8,x9,x10,x11,x12,x13,x14,x15,x16,x17,x18,x19,x20,x21,x22,x23,x24,x25,x26,x27,x28,x29,x30,x31,rfl⟩:=Gc _ hs.1
 obtain⟨y0,y1,y2,y3,y4,y5,y6,y7,y8,y9,y10,y11,y12,y13,y14,y15,y16,y17,y18,y19,y20,y21,y22,y23,y24,y25,y26,y27,y28,y29,y30,y31,rfl⟩:=Gc _ hp.1
 kernel_rfl
theorem bV3 {sa po:List Nat} (hs:Dg sa) (hp:Dg po) (ao:Option Addr) (n cap:Nat) (w:World):(Instr.build 36 #[(0,AO sa),(1,AO po),(2,.slice ao n cap)]).run Tryz.prog w=.ok (Ao sa po (.slice ao n cap)) w:=by
 obtain⟨x0,x1,x2,x3,x4,x5,x6,x7,x8,x9,x10,x11,x12,x13,x14,x15,x16,x17,x18,x19,x20,x21,x22,x23,x24,x25,x26,x27,x28,x29,x30,x31,rfl⟩:=Gc _ hs.1
 obtain⟨y0,y1,y2,y3,y4,y5,y6,y7,y8,y9,y10,y11,y12,y13,y14,y15,y16,y17,y18,y19,y20,y21,y22,y23,y24,y25,y26,y27,y28,y29,y30,y31,rfl⟩:=Gc _ hp.1
 kernel_rfl
theorem AHp {o:List Nat} (ho:Dg o) (ao:Option Addr) (n cap:Nat) (w:World):(Instr.build 58 #[(0,AO o),(1,.agg #[.slice ao n cap])]).run Tryz.prog w=.ok (.agg ([bv o,[.slice ao n cap]].flatten).toArray) w:=by
 obtain⟨x0,x1,x2,x3,x4,x5,x6,x7,x8,x9,x10,x11,x12,x13,x14,x15,x16,x17,x18,x19,x20,x21,x22,x23,x24,x25,x26,x27,x28,x29,x30,x31,rfl⟩:=Gc _ ho.1
 kernel_rfl
theorem bK2 {k:VK} (w:World):(Instr.build 58 #[(0,AO k.o),(1,.agg #[k.s])]).run Tryz.prog w=.ok (F4 k) w:=AHp k.ho k.ao k.l.length k.cap w
theorem AHo (ao:Option Addr) (n cap:Nat) (w:World):(Instr.build 56 #[(0,.slice ao n cap)]).run Tryz.prog w=.ok (.agg #[.slice ao n cap]) w:=by kernel_rfl
theorem Ot {a:Int} {b:Bool} (h:CV a=b) (w:World):Calls Tryz.prog 75 #[.int .i64 a] w fun e w'=>e=.returned (.bool b)∧w.grownBy w' none:=(JV a w).mono fun e w' ⟨h1,h2⟩=>⟨h▸h1,h2▸World.grownBy.refl _ _⟩
theorem Gj {w:World} {ks:List VK} {ao:Option Addr} {cap:Nat} {sa po:List Nat} (hsa:Dg sa) (hpo:Dg po) (hr:RdK w (.slice ao ks.length cap) ks) {b:Bool} (hb:CE (ks.map VK.p)=b):Calls Tryz.prog 51 #[Ao sa po (.slice ao ks.length cap)] w fun e w'=>e=.returned (.bool b)∧w.grownBy w' none:=hb▸UR ks ao cap sa po hsa hpo w hr
theorem RJ {w:World} {ks:List VK} {ao:Option Addr} {cap:Nat} {sa po:List Nat} (hsa:Dg sa) (hpo:Dg po) (hr:RdK w (.slice ao ks.length cap) ks) {b:Bool} (hb:CE (ks.map VK.p)=b):Calls Tryz.prog 40 #[Ao sa po (.slice ao ks.length cap)] w fun e w'=>e=.returned (.bool b)∧w.grownBy w' none:=hb▸R9 ks ao cap sa po hsa hpo w hr
theorem Ou {w:World} {ks:List VK} {ao:Option Addr} {cap:Nat} {sa po o:List Nat} (hsa:Dg sa) (hpo:Dg po) (ho:Dg o) (hr:RdK w (.slice ao ks.length cap) ks) (hv:CE (ks.map VK.p)=true) {b:Bool} (hb:Hd (ks.map VK.p) o=b) {i:Nat} (hi:pos (ks.map VK.p) o=i):Calls Tryz.prog 71 #[Ao sa po (.slice ao ks.length cap),AO o] w fun e w'=>e=.returned (.tuple #[.int .i64 (i:Int),.bool b])∧w.grownBy w' none:=
 hb▸hi▸ZW ks ao cap sa po hsa hpo o ho w hr (Srt.of hv) (by have:=(Dz.1 hv).1;simpa using this)
theorem AGn {w:World} {ks:List VK} {ao:Option Addr} {cap:Nat} {sa po o:List Nat} (hsa:Dg sa) (hpo:Dg po) (ho:Dg o) (hr:RdK w (.slice ao ks.length cap) ks) (hv:CE (ks.map VK.p)=true) {c:Int} (hc:atV (ks.map VK.p) o=c):Calls Tryz.prog 84 #[Ao sa po (.slice ao ks.length cap),AO o] w fun e w'=>e=.returned (.int .i64 c)∧w.grownBy w' none:=
 hc▸ADV ks ao cap sa po hsa hpo o ho w hr (Srt.of hv)
theorem AFe {P:List VP} {o:List Nat} (h:Hd P o=true) {i:Nat} (hi:pos P o=i):atV P o=(i:Int):=by unfold atV;rw[h,hi];rfl
theorem AGo {P:List VP} {o:List Nat} (h:Hd P o=false):atV P o=-1:=by unfold atV;rw[h];rfl
theorem AHq {x y:List Nat×Int} (h:x=y):Ending.returned (.tuple #[AO x.1,.int .i64 x.2])=Ending.returned (.tuple #[AO y.1,.int .i64 y.2]):=by rw[h]
theorem ABS {x:List Nat} {c:Int} {y:List Nat×Int} (h:y=(x,c)):Ending.returned (.tuple #[AO x,.int .i64 c])=Ending.returned (.tuple #[AO y.1,.int .i64 y.2]):=by rw[h]
theorem Ua {P:List VP} {o:List Nat} {a:Int} (h:CV a=false∨CE P=false):Ck P o a=(AS,1):=by
 unfold Ck
 rcases h with h|h<;>simp[h]
theorem RK {P:List VP} {o:List Nat} {a:Int} (h1:CV a=true) (h2:CE P=true) (h3:Hd P o=false):Ck P o a=(AS,10):=by
 unfold Ck
 simp[h1,h2,h3]
theorem RL {P:List VP} {o:List Nat} {a:Int} (h1:CV a=true) (h2:CE P=true) (h3:Hd P o=true) {i:Nat} (hi:pos P o=i) {l:List Nd} (hl:tr P i=l):Ck P o a=Cs l a:=by
 unfold Ck
 simp[h1,h2,h3,hi,hl]
theorem WZ {a:Int} (h:CV a=true):0≤a∧a<17179869184:=by
 unfold CV at h
 simpa using h
theorem Zb (k:List Nat) (hk:Dg k) (w:World) :
  Calls Tryz.prog 24 #[AO k] w fun e w'=>e=.returned (Ao (kd 273 k) (kd 274 k) (.slice none 0 0))∧w.grownBy w' none:=by
 refine DX Tryz.func24 rfl Tryz.ntmps24 rfl fun a0 sv0=>?_
 have HG:=World.grownBy.refl w none
 replace sv0:Sv 8 [] [(0,AO k)] a0:=sv0
 refine AIi fun K1 k1=>?_
 refine AIh ?_
 refine BT sv0 r6 (Bn k hk.1) fun a2 w2 B3 FJ g2 z2 AY sv2=>?_
 replace HG:=AA HG g2
 refine As (T:=36) (Z:=([bv AS,bv AS,[.slice none 0 0]].flatten)) sv2 rfl rfl rfl (fun a w=>by kernel_rfl) fun a3 w3 Mx Hq g3 z3 B8 sv3=>?_
 have Ir:=Bq HG Hq
 replace AY:=AC g3 AY
 refine AE ?_
 refine k1 _ _ ?_
 refine AIi fun K4 k4=>?_
 refine AIh ?_
 refine EJ sv3 rfl (dd:={ target:=.fn (.func 65) #[],args:=#[] }) rfl (by simp[execOp,resolve,Deferred.ofValue];try rfl) fun a5 sv5=>?_
 refine AE ?_
 refine k4 _ _ ?_
 refine AIi fun K6 k6=>?_
 refine DB (sv5.st w3) (by kernel_rfl) 5 [(3,Sp.is (AO k)),(4,Sp.is (AO ((kd 273 k)))),(5,Sp.is (AO k)),(6,Sp.is (AO ((kd 274 k)))),(7,Sp.is (Ao ((kd 273 k)) ((kd 274 k)) (.slice none 0 0)))] rfl (by kernel_rfl) (by kernel_rfl) (by kernel_rfl) [] (by kernel_rfl)
  ⟨yl r6 (Bn k hk.1) AY,Ad [.int .u64 273,AO k,.slice none 0 0] Tryz.func66 (by kernel_rfl) rq4 ⟨rfl,(oy rfl rfl),rfl,AIo⟩ (Aq fun W g=>Ly (n:=273) (by decide) rfl hk W),yl r6 (Bn k hk.1) AY,Ad [.int .u64 274,AO k,.slice none 0 0] Tryz.func66 (by kernel_rfl) rq4 ⟨rfl,(oy rfl rfl),rfl,AIo⟩ (Aq fun W g=>Ly (n:=274) (by decide) rfl hk W),BI (vs:=[AO ((kd 273 k)),AO ((kd 274 k))]) rfl rfl trivial ⟨(oy rfl rfl),(oy rfl rfl),AIo⟩ (fun _=>bV2 (BF _ _) (BF _ _) _) (fun _=>rfl),AIo⟩ trivial
  [] (by kernel_rfl) trivial ⟨.inl rfl,.inl rfl,.inl rfl,.inl rfl,.inl rfl,AIo⟩ (by kernel_rfl) fun a7 w7 g7 st7 nd7=>?_
 obtain⟨hn7,hd7,e7_3,e7_4,e7_5,e7_6,e7_7,e7_2,e7_1,e7_0,-⟩:=st7
 have sv7:Sv 8 [{ target:=.fn (.func 65) #[],args:=#[] }] [(2,_),(1,_),(0,_),(7,_)] a7:=⟨hn7,hd7,e7_2,e7_1,e7_0,e7_7,AIo⟩
 refine An sv7 r7 (BX (BF _ _) (BF _ _) (.slice none 0 0) rfl) (AC g7 B8) (by first|rfl|simp[AZ,AI,AQ,(BF _ _).1,(BF _ _).1]) fun w8 g8 h8=>?_
 replace HG:=AD (AA (AA HG g3) g7) g8 Ir
 replace B8:=h8
 refine AE ?_
 refine k6 _ _ ?_
 refine AIl ?_
 repeat refine AM ?_
 refine BK (fn:=Tryz.f24) sv7 (EK (p:=2) Tryz.results24 sv7 rfl rfl (BX (BF _ _) (BF _ _) (.slice none 0 0) rfl) B8) (Bl Tryz.func65 (by kernel_rfl) rfl _ _) (Mv _) ?_
 exact⟨rfl,HG⟩
theorem Wa (k:List Nat) (hk:Dg k) (w:World) :
  Calls Tryz.prog 38 #[AO k] w fun e w'=>e=.returned (Ao (kd 273 k) (kd 274 k) (.slice none 0 0))∧w.grownBy w' none:=by
 refine BM Tryz.func38 rfl Tryz.ntmps38 rfl fun a0 sv0=>?_
 have HG:=World.grownBy.refl w none
 replace sv0:Sv 8 [] [(0,AO k)] a0:=sv0
 refine AIi fun K1 k1=>?_
 refine AIh ?_
 refine BT sv0 r6 (Bn k hk.1) fun a2 w2 B3 FJ g2 z2 AY sv2=>?_
 replace HG:=AA HG g2
 refine As (T:=36) (Z:=([bv AS,bv AS,[.slice none 0 0]].flatten)) sv2 rfl rfl rfl (fun a w=>by kernel_rfl) fun a3 w3 Mx Hq g3 z3 B8 sv3=>?_
 have Ir:=Bq HG Hq
 replace AY:=AC g3 AY
 refine AE ?_
 refine k1 _ _ ?_
 refine AIi fun K4 k4=>?_
 refine DB (sv3.st w3) (by kernel_rfl) 5 [(3,Sp.is (AO k)),(4,Sp.is (AO ((kd 273 k)))),(5,Sp.is (AO k)),(6,Sp.is (AO ((kd 274 k)))),(7,Sp.is (Ao ((kd 273 k)) ((kd 274 k)) (.slice none 0 0)))] rfl (by kernel_rfl) (by kernel_rfl) (by kernel_rfl) [] (by kernel_rfl)
  ⟨yl r6 (Bn k hk.1) AY,Ad [.int .u64 273,AO k,.slice none 0 0] Tryz.func35 (by kernel_rfl) rq4 ⟨rfl,(oy rfl rfl),rfl,AIo⟩ (Aq fun W g=>Jk (n:=273) (by decide) rfl hk W),yl r6 (Bn k hk.1) AY,Ad [.int .u64 274,AO k,.slice none 0 0] Tryz.func35 (by kernel_rfl) rq4 ⟨rfl,(oy rfl rfl),rfl,AIo⟩ (Aq fun W g=>Jk (n:=274) (by decide) rfl hk W),BI (vs:=[AO ((kd 273 k)),AO ((kd 274 k))]) rfl rfl trivial ⟨(oy rfl rfl),(oy rfl rfl),AIo⟩ (fun _=>bV2 (BF _ _) (BF _ _) _) (fun _=>rfl),AIo⟩ trivial
  [] (by kernel_rfl) trivial ⟨.inl rfl,.inl rfl,.inl rfl,.inl rfl,.inl rfl,AIo⟩ (by kernel_rfl) fun a5 w5 g5 st5 nd5=>?_
 obtain⟨hn5,hd5,e5_3,e5_4,e5_5,e5_6,e5_7,e5_2,e5_1,e5_0,-⟩:=st5
 have sv5:Sv 8 [] [(2,_),(1,_),(0,_),(7,_)] a5:=⟨hn5,hd5,e5_2,e5_1,e5_0,e5_7,AIo⟩
 refine An sv5 r7 (BX (BF _ _) (BF _ _) (.slice none 0 0) rfl) (AC g5 B8) (by first|rfl|simp[AZ,AI,AQ,(BF _ _).1,(BF _ _).1]) fun w6 g6 h6=>?_
 replace HG:=AD (AA (AA HG g3) g5) g6 Ir
 replace B8:=h6
 refine AE ?_
 refine k4 _ _ ?_
 refine AIl ?_
 repeat refine AM ?_
 refine A8 (fn:=Tryz.f38) sv5 (EK (p:=2) Tryz.results38 sv5 rfl rfl (BX (BF _ _) (BF _ _) (.slice none 0 0) rfl) B8) ?_
 exact⟨rfl,HG⟩
theorem ABT (ks:List VK) (ao:Option Addr) (cap:Nat) (sa po:List Nat) (hsa:Dg sa) (hpo:Dg po) (o:List Nat) (ho:Dg o) (a:Int) (w:World) (hr:RdK w (.slice ao ks.length cap) ks) :
   Calls Tryz.prog 32 #[Ao sa po (.slice ao ks.length cap),AO o,.int .i64 a] w fun e w'=>e=.returned (.tuple #[AO (Ck (ks.map VK.p) o a).1,.int .i64 (Ck (ks.map VK.p) o a).2])∧w.grownBy w' none:=by
 refine DX Tryz.func32 rfl Tryz.ntmps32 rfl fun a0 sv0=>?_
 have HG:=World.grownBy.refl w none
 replace sv0:Sv 39 [] [(0,Ao sa po (.slice ao ks.length cap)),(1,AO o),(2,.int .i64 a)] a0:=sv0
 refine AIi fun K1 k1=>?_
 refine AIh ?_
 refine BT sv0 r6 (BX hsa hpo (.slice ao ks.length cap) rfl) fun a2 w2 P9 Lz g2 z2 BG sv2=>?_
 refine BT sv2 r6 (Bn o ho.1) fun a3 w3 ADZ Xu g3 z3 DV sv3=>?_
 replace BG:=AC g3 BG
 replace hr:=(hr.kn g2).kn g3
 replace HG:=AA (AA HG g2) g3
 refine As (T:=23) (Z:=(bv AS)) sv3 rfl rfl rfl (fun a w=>by kernel_rfl) fun a4 w4 AHr N5 g4 z4 D0 sv4=>?_
 have Is:=Ar BG N5
 have It:=Ar DV N5
 have N6:=Bq HG N5
 have Iu:=Ax (hr.lt) N5
 replace BG:=AC g4 BG
 replace DV:=AC g4 DV
 replace hr:=hr.kn g4
 replace HG:=AA HG g4
 refine As (T:=38) (Z:=[.int .i64 0]) sv4 rfl rfl rfl (fun a w=>by kernel_rfl) fun a5 w5 AHs L3 g5 z5 EY sv5=>?_
 have Iv:=Ar BG L3
 have Iw:=Ar DV L3
 have DH:=Ar D0 L3
 have N7:=Bq HG L3
 have Ix:=Ax (hr.lt) L3
 replace BG:=AC g5 BG
 replace DV:=AC g5 DV
 replace D0:=AC g5 D0
 replace hr:=hr.kn g5
 replace HG:=AA HG g5
 refine AE ?_
 refine k1 _ _ ?_
 refine AIi fun K6 k6=>?_
 refine AIh ?_
 refine Es sv5 rfl rfl rfl rfl rfl rfl fun a7 sv7=>?_
 refine EJ sv7 rfl (dd:={ target:=.fn (.func 77) #[pt AHr,pt AHs],args:=#[] }) rfl (by have e1:=sv7.ev (x:=.tmp 10) rfl rfl;simp[execOp,resolve,Deferred.ofValue,e1];try rfl) fun a8 sv8=>?_
 refine AE ?_
 refine k6 _ _ ?_
 refine AIi fun K9 k9=>?_
 refine AIi fun K10 k10=>?_
 rcases(show CV a=false∨(CV a=true∧CE (ks.map VK.p)=false)∨(CV a=true∧CE (ks.map VK.p)=true) by cases CV a<;>cases CE (ks.map VK.p)<;>simp) with ha|⟨ha,hv⟩|⟨ha,hv⟩
 · refine AIh ?_
   refine AL sv8 8 [(11,.int .i64 a),(12,.bool false),(13,.bool true),(14,.bool true),(15,undef),(16,undef),(17,undef),(18,.bool true)]
     ⟨ym r5,Ad [.int .i64 a] Tryz.func75 (by kernel_rfl) rq4 ⟨(oy rfl rfl),AIo⟩ (Aq fun W g=>Ot ha W),Cn r6 (fun _=>BV),ym r5,AX r6,AX r6,AX r6,B6 r7,AIo⟩ fun a11 w11 g11 CH=>?_
   refine AE ?_
   refine k10 _ _ ?_
   refine Ap CH rfl rfl ?_
   refine AIi fun K12 k12=>?_
   refine AIh ?_
   replace D0:=AC g11 D0
   refine AL CH 1 [(19,AO AS)]
     ⟨BI (vs:=[]) rfl rfl trivial trivial (fun _=>bD0 _) (fun _=>rfl),AIo⟩ fun a13 w13 g13 DI=>?_
   refine An DI r7 (Bn AS AR.1) (AC g13 D0) (F5 AR) fun w14 g14 h14=>?_
   replace EY:=Ak g13 g14 (AC g11 EY) DH
   refine An DI r7 (Ed 1) EY rfl fun w15 g15 h15=>?_
   replace BG:=Ab g15 (Ak g13 g14 (AC g11 BG) (Ne.symm Is)) (Ne.symm Iv)
   replace DV:=Ab g15 (Ak g13 g14 (AC g11 DV) (Ne.symm It)) (Ne.symm Iw)
   replace D0:=Ab g15 h14 (Ne.symm DH)
   replace hr:=(((hr.kn g11).kn g13).offR g14 (AU Iu)).offR g15 (AU Ix)
   replace HG:=AD (AD (AA (AA HG g11) g13) g14 N6) g15 N7
   replace EY:=h15
   refine AE ?_
   refine k12 _ _ ?_
   refine AIl ?_
   repeat refine AM ?_
   refine BK (fn:=Tryz.f32) DI (BQ (p:=6) (q:=7) Tryz.results32 DI rfl rfl rfl rfl (Bn AS AR.1) (Ed 1) D0 EY) (Bl Tryz.func77 (by kernel_rfl) rfl _ _) (Hn _ _ _) ?_
   exact⟨ABS (Ua (.inl ha)),HG⟩
 · refine AIh ?_
   refine AL sv8 8 [(11,.int .i64 a),(12,.bool true),(13,.bool false),(14,.bool false),(15,Ao sa po (.slice ao ks.length cap)),(16,.bool false),(17,.bool true),(18,.bool true)]
     ⟨ym r5,Ad [.int .i64 a] Tryz.func75 (by kernel_rfl) rq4 ⟨(oy rfl rfl),AIo⟩ (Aq fun W g=>Ot ha W),Cn r6 (fun _=>BV),ym r5,Az rq9 (fun _ g=>Ae (BX hsa hpo (.slice ao ks.length cap) rfl) (Al (AF g BG (by simp)))),CG [Ao sa po (.slice ao ks.length cap)] Tryz.func51 (by kernel_rfl) r7 ⟨(oy rfl rfl),AIo⟩ (Aq fun W g=>Gj hsa hpo (hr.kn g) hv),IT rfl rfl (gy rfl rfl rfl) (oy rfl rfl) (fun _=>BV) (fun _=>rfl),A3 rq9,AIo⟩ fun a16 w16 g16 Cj=>?_
   refine AE ?_
   refine k10 _ _ ?_
   refine Ap Cj rfl rfl ?_
   refine AIi fun K17 k17=>?_
   refine AIh ?_
   replace D0:=AC g16 D0
   refine AL Cj 1 [(19,AO AS)]
     ⟨BI (vs:=[]) rfl rfl trivial trivial (fun _=>bD0 _) (fun _=>rfl),AIo⟩ fun a18 w18 g18 CS=>?_
   refine An CS r7 (Bn AS AR.1) (AC g18 D0) (F5 AR) fun w19 g19 h19=>?_
   replace EY:=Ak g18 g19 (AC g16 EY) DH
   refine An CS r7 (Ed 1) EY rfl fun w20 g20 h20=>?_
   replace BG:=Ab g20 (Ak g18 g19 (AC g16 BG) (Ne.symm Is)) (Ne.symm Iv)
   replace DV:=Ab g20 (Ak g18 g19 (AC g16 DV) (Ne.symm It)) (Ne.symm Iw)
   replace D0:=Ab g20 h19 (Ne.symm DH)
   replace hr:=(((hr.kn g16).kn g18).offR g19 (AU Iu)).offR g20 (AU Ix)
   replace HG:=AD (AD (AA (AA HG g16) g18) g19 N6) g20 N7
   replace EY:=h20
   refine AE ?_
   refine k17 _ _ ?_
   refine AIl ?_
   repeat refine AM ?_
   refine BK (fn:=Tryz.f32) CS (BQ (p:=6) (q:=7) Tryz.results32 CS rfl rfl rfl rfl (Bn AS AR.1) (Ed 1) D0 EY) (Bl Tryz.func77 (by kernel_rfl) rfl _ _) (Hn _ _ _) ?_
   exact⟨ABS (Ua (.inr hv)),HG⟩
 · obtain⟨i,hi⟩:∃i,pos (ks.map VK.p) o=i:=⟨_,rfl⟩
   have h64:ks.length≤64:=by have:=(Dz.1 hv).1;simpa using this
   refine AIh ?_
   refine AL sv8 8 [(11,.int .i64 a),(12,.bool true),(13,.bool false),(14,.bool false),(15,Ao sa po (.slice ao ks.length cap)),(16,.bool true),(17,.bool false),(18,.bool false)]
     ⟨ym r5,Ad [.int .i64 a] Tryz.func75 (by kernel_rfl) rq4 ⟨(oy rfl rfl),AIo⟩ (Aq fun W g=>Ot ha W),Cn r6 (fun _=>BV),ym r5,Az rq9 (fun _ g=>Ae (BX hsa hpo (.slice ao ks.length cap) rfl) (Al (AF g BG (by simp)))),CG [Ao sa po (.slice ao ks.length cap)] Tryz.func51 (by kernel_rfl) r7 ⟨(oy rfl rfl),AIo⟩ (Aq fun W g=>Gj hsa hpo (hr.kn g) hv),IT rfl rfl (gy rfl rfl rfl) (oy rfl rfl) (fun _=>BV) (fun _=>rfl),A3 rq9,AIo⟩ fun a21 w21 g21 DY=>?_
   refine AE ?_
   refine k10 _ _ ?_
   refine Au DY rfl rfl ?_
   refine AIm ?_
   refine k9 _ _ ?_
   refine AIi fun K22 k22=>?_
   replace BG:=AC g21 BG
   replace DV:=AC g21 DV
   replace D0:=AC g21 D0
   replace EY:=AC g21 EY
   replace hr:=hr.kn g21
   replace HG:=AA HG g21
   cases hf:Hd (ks.map VK.p) o
   · refine AIh ?_
     refine AL DY 6 [(21,Ao sa po (.slice ao ks.length cap)),(22,AO o),(23,.tuple #[.int .i64 ((i:Int)),.bool false]),(20,.tuple #[.int .i64 ((i:Int)),.bool false]),(24,.int .i64 ((i:Int))),(25,.bool false)]
      ⟨yl r6 (BX hsa hpo (.slice ao ks.length cap) rfl) BG,yl r6 (Bn o ho.1) DV,Ad [Ao sa po (.slice ao ks.length cap),AO o] Tryz.func71 (by kernel_rfl) rq4 ⟨(oy rfl rfl),(oy rfl rfl),AIo⟩ (Aq fun W g=>Ou hsa hpo ho (hr.kn g) hv hf hi),ym r5,BH rq4 (fun _ _ h=>⟨_,_,h,rfl,rfl⟩),BH rq4 (fun _ _ h=>⟨_,_,h,rfl,rfl⟩),AIo⟩ fun a23 w23 g23 Cg=>?_
     refine Aa (v:=.int .i64 ((i:Int))) Cg r6 fun a24 DZ=>?_
     refine Aa (v:=.bool false) DZ r6 fun a25 Cx=>?_
     have CW:Sv _ _ [_,_,_,_,_,_,_,_,_,_,_,_,_,_,_,_,_] _:=Cx.dl [21,22,23,20,24,25,4]
     refine AE ?_
     refine k22 _ _ ?_
     refine AIi fun K27 k27=>?_
     refine AIi fun K28 k28=>?_
     refine AIh ?_
     refine AL CW 2 [(26,.bool false),(27,.bool true)]
      ⟨ym r5,Cn r6 (fun _=>BV),AIo⟩ fun a29 w29 g29 CI=>?_
     have IV:=AA g23 g29
     refine AE ?_
     refine k28 _ _ ?_
     refine Ap CI rfl rfl ?_
     refine AIi fun K30 k30=>?_
     refine AIh ?_
     replace D0:=AC IV D0
     refine AL CI 1 [(28,AO AS)]
      ⟨BI (vs:=[]) rfl rfl trivial trivial (fun _=>bD0 _) (fun _=>rfl),AIo⟩ fun a31 w31 g31 Gh=>?_
     refine An Gh r7 (Bn AS AR.1) (AC g31 D0) (F5 AR) fun w32 g32 h32=>?_
     replace EY:=Ak g31 g32 (AC IV EY) DH
     refine An Gh r7 (Ed 10) EY rfl fun w33 g33 h33=>?_
     replace BG:=Ab g33 (Ak g31 g32 (AC IV BG) (Ne.symm Is)) (Ne.symm Iv)
     replace DV:=Ab g33 (Ak g31 g32 (AC IV DV) (Ne.symm It)) (Ne.symm Iw)
     replace D0:=Ab g33 h32 (Ne.symm DH)
     replace hr:=(((hr.kn IV).kn g31).offR g32 (AU Iu)).offR g33 (AU Ix)
     replace HG:=AD (AD (AA (AA HG IV) g31) g32 N6) g33 N7
     replace EY:=h33
     refine AE ?_
     refine k30 _ _ ?_
     refine AIl ?_
     repeat refine AM ?_
     refine BK (fn:=Tryz.f32) Gh (BQ (p:=6) (q:=7) Tryz.results32 Gh rfl rfl rfl rfl (Bn AS AR.1) (Ed 10) D0 EY) (Bl Tryz.func77 (by kernel_rfl) rfl _ _) (Hn _ _ _) ?_
     exact⟨ABS (RK ha hv hf),HG⟩
   · have hil:i<ks.length:=by have:=(Mo hf).1;rw[hi] at this;simpa using this
     obtain⟨x,hx_x⟩:∃x,ks[i]'hil=x:=⟨_,rfl⟩
     have htr:tr (ks.map VK.p) i=x.l:=by rw[Rz hil,hx_x]
     refine AIh ?_
     refine AL DY 6 [(21,Ao sa po (.slice ao ks.length cap)),(22,AO o),(23,.tuple #[.int .i64 ((i:Int)),.bool true]),(20,.tuple #[.int .i64 ((i:Int)),.bool true]),(24,.int .i64 ((i:Int))),(25,.bool true)]
      ⟨yl r6 (BX hsa hpo (.slice ao ks.length cap) rfl) BG,yl r6 (Bn o ho.1) DV,Ad [Ao sa po (.slice ao ks.length cap),AO o] Tryz.func71 (by kernel_rfl) rq4 ⟨(oy rfl rfl),(oy rfl rfl),AIo⟩ (Aq fun W g=>Ou hsa hpo ho (hr.kn g) hv hf hi),ym r5,BH rq4 (fun _ _ h=>⟨_,_,h,rfl,rfl⟩),BH rq4 (fun _ _ h=>⟨_,_,h,rfl,rfl⟩),AIo⟩ fun a34 w34 g34 JO=>?_
     refine Aa (v:=.int .i64 ((i:Int))) JO r6 fun a35 Kh=>?_
     refine Aa (v:=.bool true) Kh r6 fun a36 FQ=>?_
     have F6:Sv _ _ [_,_,_,_,_,_,_,_,_,_,_,_,_,_,_,_,_] _:=FQ.dl [21,22,23,20,24,25,4]
     refine AE ?_
     refine k22 _ _ ?_
     refine AIi fun K38 k38=>?_
     refine AIi fun K39 k39=>?_
     refine AIh ?_
     refine AL F6 2 [(26,.bool true),(27,.bool false)]
      ⟨ym r5,Cn r6 (fun _=>BV),AIo⟩ fun a40 w40 g40 Ji=>?_
     have ABU:=AA g34 g40
     refine AE ?_
     refine k39 _ _ ?_
     refine Au Ji rfl rfl ?_
     refine AIm ?_
     refine k38 _ _ ?_
     refine AIi fun K41 k41=>?_
     refine AIh ?_
     replace BG:=AC ABU BG
     replace D0:=AC ABU D0
     replace hr:=hr.kn ABU
     refine AL Ji 10 [(29,pk P9 64),(30,.slice ao ks.length cap),(31,.int .i64 ((i:Int))),(32,pk ((bO ao)) (oO ao+i*33)),(33,pk ((bO ao)) (oO ao+i*33+32)),(34,.agg #[VK.s x]),(35,.int .i64 a),(36,.tuple #[AO ((Cs x.l a).1),.int .i64 ((Cs x.l a).2)]),(37,AO ((Cs x.l a).1)),(38,.int .i64 ((Cs x.l a).2))]
      ⟨yf r6 (fun _=>by kernel_rfl),yp (i:=2) r6 (Dn (.slice ao ks.length cap) rfl) BG rfl (by simp[AI,AQ,hsa.1,hpo.1]),ym r5,BD rq8 (fun w=>CM Tryz.underlying34 (by kernel_rfl) (hr.1.1) (by omega) (rfl) w),yf r6 (fun _=>by kernel_rfl),Bv r6 (fun _ g=>Ae (Yz (VK.s x) rfl) (RdK.treeX (hr.kn g) rfl hil hx_x)),ym r5,Ad [.agg #[VK.s x],.int .i64 a] Tryz.func78 (by kernel_rfl) rq4 ⟨(oy rfl rfl),(oy rfl rfl),AIo⟩ (Aq fun W g=>ZC rfl ((hr.kn g).kt hil hx_x)),BH rq4 (fun _ _ h=>⟨_,_,h,rfl,rfl⟩),BH rq4 (fun _ _ h=>⟨_,_,h,rfl,rfl⟩),AIo⟩ fun a42 w42 g42 Gi=>?_
     refine An Gi r7 (Bn ((Cs x.l a).1) (KD ((hr.kt hil hx_x).2.1) a).1) (AC g42 D0) (F5 (KD ((hr.kt hil hx_x).2.1) a)) fun w43 g43 h43=>?_
     replace EY:=Ak g42 g43 (AC ABU EY) DH
     refine An Gi r7 (Ed ((Cs x.l a).2)) EY rfl fun w44 g44 h44=>?_
     replace D0:=Ab g44 h43 (Ne.symm DH)
     replace hr:=((hr.kn g42).offR g43 (AU Iu)).offR g44 (AU Ix)
     replace HG:=AD (AD (AA (AA HG ABU) g42) g43 N6) g44 N7
     replace EY:=h44
     have Ec:Sv _ _ [_,_,_,_,_,_,_,_,_,_,_,_,_,_,_,_,_,_] _:=Gi.dl [29,30,31,32,33,34,35,36,37,38,8]
     refine AE ?_
     refine k41 _ _ ?_
     refine AIl ?_
     repeat refine AM ?_
     refine BK (fn:=Tryz.f32) Ec (BQ (p:=6) (q:=7) Tryz.results32 Ec rfl rfl rfl rfl (Bn ((Cs x.l a).1) (KD ((hr.kt hil hx_x).2.1) a).1) (Ed ((Cs x.l a).2)) D0 EY) (Bl Tryz.func77 (by kernel_rfl) rfl _ _) (Hn _ _ _) ?_
     exact⟨AHq (RL ha hv hf hi htr).symm,HG⟩
end Go.Proofs.YtbfjfnbcmojpiaaGreat
namespace Go.Proofs.YtbfjfnbcmojpiaaGreat
open Go.RowKit
def Sp.made (B:Nat) (e:TypeId) (sz n:Nat) (xs:List Value):Sp:=⟨fun w v=>∃A,v=.slice (some ⟨A,0,none⟩) n n∧Own w e sz (.slice (some ⟨A,0,none⟩) n n) n xs∧B≤A,fun _ _ _ hg ⟨A,h1,h2,h3⟩=>⟨A,h1,h2.kn hg,h3⟩⟩
section
variable {P:Program} {ops:Array Oper} {L:Nat→Sp} {n:Nat} {w0:World} {o:Oper}
theorem Oi {z:Value} {sz:Nat} (hz:z.cells.size=sz) (hp:0<sz) (m:Nat):(madeCells z.cells (m*sz)).toList=(List.replicate m ()).flatMap fun _=>z.cells.toList:=by
 refine List.ext_getElem? fun i=>?_
 have hl:((List.replicate m ()).flatMap fun _=>z.cells.toList).length=m*sz:=by rw[Fz (sz:=sz) (fun _=>by simpa using hz)];simp
 by_cases hi:i<m*sz
 · have h1:i/sz<m:=(Nat.div_lt_iff_lt_mul hp).2 hi
   have h2:i%sz<sz:=Nat.mod_lt _ hp
   have e1:(madeCells z.cells (m*sz)).toList[i]?=some z.cells[i%sz]!:=by rw[←hz] at hi ⊢;simp[madeCells,hi]
   have e2:((List.replicate m ()).flatMap fun _=>z.cells.toList)[i]?=some (z.cells[i%sz]'(by omega)):=by
    have hsp:=Jb (c:=fun _=>z.cells.toList) (L:=List.replicate m ()) (j:=i/sz) (by simpa using h1)
    rw[hsp,List.getElem?_append_right (by rw[Fz (sz:=sz) (fun _=>by simpa using hz),List.length_take,List.length_replicate,Nat.min_eq_left (Nat.le_of_lt h1)];exact Nat.div_mul_le_self i sz),Fz (sz:=sz) (fun _=>by simpa using hz),List.length_take,List.length_replicate,Nat.min_eq_left (Nat.le_of_lt h1)]
    have e3:i-i/sz*sz=i%sz:=by have:=Nat.div_add_mod i sz;rw[Nat.mul_comm] at this;omega
    rw[e3,List.getElem?_append_left (by simpa [hz] using h2),Array.getElem?_toList,Array.getElem?_eq_getElem (by omega)]
   rw[e1,e2,getElem!_pos z.cells _ (by omega)]
 · rw[List.getElem?_eq_none (by simp[madeCells];omega),List.getElem?_eq_none (by omega)]
theorem ADN {t e:TypeId} {z:Value} {size bytes d B m:Nat} {x:Operand} {xs:List Value} (E:ET P t e z size bytes) (ho:o.op=.makeSlice t x x) (hd:o.dst=some d) (hg:GX ops L n o.guard) (hB:B≤w0.heap.size)
  (hx:OpX L n x (.int .i64 (m:Int))) (hm:m≤1000000) (hxs:xs=(List.replicate m ()).flatMap fun _=>z.cells.toList)
  (h:∀w v,(Sp.made B e size m xs).on w v→(L d).on w v):OX P ops L n w0 o:=by
 intro a w hw hl hs
 unfold OpSays
 rw[if_pos (hg.wanted hl hs)]
 have e1:=hx.eval (o:=o) (a:=a) (w:=w) (by simp[ho,Op.operands]) hl
 obtain⟨i,hi,hz,rfl,hby⟩:=E.inf
 have hb:=E.bnd
 have hbytes:(i.bytes:Int)*(m:Int)≤281474976710656:=by
  have h1:i.bytes*m≤128*1000000:=Nat.mul_le_mul (by omega) hm
  have h2:((i.bytes*m:Nat):Int)≤((128*1000000:Nat):Int):=by omega
  rw[Int.natCast_mul] at h2
  omega
 have hr:=run_make (P:=P) w t e i z E.und hi hz .i64 .i64 (m:Int) (m:Int) (by omega) (by omega) hbytes (by omega)
 have hrr:(execOp a.eval o).run P w=.ok (.value (.slice (some ⟨w.heap.size,0,none⟩) m m)) (w.alloc (.cells (madeCells z.cells (m*i.size)) e)):=by
  simp only[execOp,ho,e1,Sem.run_bind,Sem.run_pure,Result.andThen_ok,hr,Int.toNat_natCast]
 rw[hrr]
 refine⟨World.grownBy_alloc _ _ _,Co hd (h _ _ ⟨_,rfl,?_,Nat.le_trans hB hw.size⟩)⟩
 have hcl:(madeCells z.cells (m*i.size)).size=m*i.size:=size_madeCells _ _
 refine⟨by rw[hxs,←Oi E.zsz E.pos,Array.length_toList,hcl],.inr ⟨w.heap.size,m,_,rfl,Nat.zero_le _,Ah rfl,Nat.le_refl _,by unfold maxLen;omega,hcl,?_⟩⟩
 rw[hxs,←Oi E.zsz E.pos,List.take_of_length_le (by rw[Array.length_toList,hcl];exact Nat.le_refl _)]
theorem Rs {t e:TypeId} (ht:P.underlying t=some (.slice e)) {x y:Operand} {ao:Option Addr} {l c:Nat} {r:Bool} (hr:ao.isNone=r) {w:World}:(do eqGuard .eql t x y (.slice ao l c) (.slice none 0 0);binOp .eql t (.slice ao l c) (.slice none 0 0):Sem Value).run P w=.ok (.bool r) w:=by
 subst hr
 have:=run_eql_slice_nil (P:=P) w t e ao l c ht
 simp[eqGuard,this]
end
def Oj:VK:=⟨AS,AR,none,0,[]⟩
theorem AGh (m:Nat):((List.replicate m ()).flatMap fun _=>zK.cells.toList)=(List.replicate m Oj).flatMap AZ:=by
 induction m with
 | zero=>rfl
 | succ m ih=>rw[List.replicate_succ,List.replicate_succ,List.flatMap_cons,List.flatMap_cons,ih];rfl
theorem KsR.rep (w:World) (m:Nat):KsR w (List.replicate m Oj):=fun k hk=>by
 obtain⟨_,rfl⟩:=List.mem_replicate.1 hk
 exact RdT.nil w
theorem Jd (m b:Nat):¬DF (List.replicate m Oj) b:=by
 rintro ⟨k,hk,h⟩
 obtain⟨_,rfl⟩:=List.mem_replicate.1 hk
 simp[Lc,VK.s,Oj,Value.ownBlock] at h
theorem KsR.set {w:World} {ms:List VK} (h:KsR w ms) {x:VK} (hx:RdT w x.s x.l) (i:Nat):KsR w (ms.set i x):=fun k hk=>(List.mem_or_eq_of_mem_set hk).elim (h k) fun e=>e▸hx
theorem IU {ms:List VK} {x:VK} {i b:Nat} (h:DF (ms.set i x) b):DF ms b∨Lc x.s b:=by
 obtain⟨k,hk,hb⟩:=h
 exact(List.mem_or_eq_of_mem_set hk).elim (fun h=>.inl ⟨k,h,hb⟩) fun e=>.inr (e▸hb)
def KsT (w:World) (ms:List VK):Prop:=KsR w ms∧∀k,DF ms k→TagB w k
section
variable {w w':World} {ms:List VK}
theorem KsT.kn (h:KsT w ms) (g:w.grownBy w' none):KsT w' ms:=⟨h.1.kn g,fun k hk=>(h.2 k hk).keep g (by simp)⟩
theorem KsT.offR (h:KsT w ms) {row:Option Nat} (g:w.grownBy w' row) (hb:∀k,DF ms k→row≠some k):KsT w' ms:=⟨h.1.offR g hb,fun k hk=>(h.2 k hk).keep g (hb k hk)⟩
theorem KsT.lt (h:KsT w ms):∀k,DF ms k→k<w.heap.size:=h.1.lt
theorem KsT.rep (w:World) (m:Nat):KsT w (List.replicate m Oj):=⟨KsR.rep w m,fun k hk=>(Jd m k hk).elim⟩
theorem KsT.set (h:KsT w ms) {x:VK} (hx:RdTg w x.s x.l) (i:Nat):KsT w (ms.set i x):=⟨h.1.set hx.1 i,fun k hk=>(IU hk).elim (h.2 k) (hx.2 k)⟩
end
def Sp.ck (B:Nat) (o:List Nat) (l:List Nd):Sp:=⟨fun w v=>∃x:VK,v=F4 x∧x.o=o∧x.l=l∧RdTg w x.s x.l∧∀k,Lc x.s k→B≤k,fun _ _ _ hg ⟨x,h1,h2,h3,h4,h5⟩=>⟨x,h1,h2,h3,h4.kn hg,h5⟩⟩
section
variable {ops:Array Oper} {L:Nat→Sp} {n:Nat} {w0:World} {o:Oper}
theorem AGi {B:Nat} {l:List Nd} {w:World} {u:Value} (h:(Sp.cl B l).on w u):∃v,(Instr.build 56 #[(0,u)]).run Tryz.prog w=.ok v w∧(Sp.ct B l).on w v:=by
 obtain⟨ao,cap,rfl,h2,h3⟩:=h
 exact⟨_,AHo ao _ cap w,ao,cap,rfl,h2,h3⟩
theorem ABC {B:Nat} {l:List Nd} {x:List Nat} (hx:Dg x) {w:World} {u t:Value} (hu:u=AO x) (h:(Sp.ct B l).on w t):∃v,(Instr.build 58 #[(0,u),(1,t)]).run Tryz.prog w=.ok v w∧(Sp.ck B x l).on w v:=by
 obtain⟨ao,cap,rfl,h2,h3⟩:=h
 subst hu
 exact⟨_,bK2 (k:=⟨x,hx,ao,cap,l⟩) w,⟨x,hx,ao,cap,l⟩,rfl,rfl,rfl,h2,h3⟩
end
theorem AGj (x:VK) (w:World):(Instr.buildSlice 34 1 #[(0,F4 x)]).run Tryz.prog w=.ok (.slice (some ⟨w.heap.size,0,none⟩) 1 1) (w.alloc (.cells (AZ x).toArray 58)):=by
 obtain⟨o,ho,ao,cap,l⟩:=x
 obtain⟨x0,x1,x2,x3,x4,x5,x6,x7,x8,x9,x10,x11,x12,x13,x14,x15,x16,x17,x18,x19,x20,x21,x22,x23,x24,x25,x26,x27,x28,x29,x30,x31,rfl⟩:=Gc _ ho.1
 kernel_rfl
theorem ADO {ks ms:List VK} {i:Nat} {x y:VK} (hl:ms.length=ks.length) (hi:i<ks.length) (hx:ks[i]=x) (ho:y.o=x.o) (hll:y.l=x.l) (h:∀j,j<i→(ms.map VK.p)[j]?=(ks.map VK.p)[j]?):∀j,j<i+1→((ms.set i y).map VK.p)[j]?=(ks.map VK.p)[j]?:=by
 intro j hj
 rw[List.getElem?_map,List.getElem?_set]
 by_cases e:i=j
 · subst e
   rw[if_pos rfl,if_pos (by omega),List.getElem?_map,List.getElem?_eq_getElem hi,hx]
   simp[VK.p,ho,hll]
 · rw[if_neg e,←List.getElem?_map]
   exact h j (by omega)
theorem AFX {ks ms:List VK} {i:Nat} (hl:ms.length=ks.length) (hi:¬i<ks.length) (h:∀j,j<i→(ms.map VK.p)[j]?=(ks.map VK.p)[j]?):ms.map VK.p=ks.map VK.p:=by
 refine List.ext_getElem? fun j=>?_
 by_cases hj:j<ks.length
 · exact h j (by omega)
 · rw[List.getElem?_eq_none (by simpa [hl] using hj),List.getElem?_eq_none (by simpa using hj)]
end Go.Proofs.YtbfjfnbcmojpiaaGreat
