import Derived.Test.YtbfjfnbcmojpiaaGreatBkV4
import Derived.Lib.AppendZerosOnto
import Derived.Lib.SliceRun
import Derived.Laws.Externs
import Derived.Laws.IdiomCopy
import Derived.Deep.RegionLaw
import Derived.Test.YtbfjfnbcmojpiaaGreatBkSG
import Derived.Laws.MakeOwn
import Derived.Lib.LazyBuf
set_option linter.unusedSimpArgs false
set_option linter.unusedVariables false
set_option maxRecDepth 100000
set_option maxHeartbeats 4000000
namespace Go.Proofs.YtbfjfnbcmojpiaaGreat
open Go.RowKit
def zK:Value:=.agg ([bv AS,[.slice none 0 0]].flatten).toArray
theorem AAd:zK.cells.size=33:=rfl
theorem To:ET Tryz.prog 34 58 zK 33 56:=⟨Tryz.underlying34,info_parts (by kernel_rfl),rfl,by decide,by decide⟩
theorem IZ (l:List VK):(l.flatMap Ac).length=l.length*33:=Fs Cp l
theorem Own.blk {w:World} {e:TypeId} {sz g n cap:Nat} {xs:List Value} (h:Own w e sz (.slice (some ⟨g,0,none⟩) n cap) n xs):∃C:List Value,w.heap[g]?=some (.cells C.toArray e (0,0))∧n≤cap∧cap≤maxLen∧C.length=cap*sz∧C.take (n*sz)=xs:=by
 obtain⟨hl,h2⟩:=h
 rcases h2 with ⟨h3,_⟩|⟨g',cap',cur,h3,hb,hg,hnc,hcm,hcs,ht⟩
 · cases h3
 · simp only[Value.slice.injEq,Option.some.injEq,Addr.mk.injEq,and_true] at h3
   obtain⟨rfl,_,rfl⟩:=h3
   exact⟨cur.toList,by simpa using hg,hnc,hcm,by simpa using hcs,ht⟩
theorem Own.mk' {w:World} {e:TypeId} {sz g n cap:Nat} {xs C:List Value} (h1:w.heap[g]?=some (.cells C.toArray e (0,0))) (h2:n≤cap) (h3:cap≤maxLen) (h4:C.length=cap*sz) (h5:C.take (n*sz)=xs):Own w e sz (.slice (some ⟨g,0,none⟩) n cap) n xs:=by
 have hm:n*sz≤cap*sz:=Nat.mul_le_mul_right _ h2
 exact⟨by rw[←h5,List.length_take];omega,.inr ⟨g,cap,C.toArray,rfl,Nat.zero_le _,h1,h2,h3,by simpa using h4,by simpa using h5⟩⟩
theorem Vl {P:Program} (w:World) (dT sT ty elem:TypeId) (size:Nat) (b o dLen dCap:Nat) (a:Addr) (sLen sCap:Nat) (cs:List Value)
  (hu:P.underlying dT=some (.slice elem)) (hs:(P.info? elem).map (·.size)=some size) (hn:cs.length=Nat.min sLen dLen*size)
  (hsrc:∀j v,cs[j]?=some v→w.cell? (a.add j)=some v) (hc:∀j,j<cs.length→(w.cell? ⟨b,o+j,none⟩).isSome=true) (hf:∀j,j<cs.length→w.frozen? ⟨b,o+j,none⟩=false) (h1:∀v∈cs,v.oneCell'=true) :
  (Builtin.copy_ #[dT,sT] ty #[.slice (some ⟨b,o,none⟩) dLen dCap,.slice (some a) sLen sCap]).run P w=.ok (goInt (Nat.min sLen dLen)) (w.setCells b o cs):=by
 have hl:=run_loadCells_list (P:=P) w a cs hsrc
 have hst:=run_storeCells_cells (P:=P) b o cs 0 w (by simpa using hc) (by simpa using hf) h1
 cases hq:P.info? elem with
 | none=>simp[hq] at hs
 | some i =>
  have hi:i.size=size:=by simpa [hq] using hs
  simp only[Nat.add_zero] at hst
  rw[hn] at hl
  simp[Builtin.copy_,run_underlying hu,Builtin.lenOf,Builtin.firstCells,sizeOf,typeInfo,hq,hi,hl,hst]
theorem Qk {P:Program} (w:World) (dT sT ty elem:TypeId) (size:Nat) (g o dLen dCap:Nat) (a:Addr) (sLen sCap:Nat) (cs C:List Value)
  (hu:P.underlying dT=some (.slice elem)) (hs:(P.info? elem).map (·.size)=some size) (hn:cs.length=Nat.min sLen dLen*size)
  (hsrc:∀j v,cs[j]?=some v→w.cell? (a.add j)=some v) (hb:w.heap[g]?=some (.cells C.toArray elem (0,0))) (hfit:o+cs.length≤C.length) (h1:∀v∈cs,v.oneCell'=true) :
  ∃w',(Builtin.copy_ #[dT,sT] ty #[.slice (some ⟨g,o,none⟩) dLen dCap,.slice (some a) sLen sCap]).run P w=.ok (goInt (Nat.min sLen dLen)) w'∧w.grownBy w' (some g)∧w'.heap[g]?=some (.cells (C.take o++(cs++C.drop (o+cs.length))).toArray elem (0,0)):=by
 refine⟨_,Vl w dT sT ty elem size g o dLen dCap a sLen sCap cs hu hs hn hsrc (fun j hj=>?_) (fun j hj=>AH9 w g _ _ elem hb) h1,Ch _ _ _ _,IL C o cs hb hfit⟩
 rw[Jk hb,List.getElem?_eq_getElem (by omega)]
 rfl
theorem JQ {P:Program} {w:World} {ops:Array Oper} {rest:List Oper} {o:Oper} {a:Act} {Q:Exit→Act→World→Prop} (hgd:o.guard=none) (s x:Operand) (t t':TypeId)
  (ho:o.op=.call { callee:=.builtin .append,args:=#[s,x],argTypes:=#[t,t'] }) (v u:Value) (hs:a.eval s=v) (hx:a.eval x=u) {v':Value} {w':World}
  (hr:(Builtin.append_ #[t,t'] o.type #[v,u]).run P w=.ok v' w') (h:wpList P ops Q rest (a.put o.dst v') w'):wpList P ops Q (o::rest) a w:=by
 refine wpList_plain hgd fun K hK=>?_
 unfold Oper.wp execOp
 simp only[ho,resolve,invoke,builtin,Sem.run_bind,Sem.run_pure,Result.andThen_ok,List.map_toArray,List.map_cons,List.map_nil,hs,hx,hr]
 exact hK _ _ h
theorem AAe {w:World} {V:Nat} {x:VK} (h:w.heap[V]?=some (.cells (Ac x).toArray 58 (0,0))):Sl w 33 (.slice (some ⟨V,0,none⟩) 1 1) 1 (Ac x):=
 ⟨by rw[Cp],some ⟨V,0,none⟩,1,rfl,Nat.le_refl _,by unfold maxLen;omega,fun h=>(by cases h),fun a ha=>by
  obtain rfl:=Option.some.inj ha
  refine⟨fun _=>rfl,fun j u hu=>?_⟩
  rw[Nat.zero_add,Jk h]
  exact hu⟩
theorem AAf (l:List VK):∀v∈l.flatMap Ac,v.oneCell'=true:=List.all_eq_true.1 (OD l)
theorem Yi (l:List VK) (i:Nat) (hi:i≤l.length):(l.take i).flatMap Ac=(l.flatMap Ac).take (i*33):=by
 have e:l.flatMap Ac=(l.take i).flatMap Ac++(l.drop i).flatMap Ac:=by rw[←List.flatMap_append,List.take_append_drop]
 rw[e,List.take_left' (by rw[IZ,List.length_take];omega)]
theorem Yj (l:List VK) (i:Nat) (hi:i≤l.length):(l.drop i).flatMap Ac=(l.flatMap Ac).drop (i*33):=by
 have e:l.flatMap Ac=(l.take i).flatMap Ac++(l.drop i).flatMap Ac:=by rw[←List.flatMap_append,List.take_append_drop]
 rw[e,List.drop_left' (by rw[IZ,List.length_take];omega)]
theorem AEw {α:Type} (C X Y:List α) (a:Nat) (hC:a+X.length+Y.length≤C.length) :
  ((C.take a++(X++C.drop (a+X.length))).take (a+X.length)++(Y++(C.take a++(X++C.drop (a+X.length))).drop (a+X.length+Y.length))).take (a+X.length+Y.length)=C.take a++(X++Y):=by
 have h1:(C.take a).length=a:=by rw[List.length_take];omega
 have h2:(C.take a++(X++C.drop (a+X.length))).take (a+X.length)=C.take a++X:=by
  rw[←List.append_assoc,List.take_left' (by rw[List.length_append,h1])]
 rw[h2,←List.append_assoc,List.take_left' (by simp only[List.length_append,h1]),List.append_assoc]
theorem Yk (l:List VK) (x:VK) (i:Nat) (hi:i≤l.length):(l.take i++x::l.drop i).flatMap Ac=(l.flatMap Ac).take (i*33)++(Ac x++(l.flatMap Ac).drop (i*33)):=by
 rw[List.flatMap_append,List.flatMap_cons,Yi l i hi,Yj l i hi]
theorem Ra {P:Program} {t e:TypeId} {z:Value} {size bytes:Nat} (E:ET P t e z size bytes) (ty:TypeId) {w:World} {A n0:Nat} {xs:List Value} (hown:Own w e size (.slice (some ⟨A,0,none⟩) n0 n0) n0 xs)
  {sv:Value} {m:Nat} {news:List Value} (hs:Sl w size sv m news) (h1:news.all Value.oneCell'=true) (hm:0<m) (h63:n0+m≤1000000000) :
  ∃v' w',(Builtin.append_ #[t,t] ty #[.slice (some ⟨A,0,none⟩) n0 n0,sv]).run P w=.ok v' w'∧Own w' e size v' (n0+m) (xs++news)∧w.grownBy w' none∧∀k,BO v' k→w.heap.size≤k:=by
 obtain⟨i,hi,hz,rfl,hby⟩:=E.inf
 have hb:=E.bnd
 obtain⟨v',w',hr,hown',hst⟩:=Qu E ty hown hs h1 (by omega)
 have hold:=(Sl.of_own hown)
 obtain⟨hlo,ao0,cap0,e0,_,_,_,hc0⟩:=hold
 simp only[Value.slice.injEq,true_and] at e0
 obtain⟨rfl,rfl⟩:=e0
 obtain⟨hl,ao,cap,rfl,hm1,hm2,h3,h4⟩:=hs
 cases ao with
 | none=>have:=h3 rfl;omega
 | some ad =>
  obtain⟨b,off,spot⟩:=ad
  obtain⟨hsp,hc⟩:=h4 _ rfl
  have hsp:=hsp hm
  simp at hsp
  subst hsp
  have hbytes:(n0+m)*bytes≤140737488355328:=by
   have:(n0+m)*bytes≤1000000000*128:=Nat.mul_le_mul h63 hb
   omega
  have hr2:=run_append_grow (P:=P) w t ty e i z E.und hi hz ⟨A,0,none⟩ n0 n0 xs hlo (fun j u hj=>by rw[Addr.add_lit];exact(hc0 _ rfl).2 j u hj) ⟨b,off,none⟩ m cap news hl (fun j u hj=>by rw[Addr.add_lit];exact hc j u hj) (by omega) (by omega) (growslice_fits (by omega) (by subst hby;exact hbytes))
  have hr3:=hr2
  rw[hr] at hr2
  simp only[Result.ok.injEq] at hr2
  obtain⟨rfl,rfl⟩:=hr2
  exact⟨_,_,hr3,hown',AA (Cb w) (World.grownBy_alloc _ _ _),fun k hk=>by simp[BO,Value.ownBlock] at hk;omega⟩
theorem NF (l:List VK) (x:VK) (g V:Nat) (w:World) (hown:Own w 58 33 (.slice (some ⟨g,0,none⟩) l.length l.length) l.length (l.flatMap Ac)) (hv:w.heap[V]?=some (.cells (Ac x).toArray 58 (0,0))) (hn:l.length≤1000000) :
  Calls Tryz.prog 83 #[.slice (some ⟨g,0,none⟩) l.length l.length,.int .i64 (l.length:Nat),.slice (some ⟨V,0,none⟩) 1 1] w fun e w'=>∃v',e=.returned v'∧Own w' 58 33 v' (l.length+1) ((l++[x]).flatMap Ac)∧w.grownBy w' none∧∀k,BO v' k→w.heap.size≤k:=by
 have hx:=AAe hv
 have hflat:(l++[x]).flatMap Ac=l.flatMap Ac++Ac x:=by simp
 obtain⟨v5,w5,hr,ho,hg,hf⟩:=Ra To 34 hown hx (List.all_eq_true.2 (GM x)) (by omega) (by omega)
 have HF:=AG hflat
 have HR:=AG hr
 have HO:=AG ho
 have HG:=AG hg
 have HX:=AG hf
 have z1:(0:Int)≤(l.length:Int):=by omega
 clear hx hown hv hflat hr ho hg hf
 go_enter Tryz.func83,Tryz.ntmps83
 go_wp2_with (first|(at_builtin;refine JQ rfl (.tmp 23) (.tmp 24) 34 34 rfl _ _ rfl rfl HR.out ?_)|(refine JQ rfl (.tmp 23) (.tmp 24) 34 34 rfl _ _ rfl rfl HR.out ?_)|fail)
 go_ret
 exact⟨_,rfl,by rw[HF.out];exact HO.out,HG.out,HX.out⟩
theorem MT (l:List VK) (x:VK) (i g cap V:Nat) (w:World) (hown:Own w 58 33 (.slice (some ⟨g,0,none⟩) l.length cap) l.length (l.flatMap Ac)) (hv:w.heap[V]?=some (.cells (Ac x).toArray 58 (0,0))) (hi:i<l.length) (hroom:cap<l.length+1) (hn:l.length≤1000000) :
  Calls Tryz.prog 83 #[.slice (some ⟨g,0,none⟩) l.length cap,.int .i64 i,.slice (some ⟨V,0,none⟩) 1 1] w fun e w'=>∃v',e=.returned v'∧Own w' 58 33 v' (l.length+1) ((l.take i++x::l.drop i).flatMap Ac)∧w.grownBy w' none∧∀k,BO v' k→w.heap.size≤k:=by
 obtain⟨C,hb,hnc,hcm,hCl,hCt⟩:=hown.blk
 obtain rfl:cap=l.length:=by omega
 have hX4:(Ac x).length=33:=Cp x
 have hYl:((l.flatMap Ac).drop (i*33)).length=(l.length-i)*33:=by rw[List.length_drop,IZ];omega
 obtain⟨i0,hi0,hz0,hzs,hzb⟩:=To.inf
 have hold:(Builtin.firstCells i0.size i (.slice (some ⟨g,0,none⟩) i l.length)).run Tryz.prog w.drew=.ok ((l.flatMap Ac).take (i*33)).toArray w.drew:=by
  rw[hzs]
  exact run_firstCells_some w.drew 33 i ⟨g,0,none⟩ i l.length ((l.flatMap Ac).take (i*33)) (by rw[List.length_take,IZ];omega) (fun j v hj=>by
   rw[Addr.add_lit,Nat.zero_add]
   have h3:w.cell? ⟨g,j,none⟩=some v:=by
    have hjl:=(List.getElem?_eq_some_iff.1 hj).1
    rw[List.length_take,IZ] at hjl
    rw[List.getElem?_take,if_pos (by omega),←hCt,List.getElem?_take,if_pos (by omega)] at hj
    rw[Jk hb,hj]
   exact h3)
 have hrz:=Lib.run_append_grow_zeros w 34 3 34 58 i0 _ .i64 .i64 Tryz.underlying34 Tryz.underlying3 hi0 hz0 (some ⟨g,0,none⟩) i l.length ((l.flatMap Ac).take (i*33)) hold (l.length+1-i) (by omega) (by omega) (by omega) (by omega) (by rw[hzb];omega) (by rw[hzb,show i+(l.length+1-i)=l.length+1 by omega];exact growslice_fits (by omega) (by omega))
 rw[show i+(l.length+1-i)=l.length+1 by omega] at hrz
 have hGge:l.length+1≤grownCap w (l.length+1) l.length 58:=grownCap_ge w _ _ _
 have hGle:grownCap w (l.length+1) l.length 58≤maxLen:=grownCap_le_maxLen w _ _ _ (by unfold maxLen;omega)
 generalize hG:grownCap w (l.length+1) l.length 58=G at *
 obtain⟨R,hR⟩:∃R:List Value,R=((l.flatMap Ac).take (i*33))++(Builtin.zeroCells zK.cells (l.length+1-i)).toList++(Builtin.zeroCells zK.cells (G-(l.length+1))).toList:=⟨_,rfl⟩
 have hRa:((l.flatMap Ac).take (i*33)).toArray++Builtin.zeroCells zK.cells (l.length+1-i)++Builtin.zeroCells zK.cells (G-(l.length+1))=R.toArray:=by
  rw[hR]
  apply Array.ext'
  simp
 rw[hRa] at hrz
 have hzl:∀k,(Builtin.zeroCells zK.cells k).toList.length=k*33:=fun k=>by simp[Builtin.zeroCells,AAd]
 have hRl:R.length=G*33:=by rw[hR,List.length_append,List.length_append,hzl,hzl,List.length_take,IZ];omega
 have hRt:R.take (i*33)=(l.flatMap Ac).take (i*33):=by rw[hR,List.append_assoc,List.take_left' (by rw[List.length_take,IZ];omega)]
 have hgw:g<w.heap.size:=(Array.getElem?_eq_some_iff.1 hb).1
 have hVw:V<w.heap.size:=(Array.getElem?_eq_some_iff.1 hv).1
 have gW:=AA (Cb w) (World.grownBy_alloc w.drew (.cells R.toArray 58) none)
 have hbN:(w.drew.alloc (.cells R.toArray 58)).heap[w.heap.size]?=some (.cells R.toArray 58 (0,0)):=Af rfl
 have hvW:=AF gW hv (by simp)
 have hbW:=AF gW hb (by simp)
 generalize w.drew.alloc (.cells R.toArray 58)=W1 at *
 obtain⟨w2,hr2,hg2,hb2⟩:=Qk (P:=Tryz.prog) W1 34 34 3 58 33 w.heap.size (i*33) (l.length+1-i) (G-i) ⟨V,0,none⟩ 1 1 (Ac x) R Tryz.underlying34 (by kernel_rfl)
  (by rw[hX4,show Nat.min 1 (l.length+1-i)=1 by simp[Nat.min_def];omega])
  (fun j v hj=>by rw[Addr.add_lit,Nat.zero_add,Jk hvW];exact hj) hbN (by rw[hX4,hRl];omega) (GM x)
 have hb2g:=AF hg2 hbW (by simp;omega)
 obtain⟨w3,hr3,hg3,hb3⟩:=Qk (P:=Tryz.prog) w2.drew 34 34 3 58 33 w.heap.size ((i+1)*33) (l.length-i) (G-(i+1)) ⟨g,i*33,none⟩ (l.length-i) (l.length-i) ((l.flatMap Ac).drop (i*33)) _ Tryz.underlying34 (by kernel_rfl)
  (by rw[hYl,show Nat.min (l.length-i) (l.length-i)=l.length-i by simp[Nat.min_def]])
  (fun j v hj=>by
   rw[Addr.add_lit]
   have h3:w2.cell? ⟨g,i*33+j,none⟩=some v:=by
    have hjl:=(List.getElem?_eq_some_iff.1 hj).1
    rw[hYl] at hjl
    rw[List.getElem?_drop,←hCt,List.getElem?_take,if_pos (by omega)] at hj
    rw[Jk hb2g,hj]
   exact h3) hb2 (by simp only[List.length_append,List.length_take,List.length_drop,hX4,hYl,hRl];omega) (fun v hv=>AAf l v (List.mem_of_mem_drop hv))
 have e1:Nat.min (l.length-i) (l.length-i)=l.length-i:=by simp[Nat.min_def]
 have e2:Nat.min 1 (l.length+1-i)=1:=by simp[Nat.min_def];omega
 rw[e1] at hr3
 rw[e2] at hr2
 have ho:Own w3 58 33 (.slice (some ⟨w.heap.size,0,none⟩) (l.length+1) G) (l.length+1) ((l.take i++x::l.drop i).flatMap Ac):=by
  refine Own.mk' hb3 hGge hGle (by simp only[List.length_append,List.length_take,List.length_drop,hX4,hYl,hRl];omega) ?_
  rw[Yk l x i (by omega),←hRt]
  have ht:=AEw R (Ac x) ((l.flatMap Ac).drop (i*33)) (i*33) (by rw[hX4,hYl,hRl];omega)
  rw[hX4,hYl,show i*33+33+(l.length-i)*33=(l.length+1)*33 by omega] at ht
  rw[hX4,hYl,show(i+1)*33=i*33+33 by omega,show i*33+33+(l.length-i)*33=(l.length+1)*33 by omega]
  exact ht
 have hkk:(((l.length+1-i:Nat):Nat):Int)=(l.length:Int)+1-(i:Int):=by omega
 rw[hkk] at hrz
 have HRZ:=AG hrz
 have HR2:=AG hr2
 have HR3:=AG hr3
 have O3:=AG ho
 have G3:=AG (AD (AD gW hg2 (Nat.le_refl _)) (show w2.grownBy w3 (some w.heap.size) from⟨hg3.os,hg3.tape,hg3.output,hg3.size,hg3.block⟩) (Nat.le_refl _))
 have z1:(0:Int)≤(i:Int):=by omega
 have z2:(i:Int)≤(l.length:Int):=by omega
 have z3:¬((i:Int)=(l.length:Int)):=by omega
 have z4:(l.length:Int)<(l.length:Int)+1:=by omega
 have z5:¬(l.length=i):=by omega
 have z6:¬(G=i+1):=by omega
 have z7:¬(G=i):=by omega
 have z8:(i:Int)+1≤(l.length:Int)+1:=by omega
 have z9:l.length+1-(i+1)=l.length-i:=by omega
 have y2:(i:Int)≤(l.length:Int)+1:=by omega
 have y4:((i:Int)+1).toNat=i+1:=by omega
 have y5:(0:Int)≤(i:Int)+1:=by omega
 have y6:(0:Int)≤(l.length:Int)+1:=by omega
 have y7:IntKind.i64.wrap ((i:Int)+1)=(i:Int)+1:=by rw[IntKind.wrap_i64];omega
 clear hown hv hb hCl hCt hX4 hYl hi0 hz0 hzs hzb hold hrz hGge hGle hG hR hRa hzl hRl hRt gW hbN hvW hbW hr2 hg2 hb2 hb2g hr3 hg3 hb3 e1 e2 ho hkk hroom hnc hcm
 go_enter Tryz.func83,Tryz.ntmps83
 go_wp2_with (first|(at_builtin;refine JQ rfl (.tmp 34) (.tmp 39) 34 3 rfl _ _ rfl rfl HRZ.out ?_)|(refine Kx rfl (.tmp 43) (.tmp 44) 34 34 rfl _ _ rfl rfl HR2.out ?_)|fail)
 go_region_law (first|(refine VC rfl (.tmp 50) (.tmp 53) 34 34 rfl _ _ (by simp[Act.eval,Act.put]) (by simp[Act.eval,Act.put]) HR3.out ?_)|fail)
 all_goals
  go_wp2
  go_ret
  exact⟨_,rfl,O3.out,G3.out,fun k hk=>by simp[BO,Value.ownBlock] at hk;omega⟩
theorem Tp (l:List VK) (x:VK) (i g V:Nat) (w:World) (hown:Own w 58 33 (.slice (some ⟨g,0,none⟩) l.length l.length) l.length (l.flatMap Ac)) (hv:w.heap[V]?=some (.cells (Ac x).toArray 58 (0,0))) (hi:i≤l.length) (hn:l.length≤1000000) :
   Calls Tryz.prog 83 #[.slice (some ⟨g,0,none⟩) l.length l.length,.int .i64 i,.slice (some ⟨V,0,none⟩) 1 1] w fun e w'=>∃v',e=.returned v'∧Own w' 58 33 v' (l.length+1) ((l.take i++x::l.drop i).flatMap Ac)∧w.grownBy w' none∧∀k,BO v' k→w.heap.size≤k:=by
 by_cases hil:i<l.length
 · exact MT l x i g l.length V w hown hv hil (by omega) hn
 · obtain rfl:i=l.length:=by omega
   rw[List.take_length,List.drop_length]
   exact NF l x g V w hown hv hn
theorem Own.rdk {w:World} {ao:Option Addr} {n cap:Nat} {ks:List VK} {e:TypeId} (h:Own w e 33 (.slice ao n cap) n (ks.flatMap Ac)):n=ks.length:=AEk (Sl.of_own h) Cp (by decide)
end Go.Proofs.YtbfjfnbcmojpiaaGreat
namespace Go.Proofs.YtbfjfnbcmojpiaaGreat
open Go.RowKit Go.Shelf
def kd (n:Nat) (k:List Nat):List Nat:=LB (BitVec.ofNat 64 n) k []
theorem BE (n:Nat) (k:List Nat):Dg (kd n k):=⟨FT _ _,MC _ _⟩
theorem LP {n:Nat} (hn:n<1000) {c:Int} (hc:c=(n:Int)) {k:List Nat} (hk:Dg k) (w:World):Calls Tryz.prog 66 #[.int .u64 c,AP k,.slice none 0 0] w fun e w'=>e=.returned (AP (kd n k))∧w.grownBy w' none:=by
 have e:c=wi (BitVec.ofNat 64 n):=by rw[hc,←MB,IntKind.wrap_u64];omega
 rw[e]
 exact KR (BitVec.ofNat 64 n) k [] hk.1 hk.2 (by simp) (by simp) _ w (Sl.nil w 1)
theorem JR {n:Nat} (hn:n<1000) {c:Int} (hc:c=(n:Int)) {k:List Nat} (hk:Dg k) (w:World):Calls Tryz.prog 35 #[.int .u64 c,AP k,.slice none 0 0] w fun e w'=>e=.returned (AP (kd n k))∧w.grownBy w' none:=by
 have e:c=wi (BitVec.ofNat 64 n):=by rw[hc,←MB,IntKind.wrap_u64];omega
 rw[e]
 exact Mq (BitVec.ofNat 64 n) k [] hk.1 hk.2 (by simp) (by simp) _ w (Sl.nil w 1)
theorem bV0 (w:World):(Instr.build 36 #[]).run Tryz.prog w=.ok (An AS AS (.slice none 0 0)) w:=by kernel_rfl
theorem bV2 {sa po:List Nat} (hs:Dg sa) (hp:Dg po) (w:World):(Instr.build 36 #[(0,AP sa),(1,AP po)]).run Tryz.prog w=.ok (An sa po (.slice none 0 0)) w:=by
 obtain⟨x0,x1,x2,x3,x4,x5,x6,x7,x8,x9,x10,x11,x12,x13,x14,x15,x16,x17,x18,x19,x20,x21,x22,x23,x24,x25,x26,x27,x28,x29,x30,x31,rfl⟩:=GK _ hs.1
 obtain⟨y0,y1,y2,y3,y4,y5,y6,y7,y8,y9,y10,y11,y12,y13,y14,y15,y16,y17,y18,y19,y20,y21,y22,y23,y24,y25,y26,y27,y28,y29,y30,y31,rfl⟩:=GK _ hp.1
 kernel_rfl
theorem bV3 {sa po:List Nat} (hs:Dg sa) (hp:Dg po) (ao:Option Addr) (n cap:Nat) (w:World):(Instr.build 36 #[(0,AP sa),(1,AP po),(2,.slice ao n cap)]).run Tryz.prog w=.ok (An sa po (.slice ao n cap)) w:=by
 obtain⟨x0,x1,x2,x3,x4,x5,x6,x7,x8,x9,x10,x11,x12,x13,x14,x15,x16,x17,x18,x19,x20,x21,x22,x23,x24,x25,x26,x27,x28,x29,x30,x31,rfl⟩:=GK _ hs.1
 obtain⟨y0,y1,y2,y3,y4,y5,y6,y7,y8,y9,y10,y11,y12,y13,y14,y15,y16,y17,y18,y19,y20,y21,y22,y23,y24,y25,y26,y27,y28,y29,y30,y31,rfl⟩:=GK _ hp.1
 kernel_rfl
theorem AG6 {o:List Nat} (ho:Dg o) (ao:Option Addr) (n cap:Nat) (w:World):(Instr.build 58 #[(0,AP o),(1,.agg #[.slice ao n cap])]).run Tryz.prog w=.ok (.agg ([bv o,[.slice ao n cap]].flatten).toArray) w:=by
 obtain⟨x0,x1,x2,x3,x4,x5,x6,x7,x8,x9,x10,x11,x12,x13,x14,x15,x16,x17,x18,x19,x20,x21,x22,x23,x24,x25,x26,x27,x28,x29,x30,x31,rfl⟩:=GK _ ho.1
 kernel_rfl
theorem bK2 {k:VK} (w:World):(Instr.build 58 #[(0,AP k.o),(1,.agg #[k.s])]).run Tryz.prog w=.ok (Ft k) w:=AG6 k.ho k.ao k.l.length k.cap w
theorem AG4 (ao:Option Addr) (n cap:Nat) (w:World):(Instr.build 56 #[(0,.slice ao n cap)]).run Tryz.prog w=.ok (.agg #[.slice ao n cap]) w:=by kernel_rfl
theorem OJ {a:Int} {b:Bool} (h:CQ a=b) (w:World):Calls Tryz.prog 75 #[.int .i64 a] w fun e w'=>e=.returned (.bool b)∧w.grownBy w' none:=(JF a w).mono fun e w' ⟨h1,h2⟩=>⟨h▸h1,h2▸World.grownBy.refl _ _⟩
theorem JS {w:World} {ks:List VK} {ao:Option Addr} {cap:Nat} {sa po:List Nat} (hsa:Dg sa) (hpo:Dg po) (hr:RdK w (.slice ao ks.length cap) ks) {b:Bool} (hb:CR (ks.map VK.p)=b):Calls Tryz.prog 51 #[An sa po (.slice ao ks.length cap)] w fun e w'=>e=.returned (.bool b)∧w.grownBy w' none:=hb▸Tj ks ao cap sa po hsa hpo w hr
theorem Ql {w:World} {ks:List VK} {ao:Option Addr} {cap:Nat} {sa po:List Nat} (hsa:Dg sa) (hpo:Dg po) (hr:RdK w (.slice ao ks.length cap) ks) {b:Bool} (hb:CR (ks.map VK.p)=b):Calls Tryz.prog 40 #[An sa po (.slice ao ks.length cap)] w fun e w'=>e=.returned (.bool b)∧w.grownBy w' none:=hb▸RZ ks ao cap sa po hsa hpo w hr
theorem Vm {w:World} {ks:List VK} {ao:Option Addr} {cap:Nat} {sa po o:List Nat} (hsa:Dg sa) (hpo:Dg po) (ho:Dg o) (hr:RdK w (.slice ao ks.length cap) ks) (hv:CR (ks.map VK.p)=true) {b:Bool} (hb:Ix (ks.map VK.p) o=b) {i:Nat} (hi:pos (ks.map VK.p) o=i):Calls Tryz.prog 71 #[An sa po (.slice ao ks.length cap),AP o] w fun e w'=>e=.returned (.tuple #[.int .i64 (i:Int),.bool b])∧w.grownBy w' none:=
 hb▸hi▸Yh ks ao cap sa po hsa hpo o ho w hr (Srt.of hv) (by have:=(EV.1 hv).1;simpa using this)
theorem AF1 {w:World} {ks:List VK} {ao:Option Addr} {cap:Nat} {sa po o:List Nat} (hsa:Dg sa) (hpo:Dg po) (ho:Dg o) (hr:RdK w (.slice ao ks.length cap) ks) (hv:CR (ks.map VK.p)=true) {c:Int} (hc:atV (ks.map VK.p) o=c):Calls Tryz.prog 84 #[An sa po (.slice ao ks.length cap),AP o] w fun e w'=>e=.returned (.int .i64 c)∧w.grownBy w' none:=
 hc▸ACn ks ao cap sa po hsa hpo o ho w hr (Srt.of hv)
theorem AEx {P:List VP} {o:List Nat} (h:Ix P o=true) {i:Nat} (hi:pos P o=i):atV P o=(i:Int):=by unfold atV;rw[h,hi];rfl
theorem AF2 {P:List VP} {o:List Nat} (h:Ix P o=false):atV P o=-1:=by unfold atV;rw[h];rfl
theorem AG7 {x y:List Nat×Int} (h:x=y):Ending.returned (.tuple #[AP x.1,.int .i64 x.2])=Ending.returned (.tuple #[AP y.1,.int .i64 y.2]):=by rw[h]
theorem AAg {x:List Nat} {c:Int} {y:List Nat×Int} (h:y=(x,c)):Ending.returned (.tuple #[AP x,.int .i64 c])=Ending.returned (.tuple #[AP y.1,.int .i64 y.2]):=by rw[h]
theorem Tq {P:List VP} {o:List Nat} {a:Int} (h:CQ a=false∨CR P=false):Cl P o a=(AS,1):=by
 unfold Cl
 rcases h with h|h<;>simp[h]
theorem Yl {P:List VP} {o:List Nat} {a:Int} (h1:CQ a=true) (h2:CR P=true) (h3:Ix P o=false):Cl P o a=(AS,10):=by
 unfold Cl
 simp[h1,h2,h3]
theorem Qm {P:List VP} {o:List Nat} {a:Int} (h1:CQ a=true) (h2:CR P=true) (h3:Ix P o=true) {i:Nat} (hi:pos P o=i) {l:List Nd} (hl:tr P i=l):Cl P o a=Co l a:=by
 unfold Cl
 simp[h1,h2,h3,hi,hl]
theorem Vn {a:Int} (h:CQ a=true):0≤a∧a<17179869184:=by
 unfold CQ at h
 simpa using h
theorem Ym (k:List Nat) (hk:Dg k) (w:World) :
  Calls Tryz.prog 24 #[AP k] w fun e w'=>e=.returned (An (kd 273 k) (kd 274 k) (.slice none 0 0))∧w.grownBy w' none:=by
 refine DP Tryz.func24 rfl Tryz.ntmps24 rfl fun a0 sv0=>?_
 have HG:=World.grownBy.refl w none
 replace sv0:Sv 8 [] [(0,AP k)] a0:=sv0
 refine AH4 fun K1 k1=>?_
 refine AH3 ?_
 refine BQ sv0 r6 (Bj k hk.1) fun a2 w2 Bv E4 g2 z2 AX sv2=>?_
 replace HG:=AA HG g2
 refine Ap (T:=36) (Z:=([bv AS,bv AS,[.slice none 0 0]].flatten)) sv2 rfl rfl rfl (fun a w=>by kernel_rfl) fun a3 w3 MV Gz g3 z3 B6 sv3=>?_
 have Ia:=Bp HG Gz
 replace AX:=AC g3 AX
 refine AE ?_
 refine k1 _ _ ?_
 refine AH4 fun K4 k4=>?_
 refine AH3 ?_
 refine D9 sv3 rfl (dd:={ target:=.fn (.func 65) #[],args:=#[] }) rfl (by simp[execOp,resolve,Deferred.ofValue];try rfl) fun a5 sv5=>?_
 refine AE ?_
 refine k4 _ _ ?_
 refine AH4 fun K6 k6=>?_
 refine C6 (sv5.st w3) (by kernel_rfl) 5 [(3,Sp.is (AP k)),(4,Sp.is (AP ((kd 273 k)))),(5,Sp.is (AP k)),(6,Sp.is (AP ((kd 274 k)))),(7,Sp.is (An ((kd 273 k)) ((kd 274 k)) (.slice none 0 0)))] rfl (by kernel_rfl) (by kernel_rfl) (by kernel_rfl) [] (by kernel_rfl)
  ⟨yl r6 (Bj k hk.1) AX,Ah [.int .u64 273,AP k,.slice none 0 0] Tryz.func66 (by kernel_rfl) rq4 ⟨rfl,(oy rfl rfl),rfl,AIA⟩ (Ao fun W g=>LP (n:=273) (by decide) rfl hk W),yl r6 (Bj k hk.1) AX,Ah [.int .u64 274,AP k,.slice none 0 0] Tryz.func66 (by kernel_rfl) rq4 ⟨rfl,(oy rfl rfl),rfl,AIA⟩ (Ao fun W g=>LP (n:=274) (by decide) rfl hk W),BM (vs:=[AP ((kd 273 k)),AP ((kd 274 k))]) rfl rfl trivial ⟨(oy rfl rfl),(oy rfl rfl),AIA⟩ (fun _=>bV2 (BE _ _) (BE _ _) _) (fun _=>rfl),AIA⟩ trivial
  [] (by kernel_rfl) trivial ⟨.inl rfl,.inl rfl,.inl rfl,.inl rfl,.inl rfl,AIA⟩ (by kernel_rfl) fun a7 w7 g7 st7 nd7=>?_
 obtain⟨hn7,hd7,e7_3,e7_4,e7_5,e7_6,e7_7,e7_2,e7_1,e7_0,-⟩:=st7
 have sv7:Sv 8 [{ target:=.fn (.func 65) #[],args:=#[] }] [(2,_),(1,_),(0,_),(7,_)] a7:=⟨hn7,hd7,e7_2,e7_1,e7_0,e7_7,AIA⟩
 refine Am sv7 r7 (Bm (BE _ _) (BE _ _) (.slice none 0 0) rfl) (AC g7 B6) (by first|rfl|simp[Ac,AI,AU,(BE _ _).1,(BE _ _).1]) fun w8 g8 h8=>?_
 replace HG:=AD (AA (AA HG g3) g7) g8 Ia
 replace B6:=h8
 refine AE ?_
 refine k6 _ _ ?_
 refine AH7 ?_
 repeat refine AM ?_
 refine BI (fn:=Tryz.f24) sv7 (EA (p:=2) Tryz.results24 sv7 rfl rfl (Bm (BE _ _) (BE _ _) (.slice none 0 0) rfl) B6) (Bh Tryz.func65 (by kernel_rfl) rfl _ _) (MP _) ?_
 exact⟨rfl,HG⟩
theorem Vo (k:List Nat) (hk:Dg k) (w:World) :
  Calls Tryz.prog 38 #[AP k] w fun e w'=>e=.returned (An (kd 273 k) (kd 274 k) (.slice none 0 0))∧w.grownBy w' none:=by
 refine BH Tryz.func38 rfl Tryz.ntmps38 rfl fun a0 sv0=>?_
 have HG:=World.grownBy.refl w none
 replace sv0:Sv 8 [] [(0,AP k)] a0:=sv0
 refine AH4 fun K1 k1=>?_
 refine AH3 ?_
 refine BQ sv0 r6 (Bj k hk.1) fun a2 w2 Bv E4 g2 z2 AX sv2=>?_
 replace HG:=AA HG g2
 refine Ap (T:=36) (Z:=([bv AS,bv AS,[.slice none 0 0]].flatten)) sv2 rfl rfl rfl (fun a w=>by kernel_rfl) fun a3 w3 MV Gz g3 z3 B6 sv3=>?_
 have Ia:=Bp HG Gz
 replace AX:=AC g3 AX
 refine AE ?_
 refine k1 _ _ ?_
 refine AH4 fun K4 k4=>?_
 refine C6 (sv3.st w3) (by kernel_rfl) 5 [(3,Sp.is (AP k)),(4,Sp.is (AP ((kd 273 k)))),(5,Sp.is (AP k)),(6,Sp.is (AP ((kd 274 k)))),(7,Sp.is (An ((kd 273 k)) ((kd 274 k)) (.slice none 0 0)))] rfl (by kernel_rfl) (by kernel_rfl) (by kernel_rfl) [] (by kernel_rfl)
  ⟨yl r6 (Bj k hk.1) AX,Ah [.int .u64 273,AP k,.slice none 0 0] Tryz.func35 (by kernel_rfl) rq4 ⟨rfl,(oy rfl rfl),rfl,AIA⟩ (Ao fun W g=>JR (n:=273) (by decide) rfl hk W),yl r6 (Bj k hk.1) AX,Ah [.int .u64 274,AP k,.slice none 0 0] Tryz.func35 (by kernel_rfl) rq4 ⟨rfl,(oy rfl rfl),rfl,AIA⟩ (Ao fun W g=>JR (n:=274) (by decide) rfl hk W),BM (vs:=[AP ((kd 273 k)),AP ((kd 274 k))]) rfl rfl trivial ⟨(oy rfl rfl),(oy rfl rfl),AIA⟩ (fun _=>bV2 (BE _ _) (BE _ _) _) (fun _=>rfl),AIA⟩ trivial
  [] (by kernel_rfl) trivial ⟨.inl rfl,.inl rfl,.inl rfl,.inl rfl,.inl rfl,AIA⟩ (by kernel_rfl) fun a5 w5 g5 st5 nd5=>?_
 obtain⟨hn5,hd5,e5_3,e5_4,e5_5,e5_6,e5_7,e5_2,e5_1,e5_0,-⟩:=st5
 have sv5:Sv 8 [] [(2,_),(1,_),(0,_),(7,_)] a5:=⟨hn5,hd5,e5_2,e5_1,e5_0,e5_7,AIA⟩
 refine Am sv5 r7 (Bm (BE _ _) (BE _ _) (.slice none 0 0) rfl) (AC g5 B6) (by first|rfl|simp[Ac,AI,AU,(BE _ _).1,(BE _ _).1]) fun w6 g6 h6=>?_
 replace HG:=AD (AA (AA HG g3) g5) g6 Ia
 replace B6:=h6
 refine AE ?_
 refine k4 _ _ ?_
 refine AH7 ?_
 repeat refine AM ?_
 refine A3 (fn:=Tryz.f38) sv5 (EA (p:=2) Tryz.results38 sv5 rfl rfl (Bm (BE _ _) (BE _ _) (.slice none 0 0) rfl) B6) ?_
 exact⟨rfl,HG⟩
theorem AAh (ks:List VK) (ao:Option Addr) (cap:Nat) (sa po:List Nat) (hsa:Dg sa) (hpo:Dg po) (o:List Nat) (ho:Dg o) (a:Int) (w:World) (hr:RdK w (.slice ao ks.length cap) ks) :
   Calls Tryz.prog 32 #[An sa po (.slice ao ks.length cap),AP o,.int .i64 a] w fun e w'=>e=.returned (.tuple #[AP (Cl (ks.map VK.p) o a).1,.int .i64 (Cl (ks.map VK.p) o a).2])∧w.grownBy w' none:=by
 refine DP Tryz.func32 rfl Tryz.ntmps32 rfl fun a0 sv0=>?_
 have HG:=World.grownBy.refl w none
 replace sv0:Sv 39 [] [(0,An sa po (.slice ao ks.length cap)),(1,AP o),(2,.int .i64 a)] a0:=sv0
 refine AH4 fun K1 k1=>?_
 refine AH3 ?_
 refine BQ sv0 r6 (Bm hsa hpo (.slice ao ks.length cap) rfl) fun a2 w2 Pd LQ g2 z2 BF sv2=>?_
 refine BQ sv2 r6 (Bj o ho.1) fun a3 w3 ACr XI g3 z3 DK sv3=>?_
 replace BF:=AC g3 BF
 replace hr:=(hr.kn g2).kn g3
 replace HG:=AA (AA HG g2) g3
 refine Ap (T:=23) (Z:=(bv AS)) sv3 rfl rfl rfl (fun a w=>by kernel_rfl) fun a4 w4 AG8 NZ g4 z4 Dm sv4=>?_
 have Ib:=As BF NZ
 have Ic:=As DK NZ
 have Na:=Bp HG NZ
 have Ie:=Av (hr.lt) NZ
 replace BF:=AC g4 BF
 replace DK:=AC g4 DK
 replace hr:=hr.kn g4
 replace HG:=AA HG g4
 refine Ap (T:=38) (Z:=[.int .i64 0]) sv4 rfl rfl rfl (fun a w=>by kernel_rfl) fun a5 w5 AG9 LR g5 z5 EN sv5=>?_
 have Ig:=As BF LR
 have Ih:=As DK LR
 have C7:=As Dm LR
 have Nb:=Bp HG LR
 have Ii:=Av (hr.lt) LR
 replace BF:=AC g5 BF
 replace DK:=AC g5 DK
 replace Dm:=AC g5 Dm
 replace hr:=hr.kn g5
 replace HG:=AA HG g5
 refine AE ?_
 refine k1 _ _ ?_
 refine AH4 fun K6 k6=>?_
 refine AH3 ?_
 refine Fg sv5 rfl rfl rfl rfl rfl rfl fun a7 sv7=>?_
 refine D9 sv7 rfl (dd:={ target:=.fn (.func 77) #[pt AG8,pt AG9],args:=#[] }) rfl (by have e1:=sv7.ev (x:=.tmp 10) rfl rfl;simp[execOp,resolve,Deferred.ofValue,e1];try rfl) fun a8 sv8=>?_
 refine AE ?_
 refine k6 _ _ ?_
 refine AH4 fun K9 k9=>?_
 refine AH4 fun K10 k10=>?_
 rcases(show CQ a=false∨(CQ a=true∧CR (ks.map VK.p)=false)∨(CQ a=true∧CR (ks.map VK.p)=true) by cases CQ a<;>cases CR (ks.map VK.p)<;>simp) with ha|⟨ha,hv⟩|⟨ha,hv⟩
 · refine AH3 ?_
   refine AK sv8 8 [(11,.int .i64 a),(12,.bool false),(13,.bool true),(14,.bool true),(15,undef),(16,undef),(17,undef),(18,.bool true)]
     ⟨ym r5,Ah [.int .i64 a] Tryz.func75 (by kernel_rfl) rq4 ⟨(oy rfl rfl),AIA⟩ (Ao fun W g=>OJ ha W),C3 r6 (fun _=>Bf),ym r5,AY r6,AY r6,AY r6,CA r7,AIA⟩ fun a11 w11 g11 CC=>?_
   refine AE ?_
   refine k10 _ _ ?_
   refine Aq CC rfl rfl ?_
   refine AH4 fun K12 k12=>?_
   refine AH3 ?_
   replace Dm:=AC g11 Dm
   refine AK CC 1 [(19,AP AS)]
     ⟨BM (vs:=[]) rfl rfl trivial trivial (fun _=>bD0 _) (fun _=>rfl),AIA⟩ fun a13 w13 g13 Dx=>?_
   refine Am Dx r7 (Bj AS AV.1) (AC g13 Dm) (Fu AV) fun w14 g14 h14=>?_
   replace EN:=Ak g13 g14 (AC g11 EN) C7
   refine Am Dx r7 (Ep 1) EN rfl fun w15 g15 h15=>?_
   replace BF:=Aa g15 (Ak g13 g14 (AC g11 BF) (Ne.symm Ib)) (Ne.symm Ig)
   replace DK:=Aa g15 (Ak g13 g14 (AC g11 DK) (Ne.symm Ic)) (Ne.symm Ih)
   replace Dm:=Aa g15 h14 (Ne.symm C7)
   replace hr:=(((hr.kn g11).kn g13).offR g14 (AQ Ie)).offR g15 (AQ Ii)
   replace HG:=AD (AD (AA (AA HG g11) g13) g14 Na) g15 Nb
   replace EN:=h15
   refine AE ?_
   refine k12 _ _ ?_
   refine AH7 ?_
   repeat refine AM ?_
   refine BI (fn:=Tryz.f32) Dx (Bc (p:=6) (q:=7) Tryz.results32 Dx rfl rfl rfl rfl (Bj AS AV.1) (Ep 1) Dm EN) (Bh Tryz.func77 (by kernel_rfl) rfl _ _) (Gv _ _ _) ?_
   exact⟨AAg (Tq (.inl ha)),HG⟩
 · refine AH3 ?_
   refine AK sv8 8 [(11,.int .i64 a),(12,.bool true),(13,.bool false),(14,.bool false),(15,An sa po (.slice ao ks.length cap)),(16,.bool false),(17,.bool true),(18,.bool true)]
     ⟨ym r5,Ah [.int .i64 a] Tryz.func75 (by kernel_rfl) rq4 ⟨(oy rfl rfl),AIA⟩ (Ao fun W g=>OJ ha W),C3 r6 (fun _=>Bf),ym r5,Au rq9 (fun _ g=>Ad (Bm hsa hpo (.slice ao ks.length cap) rfl) (Aj (AF g BF (by simp)))),Bq [An sa po (.slice ao ks.length cap)] Tryz.func51 (by kernel_rfl) r7 ⟨(oy rfl rfl),AIA⟩ (Ao fun W g=>JS hsa hpo (hr.kn g) hv),Hx rfl rfl (gy rfl rfl rfl) (oy rfl rfl) (fun _=>Bf) (fun _=>rfl),A1 rq9,AIA⟩ fun a16 w16 g16 Ck=>?_
   refine AE ?_
   refine k10 _ _ ?_
   refine Aq Ck rfl rfl ?_
   refine AH4 fun K17 k17=>?_
   refine AH3 ?_
   replace Dm:=AC g16 Dm
   refine AK Ck 1 [(19,AP AS)]
     ⟨BM (vs:=[]) rfl rfl trivial trivial (fun _=>bD0 _) (fun _=>rfl),AIA⟩ fun a18 w18 g18 CF=>?_
   refine Am CF r7 (Bj AS AV.1) (AC g18 Dm) (Fu AV) fun w19 g19 h19=>?_
   replace EN:=Ak g18 g19 (AC g16 EN) C7
   refine Am CF r7 (Ep 1) EN rfl fun w20 g20 h20=>?_
   replace BF:=Aa g20 (Ak g18 g19 (AC g16 BF) (Ne.symm Ib)) (Ne.symm Ig)
   replace DK:=Aa g20 (Ak g18 g19 (AC g16 DK) (Ne.symm Ic)) (Ne.symm Ih)
   replace Dm:=Aa g20 h19 (Ne.symm C7)
   replace hr:=(((hr.kn g16).kn g18).offR g19 (AQ Ie)).offR g20 (AQ Ii)
   replace HG:=AD (AD (AA (AA HG g16) g18) g19 Na) g20 Nb
   replace EN:=h20
   refine AE ?_
   refine k17 _ _ ?_
   refine AH7 ?_
   repeat refine AM ?_
   refine BI (fn:=Tryz.f32) CF (Bc (p:=6) (q:=7) Tryz.results32 CF rfl rfl rfl rfl (Bj AS AV.1) (Ep 1) Dm EN) (Bh Tryz.func77 (by kernel_rfl) rfl _ _) (Gv _ _ _) ?_
   exact⟨AAg (Tq (.inr hv)),HG⟩
 · obtain⟨i,hi⟩:∃i,pos (ks.map VK.p) o=i:=⟨_,rfl⟩
   have h64:ks.length≤64:=by have:=(EV.1 hv).1;simpa using this
   refine AH3 ?_
   refine AK sv8 8 [(11,.int .i64 a),(12,.bool true),(13,.bool false),(14,.bool false),(15,An sa po (.slice ao ks.length cap)),(16,.bool true),(17,.bool false),(18,.bool false)]
     ⟨ym r5,Ah [.int .i64 a] Tryz.func75 (by kernel_rfl) rq4 ⟨(oy rfl rfl),AIA⟩ (Ao fun W g=>OJ ha W),C3 r6 (fun _=>Bf),ym r5,Au rq9 (fun _ g=>Ad (Bm hsa hpo (.slice ao ks.length cap) rfl) (Aj (AF g BF (by simp)))),Bq [An sa po (.slice ao ks.length cap)] Tryz.func51 (by kernel_rfl) r7 ⟨(oy rfl rfl),AIA⟩ (Ao fun W g=>JS hsa hpo (hr.kn g) hv),Hx rfl rfl (gy rfl rfl rfl) (oy rfl rfl) (fun _=>Bf) (fun _=>rfl),A1 rq9,AIA⟩ fun a21 w21 g21 DL=>?_
   refine AE ?_
   refine k10 _ _ ?_
   refine Ax DL rfl rfl ?_
   refine AH8 ?_
   refine k9 _ _ ?_
   refine AH4 fun K22 k22=>?_
   replace BF:=AC g21 BF
   replace DK:=AC g21 DK
   replace Dm:=AC g21 Dm
   replace EN:=AC g21 EN
   replace hr:=hr.kn g21
   replace HG:=AA HG g21
   cases hf:Ix (ks.map VK.p) o
   · refine AH3 ?_
     refine AK DL 6 [(21,An sa po (.slice ao ks.length cap)),(22,AP o),(23,.tuple #[.int .i64 ((i:Int)),.bool false]),(20,.tuple #[.int .i64 ((i:Int)),.bool false]),(24,.int .i64 ((i:Int))),(25,.bool false)]
      ⟨yl r6 (Bm hsa hpo (.slice ao ks.length cap) rfl) BF,yl r6 (Bj o ho.1) DK,Ah [An sa po (.slice ao ks.length cap),AP o] Tryz.func71 (by kernel_rfl) rq4 ⟨(oy rfl rfl),(oy rfl rfl),AIA⟩ (Ao fun W g=>Vm hsa hpo ho (hr.kn g) hv hf hi),ym r5,BL rq4 (fun _ _ h=>⟨_,_,h,rfl,rfl⟩),BL rq4 (fun _ _ h=>⟨_,_,h,rfl,rfl⟩),AIA⟩ fun a23 w23 g23 CX=>?_
     refine AZ (v:=.int .i64 ((i:Int))) CX r6 fun a24 Dw=>?_
     refine AZ (v:=.bool false) Dw r6 fun a25 Cu=>?_
     have CW:Sv _ _ [_,_,_,_,_,_,_,_,_,_,_,_,_,_,_,_,_] _:=Cu.dl [21,22,23,20,24,25,4]
     refine AE ?_
     refine k22 _ _ ?_
     refine AH4 fun K27 k27=>?_
     refine AH4 fun K28 k28=>?_
     refine AH3 ?_
     refine AK CW 2 [(26,.bool false),(27,.bool true)]
      ⟨ym r5,C3 r6 (fun _=>Bf),AIA⟩ fun a29 w29 g29 CK=>?_
     have Hz:=AA g23 g29
     refine AE ?_
     refine k28 _ _ ?_
     refine Aq CK rfl rfl ?_
     refine AH4 fun K30 k30=>?_
     refine AH3 ?_
     replace Dm:=AC Hz Dm
     refine AK CK 1 [(28,AP AS)]
      ⟨BM (vs:=[]) rfl rfl trivial trivial (fun _=>bD0 _) (fun _=>rfl),AIA⟩ fun a31 w31 g31 Hj=>?_
     refine Am Hj r7 (Bj AS AV.1) (AC g31 Dm) (Fu AV) fun w32 g32 h32=>?_
     replace EN:=Ak g31 g32 (AC Hz EN) C7
     refine Am Hj r7 (Ep 10) EN rfl fun w33 g33 h33=>?_
     replace BF:=Aa g33 (Ak g31 g32 (AC Hz BF) (Ne.symm Ib)) (Ne.symm Ig)
     replace DK:=Aa g33 (Ak g31 g32 (AC Hz DK) (Ne.symm Ic)) (Ne.symm Ih)
     replace Dm:=Aa g33 h32 (Ne.symm C7)
     replace hr:=(((hr.kn Hz).kn g31).offR g32 (AQ Ie)).offR g33 (AQ Ii)
     replace HG:=AD (AD (AA (AA HG Hz) g31) g32 Na) g33 Nb
     replace EN:=h33
     refine AE ?_
     refine k30 _ _ ?_
     refine AH7 ?_
     repeat refine AM ?_
     refine BI (fn:=Tryz.f32) Hj (Bc (p:=6) (q:=7) Tryz.results32 Hj rfl rfl rfl rfl (Bj AS AV.1) (Ep 10) Dm EN) (Bh Tryz.func77 (by kernel_rfl) rfl _ _) (Gv _ _ _) ?_
     exact⟨AAg (Yl ha hv hf),HG⟩
   · have hil:i<ks.length:=by have:=(VZ hf).1;rw[hi] at this;simpa using this
     obtain⟨x,hx_x⟩:∃x,ks[i]'hil=x:=⟨_,rfl⟩
     have htr:tr (ks.map VK.p) i=x.l:=by rw[Vj hil,hx_x]
     refine AH3 ?_
     refine AK DL 6 [(21,An sa po (.slice ao ks.length cap)),(22,AP o),(23,.tuple #[.int .i64 ((i:Int)),.bool true]),(20,.tuple #[.int .i64 ((i:Int)),.bool true]),(24,.int .i64 ((i:Int))),(25,.bool true)]
      ⟨yl r6 (Bm hsa hpo (.slice ao ks.length cap) rfl) BF,yl r6 (Bj o ho.1) DK,Ah [An sa po (.slice ao ks.length cap),AP o] Tryz.func71 (by kernel_rfl) rq4 ⟨(oy rfl rfl),(oy rfl rfl),AIA⟩ (Ao fun W g=>Vm hsa hpo ho (hr.kn g) hv hf hi),ym r5,BL rq4 (fun _ _ h=>⟨_,_,h,rfl,rfl⟩),BL rq4 (fun _ _ h=>⟨_,_,h,rfl,rfl⟩),AIA⟩ fun a34 w34 g34 LO=>?_
     refine AZ (v:=.int .i64 ((i:Int))) LO r6 fun a35 MR=>?_
     refine AZ (v:=.bool true) MR r6 fun a36 FE=>?_
     have IW:Sv _ _ [_,_,_,_,_,_,_,_,_,_,_,_,_,_,_,_,_] _:=FE.dl [21,22,23,20,24,25,4]
     refine AE ?_
     refine k22 _ _ ?_
     refine AH4 fun K38 k38=>?_
     refine AH4 fun K39 k39=>?_
     refine AH3 ?_
     refine AK IW 2 [(26,.bool true),(27,.bool false)]
      ⟨ym r5,C3 r6 (fun _=>Bf),AIA⟩ fun a40 w40 g40 Kk=>?_
     have AAi:=AA g34 g40
     refine AE ?_
     refine k39 _ _ ?_
     refine Ax Kk rfl rfl ?_
     refine AH8 ?_
     refine k38 _ _ ?_
     refine AH4 fun K41 k41=>?_
     refine AH3 ?_
     replace BF:=AC AAi BF
     replace Dm:=AC AAi Dm
     replace hr:=hr.kn AAi
     refine AK Kk 10 [(29,pk Pd 64),(30,.slice ao ks.length cap),(31,.int .i64 ((i:Int))),(32,pk ((bO ao)) (oO ao+i*33)),(33,pk ((bO ao)) (oO ao+i*33+32)),(34,.agg #[VK.s x]),(35,.int .i64 a),(36,.tuple #[AP ((Co x.l a).1),.int .i64 ((Co x.l a).2)]),(37,AP ((Co x.l a).1)),(38,.int .i64 ((Co x.l a).2))]
      ⟨yf r6 (fun _=>by kernel_rfl),yp (i:=2) r6 (Du (.slice ao ks.length cap) rfl) BF rfl (by simp[AI,AU,hsa.1,hpo.1]),ym r5,BA rq8 (fun w=>CD Tryz.underlying34 (by kernel_rfl) (hr.1.1) (by omega) (rfl) w),yf r6 (fun _=>by kernel_rfl),Bn r6 (fun _ g=>Ad (YJ (VK.s x) rfl) (RdK.treeX (hr.kn g) rfl hil hx_x)),ym r5,Ah [.agg #[VK.s x],.int .i64 a] Tryz.func78 (by kernel_rfl) rq4 ⟨(oy rfl rfl),(oy rfl rfl),AIA⟩ (Ao fun W g=>YN rfl ((hr.kn g).kt hil hx_x)),BL rq4 (fun _ _ h=>⟨_,_,h,rfl,rfl⟩),BL rq4 (fun _ _ h=>⟨_,_,h,rfl,rfl⟩),AIA⟩ fun a42 w42 g42 Hk=>?_
     refine Am Hk r7 (Bj ((Co x.l a).1) (Jn ((hr.kt hil hx_x).2.1) a).1) (AC g42 Dm) (Fu (Jn ((hr.kt hil hx_x).2.1) a)) fun w43 g43 h43=>?_
     replace EN:=Ak g42 g43 (AC AAi EN) C7
     refine Am Hk r7 (Ep ((Co x.l a).2)) EN rfl fun w44 g44 h44=>?_
     replace Dm:=Aa g44 h43 (Ne.symm C7)
     replace hr:=((hr.kn g42).offR g43 (AQ Ie)).offR g44 (AQ Ii)
     replace HG:=AD (AD (AA (AA HG AAi) g42) g43 Na) g44 Nb
     replace EN:=h44
     have EQ:Sv _ _ [_,_,_,_,_,_,_,_,_,_,_,_,_,_,_,_,_,_] _:=Hk.dl [29,30,31,32,33,34,35,36,37,38,8]
     refine AE ?_
     refine k41 _ _ ?_
     refine AH7 ?_
     repeat refine AM ?_
     refine BI (fn:=Tryz.f32) EQ (Bc (p:=6) (q:=7) Tryz.results32 EQ rfl rfl rfl rfl (Bj ((Co x.l a).1) (Jn ((hr.kt hil hx_x).2.1) a).1) (Ep ((Co x.l a).2)) Dm EN) (Bh Tryz.func77 (by kernel_rfl) rfl _ _) (Gv _ _ _) ?_
     exact⟨AG7 (Qm ha hv hf hi htr).symm,HG⟩
end Go.Proofs.YtbfjfnbcmojpiaaGreat
namespace Go.Proofs.YtbfjfnbcmojpiaaGreat
open Go.RowKit
def Sp.made (B:Nat) (e:TypeId) (sz n:Nat) (xs:List Value):Sp:=⟨fun w v=>∃A,v=.slice (some ⟨A,0,none⟩) n n∧Own w e sz (.slice (some ⟨A,0,none⟩) n n) n xs∧B≤A,fun _ _ _ hg ⟨A,h1,h2,h3⟩=>⟨A,h1,h2.kn hg,h3⟩⟩
section
variable {P:Program} {ops:Array Oper} {L:Nat→Sp} {n:Nat} {w0:World} {o:Oper}
theorem N8 {z:Value} {sz:Nat} (hz:z.cells.size=sz) (hp:0<sz) (m:Nat):(madeCells z.cells (m*sz)).toList=(List.replicate m ()).flatMap fun _=>z.cells.toList:=by
 refine List.ext_getElem? fun i=>?_
 have hl:((List.replicate m ()).flatMap fun _=>z.cells.toList).length=m*sz:=by rw[Fs (sz:=sz) (fun _=>by simpa using hz)];simp
 by_cases hi:i<m*sz
 · have h1:i/sz<m:=(Nat.div_lt_iff_lt_mul hp).2 hi
   have h2:i%sz<sz:=Nat.mod_lt _ hp
   have e1:(madeCells z.cells (m*sz)).toList[i]?=some z.cells[i%sz]!:=by rw[←hz] at hi ⊢;simp[madeCells,hi]
   have e2:((List.replicate m ()).flatMap fun _=>z.cells.toList)[i]?=some (z.cells[i%sz]'(by omega)):=by
    have hsp:=JK (c:=fun _=>z.cells.toList) (L:=List.replicate m ()) (j:=i/sz) (by simpa using h1)
    rw[hsp,List.getElem?_append_right (by rw[Fs (sz:=sz) (fun _=>by simpa using hz),List.length_take,List.length_replicate,Nat.min_eq_left (Nat.le_of_lt h1)];exact Nat.div_mul_le_self i sz),Fs (sz:=sz) (fun _=>by simpa using hz),List.length_take,List.length_replicate,Nat.min_eq_left (Nat.le_of_lt h1)]
    have e3:i-i/sz*sz=i%sz:=by have:=Nat.div_add_mod i sz;rw[Nat.mul_comm] at this;omega
    rw[e3,List.getElem?_append_left (by simpa [hz] using h2),Array.getElem?_toList,Array.getElem?_eq_getElem (by omega)]
   rw[e1,e2,getElem!_pos z.cells _ (by omega)]
 · rw[List.getElem?_eq_none (by simp[madeCells];omega),List.getElem?_eq_none (by omega)]
theorem ACf {t e:TypeId} {z:Value} {size bytes d B m:Nat} {x:Operand} {xs:List Value} (E:ET P t e z size bytes) (ho:o.op=.makeSlice t x x) (hd:o.dst=some d) (hg:GX ops L n o.guard) (hB:B≤w0.heap.size)
  (hx:OpX L n x (.int .i64 (m:Int))) (hm:m≤1000000) (hxs:xs=(List.replicate m ()).flatMap fun _=>z.cells.toList)
  (h:∀w v,(Sp.made B e size m xs).on w v→(L d).on w v):OX P ops L n w0 o:=by
 intro a w hw hl hs
 unfold OpSays
 rw[if_pos (hg.wanted hl hs)]
 have e1:=hx.eval (o:=o) (a:=a) (w:=w) (by simp[ho,Op.operands]) hl
 obtain⟨i,hi,hz,rfl,hby⟩:=E.inf
 have hb:=E.bnd
 have hbytes:(i.bytes:Int)*(m:Int)≤281474976710656:=by
  have h1:i.bytes*m≤128*1000000:=Nat.mul_le_mul (by omega) hm
  have h2:((i.bytes*m:Nat):Int)≤((128*1000000:Nat):Int):=by omega
  rw[Int.natCast_mul] at h2
  omega
 have hr:=run_make (P:=P) w t e i z E.und hi hz .i64 .i64 (m:Int) (m:Int) (by omega) (by omega) hbytes (by omega)
 have hrr:(execOp a.eval o).run P w=.ok (.value (.slice (some ⟨w.heap.size,0,none⟩) m m)) (w.alloc (.cells (madeCells z.cells (m*i.size)) e)):=by
  simp only[execOp,ho,e1,Sem.run_bind,Sem.run_pure,Result.andThen_ok,hr,Int.toNat_natCast]
 rw[hrr]
 refine⟨World.grownBy_alloc _ _ _,Ci hd (h _ _ ⟨_,rfl,?_,Nat.le_trans hB hw.size⟩)⟩
 have hcl:(madeCells z.cells (m*i.size)).size=m*i.size:=size_madeCells _ _
 refine⟨by rw[hxs,←N8 E.zsz E.pos,Array.length_toList,hcl],.inr ⟨w.heap.size,m,_,rfl,Nat.zero_le _,Af rfl,Nat.le_refl _,by unfold maxLen;omega,hcl,?_⟩⟩
 rw[hxs,←N8 E.zsz E.pos,List.take_of_length_le (by rw[Array.length_toList,hcl];exact Nat.le_refl _)]
theorem RL {t e:TypeId} (ht:P.underlying t=some (.slice e)) {x y:Operand} {ao:Option Addr} {l c:Nat} {r:Bool} (hr:ao.isNone=r) {w:World}:(do eqGuard .eql t x y (.slice ao l c) (.slice none 0 0);binOp .eql t (.slice ao l c) (.slice none 0 0):Sem Value).run P w=.ok (.bool r) w:=by
 subst hr
 have:=run_eql_slice_nil (P:=P) w t e ao l c ht
 simp[eqGuard,this]
end
def N9:VK:=⟨AS,AV,none,0,[]⟩
theorem AFw (m:Nat):((List.replicate m ()).flatMap fun _=>zK.cells.toList)=(List.replicate m N9).flatMap Ac:=by
 induction m with
 | zero=>rfl
 | succ m ih=>rw[List.replicate_succ,List.replicate_succ,List.flatMap_cons,List.flatMap_cons,ih];rfl
theorem KsR.rep (w:World) (m:Nat):KsR w (List.replicate m N9):=fun k hk=>by
 obtain⟨_,rfl⟩:=List.mem_replicate.1 hk
 exact RdT.nil w
theorem JM (m b:Nat):¬DG (List.replicate m N9) b:=by
 rintro ⟨k,hk,h⟩
 obtain⟨_,rfl⟩:=List.mem_replicate.1 hk
 simp[Ks,VK.s,N9,Value.ownBlock] at h
theorem KsR.set {w:World} {ms:List VK} (h:KsR w ms) {x:VK} (hx:RdT w x.s x.l) (i:Nat):KsR w (ms.set i x):=fun k hk=>(List.mem_or_eq_of_mem_set hk).elim (h k) fun e=>e▸hx
theorem Hy {ms:List VK} {x:VK} {i b:Nat} (h:DG (ms.set i x) b):DG ms b∨Ks x.s b:=by
 obtain⟨k,hk,hb⟩:=h
 exact(List.mem_or_eq_of_mem_set hk).elim (fun h=>.inl ⟨k,h,hb⟩) fun e=>.inr (e▸hb)
def KsT (w:World) (ms:List VK):Prop:=KsR w ms∧∀k,DG ms k→TagB w k
section
variable {w w':World} {ms:List VK}
theorem KsT.kn (h:KsT w ms) (g:w.grownBy w' none):KsT w' ms:=⟨h.1.kn g,fun k hk=>(h.2 k hk).keep g (by simp)⟩
theorem KsT.offR (h:KsT w ms) {row:Option Nat} (g:w.grownBy w' row) (hb:∀k,DG ms k→row≠some k):KsT w' ms:=⟨h.1.offR g hb,fun k hk=>(h.2 k hk).keep g (hb k hk)⟩
theorem KsT.lt (h:KsT w ms):∀k,DG ms k→k<w.heap.size:=h.1.lt
theorem KsT.rep (w:World) (m:Nat):KsT w (List.replicate m N9):=⟨KsR.rep w m,fun k hk=>(JM m k hk).elim⟩
theorem KsT.set (h:KsT w ms) {x:VK} (hx:RdTg w x.s x.l) (i:Nat):KsT w (ms.set i x):=⟨h.1.set hx.1 i,fun k hk=>(Hy hk).elim (h.2 k) (hx.2 k)⟩
end
def Sp.ck (B:Nat) (o:List Nat) (l:List Nd):Sp:=⟨fun w v=>∃x:VK,v=Ft x∧x.o=o∧x.l=l∧RdTg w x.s x.l∧∀k,Ks x.s k→B≤k,fun _ _ _ hg ⟨x,h1,h2,h3,h4,h5⟩=>⟨x,h1,h2,h3,h4.kn hg,h5⟩⟩
section
variable {ops:Array Oper} {L:Nat→Sp} {n:Nat} {w0:World} {o:Oper}
theorem AFx {B:Nat} {l:List Nd} {w:World} {u:Value} (h:(Sp.cl B l).on w u):∃v,(Instr.build 56 #[(0,u)]).run Tryz.prog w=.ok v w∧(Sp.ct B l).on w v:=by
 obtain⟨ao,cap,rfl,h2,h3⟩:=h
 exact⟨_,AG4 ao _ cap w,ao,cap,rfl,h2,h3⟩
theorem AAQ {B:Nat} {l:List Nd} {x:List Nat} (hx:Dg x) {w:World} {u t:Value} (hu:u=AP x) (h:(Sp.ct B l).on w t):∃v,(Instr.build 58 #[(0,u),(1,t)]).run Tryz.prog w=.ok v w∧(Sp.ck B x l).on w v:=by
 obtain⟨ao,cap,rfl,h2,h3⟩:=h
 subst hu
 exact⟨_,bK2 (k:=⟨x,hx,ao,cap,l⟩) w,⟨x,hx,ao,cap,l⟩,rfl,rfl,rfl,h2,h3⟩
end
theorem AFy (x:VK) (w:World):(Instr.buildSlice 34 1 #[(0,Ft x)]).run Tryz.prog w=.ok (.slice (some ⟨w.heap.size,0,none⟩) 1 1) (w.alloc (.cells (Ac x).toArray 58)):=by
 obtain⟨o,ho,ao,cap,l⟩:=x
 obtain⟨x0,x1,x2,x3,x4,x5,x6,x7,x8,x9,x10,x11,x12,x13,x14,x15,x16,x17,x18,x19,x20,x21,x22,x23,x24,x25,x26,x27,x28,x29,x30,x31,rfl⟩:=GK _ ho.1
 kernel_rfl
theorem ACg {ks ms:List VK} {i:Nat} {x y:VK} (hl:ms.length=ks.length) (hi:i<ks.length) (hx:ks[i]=x) (ho:y.o=x.o) (hll:y.l=x.l) (h:∀j,j<i→(ms.map VK.p)[j]?=(ks.map VK.p)[j]?):∀j,j<i+1→((ms.set i y).map VK.p)[j]?=(ks.map VK.p)[j]?:=by
 intro j hj
 rw[List.getElem?_map,List.getElem?_set]
 by_cases e:i=j
 · subst e
   rw[if_pos rfl,if_pos (by omega),List.getElem?_map,List.getElem?_eq_getElem hi,hx]
   simp[VK.p,ho,hll]
 · rw[if_neg e,←List.getElem?_map]
   exact h j (by omega)
theorem AEq {ks ms:List VK} {i:Nat} (hl:ms.length=ks.length) (hi:¬i<ks.length) (h:∀j,j<i→(ms.map VK.p)[j]?=(ks.map VK.p)[j]?):ms.map VK.p=ks.map VK.p:=by
 refine List.ext_getElem? fun j=>?_
 by_cases hj:j<ks.length
 · exact h j (by omega)
 · rw[List.getElem?_eq_none (by simpa [hl] using hj),List.getElem?_eq_none (by simpa using hj)]
end Go.Proofs.YtbfjfnbcmojpiaaGreat
