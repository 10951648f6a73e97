import Derived.Test.YtbfjfnbcmojpiaaGreatV4
import Derived.Lib.AppendZerosOnto
import Derived.Lib.SliceRun
import Derived.Laws.Externs
import Derived.Laws.IdiomCopy
import Derived.Deep.RegionLaw
namespace Go.Proofs.YtbfjfnbcmojpiaaGreat
open Go.RowKit
set_option linter.unusedSimpArgs false
set_option linter.unusedVariables false
def zK:Value:=.agg ([bv zero32,[.slice none 0 0]].flatten).toArray
theorem zK_cells:zK.cells.size=33:=rfl
theorem keysT:ET Tryz.prog 34 58 zK 33 56:=⟨Tryz.underlying34,info_parts (by kernel_rfl),rfl,by decide,by decide⟩
theorem kcellsL (l:List VK):(l.flatMap kcells).length=l.length * 33:=fl_len kcells_len l
theorem Own.blk {w:World} {e:TypeId} {sz g n cap:Nat} {xs:List Value} (h:Own w e sz (.slice (some ⟨g,0,none⟩) n cap) n xs):∃ C:List Value,w.heap[g]?=some (.cells C.toArray e (0,0))∧n≤cap∧cap≤maxLen∧C.length=cap * sz∧C.take (n * sz)=xs:=by
 obtain ⟨hl,h2⟩:=h
 rcases h2 with ⟨h3,_⟩ | ⟨g',cap',cur,h3,hb,hg,hnc,hcm,hcs,ht⟩
 · cases h3
 · simp only [Value.slice.injEq,Option.some.injEq,Addr.mk.injEq,and_true] at h3
   obtain ⟨rfl,_,rfl⟩:=h3
   exact ⟨cur.toList,by simpa using hg,hnc,hcm,by simpa using hcs,ht⟩
theorem Own.mk' {w:World} {e:TypeId} {sz g n cap:Nat} {xs C:List Value} (h1:w.heap[g]?=some (.cells C.toArray e (0,0))) (h2:n≤cap) (h3:cap≤maxLen) (h4:C.length=cap * sz) (h5:C.take (n * sz)=xs):Own w e sz (.slice (some ⟨g,0,none⟩) n cap) n xs:=by
 have hm:n * sz≤cap * sz:=Nat.mul_le_mul_right _ h2
 exact ⟨by rw [← h5,List.length_take];omega,.inr ⟨g,cap,C.toArray,rfl,Nat.zero_le _,h1,h2,h3,by simpa using h4,by simpa using h5⟩⟩
theorem run_copyKB {P:Program} (w:World) (dT sT ty elem:TypeId) (size:Nat) (b o dLen dCap:Nat) (a:Addr) (sLen sCap:Nat) (cs:List Value)
   (hu:P.underlying dT=some (.slice elem)) (hs:(P.info? elem).map (·.size)=some size) (hn:cs.length=Nat.min sLen dLen * size)
   (hsrc:∀ j v,cs[j]?=some v→w.cell? (a.add j)=some v) (hc:∀ j,j < cs.length→(w.cell? ⟨b,o+j,none⟩).isSome=true) (hf:∀ j,j < cs.length→w.frozen? ⟨b,o+j,none⟩=false) (h1:∀ v ∈ cs,v.oneCell'=true) :
   (Builtin.copy_ #[dT,sT] ty #[.slice (some ⟨b,o,none⟩) dLen dCap,.slice (some a) sLen sCap]).run P w=.ok (goInt (Nat.min sLen dLen)) (w.setCells b o cs):=by
 have hl:=run_loadCells_list (P:=P) w a cs hsrc
 have hst:=run_storeCells_cells (P:=P) b o cs 0 w (by simpa using hc) (by simpa using hf) h1
 cases hq:P.info? elem with
 | none=>simp [hq] at hs
 | some i =>
   have hi:i.size=size:=by simpa [hq] using hs
   simp only [Nat.add_zero] at hst
   rw [hn] at hl
   simp [Builtin.copy_,run_underlying hu,Builtin.lenOf,Builtin.firstCells,sizeOf,typeInfo,hq,hi,hl,hst]
theorem run_copyB {P:Program} (w:World) (dT sT ty elem:TypeId) (size:Nat) (g o dLen dCap:Nat) (a:Addr) (sLen sCap:Nat) (cs C:List Value)
   (hu:P.underlying dT=some (.slice elem)) (hs:(P.info? elem).map (·.size)=some size) (hn:cs.length=Nat.min sLen dLen * size)
   (hsrc:∀ j v,cs[j]?=some v→w.cell? (a.add j)=some v) (hb:w.heap[g]?=some (.cells C.toArray elem (0,0))) (hfit:o+cs.length≤C.length) (h1:∀ v ∈ cs,v.oneCell'=true) :
   ∃ w',(Builtin.copy_ #[dT,sT] ty #[.slice (some ⟨g,o,none⟩) dLen dCap,.slice (some a) sLen sCap]).run P w=.ok (goInt (Nat.min sLen dLen)) w'∧w.grownBy w' (some g)∧w'.heap[g]?=some (.cells (C.take o ++ (cs ++ C.drop (o+cs.length))).toArray elem (0,0)):=by
 refine ⟨_,run_copyKB w dT sT ty elem size g o dLen dCap a sLen sCap cs hu hs hn hsrc (fun j hj=>?_) (fun j hj=>frozen_of_row w g _ _ elem hb) h1,setCells_grown _ _ _ _,setCells_mid C o cs hb hfit⟩
 rw [cellsAt hb,List.getElem?_eq_getElem (by omega)]
 rfl
theorem wpList_appR {P:Program} {w:World} {ops:Array Oper} {rest:List Oper} {o:Oper} {a:Act} {Q:Exit→Act→World→Prop} (hgd:o.guard=none) (s x:Operand) (t t':TypeId)
   (ho:o.op=.call { callee:=.builtin .append,args:=#[s,x],argTypes:=#[t,t'] }) (v u:Value) (hs:a.eval s=v) (hx:a.eval x=u) {v':Value} {w':World}
   (hr:(Builtin.append_ #[t,t'] o.type #[v,u]).run P w=.ok v' w') (h:wpList P ops Q rest (a.put o.dst v') w'):wpList P ops Q (o :: rest) a w:=by
 refine wpList_plain hgd fun K hK=>?_
 unfold Oper.wp execOp
 simp only [ho,resolve,invoke,builtin,Sem.run_bind,Sem.run_pure,Result.andThen_ok,List.map_toArray,List.map_cons,List.map_nil,hs,hx,hr]
 exact hK _ _ h
theorem sl_one {w:World} {V:Nat} {x:VK} (h:w.heap[V]?=some (.cells (kcells x).toArray 58 (0,0))):Sl w 33 (.slice (some ⟨V,0,none⟩) 1 1) 1 (kcells x):=
 ⟨by rw [kcells_len],some ⟨V,0,none⟩,1,rfl,Nat.le_refl _,by unfold maxLen;omega,fun h=>(by cases h),fun a ha=>by
   obtain rfl:=Option.some.inj ha
   refine ⟨fun _=>rfl,fun j u hu=>?_⟩
   rw [Nat.zero_add,cellsAt h]
   exact hu⟩
theorem flat_one (l:List VK):∀ v ∈ l.flatMap kcells,v.oneCell'=true:=List.all_eq_true.1 (kcells_all l)
theorem flat_take (l:List VK) (i:Nat) (hi:i≤l.length):(l.take i).flatMap kcells=(l.flatMap kcells).take (i * 33):=by
 have e:l.flatMap kcells=(l.take i).flatMap kcells ++ (l.drop i).flatMap kcells:=by rw [← List.flatMap_append,List.take_append_drop]
 rw [e,List.take_left' (by rw [kcellsL,List.length_take];omega)]
theorem flat_drop (l:List VK) (i:Nat) (hi:i≤l.length):(l.drop i).flatMap kcells=(l.flatMap kcells).drop (i * 33):=by
 have e:l.flatMap kcells=(l.take i).flatMap kcells ++ (l.drop i).flatMap kcells:=by rw [← List.flatMap_append,List.take_append_drop]
 rw [e,List.drop_left' (by rw [kcellsL,List.length_take];omega)]
theorem twice1 {α:Type} (C X Y:List α) (a:Nat) (hC:a+X.length+Y.length≤C.length) :
   ((C.take a ++ (X ++ C.drop (a+X.length))).take (a+X.length) ++ (Y ++ (C.take a ++ (X ++ C.drop (a+X.length))).drop (a+X.length+Y.length))).take (a+X.length+Y.length)=C.take a ++ (X ++ Y):=by
 have h1:(C.take a).length=a:=by rw [List.length_take];omega
 have h2:(C.take a ++ (X ++ C.drop (a+X.length))).take (a+X.length)=C.take a ++ X:=by
   rw [← List.append_assoc,List.take_left' (by rw [List.length_append,h1])]
 rw [h2,← List.append_assoc,List.take_left' (by simp only [List.length_append,h1]),List.append_assoc]
theorem ins_cells (l:List VK) (x:VK) (i:Nat) (hi:i≤l.length):(l.take i ++ x :: l.drop i).flatMap kcells=(l.flatMap kcells).take (i * 33) ++ (kcells x ++ (l.flatMap kcells).drop (i * 33)):=by
 rw [List.flatMap_append,List.flatMap_cons,flat_take l i hi,flat_drop l i hi]
theorem run_app_full {P:Program} {t e:TypeId} {z:Value} {size bytes:Nat} (E:ET P t e z size bytes) (ty:TypeId) {w:World} {A n0:Nat} {xs:List Value} (hown:Own w e size (.slice (some ⟨A,0,none⟩) n0 n0) n0 xs)
   {sv:Value} {m:Nat} {news:List Value} (hs:Sl w size sv m news) (h1:news.all Value.oneCell'=true) (hm:0 < m) (h63:n0+m≤1000000000) :
   ∃ v' w',(Builtin.append_ #[t,t] ty #[.slice (some ⟨A,0,none⟩) n0 n0,sv]).run P w=.ok v' w'∧Own w' e size v' (n0+m) (xs ++ news)∧w.grownBy w' none∧∀ k,fpS v' k→w.heap.size≤k:=by
 obtain ⟨i,hi,hz,rfl,hby⟩:=E.inf
 have hb:=E.bnd
 obtain ⟨v',w',hr,hown',hst⟩:=run_app E ty hown hs h1 (by omega)
 have hold:=(Sl.of_own hown)
 obtain ⟨hlo,ao0,cap0,e0,_,_,_,hc0⟩:=hold
 simp only [Value.slice.injEq,true_and] at e0
 obtain ⟨rfl,rfl⟩:=e0
 obtain ⟨hl,ao,cap,rfl,hm1,hm2,h3,h4⟩:=hs
 cases ao with
 | none=>have:=h3 rfl;omega
 | some ad =>
   obtain ⟨b,off,spot⟩:=ad
   obtain ⟨hsp,hc⟩:=h4 _ rfl
   have hsp:=hsp hm
   simp at hsp
   subst hsp
   have hbytes:(n0+m) * bytes≤140737488355328:=by
     have:(n0+m) * bytes≤1000000000 * 128:=Nat.mul_le_mul h63 hb
     omega
   have hr2:=run_append_grow (P:=P) w t ty e i z E.und hi hz ⟨A,0,none⟩ n0 n0 xs hlo (fun j u hj=>by rw [Addr.add_lit];exact (hc0 _ rfl).2 j u hj) ⟨b,off,none⟩ m cap news hl (fun j u hj=>by rw [Addr.add_lit];exact hc j u hj) (by omega) (by omega) (growslice_fits (by omega) (by subst hby;exact hbytes))
   have hr3:=hr2
   rw [hr] at hr2
   simp only [Result.ok.injEq] at hr2
   obtain ⟨rfl,rfl⟩:=hr2
   exact ⟨_,_,hr3,hown',grown_trans (grown_drew w) (World.grownBy_alloc _ _ _),fun k hk=>by simp [fpS,Value.ownBlock] at hk;omega⟩
set_option maxRecDepth 100000 in
set_option maxHeartbeats 2000000 in
theorem insert_end_walk (l:List VK) (x:VK) (g V:Nat) (w:World) (hown:Own w 58 33 (.slice (some ⟨g,0,none⟩) l.length l.length) l.length (l.flatMap kcells)) (hv:w.heap[V]?=some (.cells (kcells x).toArray 58 (0,0))) (hn:l.length≤1000000) :
   Calls Tryz.prog 83 #[.slice (some ⟨g,0,none⟩) l.length l.length,.int .i64 (l.length:Nat),.slice (some ⟨V,0,none⟩) 1 1] w fun e w'=>∃ v',e=.returned v'∧Own w' 58 33 v' (l.length+1) ((l ++ [x]).flatMap kcells)∧w.grownBy w' none∧∀ k,fpS v' k→w.heap.size≤k:=by
 have hx:=sl_one hv
 have hflat:(l ++ [x]).flatMap kcells=l.flatMap kcells ++ kcells x:=by simp
 obtain ⟨v5,w5,hr,ho,hg,hf⟩:=run_app_full keysT 34 hown hx (List.all_eq_true.2 (kcells_one x)) (by omega) (by omega)
 have HF:=hid hflat
 have HR:=hid hr
 have HO:=hid ho
 have HG:=hid hg
 have HX:=hid hf
 have z1:(0:Int)≤(l.length:Int):=by omega
 clear hx hown hv hflat hr ho hg hf
 go_enter Tryz.func83,Tryz.ntmps83
 go_wp2_with (first | (at_builtin;refine wpList_appR rfl (.tmp 23) (.tmp 24) 34 34 rfl _ _ rfl rfl HR.out ?_) | (refine wpList_appR rfl (.tmp 23) (.tmp 24) 34 34 rfl _ _ rfl rfl HR.out ?_) | fail)
 go_ret
 exact ⟨_,rfl,by rw [HF.out];exact HO.out,HG.out,HX.out⟩
set_option maxRecDepth 100000 in
set_option maxHeartbeats 2000000 in
theorem insert_grow_walk (l:List VK) (x:VK) (i g cap V:Nat) (w:World) (hown:Own w 58 33 (.slice (some ⟨g,0,none⟩) l.length cap) l.length (l.flatMap kcells)) (hv:w.heap[V]?=some (.cells (kcells x).toArray 58 (0,0))) (hi:i < l.length) (hroom:cap < l.length+1) (hn:l.length≤1000000) :
   Calls Tryz.prog 83 #[.slice (some ⟨g,0,none⟩) l.length cap,.int .i64 i,.slice (some ⟨V,0,none⟩) 1 1] w fun e w'=>∃ v',e=.returned v'∧Own w' 58 33 v' (l.length+1) ((l.take i ++ x :: l.drop i).flatMap kcells)∧w.grownBy w' none∧∀ k,fpS v' k→w.heap.size≤k:=by
 obtain ⟨C,hb,hnc,hcm,hCl,hCt⟩:=hown.blk
 obtain rfl:cap=l.length:=by omega
 have hX4:(kcells x).length=33:=kcells_len x
 have hYl:((l.flatMap kcells).drop (i * 33)).length=(l.length - i) * 33:=by rw [List.length_drop,kcellsL];omega
 obtain ⟨i0,hi0,hz0,hzs,hzb⟩:=keysT.inf
 have hold:(Builtin.firstCells i0.size i (.slice (some ⟨g,0,none⟩) i l.length)).run Tryz.prog w.drew=.ok ((l.flatMap kcells).take (i * 33)).toArray w.drew:=by
   rw [hzs]
   exact run_firstCells_some w.drew 33 i ⟨g,0,none⟩ i l.length ((l.flatMap kcells).take (i * 33)) (by rw [List.length_take,kcellsL];omega) (fun j v hj=>by
     rw [Addr.add_lit,Nat.zero_add]
     have h3:w.cell? ⟨g,j,none⟩=some v:=by
       have hjl:=(List.getElem?_eq_some_iff.1 hj).1
       rw [List.length_take,kcellsL] at hjl
       rw [List.getElem?_take,if_pos (by omega),← hCt,List.getElem?_take,if_pos (by omega)] at hj
       rw [cellsAt hb,hj]
     exact h3)
 have hrz:=Lib.run_append_grow_zeros w 34 3 34 58 i0 _ .i64 .i64 Tryz.underlying34 Tryz.underlying3 hi0 hz0 (some ⟨g,0,none⟩) i l.length ((l.flatMap kcells).take (i * 33)) hold (l.length+1 - i) (by omega) (by omega) (by omega) (by omega) (by rw [hzb];omega) (by rw [hzb,show i+(l.length+1 - i)=l.length+1 by omega];exact growslice_fits (by omega) (by omega))
 rw [show i+(l.length+1 - i)=l.length+1 by omega] at hrz
 have hGge:l.length+1≤grownCap w (l.length+1) l.length 58:=grownCap_ge w _ _ _
 have hGle:grownCap w (l.length+1) l.length 58≤maxLen:=grownCap_le_maxLen w _ _ _ (by unfold maxLen;omega)
 generalize hG:grownCap w (l.length+1) l.length 58=G at *
 obtain ⟨R,hR⟩:∃ R:List Value,R=((l.flatMap kcells).take (i * 33)) ++ (Builtin.zeroCells zK.cells (l.length+1 - i)).toList ++ (Builtin.zeroCells zK.cells (G - (l.length+1))).toList:=⟨_,rfl⟩
 have hRa:((l.flatMap kcells).take (i * 33)).toArray ++ Builtin.zeroCells zK.cells (l.length+1 - i) ++ Builtin.zeroCells zK.cells (G - (l.length+1))=R.toArray:=by
   rw [hR]
   apply Array.ext'
   simp
 rw [hRa] at hrz
 have hzl:∀ k,(Builtin.zeroCells zK.cells k).toList.length=k * 33:=fun k=>by simp [Builtin.zeroCells,zK_cells]
 have hRl:R.length=G * 33:=by rw [hR,List.length_append,List.length_append,hzl,hzl,List.length_take,kcellsL];omega
 have hRt:R.take (i * 33)=(l.flatMap kcells).take (i * 33):=by rw [hR,List.append_assoc,List.take_left' (by rw [List.length_take,kcellsL];omega)]
 have hgw:g < w.heap.size:=(Array.getElem?_eq_some_iff.1 hb).1
 have hVw:V < w.heap.size:=(Array.getElem?_eq_some_iff.1 hv).1
 have gW:=grown_trans (grown_drew w) (World.grownBy_alloc w.drew (.cells R.toArray 58) none)
 have hbN:(w.drew.alloc (.cells R.toArray 58)).heap[w.heap.size]?=some (.cells R.toArray 58 (0,0)):=heap_at rfl
 have hvW:=row_of gW hv (by simp)
 have hbW:=row_of gW hb (by simp)
 generalize w.drew.alloc (.cells R.toArray 58)=W1 at *
 obtain ⟨w2,hr2,hg2,hb2⟩:=run_copyB (P:=Tryz.prog) W1 34 34 3 58 33 w.heap.size (i * 33) (l.length+1 - i) (G - i) ⟨V,0,none⟩ 1 1 (kcells x) R Tryz.underlying34 (by kernel_rfl)
   (by rw [hX4,show Nat.min 1 (l.length+1 - i)=1 by simp [Nat.min_def];omega])
   (fun j v hj=>by rw [Addr.add_lit,Nat.zero_add,cellsAt hvW];exact hj) hbN (by rw [hX4,hRl];omega) (kcells_one x)
 have hb2g:=row_of hg2 hbW (by simp;omega)
 obtain ⟨w3,hr3,hg3,hb3⟩:=run_copyB (P:=Tryz.prog) w2.drew 34 34 3 58 33 w.heap.size ((i+1) * 33) (l.length - i) (G - (i+1)) ⟨g,i * 33,none⟩ (l.length - i) (l.length - i) ((l.flatMap kcells).drop (i * 33)) _ Tryz.underlying34 (by kernel_rfl)
   (by rw [hYl,show Nat.min (l.length - i) (l.length - i)=l.length - i by simp [Nat.min_def]])
   (fun j v hj=>by
     rw [Addr.add_lit]
     have h3:w2.cell? ⟨g,i * 33+j,none⟩=some v:=by
       have hjl:=(List.getElem?_eq_some_iff.1 hj).1
       rw [hYl] at hjl
       rw [List.getElem?_drop,← hCt,List.getElem?_take,if_pos (by omega)] at hj
       rw [cellsAt hb2g,hj]
     exact h3) hb2 (by simp only [List.length_append,List.length_take,List.length_drop,hX4,hYl,hRl];omega) (fun v hv=>flat_one l v (List.mem_of_mem_drop hv))
 have e1:Nat.min (l.length - i) (l.length - i)=l.length - i:=by simp [Nat.min_def]
 have e2:Nat.min 1 (l.length+1 - i)=1:=by simp [Nat.min_def];omega
 rw [e1] at hr3
 rw [e2] at hr2
 have ho:Own w3 58 33 (.slice (some ⟨w.heap.size,0,none⟩) (l.length+1) G) (l.length+1) ((l.take i ++ x :: l.drop i).flatMap kcells):=by
   refine Own.mk' hb3 hGge hGle (by simp only [List.length_append,List.length_take,List.length_drop,hX4,hYl,hRl];omega) ?_
   rw [ins_cells l x i (by omega),← hRt]
   have ht:=twice1 R (kcells x) ((l.flatMap kcells).drop (i * 33)) (i * 33) (by rw [hX4,hYl,hRl];omega)
   rw [hX4,hYl,show i * 33+33+(l.length - i) * 33=(l.length+1) * 33 by omega] at ht
   rw [hX4,hYl,show (i+1) * 33=i * 33+33 by omega,show i * 33+33+(l.length - i) * 33=(l.length+1) * 33 by omega]
   exact ht
 have hkk:(((l.length+1 - i:Nat):Nat):Int)=(l.length:Int)+1 - (i:Int):=by omega
 rw [hkk] at hrz
 have HRZ:=hid hrz
 have HR2:=hid hr2
 have HR3:=hid hr3
 have O3:=hid ho
 have G3:=hid (grown_newR (grown_newR gW hg2 (Nat.le_refl _)) (show w2.grownBy w3 (some w.heap.size) from ⟨hg3.os,hg3.tape,hg3.output,hg3.size,hg3.block⟩) (Nat.le_refl _))
 have z1:(0:Int)≤(i:Int):=by omega
 have z2:(i:Int)≤(l.length:Int):=by omega
 have z3:¬ ((i:Int)=(l.length:Int)):=by omega
 have z4:(l.length:Int) < (l.length:Int)+1:=by omega
 have z5:¬ (l.length=i):=by omega
 have z6:¬ (G=i+1):=by omega
 have z7:¬ (G=i):=by omega
 have z8:(i:Int)+1≤(l.length:Int)+1:=by omega
 have z9:l.length+1 - (i+1)=l.length - i:=by omega
 have y2:(i:Int)≤(l.length:Int)+1:=by omega
 have y4:((i:Int)+1).toNat=i+1:=by omega
 have y5:(0:Int)≤(i:Int)+1:=by omega
 have y6:(0:Int)≤(l.length:Int)+1:=by omega
 have y7:IntKind.i64.wrap ((i:Int)+1)=(i:Int)+1:=by rw [IntKind.wrap_i64];omega
 clear hown hv hb hCl hCt hX4 hYl hi0 hz0 hzs hzb hold hrz hGge hGle hG hR hRa hzl hRl hRt gW hbN hvW hbW hr2 hg2 hb2 hb2g hr3 hg3 hb3 e1 e2 ho hkk hroom hnc hcm
 go_enter Tryz.func83,Tryz.ntmps83
 go_wp2_with (first | (at_builtin;refine wpList_appR rfl (.tmp 34) (.tmp 39) 34 3 rfl _ _ rfl rfl HRZ.out ?_) | (refine wpList_copyR rfl (.tmp 43) (.tmp 44) 34 34 rfl _ _ rfl rfl HR2.out ?_) | fail)
 go_region_law (first | (refine step_copyR rfl (.tmp 50) (.tmp 53) 34 34 rfl _ _ (by simp [Act.eval,Act.put]) (by simp [Act.eval,Act.put]) HR3.out ?_) | fail)
 all_goals
   go_wp2
   go_ret
   exact ⟨_,rfl,O3.out,G3.out,fun k hk=>by simp [fpS,Value.ownBlock] at hk;omega⟩
theorem insert_full (l:List VK) (x:VK) (i g V:Nat) (w:World) (hown:Own w 58 33 (.slice (some ⟨g,0,none⟩) l.length l.length) l.length (l.flatMap kcells)) (hv:w.heap[V]?=some (.cells (kcells x).toArray 58 (0,0))) (hi:i≤l.length) (hn:l.length≤1000000) :
   Calls Tryz.prog 83 #[.slice (some ⟨g,0,none⟩) l.length l.length,.int .i64 i,.slice (some ⟨V,0,none⟩) 1 1] w fun e w'=>∃ v',e=.returned v'∧Own w' 58 33 v' (l.length+1) ((l.take i ++ x :: l.drop i).flatMap kcells)∧w.grownBy w' none∧∀ k,fpS v' k→w.heap.size≤k:=by
 by_cases hil:i < l.length
 · exact insert_grow_walk l x i g l.length V w hown hv hil (by omega) hn
 · obtain rfl:i=l.length:=by omega
   rw [List.take_length,List.drop_length]
   exact insert_end_walk l x g V w hown hv hn
theorem Own.rdk {w:World} {ao:Option Addr} {n cap:Nat} {ks:List VK} {e:TypeId} (h:Own w e 33 (.slice ao n cap) n (ks.flatMap kcells)):n=ks.length:=fl_n (Sl.of_own h) kcells_len (by decide)
end Go.Proofs.YtbfjfnbcmojpiaaGreat
