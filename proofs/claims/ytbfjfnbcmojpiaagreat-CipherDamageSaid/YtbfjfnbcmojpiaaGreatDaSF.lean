import Derived.Test.YtbfjfnbcmojpiaaGreatDaSX
import Derived.Test.YtbfjfnbcmojpiaaGreatDaMK6
set_option linter.unusedSimpArgs false
set_option linter.unusedVariables false
namespace Go.Proofs.YtbfjfnbcmojpiaaGreat
open Go.RowKit
theorem QT {w:World} {A:Nat} {c:Array Value} {e:TypeId} {fr:Nat×Nat} (h:w.heap[A]?=some (.cells c e fr)):w.setRow A c=w:=by
 have:(w.setRow A c).heap=w.heap:=by
  refine Array.ext_getElem? fun i=>?_
  unfold World.setRow
  simp only
  rw[Array.getElem?_modify]
  split
  · rename_i hi;subst hi;rw[h];rfl
  · rfl
 cases w
 unfold World.setRow at this ⊢
 simp only at this ⊢
 rw[this]
theorem AHP {P:Program} {t e:TypeId} {z:Value} {size bytes:Nat} (E:ET P t e z size bytes) (ty:TypeId) {w:World} {A:Nat} (hA:w.heap[A]?=some (.cells #[] e (0,0)))
   {sv:Value} {m:Nat} {news:List Value} (hs:Sl w size sv m news) (h1:news.all Value.oneCell'=true) (h63:m≤1099511627776) :
   ∃v' w',(Builtin.append_ #[t,t] ty #[.slice (some ⟨A,0,none⟩) 0 0,sv]).run P w=.ok v' w'∧Own w' e size v' m news∧w.grownBy w' none∧∀k,v'.ownBlock=some k→k=A∨w.heap.size≤k:=by
 have hown:Own w e size (.slice (some ⟨A,0,none⟩) 0 0) 0 []:=⟨by simp,.inr ⟨A,0,#[],rfl,Nat.zero_le _,hA,Nat.le_refl _,Nat.zero_le _,by simp,by simp⟩⟩
 obtain⟨i,hi,hz,rfl,hby⟩:=E.inf
 have hb:=E.bnd
 by_cases hm:m=0
 · subst hm
   obtain⟨hl,ao,cap,rfl,hm1,hm2,h3,h4⟩:=hs
   obtain rfl:news=[]:=List.eq_nil_of_length_eq_zero (by simpa using hl)
   cases ao with
   | none =>
    obtain rfl:=h3 rfl
    exact⟨_,w,run_append_owned_none (P:=P) w 0 t ty e i i.size E.und hi _ 0 [] hown,hown,World.grownBy.refl _ _,fun k hk=>.inl (by simp[Value.ownBlock] at hk;exact hk.symm)⟩
   | some ad =>
    have hr2:=run_append_room (P:=P) w t ty e i E.und hi A 0 0 #[] hA ad 0 cap [] hl (fun j u hj=>by simp at hj) (fun u hu=>by cases hu) (Nat.le_refl _) (by simp)
    refine⟨_,_,hr2,?_,?_,fun k hk=>.inl (by simp[Value.ownBlock] at hk;exact hk.symm)⟩
    · simpa [QT hA] using hown
    · simpa [QT hA] using World.grownBy.refl w none
 · have hsl:=hs
   obtain⟨hl,ao,cap,rfl,hm1,hm2,h3,h4⟩:=hs
   cases ao with
   | none=>have:=h3 rfl;omega
   | some ad =>
    have hc':=hsl.rd
    have h1':=List.all_eq_true.1 h1
    have hbytes:(0+m)*bytes≤140737488355328:=by
      have:(0+m)*bytes≤1099511627776*128:=Nat.mul_le_mul (by omega) hb
      omega
    obtain⟨v',w',hr,h2,h3',_⟩:=run_append_own (P:=P) w 0 t ty e i z i.size bytes E.und hi hz rfl hby E.zsz E.pos _ 0 [] hown ad m cap news hl hc' h1' (by unfold maxLen;omega) hbytes (Nat.zero_le _)
    have hr2:=run_append_grow (P:=P) w t ty e i z E.und hi hz ⟨A,0,none⟩ 0 0 [] (by simp) (fun j u hj=>by simp at hj) ad m cap news hl hc' (by omega) (by omega) (growslice_fits (by omega) (by subst hby;exact hbytes))
    rw[hr2] at hr
    simp only[Result.ok.injEq] at hr
    obtain⟨rfl,rfl⟩:=hr
    refine⟨_,_,hr2,by simpa using h2,AA (Cz w) (World.grownBy_alloc _ _ _),fun k hk=>.inr ?_⟩
    simp[Value.ownBlock] at hk
    omega
def Sp.row (B:Nat) (e:TypeId) (sz n:Nat) (xs:List Value):Sp:=⟨fun w v=>∃ao cap,v=.slice ao n cap∧Own w e sz (.slice ao n cap) n xs∧∀k,(Value.slice ao n cap).ownBlock=some k→B≤k,fun _ _ _ hg ⟨ao,cap,h1,h2,h3⟩=>⟨ao,cap,h1,h2.kn hg,h3⟩⟩
def Sp.lit0 (B:Nat) (e:TypeId):Sp:=⟨fun w v=>∃A,v=.slice (some ⟨A,0,none⟩) 0 0∧B≤A∧w.heap[A]?=some (.cells #[] e (0,0)),fun _ _ _ hg ⟨A,h1,h2,h3⟩=>⟨A,h1,h2,AF hg h3 (by simp)⟩⟩
section
variable {P:Program} {ops:Array Oper} {L:Nat→Sp} {n:Nat} {w0:World} {o:Oper}
theorem XN {t e:TypeId} {d B:Nat} (hd:o.dst=some d) (hg:GX ops L n o.guard) (hB:B≤w0.heap.size)
  (hrun:∀(a:Act) w,(execOp a.eval o).run P w=.ok (.value (.slice (some ⟨w.heap.size,0,none⟩) 0 0)) (w.alloc (.cells #[] e))) (h:∀w v,(Sp.lit0 B e).on w v→(L d).on w v):OX P ops L n w0 o:=by
 intro a w hw hl hs
 unfold OpSays
 rw[if_pos (hg.wanted hl hs),hrun a w]
 exact⟨World.grownBy_alloc _ _ _,Da hd (h _ _ ⟨_,rfl,Nat.le_trans hB hw.size,Ak rfl⟩)⟩
theorem XO {t e:TypeId} {z:Value} {size bytes s d B m:Nat} {x:Operand} {xv:Value} {news:List Value} (E:ET P t e z size bytes) (ho:o.op=.call { callee:=.builtin .append,args:=#[.tmp s,x],argTypes:=#[t,t] }) (hd:o.dst=some d) (hg:GX ops L n o.guard)
  (hs:decide (s<n)=true) (hsl:∀w u,(L s).on w u→(Sp.lit0 B e).on w u) (hx:OpX L n x xv) (hr:∀w,w0.grownBy w none→Sl w size xv m news) (h1:news.all Value.oneCell'=true) (h63:m≤1099511627776) (hB:B≤w0.heap.size)
  (h:∀w v,(Sp.row B e size m news).on w v→(L d).on w v):OX P ops L n w0 o:=by
 intro a w hw hl hsz
 unfold OpSays
 rw[if_pos (hg.wanted hl hsz)]
 obtain⟨A,e0,hBA,hA⟩:=hsl w _ (hl s (by simp[Oper.looksAt,ho,Op.operands,Call.operands]) (of_decide_eq_true hs))
 have e1:=hx.eval (o:=o) (by simp[ho,Op.operands,Call.operands]) hl
 obtain⟨v',w',hrun,own,g,fr⟩:=AHP E o.type hA (hr w hw) h1 h63
 have e2:a.eval (.tmp s)=.slice (some ⟨A,0,none⟩) 0 0:=e0
 have hrr:(execOp a.eval o).run P w=.ok (.value v') w':=by
  simp only[execOp,ho,resolve,invoke,builtin,Sem.run_bind,Sem.run_pure,Result.andThen_ok,List.map_toArray,List.map_cons,List.map_nil,e1,e2,hrun]
 rw[hrr]
 refine⟨g,Da hd (h _ _ ?_)⟩
 obtain⟨ao,cap,rfl,_⟩:=(Sl.of_own own).shape
 exact⟨ao,cap,rfl,own,fun k hk=>(fr k hk).elim (fun e=>e▸hBA) (fun h=>Nat.le_trans hB (Nat.le_trans hw.size h))⟩
end
section
variable {P:Program} {Q:Exit→Act→World→Prop} {ops:Array Oper} {rest:List Oper} {o:Oper} {a:Act} {w:World} {n:Nat} {D:List Deferred} {K:List (Nat×Value)}
theorem GZ {t e:TypeId} {z:Value} {size bytes d n0 m:Nat} {s x:Operand} {v xv:Value} {xs news:List Value} (E:ET P t e z size bytes) (sv:Sv n D K a) (hgd:o.guard=none) (ho:o.op=.call { callee:=.builtin .append,args:=#[s,x],argTypes:=#[t,t] }) (hd:o.dst=some d) (hdn:decide (d<n)=true)
  (hs:Nk K s=true) (hsv:Nl K s=v) (hx:Nk K x=true) (hxv:Nl K x=xv) (hown:Own w e size v n0 xs) (hsl:Sl w size xv m news) (h1:news.all Value.oneCell'=true) (h63:n0+m≤1099511627776)
  (h:∀a' ao cap w',Own w' e size (.slice ao (n0+m) cap) (n0+m) (xs++news)→Step w v w' (.slice ao (n0+m) cap)→Sv n D ((d,.slice ao (n0+m) cap)::Ku d K) a'→wpList P ops Q rest a' w'):wpList P ops Q (o::rest) a w:=by
 refine Ea E hgd s x ho v n0 xs (sv.ev hs hsv) hown xv m news (sv.ev hx hxv) hsl h1 h63 fun v' w' ho' hst=>?_
 obtain⟨ao,cap,rfl,_⟩:=(Sl.of_own ho').shape
 rw[hd]
 exact h _ ao cap w' ho' hst (sv.put (of_decide_eq_true hdn) _)
theorem Own.at {w:World} {e:TypeId} {sz:Nat} {ao:Option Addr} {cap n:Nat} {xs:List Value} (h:Own w e sz (.slice ao n cap) n xs) (hn:0<n):∃g,ao=some ⟨g,0,none⟩:=by
 rcases h.2 with ⟨_,rfl⟩|⟨g,cap',cur,hv,_⟩
 · omega
 · simp only[Value.slice.injEq] at hv
   exact⟨g,hv.1⟩
theorem AEO {w:World} {e:TypeId} {sz:Nat} {g cap n i:Nat} {xs cs:List Value} (h:Own w e sz (.slice (some ⟨g,0,none⟩) n cap) n xs) (hi:i<n) (hc:cs.length=sz) :
   ∃A B C cur2 ,xs=A++(B++C)∧A.length=i*sz∧B.length=sz∧(w.heap[g]?=some (.cells (A++(B++(C++cur2))).toArray e (0,0)))∧∀w',w'.heap[g]?=some (.cells (A++(cs++(C++cur2))).toArray e (0,0))→Own w' e sz (.slice (some ⟨g,0,none⟩) n cap) n (A++(cs++C)):=by
 obtain⟨hl,h2⟩:=h
 rcases h2 with ⟨hv,rfl⟩|⟨g',cap',cur,hv,_,hg,hnc,hcm,hcs,htake⟩
 · omega
 · simp only[Value.slice.injEq,Option.some.injEq,Addr.mk.injEq,and_true,true_and] at hv
   obtain⟨rfl,rfl⟩:=hv
   have hle:i*sz+sz≤n*sz:=by rw[←Nat.succ_mul];exact Nat.mul_le_mul_right _ hi
   have hcur:n*sz≤cur.toList.length:=by rw[Array.length_toList,hcs];exact Nat.mul_le_mul_right _ hnc
   have hA:(xs.take (i*sz)).length=i*sz:=by rw[List.length_take,hl];omega
   have hB:((xs.drop (i*sz)).take sz).length=sz:=by rw[List.length_take,List.length_drop,hl];omega
   have hx:xs=xs.take (i*sz)++((xs.drop (i*sz)).take sz++xs.drop (i*sz+sz)):=by
     rw[←List.drop_drop,List.take_append_drop,List.take_append_drop]
   refine⟨xs.take (i*sz),(xs.drop (i*sz)).take sz,xs.drop (i*sz+sz),cur.toList.drop (n*sz),hx,hA,hB,?_,fun w' hw'=>?_⟩
   · rw[hg]
     have:cur.toList=xs++cur.toList.drop (n*sz):=by conv=>lhs;rw[←List.take_append_drop (n*sz) cur.toList,htake]
     have e2:xs.take (i*sz)++((xs.drop (i*sz)).take sz++(xs.drop (i*sz+sz)++cur.toList.drop (n*sz)))=cur.toList:=by
       conv=>rhs;rw[this,hx]
       simp
     rw[e2]
   · refine⟨by rw[List.length_append,List.length_append,hc,hA,List.length_drop,hl];omega,.inr ⟨g,cap,_,rfl,Nat.zero_le _,hw',hnc,hcm,?_,?_⟩⟩
     · rw[List.size_toArray,List.length_append,List.length_append,List.length_append,hA,hc,List.length_drop,List.length_drop,hl]
       rw[←Array.length_toList] at hcs
       omega
     · rw[List.toList_toArray,←List.append_assoc cs,←List.append_assoc]
       exact List.take_left' (by rw[List.length_append,List.length_append,hA,hc,List.length_drop,hl];omega)
end
theorem ALO {P:Program} {t e:TypeId} {sz j n cap b off:Nat} {ik:IntKind} (hu:P.underlying t=some (.slice e)) (hs:(P.info? e).map (·.size)=some sz) (hj:j<n) (w:World) :
  (Instr.indexAt t (.slice (some ⟨b,off,none⟩) n cap) (.int ik (j:Int))).run P w=.ok (.pointer (some ⟨b,off+j*sz,none⟩)) w:=by
 cases hi:P.info? e with
 | none=>simp[hi] at hs
 | some i =>
  have hs':i.size=sz:=by simpa [hi] using hs
  have h1:(0:Int)≤(j:Int)∧(j:Int)<(n:Int):=⟨by omega,by omega⟩
  simp[Instr.indexAt,asIntOf,run_underlying hu,sizeOf,typeInfo,hi,hs',h1,Addr.add,Result.andThen,hj]
section
variable {P:Program} {k:IntKind} {a b:Int} {t:TypeId} {x y:Operand} {w:World}
theorem AHQ {c:Int} (hb:b≠0) (h:a.tmod b=c):(do eqGuard .rem t x y (.int k a) (.int k b);binOp .rem t (.int k a) (.int k b):Sem Value).run P w=.ok (.int k c) w:=by subst h;simp[eqGuard,binOp_rem,Op.intDiv,hb]
theorem Hv {s d:TypeId} {ds:TypeDesc} {k k':IntKind} {a c:Int} (hs:P.underlying s=some ds) (hd:P.underlying d=some (.int k')) (h:k'.wrap a=c):(convert s d (.int k a)).run P w=.ok (.int k' c) w:=by
 subst h
 unfold convert
 simp only[Sem.run_bind,run_underlying hs,run_underlying hd,Result.andThen_ok]
 cases ds<;>rfl
end
theorem A1 {P:Program} {f:Nat} {args:Array Value} {w0:World} {v:Value} (h:∀W,w0.grownBy W none→Calls P f args W fun e W'=>e=.returned v∧W.grownBy W' none):∀W,w0.grownBy W none→Calls P f args W fun e W'=>∃v',e=.returned v'∧W.grownBy W' none∧(Sp.is v).on W' v':=fun W g =>
 (h W g).mono fun e W' ⟨h1,h2⟩=>⟨v,h1,h2,rfl⟩
theorem QS {x y:List Nat} (hx:Dg x) (hy:Dg y):(bv x).length=(bv y).length:=by rw[AO,AO,hx.1,hy.1]
theorem EM {x:List Nat} (hx:Dg x):(bv AR).length=(bv x).length:=by rw[AO,AO,hx.1];rfl
def BC (v:Value) (k:Nat):Prop:=v.ownBlock=some k
def bO (ao:Option Addr):Nat:=match ao with|some a=>a.block|none=>0
def oO (ao:Option Addr):Nat:=match ao with|some a=>a.off|none=>0
def SlB (w:World) (sz:Nat) (v:Value) (n:Nat) (xs:List Value):Prop:=Sl w sz v n xs∧∀k,BC v k→k<w.heap.size
section
variable {w w':World} {sz n:Nat} {v:Value} {xs:List Value} {e:TypeId} {b:Nat}
theorem SlB.kn (h:SlB w sz v n xs) (g:w.grownBy w' none):SlB w' sz v n xs:=⟨h.1.kn g,fun k hk=>Nat.lt_of_lt_of_le (h.2 k hk) g.size⟩
theorem SlB.lt (h:SlB w sz v n xs):∀k,BC v k→k<w.heap.size:=h.2
theorem Sl.offR (h:Sl w sz v n xs) {row:Option Nat} (g:w.grownBy w' row) (hb:∀k,BC v k→row≠some k):Sl w' sz v n xs:=h.kept g (by
 cases hv:v.ownBlock with
 | none=>exact .inl rfl
 | some k=>exact .inr fun e=>hb k hv e.symm)
theorem SlB.offR (h:SlB w sz v n xs) {row:Option Nat} (g:w.grownBy w' row) (hb:∀k,BC v k→row≠some k):SlB w' sz v n xs:=⟨h.1.offR g hb,fun k hk=>Nat.lt_of_lt_of_le (h.2 k hk) g.size⟩
theorem Own.offR (h:Own w e sz v n xs) {row:Option Nat} (g:w.grownBy w' row) (hb:∀k,BC v k→row≠some k):Own w' e sz v n xs:=h.skip g hb
theorem Own.ltS (h:Own w e sz v n xs):∀k,BC v k→k<w.heap.size:=Own.lt h
theorem Own.sb (h:Own w e sz v n xs):SlB w sz v n xs:=⟨Sl.of_own h,Own.lt h⟩
end
theorem RdT.lt {w:World} {s:Value} {l:List Nd} (h:RdT w s l):∀k,OZ s k→k<w.heap.size:=h.2.2.1
theorem RdT.offR {w w':World} {s:Value} {l:List Nd} {row:Option Nat} (h:RdT w s l) (g:w.grownBy w' row) (hb:∀k,OZ s k→row≠some k):RdT w' s l:=
 ⟨h.1.keptT g hb,h.2.1,fun k hk=>Nat.lt_of_lt_of_le (h.2.2.1 k hk) g.size,h.2.2.2⟩
theorem Sl.ptr {w:World} {sz n cap:Nat} {ao:Option Addr} {xs:List Value} (h:Sl w sz (.slice ao n cap) n xs) (hn:0<n):ao=some ⟨bO ao,oO ao,none⟩:=by
 obtain⟨_,ao',cap',e,_,_,h3,h4⟩:=h
 simp only[Value.slice.injEq,true_and] at e
 obtain⟨rfl,rfl⟩:=e
 cases ao with
 | none=>have:=h3 rfl;omega
 | some a =>
  obtain⟨b,o,s⟩:=a
  have:=(h4 _ rfl).1 hn
  simp at this
  subst this
  rfl
theorem Sl.fp {w:World} {sz n cap:Nat} {ao:Option Addr} {xs:List Value} (h:Sl w sz (.slice ao n cap) n xs) (hn:0<n):BC (.slice ao n cap) (bO ao):=by
 have:=h.ptr hn
 unfold BC
 rw[this]
 rfl
theorem Own.oO {w:World} {e:TypeId} {sz n cap:Nat} {ao:Option Addr} {xs:List Value} (h:Own w e sz (.slice ao n cap) n xs):oO ao=0:=by
 rcases h.2 with ⟨hv,_⟩|⟨g,cap',cur,hv,_⟩
 · simp only[Value.slice.injEq] at hv;rw[hv.1];rfl
 · simp only[Value.slice.injEq] at hv;rw[hv.1];rfl
theorem Po {w:World} {b o k:Nat} {A B C:List Value} (h:w.rangeAt b o (A++(B++C))) (hA:A.length=k):w.rangeAt b (o+k) B:=by
 intro j v hj
 subst hA
 have hjl:=(List.getElem?_eq_some_iff.1 hj).1
 have:=h (A.length+j) v (by rw[List.getElem?_append_right (Nat.le_add_right _ _),Nat.add_sub_cancel_left,List.getElem?_append_left hjl];exact hj)
 rwa [←Nat.add_assoc] at this
section
variable {α:Type} {c:α→List Value}
theorem JG {sz:Nat} (hc:∀x,(c x).length=sz):∀(L:List α),(L.flatMap c).length=L.length*sz
 | []=>by simp
 | x::L=>by rw[List.flatMap_cons,List.length_append,hc,JG hc L,List.length_cons,Nat.add_mul];omega
theorem Mo {L:List α} {j:Nat} (hj:j<L.length):L.flatMap c=(L.take j).flatMap c++(c L[j]++(L.drop (j+1)).flatMap c):=by
 conv=>lhs;rw[←List.take_append_drop j L,List.drop_eq_getElem_cons hj]
 rw[List.flatMap_append,List.flatMap_cons]
theorem AHH {L:List α} {j:Nat} (hj:j<L.length) (y:α):(L.set j y).flatMap c=(L.take j).flatMap c++(c y++(L.drop (j+1)).flatMap c):=by
 rw[List.set_eq_take_append_cons_drop,if_pos hj,List.flatMap_append,List.flatMap_cons]
theorem CW {w:World} {sz n cap j:Nat} {ao:Option Addr} {L:List α} (h:Sl w sz (.slice ao n cap) n (L.flatMap c)) (hc:∀x,(c x).length=sz) (hj:j<L.length) (hs:0<sz):w.rangeAt (bO ao) (oO ao+j*sz) (c L[j]):=by
 have hl:n*sz=L.length*sz:=by rw[←JG hc L,h.1]
 have hn:0<n:=by
  have:n=L.length:=Nat.eq_of_mul_eq_mul_right hs hl
  omega
 have hp:=h.ptr hn
 obtain⟨_,ao',cap',e,_,_,h3,h4⟩:=h
 simp only[Value.slice.injEq,true_and] at e
 obtain⟨rfl,rfl⟩:=e
 intro i v hi
 have hil:=(List.getElem?_eq_some_iff.1 hi).1
 have h5:=(h4 _ hp).2 (j*sz+i) v (by
  rw[Mo hj,List.getElem?_append_right (by rw[JG hc,List.length_take];have:min j L.length=j:=(by omega);rw[this];omega),JG hc,List.length_take,Nat.min_eq_left (Nat.le_of_lt hj),Nat.add_sub_cancel_left,List.getElem?_append_left hil]
  exact hi)
 simp only at h5
 rwa [←Nat.add_assoc] at h5
theorem ALN {w:World} {sz n cap:Nat} {ao:Option Addr} {L:List α} (h:Sl w sz (.slice ao n cap) n (L.flatMap c)) (hc:∀x,(c x).length=sz) (hs:0<sz):n=L.length:=Nat.eq_of_mul_eq_mul_right hs (by rw[←JG hc L,h.1])
theorem CF {P:Program} {t e:TypeId} {sz j n cap:Nat} {ik:IntKind} {w0:World} {ao:Option Addr} {xs:List Value} (hu:P.underlying t=some (.slice e)) (hs:(P.info? e).map (·.size)=some sz) (h:Sl w0 sz (.slice ao n cap) n xs) (hj:j<n) {k:Int} (hk:k=(j:Int)) (w:World) :
  (Instr.indexAt t (.slice ao n cap) (.int ik k)).run P w=.ok (.pointer (some ⟨bO ao,oO ao+j*sz,none⟩)) w:=by
 subst hk
 have hp:=h.ptr (Nat.lt_of_le_of_lt (Nat.zero_le _) hj)
 generalize bO ao=x at hp ⊢
 generalize oO ao=y at hp ⊢
 rw[hp]
 exact ALO hu hs hj w
theorem AHI {w:World} {e:TypeId} {sz n cap j:Nat} {ao:Option Addr} {L:List α} (h:Own w e sz (.slice ao n cap) n (L.flatMap c)) (hc:∀x,(c x).length=sz) (hs:0<sz) (hj:j<L.length) :
  ∃cur2,w.heap[bO ao]?=some (.cells ((L.take j).flatMap c++(c L[j]++((L.drop (j+1)).flatMap c++cur2))).toArray e (0,0))∧∀w' y,w'.heap[bO ao]?=some (.cells ((L.take j).flatMap c++(c y++((L.drop (j+1)).flatMap c++cur2))).toArray e (0,0))→Own w' e sz (.slice ao n cap) n ((L.set j y).flatMap c):=by
 have hn:=ALN (Sl.of_own h) hc hs
 obtain⟨g,rfl⟩:=Own.at h (by omega)
 obtain⟨A,B,C,cur2,h1,h2,h3,h4,h5⟩:=AEO (cs:=c L[j]) h (i:=j) (by omega) (hc _)
 have e1:(L.take j).flatMap c++(c L[j]++(L.drop (j+1)).flatMap c)=A++(B++C):=by rw[←Mo hj,h1]
 obtain⟨eA,e2⟩:=List.append_inj e1 (by rw[JG hc,List.length_take,h2];congr 1;omega)
 obtain⟨eB,eC⟩:=List.append_inj e2 (by rw[hc,h3])
 subst eA eB eC
 refine⟨cur2,h4,fun w' y hw'=>?_⟩
 obtain⟨A',B',C',cur3,k1,k2,k3,k4,k5⟩:=AEO (cs:=c y) h (i:=j) (by omega) (hc _)
 have e1:(L.take j).flatMap c++(c L[j]++(L.drop (j+1)).flatMap c)=A'++(B'++C'):=by rw[←Mo hj,k1]
 obtain⟨eA,e2⟩:=List.append_inj e1 (by rw[JG hc,List.length_take,k2];congr 1;omega)
 obtain⟨eB,eC⟩:=List.append_inj e2 (by rw[hc,k3])
 subst eA eB eC
 have e3:=h4.symm.trans k4
 simp only[Option.some.injEq,Obj.cells.injEq,and_true,List.append_cancel_left_eq] at e3
 have e4:cur2=cur3:=by
  have:=congrArg Array.toList e3
  simpa using this
 subst e4
 rw[AHH hj]
 exact k5 w' hw'
end
section
variable {P:Program} {Q:Exit→Act→World→Prop} {ops:Array Oper} {rest:List Oper} {o:Oper} {a:Act} {w:World} {n:Nat} {D:List Deferred} {K:List (Nat×Value)}
theorem WP {α:Type} {c:α→List Value} (sv:Sv n D K a) (hgd:o.guard=none) {T e:TypeId} {x y:Operand} (ho:o.op=.store T x y) (hd:o.dst=none) {j off n0 cap sz:Nat} {ao:Option Addr} {L:List α} (el:α) {v:Value} {cs A B C:List Value}
  (hx:Nk K x=true) (hxv:Nl K x=.pointer (some ⟨bO ao,off,none⟩)) (hy:Nk K y=true) (hyv:Nl K y=v) (ty:TY P T cs v)
  (hown:Own w e sz (.slice ao n0 cap) n0 (L.flatMap c)) (hc:∀x,(c x).length=sz) (hs:0<sz) (hj:j<L.length) (hel:c L[j]=A++(B++C)) (hel2:c el=A++(cs++C)) (hB:B.length=cs.length) (hoff:off=oO ao+j*sz+A.length)
  (h:∀w',w.grownBy w' (some (bO ao))→Own w' e sz (.slice ao n0 cap) n0 ((L.set j el).flatMap c)→wpList P ops Q rest a w'):wpList P ops Q (o::rest) a w:=by
 obtain⟨cur2,h4,h5⟩:=AHI hown hc hs hj
 rw[hel] at h4
 rw[show(L.take j).flatMap c++(A++(B++C)++((L.drop (j+1)).flatMap c++cur2))=((L.take j).flatMap c++A)++(B++(C++((L.drop (j+1)).flatMap c++cur2))) by simp] at h4
 have hl:((L.take j).flatMap c++A).length=off:=by rw[List.length_append,JG hc,List.length_take,Nat.min_eq_left (Nat.le_of_lt hj),hoff,Own.oO hown];omega
 refine Oo sv hgd ho hd hx hxv hy hyv ty h4 hl hB fun w' g' hb'=>h w' g' (h5 w' el ?_)
 rw[hb',hel2]
 simp
end
theorem CX {w:World} {e:TypeId} {sz n cap j k:Nat} {ao:Option Addr} {xs:List Value} (h:Own w e sz (.slice ao n cap) n xs) (hj:j<n) (he:some (bO ao)=some k):BC (.slice ao n cap) k:=(Option.some.inj he)▸Sl.fp (Sl.of_own h) (Nat.lt_of_le_of_lt (Nat.zero_le _) hj)
section
variable {w w':World} {b c:Nat} {o:Obj} {p:Nat→Prop}
theorem Fu (h:w.heap[c]?=some o) (g:w.heap.size≤b):b≠c:=Nat.ne_of_gt (Nat.lt_of_lt_of_le (Array.getElem?_eq_some_iff.1 h).1 g)
theorem Ao (h:w.heap[c]?=some o) (e:b=w.heap.size):b≠c:=Fu h (Nat.le_of_eq e.symm)
theorem QR (g:w.grownBy w' none) (h:w'.heap.size≤b):w.heap.size≤b:=Nat.le_trans g.size h
theorem Bq (g:w.grownBy w' none) (e:b=w'.heap.size):w.heap.size≤b:=QR g (Nat.le_of_eq e.symm)
theorem GO (h:∀k,p k→k<w.heap.size) (g:w.heap.size≤b):∀k,p k→k≠b:=fun k hk=>Nat.ne_of_lt (Nat.lt_of_lt_of_le (h k hk) g)
theorem Aw (h:∀k,p k→k<w.heap.size) (e:b=w.heap.size):∀k,p k→k≠b:=GO h (Nat.le_of_eq e.symm)
theorem AC (g:w.grownBy w' none) (h:w.heap[c]?=some o):w'.heap[c]?=some o:=AF g h (by simp)
theorem Aa (g:w.grownBy w' (some b)) (h:w.heap[c]?=some o) (n:c≠b):w'.heap[c]?=some o:=AF g h fun e=>n (Option.some.inj e)
theorem Cj (h:∀k,p k→w.heap.size≤k) (hb:w.heap[c]?=some o):∀k,p k→k≠c:=fun k hk=>Fu hb (h k hk)
end
section
variable {P:Program} {ops:Array Oper} {L:Nat→Sp} {n:Nat} {w0:World} {o:Oper}
theorem oy {t:Nat} {v:Value} (h:decide (t<n)=true) (hp:L t=Sp.is v):OpX L n (.tmp t) v:=⟨h,by rw[hp];exact fun _ _ h=>h⟩
theorem gy {g t:Nat} {b:Bool} (h1:(ops[g]?).bind (·.dst)=some t) (h2:decide (t<n)=true) (h3:L t=Sp.is (.bool b)):GX ops L n (some (g,b)):=⟨t,h1,h2,by rw[h3];exact fun _ _ h=>h⟩
theorem gn {g t:Nat} {b:Bool} (h1:(ops[g]?).bind (·.dst)=some t) (h2:decide (t<n)=true) (h3:L t=Sp.is (.bool !b)):GN ops L n (some (g,b)):=⟨t,h1,h2,by rw[h3];exact fun _ _ h=>h⟩
theorem xm {s d:Nat} (ho:o.op=.move (.tmp s)) (hd:o.dst=some d) (hs:decide (s<n)=true) (hg:o.guard=none) (h:L s=L d):OX P ops L n w0 o:=JW s d (.inl ho) hd hs (by rw[hg];trivial) (by rw[h];exact fun _ _ h=>h)
theorem xl {T t:TypeId} {s d b:Nat} {cs:List Value} {v:Value} {fr:Nat×Nat} (ho:o.op=.load T (.tmp s)) (hd:o.dst=some d) (hs:decide (s<n)=true) (hg:o.guard=none) (hp:L s=Sp.is (.pointer (some ⟨b,0,none⟩))) (ty:TY P T cs v) (hb:w0.heap[b]?=some (.cells cs.toArray t fr)) (h:L d=Sp.is v):OX P ops L n w0 o:=
 RU ho hd (by rw[hg];trivial) (p:=.pointer (some ⟨b,0,none⟩)) ⟨hs,by rw[hp];exact fun _ _ h=>h⟩ (fun _ g=>Ad ty (Av (AF g hb (by simp)))) (by rw[h];exact fun _=>rfl)
theorem xf {T:TypeId} {s d k:Nat} {p v:Value} (ho:o.op=.fieldAddr T (.tmp s) k) (hd:o.dst=some d) (hs:decide (s<n)=true) (hg:o.guard=none) (hp:L s=Sp.is p) (hr:∀w,(Instr.fieldAt T p k).run P w=.ok v w) (h:L d=Sp.is v):OX P ops L n w0 o:=
 AAF ho hd (by rw[hg];trivial) ⟨hs,by rw[hp];exact fun _ _ h=>h⟩ hr (by rw[h];exact fun _=>rfl)
theorem xp {T t:TypeId} {s d b k i:Nat} {cs:List Value} {M:List (List Value)} {v:Value} {fr:Nat×Nat} (ho:o.op=.load T (.tmp s)) (hd:o.dst=some d) (hs:decide (s<n)=true) (hg:o.guard=none) (hp:L s=Sp.is (.pointer (some ⟨b,k,none⟩))) (ty:TY P T cs v) (hb:w0.heap[b]?=some (.cells M.flatten.toArray t fr)) (hi:M[i]?=some cs) (hk:(M.take i).flatten.length=k) (h:L d=Sp.is v):OX P ops L n w0 o:=
 RU ho hd (by rw[hg];trivial) (p:=.pointer (some ⟨b,k,none⟩)) ⟨hs,by rw[hp];exact fun _ _ h=>h⟩ (fun _ g=>Ad ty (BB (AF g hb (by simp)) hi hk)) (by rw[h];exact fun _=>rfl)
end
abbrev pt (b:Nat):Value:=.pointer (some ⟨b,0,none⟩)
abbrev pk (b k:Nat):Value:=.pointer (some ⟨b,k,none⟩)
section
universe u1 u2 u3 u4 u5 u6 u7
variable {α:Sort u1} {β:Sort u2} {γ:Sort u3} {δ:Sort u4} {ε:Sort u5} {ζ:Sort u6} {η:Sort u7} {a:α} {b:β} {c:γ} {d:δ} {e:ε} {f:ζ} {g:η}
theorem r5:a=a∧b=b∧c=c∧d=d∧e=e:=⟨rfl,rfl,rfl,rfl,rfl⟩
theorem r6:a=a∧b=b∧c=c∧d=d∧e=e∧f=f:=⟨rfl,rfl,rfl,rfl,rfl,rfl⟩
theorem r7:a=a∧b=b∧c=c∧d=d∧e=e∧f=f∧g=g:=⟨rfl,rfl,rfl,rfl,rfl,rfl,rfl⟩
end
section
variable {P:Program} {ops:Array Oper} {L:Nat→Sp} {n:Nat} {w0:World} {o:Oper}
theorem ym {s d:Nat} (h:o.op=.move (.tmp s)∧o.dst=some d∧decide (s<n)=true∧o.guard=none∧L s=L d):OX P ops L n w0 o:=xm h.1 h.2.1 h.2.2.1 h.2.2.2.1 h.2.2.2.2
theorem yl {T t:TypeId} {s d b:Nat} {cs:List Value} {v:Value} {fr:Nat×Nat} (h:o.op=.load T (.tmp s)∧o.dst=some d∧decide (s<n)=true∧o.guard=none∧L s=Sp.is (.pointer (some ⟨b,0,none⟩))∧L d=Sp.is v) (ty:TY P T cs v) (hb:w0.heap[b]?=some (.cells cs.toArray t fr)):OX P ops L n w0 o:=xl h.1 h.2.1 h.2.2.1 h.2.2.2.1 h.2.2.2.2.1 ty hb h.2.2.2.2.2
theorem yf {T:TypeId} {s d k:Nat} {p v:Value} (h:o.op=.fieldAddr T (.tmp s) k∧o.dst=some d∧decide (s<n)=true∧o.guard=none∧L s=Sp.is p∧L d=Sp.is v) (hr:∀w,(Instr.fieldAt T p k).run P w=.ok v w):OX P ops L n w0 o:=xf h.1 h.2.1 h.2.2.1 h.2.2.2.1 h.2.2.2.2.1 hr h.2.2.2.2.2
theorem yp {T t:TypeId} {s d b k i:Nat} {cs:List Value} {M:List (List Value)} {v:Value} {fr:Nat×Nat} (h:o.op=.load T (.tmp s)∧o.dst=some d∧decide (s<n)=true∧o.guard=none∧L s=Sp.is (.pointer (some ⟨b,k,none⟩))∧L d=Sp.is v) (ty:TY P T cs v) (hb:w0.heap[b]?=some (.cells M.flatten.toArray t fr)) (hi:M[i]?=some cs) (hk:(M.take i).flatten.length=k):OX P ops L n w0 o:=xp h.1 h.2.1 h.2.2.1 h.2.2.2.1 h.2.2.2.2.1 ty hb hi hk h.2.2.2.2.2
theorem Ce {b:BinOp} {ty ty2:TypeId} {s d:Nat} {c vx v:Value} (h:o.op=.binOp b ty (.tmp s) (.const c) ty2∧o.dst=some d∧decide (s<n)=true∧o.guard=none∧L s=Sp.is vx∧L d=Sp.is v) (hr:∀w,(do eqGuard b ty (.tmp s) (.const c) vx c;binOp b ty vx c:Sem Value).run P w=.ok v w):OX P ops L n w0 o:=
 Mp h.1 h.2.1 (by rw[h.2.2.2.1];trivial) (oy h.2.2.1 h.2.2.2.2.1) rfl hr (by rw[h.2.2.2.2.2];exact fun _=>rfl)
theorem Fg {b:BinOp} {ty ty2:TypeId} {s r d:Nat} {vx vy v:Value} (h:o.op=.binOp b ty (.tmp s) (.tmp r) ty2∧o.dst=some d∧(decide (s<n)&&decide (r<n))=true∧o.guard=none∧L s=Sp.is vx∧L r=Sp.is vy∧L d=Sp.is v) (hr:∀w,(do eqGuard b ty (.tmp s) (.tmp r) vx vy;binOp b ty vx vy:Sem Value).run P w=.ok v w):OX P ops L n w0 o:=by
 have h2:=h.2.2.1
 rw[Bool.and_eq_true] at h2
 exact Mp h.1 h.2.1 (by rw[h.2.2.2.1];trivial) (oy h2.1 h.2.2.2.2.1) (oy h2.2 h.2.2.2.2.2.1) hr (by rw[h.2.2.2.2.2.2];exact fun _=>rfl)
end
theorem KnV.of {w:World} {a:Act}:∀{K:List (Nat×Value)},KnA w a (SE K)→KnV a K
 | [],_=>trivial
 | _::_,h=>⟨h.1,KnV.of h.2⟩
theorem AEP (W K:List (Nat×Value)):SE (W++K)=SE W++SE K:=List.map_append
def ALP:List Nat→Nat→Bool
 | [],_=>false
 | t::l,d=>Nat.beq t d||ALP l d
def dlK (ts:List Nat):List (Nat×Value)→List (Nat×Value)
 | []=>[]
 | p::l=>bif ALP ts p.1 then dlK ts l else p::dlK ts l
theorem KnV.dl {a:Act} (ts:List Nat):∀{K:List (Nat×Value)},KnV a K→KnV a (dlK ts K)
 | [],_=>trivial
 | p::l,h=>by
  unfold dlK
  cases ALP ts p.1 with
  | true=>exact h.2.dl ts
  | false=>exact⟨h.1,h.2.dl ts⟩
section
variable {P:Program} {Q:Exit→Act→World→Prop} {ops:Array Oper} {rest:List Oper} {o:Oper} {a:Act} {w:World} {n:Nat} {D:List Deferred} {K:List (Nat×Value)}
theorem Sv.dl (h:Sv n D K a) (ts:List Nat):Sv n D (dlK ts K) a:=⟨h.1,h.2.1,h.2.2.dl ts⟩
theorem AH {l:List Oper} {w0:World} (sv:Sv n D K a) (k:Nat) (W:List (Nat×Value)) (ob:OXAll P ops (UK (SE W++SE K)) n w0 (l.take k)) (hQ:∀a w,w0.grownBy w none→Sv n D (W++K) a→wpList P ops Q (l.drop k) a w)
  (hW:(l.take k).map (·.dst)=(SE W).map (fun p=>some p.1):=by rfl) (hnd:ndB (SE W++SE K)=true:=by kernel_rfl) (hWn:((SE W++SE K).all fun p=>decide (p.1<n))=true:=by kernel_rfl) (hsq:AHJ ops n (l.take k)=true:=by kernel_rfl):wpList P ops Q l a w0:=
 JX (sv.st w0) k (SE W) hW hnd hWn hsq ob fun a w g h=>hQ a w g ⟨h.1,h.2.1,KnV.of (w:=w) (by rw[AEP];exact h.2.2)⟩
theorem Dx {id:Nat} {l:List Oper} {w0:World} (sv:Sv n D K a) (W:List (Nat×Value)) (ob:OXAll P l.toArray (UK (SE W++SE K)) n w0 l) (hQ:∀a w,w0.grownBy w none→Sv n D (W++K) a→Q .normal a w) (hm:P.follows .mixedOrders=true:=by kernel_rfl)
  (hW:l.map (·.dst)=(SE W).map (fun p=>some p.1):=by rfl) (hnd:ndB (SE W++SE K)=true:=by kernel_rfl) (hWn:((SE W++SE K).all fun p=>decide (p.1<n))=true:=by kernel_rfl) (hB:AFH l.toArray n=true:=by kernel_rfl):(Code.region id l.toArray true).wp P Q a w0:=
 ALQ (sv.st w0) hm (SE W) hW hnd hWn hB ob fun a w g h=>hQ a w g ⟨h.1,h.2.1,KnV.of (w:=w) (by rw[AEP];exact h.2.2)⟩
theorem AS (sv:Sv n D K a) {x:Operand} {d:Nat} {v:Value} (r:o.guard=none∧o.op=.assign x∧o.dst=some d∧decide (d<n)=true∧Nk K x=true∧Nl K x=v) (h:∀a',Sv n D ((d,v)::Ku d K) a'→wpList P ops Q rest a' w):wpList P ops Q (o::rest) a w:=
 AFX sv r.1 (.inl r.2.1) r.2.2.1 r.2.2.2.1 r.2.2.2.2.1 r.2.2.2.2.2 h
theorem Aq (sv:Sv n D K a) {T:TypeId} {x y:Operand} {b:Nat} {v:Value} (r:o.guard=none∧o.op=.store T x y∧o.dst=none∧Nk K x=true∧Nl K x=.pointer (some ⟨b,0,none⟩)∧Nk K y=true∧Nl K y=v)
  {cs C:List Value} (ty:TY P T cs v) {t:TypeId} (hb:w.heap[b]?=some (.cells C.toArray t (0,0))) (hB:C.length=cs.length)
  (h:∀w',w.grownBy w' (some b)→w'.heap[b]?=some (.cells cs.toArray t (0,0))→wpList P ops Q rest a w'):wpList P ops Q (o::rest) a w:=
 AFY sv r.1 r.2.1 r.2.2.1 r.2.2.2.1 r.2.2.2.2.1 r.2.2.2.2.2.1 r.2.2.2.2.2.2 ty hb hB h
theorem IL {L:List (List Value)} {i:Nat} (sv:Sv n D K a) {T:TypeId} {x y:Operand} {b k:Nat} {v:Value} (r:o.guard=none∧o.op=.store T x y∧o.dst=none∧Nk K x=true∧Nl K x=.pointer (some ⟨b,k,none⟩)∧Nk K y=true∧Nl K y=v)
  {cs B:List Value} (ty:TY P T cs v) {t:TypeId} (hb:w.heap[b]?=some (.cells L.flatten.toArray t (0,0))) (hi:L[i]?=some B) (hk:(L.take i).flatten.length=k) (hB:B.length=cs.length)
  (h:∀w',w.grownBy w' (some b)→w'.heap[b]?=some (.cells (L.set i cs).flatten.toArray t (0,0))→wpList P ops Q rest a w'):wpList P ops Q (o::rest) a w:=
 AFZ sv r.1 r.2.1 r.2.2.1 r.2.2.2.1 r.2.2.2.2.1 r.2.2.2.2.2.1 r.2.2.2.2.2.2 ty hb hi hk hB h
end
section
variable {w w' u:World} {b c:Nat} {o:Obj} {p:Nat→Prop}
theorem Ab (q:u.grownBy w none) (g:w.grownBy w' (some b)) (h:u.heap[c]?=some o) (n:c≠b):w'.heap[c]?=some o:=Aa g (AC q h) n
theorem AP (h:∀k,p k→k≠b):∀k,p k→some b≠some k:=fun k hk e=>h k hk (Option.some.inj e).symm
end
theorem Jt {P:Program} {Q:Exit→Act→World→Prop} {ops:Array Oper} {rest:List Oper} {o:Oper} {a:Act} {w:World} {n:Nat} {D:List Deferred} {K:List (Nat×Value)} {α:Type} {c:α→List Value} (sv:Sv n D K a) (hgd:o.guard=none) {T e:TypeId} {x y:Operand} (ho:o.op=.store T x y) (hd:o.dst=none) {j off n0 cap sz:Nat} {ao:Option Addr} {L:List α} (el:α) {v:Value}
  (hx:Nk K x=true) (hxv:Nl K x=.pointer (some ⟨bO ao,off,none⟩)) (hy:Nk K y=true) (hyv:Nl K y=v) (ty:TY P T (c el) v)
  (hown:Own w e sz (.slice ao n0 cap) n0 (L.flatMap c)) (hc:∀x,(c x).length=sz) (hs:0<sz) (hj:j<L.length) (hoff:off=oO ao+j*sz)
  (h:∀w',w.grownBy w' (some (bO ao))→Own w' e sz (.slice ao n0 cap) n0 ((L.set j el).flatMap c)→wpList P ops Q rest a w'):wpList P ops Q (o::rest) a w:=
 WP (A:=[]) (B:=c L[j]) (C:=[]) sv hgd ho hd el hx hxv hy hyv ty hown hc hs hj (by simp) (by simp) (by rw[hc,hc]) (by rw[hoff];rfl) h
section
theorem rq4.{u1,u2,u3,u4} {α:Sort u1} {β:Sort u2} {γ:Sort u3} {δ:Sort u4} {a:α} {b:β} {c:γ} {d:δ}:a=a∧b=b∧c=c∧d=d:=⟨rfl,rfl,rfl,rfl⟩
theorem rq8.{u1,u2,u3,u4,u5,u6,u7,u8} {α:Sort u1} {β:Sort u2} {γ:Sort u3} {δ:Sort u4} {ε:Sort u5} {ζ:Sort u6} {η:Sort u7} {θ:Sort u8} {a:α} {b:β} {c:γ} {d:δ} {e:ε} {f:ζ} {g:η} {i:θ}:a=a∧b=b∧c=c∧d=d∧e=e∧f=f∧g=g∧i=i:=⟨rfl,rfl,rfl,rfl,rfl,rfl,rfl,rfl⟩
theorem rq9.{u1,u2,u3,u4,u5,u6,u7,u8,u9} {α:Sort u1} {β:Sort u2} {γ:Sort u3} {δ:Sort u4} {ε:Sort u5} {ζ:Sort u6} {η:Sort u7} {θ:Sort u8} {κ:Sort u9} {a:α} {b:β} {c:γ} {d:δ} {e:ε} {f:ζ} {g:η} {i:θ} {j:κ}:a=a∧b=b∧c=c∧d=d∧e=e∧f=f∧g=g∧i=i∧j=j:=⟨rfl,rfl,rfl,rfl,rfl,rfl,rfl,rfl,rfl⟩
variable {P:Program} {ops:Array Oper} {L:Nat→Sp} {n:Nat} {w0:World} {o:Oper}
theorem gxg {g t:Nat} {b:Bool} (h0:o.guard=some (g,b)) (h1:(ops[g]?).bind (·.dst)=some t) (h2:decide (t<n)=true) (h3:L t=Sp.is (.bool b)):GX ops L n o.guard:=by rw[h0];exact gy h1 h2 h3
theorem gxn (h0:o.guard=none):GX ops L n o.guard:=by rw[h0];trivial
theorem isd {d:Nat} {v:Value} (h:L d=Sp.is v):∀w,(L d).on w v:=by rw[h];exact fun _=>rfl
theorem AN {g t d:Nat} {b:Bool} (h:o.guard=some (g,b)∧(ops[g]?).bind (·.dst)=some t∧decide (t<n)=true∧L t=Sp.is (.bool !b)∧o.dst=some d∧L d=Sp.is undef):OX P ops L n w0 o:=
 ALR (by rw[h.1];exact gn h.2.1 h.2.2.1 h.2.2.2.1) h.2.2.2.2.1 (isd h.2.2.2.2.2)
theorem Ae {s d g t:Nat} {b:Bool} (h:o.op=.move (.tmp s)∧o.dst=some d∧decide (s<n)=true∧o.guard=some (g,b)∧(ops[g]?).bind (·.dst)=some t∧decide (t<n)=true∧L t=Sp.is (.bool b)∧L s=L d):OX P ops L n w0 o:=
 JW s d (.inl h.1) h.2.1 h.2.2.1 (gxg h.2.2.2.1 h.2.2.2.2.1 h.2.2.2.2.2.1 h.2.2.2.2.2.2.1) (by rw[h.2.2.2.2.2.2.2];exact fun _ _ h=>h)
theorem Ah {s u d:Nat} {y z:Operand} {b:Bool} {v:Value} (h:o.op=.pick (.tmp s) y z∧o.dst=some d∧decide (s<n)=true∧o.guard=none∧L s=Sp.is (.bool b)∧(bif b then y else z)=.tmp u∧decide (u<n)=true∧L u=Sp.is v∧L d=Sp.is v):OX P ops L n w0 o:=
 E3 h.1 h.2.1 (gxn h.2.2.2.1) (oy h.2.2.1 h.2.2.2.2.1) (by rw[h.2.2.2.2.2.1];exact oy h.2.2.2.2.2.2.1 h.2.2.2.2.2.2.2.1) (isd h.2.2.2.2.2.2.2.2)
theorem BF {s d:Nat} {y z:Operand} {b:Bool} {v:Value} (h:o.op=.pick (.tmp s) y z∧o.dst=some d∧decide (s<n)=true∧o.guard=none∧L s=Sp.is (.bool b)∧(bif b then y else z)=.const v∧L d=Sp.is v):OX P ops L n w0 o:=
 E3 h.1 h.2.1 (gxn h.2.2.2.1) (oy h.2.2.1 h.2.2.2.2.1) (by rw[h.2.2.2.2.2.1];rfl) (isd h.2.2.2.2.2.2)
theorem Ai {b:BinOp} {ty ty2:TypeId} {s d g t:Nat} {gb:Bool} {c vx v:Value} (h:o.op=.binOp b ty (.tmp s) (.const c) ty2∧o.dst=some d∧decide (s<n)=true∧o.guard=some (g,gb)∧(ops[g]?).bind (·.dst)=some t∧decide (t<n)=true∧L t=Sp.is (.bool gb)∧L s=Sp.is vx∧L d=Sp.is v)
  (hr:∀w,(do eqGuard b ty (.tmp s) (.const c) vx c;binOp b ty vx c:Sem Value).run P w=.ok v w):OX P ops L n w0 o:=
 Mp h.1 h.2.1 (gxg h.2.2.2.1 h.2.2.2.2.1 h.2.2.2.2.2.1 h.2.2.2.2.2.2.1) (oy h.2.2.1 h.2.2.2.2.2.2.2.1) rfl hr (isd h.2.2.2.2.2.2.2.2)
theorem BD {ty:TypeId} {s u d:Nat} {p k v:Value} (h:o.op=.indexAddr ty (.tmp s) (.tmp u)∧o.dst=some d∧decide (s<n)=true∧decide (u<n)=true∧o.guard=none∧L s=Sp.is p∧L u=Sp.is k∧L d=Sp.is v) (hrun:∀w,(Instr.indexAt ty p k).run P w=.ok v w):OX P ops L n w0 o:=
 Cf h.1 h.2.1 (gxn h.2.2.2.2.1) (oy h.2.2.1 h.2.2.2.2.2.1) (oy h.2.2.2.1 h.2.2.2.2.2.2.1) hrun (isd h.2.2.2.2.2.2.2)
theorem Bj {T:TypeId} {s d:Nat} {p v:Value} (h:o.op=.load T (.tmp s)∧o.dst=some d∧decide (s<n)=true∧o.guard=none∧L s=Sp.is p∧L d=Sp.is v) (hr:∀w,w0.grownBy w none→(Instr.loadAt T p).run P w=.ok v w):OX P ops L n w0 o:=
 RU h.1 h.2.1 (gxn h.2.2.2.1) (oy h.2.2.1 h.2.2.2.2.1) hr (isd h.2.2.2.2.2)
theorem A8 {T:TypeId} {s d g t:Nat} {b:Bool} {p v:Value} (h:o.op=.load T (.tmp s)∧o.dst=some d∧decide (s<n)=true∧o.guard=some (g,b)∧(ops[g]?).bind (·.dst)=some t∧decide (t<n)=true∧L t=Sp.is (.bool b)∧L s=Sp.is p∧L d=Sp.is v) (hr:∀w,w0.grownBy w none→(Instr.loadAt T p).run P w=.ok v w):OX P ops L n w0 o:=
 RU h.1 h.2.1 (gxg h.2.2.2.1 h.2.2.2.2.1 h.2.2.2.2.2.1 h.2.2.2.2.2.2.1) (oy h.2.2.1 h.2.2.2.2.2.2.2.1) hr (isd h.2.2.2.2.2.2.2.2)
theorem BI {ty:TypeId} {s k d g t:Nat} {b:Bool} {p v:Value} (h:o.op=.fieldAddr ty (.tmp s) k∧o.dst=some d∧decide (s<n)=true∧o.guard=some (g,b)∧(ops[g]?).bind (·.dst)=some t∧decide (t<n)=true∧L t=Sp.is (.bool b)∧L s=Sp.is p∧L d=Sp.is v) (hrun:∀w,(Instr.fieldAt ty p k).run P w=.ok v w):OX P ops L n w0 o:=
 AAF h.1 h.2.1 (gxg h.2.2.2.1 h.2.2.2.2.1 h.2.2.2.2.2.1 h.2.2.2.2.2.2.1) (oy h.2.2.1 h.2.2.2.2.2.2.2.1) hrun (isd h.2.2.2.2.2.2.2.2)
theorem Bh {s i d:Nat} (h:o.op=.extract (.tmp s) i∧o.dst=some d∧decide (s<n)=true∧o.guard=none) (hh:∀w u,(L s).on w u→∃vs v,u=.tuple vs∧vs[i]?=some v∧(L d).on w v):OX P ops L n w0 o:=
 ACx h.1 h.2.1 h.2.2.1 (gxn h.2.2.2) hh
theorem C7 {b:UnOp} {ty:TypeId} {s d:Nat} {vx v:Value} (h:o.op=.unOp b ty (.tmp s)∧o.dst=some d∧decide (s<n)=true∧o.guard=none∧L s=Sp.is vx∧L d=Sp.is v) (hrun:∀w,(Op.unary b vx).run P w=.ok v w):OX P ops L n w0 o:=
 I3 h.1 h.2.1 (gxn h.2.2.2.1) (oy h.2.2.1 h.2.2.2.2.1) hrun (isd h.2.2.2.2.2)
theorem Hu {x y:TypeId} {s d:Nat} {vx v:Value} (h:o.op=.convert x y (.tmp s)∧o.dst=some d∧decide (s<n)=true∧o.guard=none∧L s=Sp.is vx∧L d=Sp.is v) (hrun:∀w,(convert x y vx).run P w=.ok v w):OX P ops L n w0 o:=
 AJV h.1 h.2.1 (gxn h.2.2.2.1) (oy h.2.2.1 h.2.2.2.2.1) hrun (isd h.2.2.2.2.2)
theorem Ag {f d:Nat} {fn:Func} {c:Code} {args:Array Operand} {tys:Array TypeId} (av:List Value) (hf:P.funcs[f]?=some fn) (hname:(fn.name == "runtime.NumGoroutine")=false) (h:fn.body=some c∧o.op=.call { callee:=.value (.func f),args:=args,argTypes:=tys }∧o.dst=some d∧o.guard=none)
  (hρ:OpXs L n args.toList av) (hc:∀w,w0.grownBy w none→Calls P f av.toArray w fun e w'=>∃v,e=.returned v∧w.grownBy w' none∧(L d).on w' v):OX P ops L n w0 o:=
 AEQ (L d) av h.2.1 h.2.2.1 (gxn h.2.2.2) hρ hc (fun _ _ h=>h) (Ho hf hname h.1)
theorem CG {f d g t:Nat} {b:Bool} {fn:Func} {c:Code} {args:Array Operand} {tys:Array TypeId} (av:List Value) (hf:P.funcs[f]?=some fn) (hname:(fn.name == "runtime.NumGoroutine")=false) (h:fn.body=some c∧o.op=.call { callee:=.value (.func f),args:=args,argTypes:=tys }∧o.dst=some d∧o.guard=some (g,b)∧(ops[g]?).bind (·.dst)=some t∧decide (t<n)=true∧L t=Sp.is (.bool b))
  (hρ:OpXs L n args.toList av) (hc:∀w,w0.grownBy w none→Calls P f av.toArray w fun e w'=>∃v,e=.returned v∧w.grownBy w' none∧(L d).on w' v):OX P ops L n w0 o:=
 AEQ (L d) av h.2.1 h.2.2.1 (gxg h.2.2.2.1 h.2.2.2.2.1 h.2.2.2.2.2.1 h.2.2.2.2.2.2) hρ hc (fun _ _ h=>h) (Ho hf hname h.1)
end
section
variable {P:Program} {Q:Exit→Act→World→Prop} {ops:Array Oper} {rest:List Oper} {o:Oper} {a:Act} {w:World} {n:Nat} {D:List Deferred} {K:List (Nat×Value)}
theorem Bi (sv:Sv n D K a) {d:Nat} {T:TypeId} {x:Operand} {v:Value} {cs:List Value} (r:o.guard=none∧o.op=.box T x∧o.dst=some d∧decide (d<n)=true∧Nk K x=true∧Nl K x=v) (ty:TY P T cs v)
  (h:∀a' w' b,b=w.heap.size→w.grownBy w' none→w'.heap.size=b+1→w'.heap[b]?=some (.cells cs.toArray T (0,0))→Sv n D ((d,.pointer (some ⟨b,0,none⟩))::Ku d K) a'→wpList P ops Q rest a' w'):wpList P ops Q (o::rest) a w:=
 ALS sv r.1 r.2.1 r.2.2.1 r.2.2.2.1 r.2.2.2.2.1 r.2.2.2.2.2 ty h
theorem BA (sv:Sv n D K a) {f d:Nat} {fn:Func} {c:Code} {args:Array Operand} {tys:Array TypeId} {R:Value→World→Prop} (hf:P.funcs[f]?=some fn) (hname:(fn.name == "runtime.NumGoroutine")=false) (r:fn.body=some c∧o.guard=none∧o.op=.call { callee:=.value (.func f),args:=args,argTypes:=tys }∧o.dst=some d∧decide (d<n)=true∧AJW K args.toList=true)
  (hc:Calls P f (AFa K args.toList).toArray w fun e w'=>∃v,e=.returned v∧R v w')
  (h:∀a' v w',R v w'→Sv n D ((d,v)::Ku d K) a'→wpList P ops Q rest a' w'):wpList P ops Q (o::rest) a w:=
 AJX sv r.2.1 r.2.2.1 r.2.2.2.1 r.2.2.2.2.1 r.2.2.2.2.2 hc (Ho hf hname r.1) h
end
section
variable {v v':Value} {W w:World} {b:Nat} {x:Obj} {p q:Nat→Prop}
theorem Fo (s:∀k,BC v' k→BC v k∨W.heap.size≤k) (a:∀k,BC v k→k≠b) (H:W.heap[b]?=some x):∀k,BC v' k→k≠b:=fun k hk=>(s k hk).elim (a k) (fun h=>Fu H h)
theorem E4 (s:∀k,BC v' k→BC v k∨W.heap.size≤k) (a:∀k,p k→¬BC v k) (l:∀k,p k→k<W.heap.size):∀k,p k→¬BC v' k:=fun k hk h2=>(s k h2).elim (a k hk) (fun h=>absurd (l k hk) (Nat.not_lt.2 h))
theorem XJ (a:∀k,p k→¬q k):∀k,q k→¬p k:=fun k hk h=>a k h hk
theorem Oq (s:∀k,BC v' k→BC v k∨W.heap.size≤k) (a:∀k,BC v k→w.heap.size≤k) (g:w.grownBy W none):∀k,BC v' k→w.heap.size≤k:=fun k hk=>(s k hk).elim (a k) (fun h=>Nat.le_trans g.size h)
theorem Gg (b:Nat):∀k,BC (.slice none 0 0) k→k≠b:=fun k hk=>by simp[BC,Value.ownBlock] at hk
theorem GV (p:Nat→Prop):∀k,p k→¬BC (.slice none 0 0) k:=fun k _ hk=>by simp[BC,Value.ownBlock] at hk
theorem AAG (p:Nat→Prop):∀k,BC (.slice none 0 0) k→¬p k:=fun k hk=>by simp[BC,Value.ownBlock] at hk
theorem UZ (w:World):∀k,BC (.slice none 0 0) k→w.heap.size≤k:=fun k hk=>by simp[BC,Value.ownBlock] at hk
theorem ANP (l:∀k,q k→k<W.heap.size) (f:∀k,p k→W.heap.size≤k):∀k,p k→¬q k:=fun k hk h=>absurd (l k h) (Nat.not_lt.2 (f k hk))
theorem AHK (l:∀k,q k→k<W.heap.size) (f:∀k,p k→W.heap.size≤k):∀k,q k→¬p k:=fun k h hk=>absurd (l k h) (Nat.not_lt.2 (f k hk))
theorem IM (g:w.grownBy W none) (f:∀k,p k→W.heap.size≤k):∀k,p k→w.heap.size≤k:=fun k hk=>Nat.le_trans g.size (f k hk)
theorem AG {a b c d e f g h i:Prop} (x:a∧b∧c∧d∧e∧f∧g∧h∧i):i:=x.2.2.2.2.2.2.2.2
end
end Go.Proofs.YtbfjfnbcmojpiaaGreat
