import Derived.Test.YtbfjfnbcmojpiaaGreatSF
import Derived.Test.YtbfjfnbcmojpiaaGreatMK3
import Derived.Lib.Bytealg
import Derived.Lib.BytesEntry
namespace Go.Proofs.YtbfjfnbcmojpiaaGreat
open Go.RowKit
set_option linter.unusedSimpArgs false
set_option linter.unusedVariables false
def Sp.lit1 (B:Nat) (e:TypeId) (cs:List Value):Sp:=⟨fun w v=>∃ A,v=.slice (some ⟨A,0,none⟩) 1 1∧B≤A∧w.heap[A]?=some (.cells cs.toArray e (0,0)),fun _ _ _ hg ⟨A,h1,h2,h3⟩=>⟨A,h1,h2,row_of hg h3 (by simp)⟩⟩
section
variable {P:Program} {ops:Array Oper} {L:Nat→Sp} {n:Nat} {w0:World} {o:Oper}
theorem ox_buildY {T:TypeId} {parts:Array (Nat×Operand)} {d:Nat} (ho:o.op=.build T parts) (hd:o.dst=some d) (hg:GX ops L n o.guard)
   (hn:((parts.toList.map (·.2)).all fun x=>match x with | .tmp t=>decide (t < n) | .const _=>true | _=>false)=true)
   (hc:∀ w,w0.grownBy w none→∀ av,ArgsOn L w (parts.toList.map (·.2)) av→∃ v,(Instr.build T ((parts.toList.map (·.1)).zip av).toArray).run P w=.ok v w∧(L d).on w v):OX P ops L n w0 o:=
 ox_run hg fun a w hw hl hsz=>by
   have hon:=ArgsOn.of (o:=o) (ops:=ops) (a:=a) (w:=w) hl hn (fun x hx=>by simp only [ho,Op.operands];simpa using hx)
   obtain ⟨v,hr,hv⟩:=hc w hw _ hon
   refine ⟨v,?_,dst_on hd hv⟩
   have e2:(parts.map fun (i,x)=>(i,a.eval x))=((parts.toList.map (·.1)).zip ((parts.toList.map (·.2)).map a.eval)).toArray:=by
     apply Array.ext'
     simp only [Array.toList_map,List.map_map]
     induction parts.toList with
     | nil=>rfl
     | cons p l ih=>simp only [List.map_cons,List.zip_cons_cons,ih];rfl
   simp only [execOp,ho,e2,Sem.run_bind,Sem.run_pure,Result.andThen_ok,hr]
theorem ox_lit1 {t e:TypeId} {x:Operand} {d B:Nat} (ho:o.op=.buildSlice t 1 #[(0,x)]) (hd:o.dst=some d) (hg:GX ops L n o.guard) (hB:B≤w0.heap.size)
   (hn:([x].all fun x=>match x with | .tmp t=>decide (t < n) | .const _=>true | _=>false)=true)
   (hc:∀ w,w0.grownBy w none→∀ v,ArgsOn L w [x] [v]→∃ cs:List Value,(Instr.buildSlice t 1 #[(0,v)]).run P w=.ok (.slice (some ⟨w.heap.size,0,none⟩) 1 1) (w.alloc (.cells cs.toArray e)) ∧
     ∀ w',w.grownBy w' none→w'.heap[w.heap.size]?=some (.cells cs.toArray e (0,0))→(L d).on w' (.slice (some ⟨w.heap.size,0,none⟩) 1 1)):OX P ops L n w0 o:=by
 intro a w hw hl hs
 unfold OpSays
 rw [if_pos (hg.wanted hl hs)]
 have hon:=ArgsOn.of (o:=o) (ops:=ops) (a:=a) (w:=w) hl (l:=[x]) hn (fun y hy=>by simp at hy;subst hy;simp [ho,Op.operands])
 obtain ⟨cs,hr,hv⟩:=hc w hw _ hon
 have hrr:(execOp a.eval o).run P w=.ok (.value (.slice (some ⟨w.heap.size,0,none⟩) 1 1)) (w.alloc (.cells cs.toArray e)):=by
   simp only [execOp,ho,List.map_toArray,List.map_cons,List.map_nil,Sem.run_bind,Sem.run_pure,Result.andThen_ok,hr]
 rw [hrr]
 exact ⟨World.grownBy_alloc _ _ _,dst_on hd (hv _ (World.grownBy_alloc _ _ _) (heap_at rfl))⟩
end
theorem RdT.nil (w:World):RdT w (.slice none 0 0) []:=⟨Sl.nil w 34,by simp,fun k hk=>(fpT_nil k hk).elim,by simp⟩
def TagB (w:World) (k:Nat):Prop:=∃ c fr,w.heap[k]?=some (.cells c 132 fr)
def Tag (w:World) (v:Value):Prop:=∀ k,fpT v k→TagB w k
theorem tag_ne {w:World} {k b:Nat} {c:Array Value} {T:TypeId} {fr:Nat×Nat} (h:TagB w k) (hb:w.heap[b]?=some (.cells c T fr)) (hT:T≠132):k≠b:=by
 rintro rfl
 obtain ⟨c',fr',h1⟩:=h
 rw [hb] at h1
 simp only [Option.some.injEq,Obj.cells.injEq] at h1
 exact hT h1.2.1
theorem TagB.keep {w w':World} {k:Nat} (h:TagB w k) {row:Option Nat} (g:w.grownBy w' row) (hb:row≠some k):TagB w' k:=by
 obtain ⟨c,fr,h1⟩:=h
 exact ⟨c,fr,row_of g h1 fun e=>hb e.symm⟩
theorem Tag.kn {w w':World} {v:Value} (h:Tag w v) (g:w.grownBy w' none):Tag w' v:=fun k hk=>(h k hk).keep g (by simp)
theorem Tag.offR {w w':World} {v:Value} (h:Tag w v) {row:Option Nat} (g:w.grownBy w' row) (hb:∀ k,fpT v k→row≠some k):Tag w' v:=fun k hk=>(h k hk).keep g (hb k hk)
theorem Tag.ap {w:World} {v:Value} (h:Tag w v) {b:Nat} {c:Array Value} {T:TypeId} {fr:Nat×Nat} (hb:w.heap[b]?=some (.cells c T fr)) (hT:T≠132):∀ k,fpT v k→k≠b:=fun k hk=>tag_ne (h k hk) hb hT
theorem Tag.own {w:World} {v u:Value} (h:Tag w v) {e:TypeId} {sz n:Nat} {xs:List Value} (ho:Own w e sz u n xs) (he:e≠132):∀ k,fpT v k→¬ fpS u k:=fun k hk hu=>by
 obtain ⟨c,fr,h1⟩:=Own.block ho hu
 exact h.ap h1 he k hk rfl
theorem Tag.of {w:World} {v:Value} {sz n:Nat} {xs:List Value} (ho:Own w 132 sz v n xs):Tag w v:=fun k hk=>Own.block ho hk.1
def RdTg (w:World) (s:Value) (l:List Nd):Prop:=RdT w s l∧Tag w s
section
variable {w w':World} {s:Value} {l:List Nd}
theorem RdTg.kn (h:RdTg w s l) (g:w.grownBy w' none):RdTg w' s l:=⟨h.1.kn g,h.2.kn g⟩
theorem RdTg.offR (h:RdTg w s l) {row:Option Nat} (g:w.grownBy w' row) (hb:∀ k,fpT s k→row≠some k):RdTg w' s l:=⟨h.1.offR g hb,h.2.offR g hb⟩
theorem RdTg.lt (h:RdTg w s l):∀ k,fpT s k→k < w.heap.size:=h.1.lt
end
def Sp.cl (B:Nat) (l:List Nd):Sp:=⟨fun w v=>∃ ao cap,v=.slice ao l.length cap∧RdTg w (.slice ao l.length cap) l∧∀ k,fpT (.slice ao l.length cap) k→B≤k,fun _ _ _ hg ⟨ao,cap,h1,h2,h3⟩=>⟨ao,cap,h1,h2.kn hg,h3⟩⟩
def Sp.ct (B:Nat) (l:List Nd):Sp:=⟨fun w v=>∃ ao cap,v=.agg #[.slice ao l.length cap]∧RdTg w (.slice ao l.length cap) l∧∀ k,fpT (.slice ao l.length cap) k→B≤k,fun _ _ _ hg ⟨ao,cap,h1,h2,h3⟩=>⟨ao,cap,h1,h2.kn hg,h3⟩⟩
theorem newt_on {w0:World} {k:List Nat} {T:List Nd} (hk:Dg k) (hT:tree k []=T):∀ W,w0.grownBy W none→Calls Tryz.prog 82 #[dval k] W fun e W'=>∃ v,e=.returned v∧W.grownBy W' none∧(Sp.ct w0.heap.size T).on W' v:=fun W g =>
 (new_walk k hk W).mono fun e W' ⟨s,he,ho,hf⟩=>by
   have htag:Tag W' s:=Tag.of ho
   obtain ⟨ao,cap,rfl,h1,h2⟩:=NewC hk ho hf
   have h3:(1:Nat)=T.length:=by rw [← hT,tree_nil];rfl
   subst hT
   rw [h3] at h1 he hf htag
   exact ⟨_,he,h2,ao,cap,rfl,⟨h1,htag⟩,fun k hk=>Nat.le_trans g.size ((hf.2 k hk.1).elim (fun h=>by simp [Value.ownBlock] at h) id)⟩
theorem rnewt_on {w0:World} {k:List Nat} {T:List Nd} (hk:Dg k) (hT:tree k []=T):∀ W,w0.grownBy W none→Calls Tryz.prog 85 #[dval k] W fun e W'=>∃ v,e=.returned v∧W.grownBy W' none∧(Sp.ct w0.heap.size T).on W' v:=fun W g =>
 (rnew_walk k hk W).mono fun e W' ⟨s,he,ho,hf⟩=>by
   have htag:Tag W' s:=Tag.of ho
   obtain ⟨ao,cap,rfl,h1,h2⟩:=NewC hk ho hf
   have h3:(1:Nat)=T.length:=by rw [← hT,tree_nil];rfl
   subst hT
   rw [h3] at h1 he hf htag
   exact ⟨_,he,h2,ao,cap,rfl,⟨h1,htag⟩,fun k hk=>Nat.le_trans g.size ((hf.2 k hk.1).elim (fun h=>by simp [Value.ownBlock] at h) id)⟩
theorem res_ct {fn:Func} {p q:Tmp} {T:TypeId} {n:Nat} {D:List Deferred} {K:List (Nat×Value)} {a:Act} {w:World} {P:Program} (hr:fn.results=#[.cell p T,.tmp q]) (sv:Sv n D K a) {b:Nat} {cs:List Value} {v u:Value} {t1:TypeId} {fr1:Nat×Nat} (hx:hasV K p=true) (hp:lkV K p=.pointer (some ⟨b,0,none⟩)) (hy:hasV K q=true) (hq:lkV K q=u)
   (t:TY P T cs v) (hb:w.heap[b]?=some (.cells cs.toArray t1 fr1)):(results fn a.tmps).run P w=.ok (.tuple #[v,u]) w:=by
 have e1:=sv.2.2.at hx
 rw [hp] at e1
 have e2:=sv.2.2.at hy
 rw [hq] at e2
 have e:=t.load w b 0 (rangeAt_row hb)
 have e1':a.tmps[p]?.getD undef=.pointer (some ⟨b,0,none⟩):=by rw [← e1,Array.getD_eq_getD_getElem?]
 have e2':a.tmps[q]?.getD undef=u:=by rw [← e2,Array.getD_eq_getD_getElem?]
 simp [results,hr,e1',e2',asAddr,e]
end Go.Proofs.YtbfjfnbcmojpiaaGreat

namespace Go.Proofs.YtbfjfnbcmojpiaaGreat
open Go.RowKit
set_option linter.unusedSimpArgs false
set_option linter.unusedVariables false
section
variable {P:Program} {ops:Array Oper} {L:Nat→Sp} {n:Nat} {w0:World} {o:Oper}
def OpXo (L:Nat→Sp) (n:Nat):Option Operand→Option Value→Prop
 | none,none=>True
 | some x,some v=>OpX L n x v
 | _,_=>False
theorem OpXo.eval {x:Option Operand} {v:Option Value} (h:OpXo L n x v) {a:Act} {w:World} (hx:∀ y,x=some y→y ∈ o.op.operands.toList) (hl:∀ t ∈ o.looksAt ops,t < n→(L t).on w (a.tmps.getD t undef)):x.map a.eval=v:=by
 cases x with
 | none=>cases v with
   | none=>rfl
   | some v=>exact h.elim
 | some x=>cases v with
   | none=>exact h.elim
   | some v=>exact congrArg some (OpX.eval (o:=o) h (hx x rfl) hl)
theorem ox_slice {t:TypeId} {x:Operand} {lo hi:Option Operand} {d:Nat} {p v:Value} {l u:Option Value} (ho:o.op=.slice t x lo hi none) (hd:o.dst=some d) (hg:GX ops L n o.guard) (hx:OpX L n x p) (hlo:OpXo L n lo l) (hhi:OpXo L n hi u)
   (hr:∀ w,(Instr.sliceAt t p l u none).run P w=.ok v w) (h:∀ w,(L d).on w v):OX P ops L n w0 o:=
 ox_run hg fun a w hw hl hsz=>⟨v,by
   have e1:=hx.eval (o:=o) (by simp [ho,Op.operands]) hl
   have e2:=OpXo.eval (o:=o) hlo (a:=a) (w:=w) (fun y hy=>by subst hy;simp [ho,Op.operands]) hl
   have e3:=OpXo.eval (o:=o) hhi (a:=a) (w:=w) (fun y hy=>by subst hy;simp [ho,Op.operands]) hl
   simp only [execOp,ho,e1,e2,e3,Option.map_none,Sem.run_bind,Sem.run_pure,Result.andThen_ok,hr w],dst_on hd (h w)⟩
def GU (ops:Array Oper) (L:Nat→Sp) (n:Nat):Option (Nat×Bool)→Prop
 | none=>False
 | some (g,b)=>∃ t,(ops[g]?).bind (·.dst)=some t∧decide (t < n)=true∧∀ w v,(L t).on w v→v=undef
theorem GU.wanted {o:Oper} {a:Act} {w:World} (h:GU ops L n o.guard) (hl:∀ t ∈ o.looksAt ops,t < n→(L t).on w (a.tmps.getD t undef)) (hs:a.tmps.size=n):Region.wanted o (yielded ops a.tmps)=false:=by
 unfold Region.wanted
 cases hg:o.guard with
 | none=>rw [hg] at h;exact h.elim
 | some p =>
   obtain ⟨g,b⟩:=p
   rw [hg] at h
   obtain ⟨t,ht,htn,hv⟩:=h
   have htn:=of_decide_eq_true htn
   have hv:=hv w _ (hl t (by simp [Oper.looksAt,hg,ht]) htn)
   have htl:t < a.tmps.size:=hs▸htn
   rw [Array.getD_eq_getD_getElem?,Array.getElem?_eq_getElem htl,Option.getD_some] at hv
   cases b <;> simp [yielded,ht,Array.getElem?_eq_getElem htl,hv,undef]
theorem ox_offU (hg:GU ops L n o.guard) {d:Nat} (hd:o.dst=some d) (h:∀ w,(L d).on w undef):OX P ops L n w0 o:=by
 intro a w hw hl hs
 unfold OpSays
 rw [if_neg (by rw [hg.wanted hl hs];simp)]
 exact ⟨World.grownBy.refl _ _,fun d' hd'=>by rw [hd] at hd';obtain rfl:=Option.some.inj hd';exact h w⟩
theorem ox_callV (S:Sp) (av:List Value) {f d:Nat} {x:Operand} {args:Array Operand} {tys:Array TypeId} (ho:o.op=.call { callee:=.value x,args:=args,argTypes:=tys }) (hd:o.dst=some d) (hg:GX ops L n o.guard) (hx:OpX L n x (.func (.func f) #[] #[]))
   (hρ:OpXs L n args.toList av) (hc:∀ w,w0.grownBy w none→Calls P f av.toArray w fun e w'=>∃ v,e=.returned v∧w.grownBy w' none∧S.on w' v) (h:∀ w v,S.on w v→(L d).on w v)
   (hrun:∀ (av:Array Value) w,((Deferred.ofValue (.func (.func f) #[] #[]) av).run P w).andThen (fun a w'=>(invoke a.target a.args).run P w')=.ok (.enter f av) w):OX P ops L n w0 o:=by
 intro a w hw hl hsz
 unfold OpSays
 rw [if_pos (hg.wanted hl hsz)]
 have e1:=hx.eval (o:=o) (a:=a) (w:=w) (by simp [ho,Op.operands,Call.operands]) hl
 have hargs:args.map a.eval=av.toArray:=by
   have:=hρ.eval (o:=o) (a:=a) (w:=w) (fun x hx=>by simp only [ho,Op.operands,Call.operands];simp at hx;simp;exact .inr hx) hl
   rw [← this]
   apply Array.ext'
   simp
 have hr:(execOp a.eval o).run P w=.ok (.enter f av.toArray) w:=by
   simp only [execOp,ho,resolve,Sem.run_bind,e1]
   have h1:=hrun (args.map a.eval) w
   rw [hargs] at h1
   first
     | exact h1
     | (rw [hargs];exact h1)
 rw [hr]
 exact (hc w hw).mono fun e w' ⟨v,he,hg',hs⟩=>⟨v,he,hg',dst_on hd (h w' v hs)⟩
end
theorem tl_makeFunc {P:Program} {Q:Exit→Act→World→Prop} {ops:Array Oper} {rest:List Oper} {o:Oper} {a:Act} {w:World} {n:Nat} {D:List Deferred} {K:List (Nat×Value)} (sv:Sv n D K a) (hgd:o.guard=none) {d:Nat} {fv:Fn} {caps:Array Operand} {vs:List Value} (ho:o.op=.makeFunc fv #[] caps) (hd:o.dst=some d) (hdn:decide (d < n)=true) (hc:okVs K caps.toList=true) (hvs:evVs K caps.toList=vs)
   (h:∀ a',Sv n D ((d,.func fv #[] vs.toArray) :: delK d K) a'→wpList P ops Q rest a' w):wpList P ops Q (o :: rest) a w:=by
 refine tl_run sv hgd (v:=.func fv #[] vs.toArray) (w':=w) hd hdn ?_ h
 have e:caps.map a.eval=vs.toArray:=by
   apply Array.ext'
   rw [Array.toList_map,sv.evs hc,hvs]
 simp only [execOp,ho,Instr.makeFunc,e,Sem.run_bind,Sem.run_pure,Result.andThen_ok,List.map_toArray,List.map_nil]
end Go.Proofs.YtbfjfnbcmojpiaaGreat

namespace Go.Proofs.YtbfjfnbcmojpiaaGreat
set_option linter.unusedSimpArgs false
set_option linter.unusedVariables false
abbrev VP:=List Nat×List Nd
def blt:List Nat→List Nat→Bool
 | a :: l,b :: m=>decide (a < b) || (a == b && blt l m)
 | [],_ :: _=>true
 | _,[]=>false
theorem blt_irrefl:∀ l,blt l l=false
 | []=>rfl
 | a :: l=>by simp [blt,blt_irrefl l]
theorem blt_trans:∀ {a b c},blt a b=true→blt b c=true→blt a c=true
 | [],[],_,h,_=>by simp [blt] at h
 | [],_ :: _,[],_,h=>by simp [blt] at h
 | [],_ :: _,_ :: _,_,_=>rfl
 | _ :: _,[],_,h,_=>by simp [blt] at h
 | _ :: _,_ :: _,[],_,h=>by simp [blt] at h
 | x :: a,y :: b,z :: c,h,k=>by
   simp only [blt,Bool.or_eq_true,decide_eq_true_eq,Bool.and_eq_true,beq_iff_eq] at h k ⊢
   rcases h with h | ⟨h1,h2⟩ <;> rcases k with k | ⟨k1,k2⟩
   · exact .inl (by omega)
   · exact .inl (by omega)
   · exact .inl (by omega)
   · exact .inr ⟨by omega,blt_trans h2 k2⟩
theorem blt_total:∀ a b,a=b∨blt a b=true∨blt b a=true
 | [],[]=>.inl rfl
 | [],_ :: _=>.inr (.inl rfl)
 | _ :: _,[]=>.inr (.inr rfl)
 | x :: a,y :: b=>by
   simp only [blt,Bool.or_eq_true,decide_eq_true_eq,Bool.and_eq_true,beq_iff_eq]
   rcases Nat.lt_trichotomy x y with h | h | h
   · exact .inr (.inl (.inl h))
   · rcases blt_total a b with e | e | e
     · exact .inl (by rw [h,e])
     · exact .inr (.inl (.inr ⟨h,e⟩))
     · exact .inr (.inr (.inr ⟨h.symm,e⟩))
   · exact .inr (.inr (.inl h))
theorem blt_asymm {a b:List Nat} (h:blt a b=true):blt b a=false:=by
 cases e:blt b a with
 | false=>rfl
 | true=>have:=blt_trans h e;rw [blt_irrefl] at this;cases this
theorem blt_ne {a b:List Nat} (h:blt a b=true):a≠b:=by
 rintro rfl
 rw [blt_irrefl] at h
 cases h
def bcmp (a b:List Nat):Int:=if blt a b then -1 else if a=b then 0 else 1
theorem bcmp_lt {a b:List Nat}:decide (bcmp a b < 0)=blt a b:=by
 unfold bcmp
 split
 · rename_i h;rw [h];rfl
 · rename_i h
   have:blt a b=false:=by simpa using h
   rw [this]
   split <;> rfl
theorem bcmp_ge {a b:List Nat}:decide (0≤bcmp a b)=!blt a b:=by
 rw [← bcmp_lt]
 by_cases h:bcmp a b < 0
 · simp [h]
 · simp [h];omega
theorem bcmp_eq {a b:List Nat}:(bcmp a b == 0)=decide (a=b):=by
 unfold bcmp
 split
 · rename_i h;simp [blt_ne h]
 · split
   · rename_i h;simp [h]
   · rename_i h;simp [h]
def od (ps:List VP) (i:Nat):List Nat:=(ps[i]?.map (·.1)).getD []
def tr (ps:List VP) (i:Nat):List Nd:=(ps[i]?.map (·.2)).getD []
theorem od_at {ps:List VP} {i:Nat} (h:i < ps.length):od ps i=ps[i].1:=by unfold od;rw [List.getElem?_eq_getElem h];rfl
theorem tr_at {ps:List VP} {i:Nat} (h:i < ps.length):tr ps i=ps[i].2:=by unfold tr;rw [List.getElem?_eq_getElem h];rfl
def chk (ps:List VP) (i:Nat):Bool:=(decide (i=0) || blt (od ps (i - 1)) (od ps i)) && vld (tr ps i)
def vldV (ps:List VP):Bool:=decide (ps.length≤64) && (List.range ps.length).all (chk ps)
theorem vldV_iff {ps:List VP}:vldV ps=true↔ps.length≤64∧∀ i,i < ps.length→chk ps i=true:=by
 unfold vldV
 simp only [Bool.and_eq_true,decide_eq_true_eq,List.all_eq_true,List.mem_range]
theorem vldV_no {ps:List VP} {i:Nat} (h:i < ps.length) (hc:chk ps i=false):vldV ps=false:=by
 cases e:vldV ps with
 | false=>rfl
 | true=>have:=(vldV_iff.1 e).2 i h;rw [hc] at this;cases this
theorem vldV_big {ps:List VP} (h:64 < ps.length):vldV ps=false:=by
 cases e:vldV ps with
 | false=>rfl
 | true=>have:=(vldV_iff.1 e).1;omega
theorem vldV_yes {ps:List VP} (h:ps.length≤64) (hc:∀ i,i < ps.length→chk ps i=true):vldV ps=true:=vldV_iff.2 ⟨h,hc⟩
def Srt (ps:List VP):Prop:=∀ i,i+1 < ps.length→blt (od ps i) (od ps (i+1))=true
theorem Srt.of {ps:List VP} (h:vldV ps=true):Srt ps:=by
 intro i hi
 have:=(vldV_iff.1 h).2 (i+1) hi
 simp only [chk,Bool.and_eq_true,Bool.or_eq_true,decide_eq_true_eq,Nat.add_sub_cancel] at this
 rcases this.1 with h0 | h0
 · omega
 · exact h0
theorem Srt.lt {ps:List VP} (h:Srt ps):∀ {i j},i < j→j < ps.length→blt (od ps i) (od ps j)=true:=by
 intro i j hij hj
 induction j with
 | zero=>omega
 | succ j ih =>
   rcases Nat.lt_or_ge i j with hl | hl
   · exact blt_trans (ih hl (by omega)) (h j hj)
   · have:i=j:=by omega
     subst this
     exact h i hj
theorem vldV_trees {ps:List VP} (h:vldV ps=true) {i:Nat} (hi:i < ps.length):vld (tr ps i)=true:=by
 have:=(vldV_iff.1 h).2 i hi
 simp only [chk,Bool.and_eq_true] at this
 exact this.2
theorem vldV_of {ps:List VP} (h:ps.length≤64) (hs:Srt ps) (ht:∀ i,i < ps.length→vld (tr ps i)=true):vldV ps=true:=by
 refine vldV_iff.2 ⟨h,fun i hi=>?_⟩
 simp only [chk,Bool.and_eq_true,Bool.or_eq_true,decide_eq_true_eq]
 refine ⟨?_,ht i hi⟩
 cases i with
 | zero=>exact .inl rfl
 | succ i=>exact .inr (hs i hi)
def pos (ps:List VP) (o:List Nat):Nat:=ps.findIdx fun p=>!blt p.1 o
theorem pos_le (ps:List VP) (o:List Nat):pos ps o≤ps.length:=List.findIdx_le_length
theorem pos_before {ps:List VP} {o:List Nat} {i:Nat} (h:i < pos ps o):blt (od ps i) o=true:=by
 have hl:i < ps.length:=Nat.lt_of_lt_of_le h (pos_le ps o)
 have:=List.not_of_lt_findIdx h
 rw [od_at hl]
 simpa using this
theorem pos_at {ps:List VP} {o:List Nat} (h:pos ps o < ps.length):blt (od ps (pos ps o)) o=false:=by
 rw [od_at h]
 unfold pos at h ⊢
 simpa using List.findIdx_getElem (xs:=ps) (p:=fun p=>!blt p.1 o) (w:=h)
theorem pos_uniq {ps:List VP} {o:List Nat} {i:Nat} (hi:i≤ps.length) (h1:∀ k,k < i→blt (od ps k) o=true) (h2:i < ps.length→blt (od ps i) o=false):pos ps o=i:=by
 rcases Nat.lt_trichotomy (pos ps o) i with h | h | h
 · have:=h1 _ h
   rw [pos_at (by omega)] at this
   cases this
 · exact h
 · have:=pos_before h
   rw [h2 (Nat.lt_of_lt_of_le h (pos_le ps o))] at this
   cases this
def fnd (ps:List VP) (o:List Nat):Bool:=decide (pos ps o < ps.length∧od ps (pos ps o)=o)
theorem fnd_yes {ps:List VP} (hs:Srt ps) {o:List Nat} {i:Nat} (hi:i < ps.length) (h:od ps i=o):pos ps o=i∧fnd ps o=true:=by
 have e:pos ps o=i:=pos_uniq (by omega) (fun k hk=>h▸hs.lt hk hi) fun _=>by rw [h,blt_irrefl]
 exact ⟨e,by unfold fnd;rw [e];simpa using ⟨hi,h⟩⟩
theorem fnd_no {ps:List VP} {o:List Nat} (h:∀ i,i < ps.length→od ps i≠o):fnd ps o=false:=by
 unfold fnd
 simp only [decide_eq_false_iff_not,not_and]
 exact fun h1 h2=>h _ h1 h2
theorem fnd_at {ps:List VP} {o:List Nat} (h:fnd ps o=true):pos ps o < ps.length∧od ps (pos ps o)=o:=by simpa [fnd] using h
def atV (ps:List VP) (o:List Nat):Int:=if fnd ps o then (pos ps o:Int) else -1
abbrev VV:=List VP×List Nat×List Nat
def zeroV:VV:=([],zero32,zero32)
def insV (ps:List VP) (o:List Nat) (t:List Nd):List VP:=ps.take (pos ps o) ++ (o,t) :: ps.drop (pos ps o)
def dropV (ps:List VP) (o:List Nat):List VP:=ps.take (pos ps o) ++ ps.drop (pos ps o+1)
def setV (ps:List VP) (o:List Nat) (t:List Nd):List VP:=ps.take (pos ps o) ++ (o,t) :: ps.drop (pos ps o+1)
def ensO (v:VV) (o:List Nat) (t:List Nd) (nx:List Nat):VV×Int:=
 if vldV v.1 then (if fnd v.1 o then (v,0) else if 64≤v.1.length then (zeroV,8) else ((insV v.1 o t,v.2.1,nx),0)) else (zeroV,1)
def keyO (ps:List VP) (o:List Nat) (a:Int):List Nat×Int:=
 if isAddr a && vldV ps then (if fnd ps o then leafOf (tr ps (pos ps o)) a else (zero32,10)) else (zero32,1)
def atPut (ps:List VP) (k:Nat) (x:VP):List VP:=ps.take k ++ x :: ps.drop k
theorem atPut_len {ps:List VP} {k:Nat} (h:k≤ps.length) (x:VP):(atPut ps k x).length=ps.length+1:=by
 unfold atPut
 rw [List.length_append,List.length_take,List.length_cons,List.length_drop]
 omega
theorem atPut_end (ps:List VP) (x:VP):atPut ps ps.length x=ps ++ [x]:=by simp [atPut]
theorem atPut_get {ps:List VP} {k:Nat} (h:k≤ps.length) (x:VP) (i:Nat):(atPut ps k x)[i]?=if i < k then ps[i]? else if i=k then some x else ps[i - 1]?:=by
 unfold atPut
 split
 · rename_i hi
   rw [List.getElem?_append_left (by rw [List.length_take];omega),List.getElem?_take,if_pos hi]
 · rename_i hi
   rw [List.getElem?_append_right (by rw [List.length_take];omega),List.length_take,Nat.min_eq_left h]
   split
   · rename_i hk;subst hk;simp
   · rename_i hk
     have:i - k=(i - 1 - k)+1:=by omega
     rw [this,List.getElem?_cons_succ,List.getElem?_drop]
     congr 1
     omega
theorem atPut_swap {ps:List VP} {k:Nat} (h0:0 < k) (h:k≤ps.length) (x:VP) (a b:VP) (ha:(atPut ps k x)[k]?=some a) (hb:(atPut ps k x)[k - 1]?=some b):((atPut ps k x).set (k - 1) a).set k b=atPut ps (k - 1) x:=by
 have hka:a=x:=by rw [atPut_get h] at ha;simp at ha;exact ha.symm
 have hkb:ps[k - 1]?=some b:=by rw [atPut_get h,if_pos (by omega)] at hb;exact hb
 refine List.ext_getElem? fun i=>?_
 rw [List.getElem?_set,List.getElem?_set,List.length_set,atPut_len h,atPut_get h,atPut_get (by omega)]
 by_cases h1:k=i
 · subst h1
   rw [if_pos rfl,if_pos (by omega),if_neg (by omega),if_neg (by omega),hkb]
 · rw [if_neg h1]
   by_cases h2:k - 1=i
   · rw [if_pos h2,if_pos (by omega),if_neg (by omega),if_pos (by omega),hka]
   · rw [if_neg h2]
     by_cases h3:i < k
     · rw [if_pos h3,if_pos (by omega)]
     · rw [if_neg h3,if_neg (by omega),if_neg (by omega),if_neg (by omega)]
theorem insV_put (ps:List VP) (o:List Nat) (t:List Nd):insV ps o t=atPut ps (pos ps o) (o,t):=rfl
theorem put_stop {ps:List VP} (hs:Srt ps) {o:List Nat} (hn:fnd ps o=false) {k:Nat} (hk:k≤ps.length) (hafter:∀ j,k≤j→j < ps.length→blt o (od ps j)=true) (hstop:k=0∨blt o (od ps (k - 1))=false):pos ps o=k:=by
 refine pos_uniq hk (fun i hi=>?_) fun h=>blt_asymm (hafter k (Nat.le_refl k) h)
 rcases hstop with h0 | h0
 · omega
 · have hlast:blt (od ps (k - 1)) o=true:=by
     rcases blt_total (od ps (k - 1)) o with e | e | e
     · have:=(fnd_yes hs (i:=k - 1) (by omega) e).2
       rw [hn] at this
       cases this
     · exact e
     · rw [h0] at e;cases e
   rcases Nat.lt_or_ge i (k - 1) with h1 | h1
   · exact blt_trans (hs.lt h1 (by omega)) hlast
   · have:i=k - 1:=by omega
     subst this
     exact hlast
theorem dropV_erase (ps:List VP) (o:List Nat):dropV ps o=ps.eraseIdx (pos ps o):=by
 unfold dropV
 rw [List.eraseIdx_eq_take_drop_succ]
theorem setV_set {ps:List VP} {o:List Nat} (t:List Nd) (h:fnd ps o=true):setV ps o t=ps.set (pos ps o) (o,t):=by
 unfold setV
 rw [List.set_eq_take_append_cons_drop,if_pos (fnd_at h).1]
theorem od_get {ps qs:List VP} {i j:Nat} (h:ps[i]?=qs[j]?):od ps i=od qs j∧tr ps i=tr qs j:=by unfold od tr;rw [h];exact ⟨rfl,rfl⟩
theorem od_some {ps:List VP} {i:Nat} {x:VP} (h:ps[i]?=some x):od ps i=x.1∧tr ps i=x.2:=by unfold od tr;rw [h];exact ⟨rfl,rfl⟩
theorem pos_after {ps:List VP} (hs:Srt ps) {o:List Nat} (hn:fnd ps o=false) {j:Nat} (h:pos ps o≤j) (hj:j < ps.length):blt o (od ps j)=true:=by
 have h0:blt o (od ps (pos ps o))=true:=by
   have hp:pos ps o < ps.length:=by omega
   rcases blt_total (od ps (pos ps o)) o with e | e | e
   · have:=(fnd_yes hs hp e).2
     rw [hn] at this
     cases this
   · rw [pos_at hp] at e;cases e
   · exact e
 rcases Nat.lt_or_ge (pos ps o) j with h1 | h1
 · exact blt_trans h0 (hs.lt h1 hj)
 · have:pos ps o=j:=by omega
   rw [← this]
   exact h0
theorem insV_vld {ps:List VP} {o:List Nat} {t:List Nd} (h:vldV ps=true) (hn:fnd ps o=false) (hl:ps.length < 64) (ht:vld t=true):vldV (insV ps o t)=true:=by
 have hs:=Srt.of h
 have hp:=pos_le ps o
 have g:=atPut_get hp (o,t)
 rw [insV_put]
 have hlen:=atPut_len hp (o,t)
 refine vldV_of (by rw [show pos ps (o,t).1=pos ps o from rfl,hlen];omega) (fun i hi=>?_) fun i hi=>?_
 · rw [hlen] at hi
   rcases Nat.lt_trichotomy (i+1) (pos ps o) with h1 | h1 | h1
   · rw [(od_get (qs:=ps) (j:=i) ((g i).trans (if_pos (by omega)))).1,(od_get (qs:=ps) (j:=i+1) ((g (i+1)).trans (if_pos h1))).1]
     exact hs i (by omega)
   · have hb:blt (od ps i) o=true:=pos_before (by omega)
     rw [(od_get (qs:=ps) (j:=i) ((g i).trans (if_pos (by omega)))).1,(od_some ((g (i+1)).trans (by rw [if_neg (by omega),if_pos h1]))).1]
     exact hb
   · rcases Nat.lt_or_ge (pos ps o) i with h2 | h2
     · rw [(od_get (qs:=ps) (j:=i - 1) ((g i).trans (by rw [if_neg (by omega),if_neg (by omega)]))).1,(od_get (qs:=ps) (j:=i) ((g (i+1)).trans (by rw [if_neg (by omega),if_neg (by omega)];rfl))).1]
       exact hs.lt (by omega) (by omega)
     · have:i=pos ps o:=by omega
       rw [(od_some ((g i).trans (by rw [if_neg (by omega),if_pos this]))).1,(od_get (qs:=ps) (j:=i) ((g (i+1)).trans (by rw [if_neg (by omega),if_neg (by omega)];rfl))).1]
       exact pos_after hs hn (by omega) (by omega)
 · rw [hlen] at hi
   rcases Nat.lt_trichotomy i (pos ps o) with h1 | h1 | h1
   · rw [(od_get (qs:=ps) (j:=i) ((g i).trans (if_pos h1))).2]
     exact vldV_trees h (by omega)
   · rw [(od_some ((g i).trans (by rw [if_neg (by omega),if_pos h1]))).2]
     exact ht
   · rw [(od_get (qs:=ps) (j:=i - 1) ((g i).trans (by rw [if_neg (by omega),if_neg (by omega)]))).2]
     exact vldV_trees h (by omega)
theorem setV_vld {ps:List VP} {o:List Nat} {t:List Nd} (h:vldV ps=true) (hn:fnd ps o=true) (ht:vld t=true):vldV (setV ps o t)=true:=by
 have hs:=Srt.of h
 obtain ⟨hp,ho⟩:=fnd_at hn
 rw [setV_set t hn]
 have ho':∀ i,i < ps.length→od (ps.set (pos ps o) (o,t)) i=od ps i:=by
   intro i hi
   by_cases e:pos ps o=i
   · rw [(od_some (x:=(o,t)) (by rw [List.getElem?_set,if_pos e,if_pos (by omega)])).1,← e,ho]
   · exact (od_get (by rw [List.getElem?_set,if_neg e])).1
 refine vldV_of (by rw [List.length_set];exact (vldV_iff.1 h).1) (fun i hi=>?_) fun i hi=>?_
 · rw [List.length_set] at hi
   rw [ho' i (by omega),ho' (i+1) hi]
   exact hs i hi
 · rw [List.length_set] at hi
   by_cases e:pos ps o=i
   · rw [(od_some (x:=(o,t)) (by rw [List.getElem?_set,if_pos e,if_pos (by omega)])).2]
     exact ht
   · rw [(od_get (qs:=ps) (j:=i) (by rw [List.getElem?_set,if_neg e])).2]
     exact vldV_trees h hi
theorem dropV_vld {ps:List VP} {o:List Nat} (h:vldV ps=true) (hn:fnd ps o=true):vldV (dropV ps o)=true:=by
 have hs:=Srt.of h
 obtain ⟨hp,ho⟩:=fnd_at hn
 rw [dropV_erase]
 have hl:(ps.eraseIdx (pos ps o)).length=ps.length - 1:=List.length_eraseIdx_of_lt hp
 have g:∀ i,∃ j,(ps.eraseIdx (pos ps o))[i]?=ps[j]?∧(j=if i < pos ps o then i else i+1):=fun i=>by
   refine ⟨_,?_,rfl⟩
   rw [List.getElem?_eraseIdx]
   split <;> rfl
 have h64:=(vldV_iff.1 h).1
 refine vldV_of (by omega) (fun i hi=>?_) fun i hi=>?_
 · obtain ⟨j,e1,hj⟩:=g i
   obtain ⟨k,e2,hk⟩:=g (i+1)
   rw [(od_get e1).1,(od_get e2).1]
   refine hs.lt ?_ ?_
   · split at hj <;> split at hk <;> omega
   · split at hk <;> omega
 · obtain ⟨j,e1,hj⟩:=g i
   rw [(od_get e1).2]
   exact vldV_trees h (by split at hj <;> omega)
end Go.Proofs.YtbfjfnbcmojpiaaGreat

namespace Go.Proofs.YtbfjfnbcmojpiaaGreat
open Go.RowKit Go.Shelf
set_option linter.unusedSimpArgs false
set_option linter.unusedVariables false
structure VK where
 o:List Nat
 ho:Dg o
 ao:Option Addr
 cap:Nat
 l:List Nd
def VK.s (k:VK):Value:=.slice k.ao k.l.length k.cap
def VK.p (k:VK):VP:=(k.o,k.l)
def kcells (k:VK):List Value:=[bv k.o,[k.s]].flatten
def kval (k:VK):Value:=.agg (kcells k).toArray
theorem kcells_len (k:VK):(kcells k).length=33:=by simp [kcells,bv_length,k.ho.1]
theorem kcells_one (k:VK):∀ c ∈ kcells k,c.oneCell'=true:=by
 intro c hc
 simp only [kcells,List.flatten_cons,List.flatten_nil,List.append_nil] at hc
 rcases List.mem_append.1 hc with h | h
 · exact bv_ones _ c h
 · obtain rfl:=List.mem_singleton.1 h;rfl
theorem kcells_all (ks:List VK):(ks.flatMap kcells).all Value.oneCell'=true:=by
 rw [List.all_flatMap,List.all_eq_true]
 exact fun k _=>List.all_eq_true.2 (kcells_one k)
theorem tyK (k:VK):TY Tryz.prog 58 (kcells k) (kval k):=by
 refine TY.agg Tryz.underlying58 rfl ?_ (kcells_one k)
 rw [kcells_len]
 kernel_rfl
theorem tyKs (v:Value) (h:v.oneCell'=true):TY Tryz.prog 34 [v] v:=TY.one' Tryz.underlying34 rfl (by kernel_rfl) h
def vval (sa po:List Nat) (s:Value):Value:=.agg ([bv sa,bv po,[s]].flatten).toArray
theorem tyVa {sa po:List Nat} (hs:Dg sa) (hp:Dg po) (s:Value) (h:s.oneCell'=true):TY Tryz.prog 36 ([bv sa,bv po,[s]].flatten) (vval sa po s):=by
 refine TY.agg Tryz.underlying36 rfl ?_ ?_
 · rw [show ([bv sa,bv po,[s]].flatten).length=65 by simp [bv_length,hs.1,hp.1]]
   kernel_rfl
 · intro c hc
   simp only [List.flatten_cons,List.flatten_nil,List.append_nil,List.mem_append,List.mem_singleton] at hc
   rcases hc with hc | hc | hc
   · exact bv_ones _ c hc
   · exact bv_ones _ c hc
   · rw [hc];exact h
def KsR (w:World) (ks:List VK):Prop:=∀ k ∈ ks,RdT w k.s k.l
def fpKs (ks:List VK) (b:Nat):Prop:=∃ k ∈ ks,fpT k.s b
def fpK (v:Value) (ks:List VK) (b:Nat):Prop:=fpS v b∨fpKs ks b
def RdK (w:World) (v:Value) (ks:List VK):Prop:=SlB w 33 v ks.length (ks.flatMap kcells)∧KsR w ks
section
variable {w w':World} {v:Value} {ks:List VK} {b:Nat}
theorem KsR.kn (h:KsR w ks) (g:w.grownBy w' none):KsR w' ks:=fun k hk=>(h k hk).kn g
theorem KsR.off (h:KsR w ks) (g:w.grownBy w' (some b)) (hb:∀ k,fpKs ks k→k≠b):KsR w' ks:=fun k hk=>(h k hk).off g fun x hx=>hb x ⟨k,hk,hx⟩
theorem KsR.offR (h:KsR w ks) {row:Option Nat} (g:w.grownBy w' row) (hb:∀ k,fpKs ks k→row≠some k):KsR w' ks:=fun k hk=>(h k hk).offR g fun x hx=>hb x ⟨k,hk,hx⟩
theorem RdK.offR (h:RdK w v ks) {row:Option Nat} (g:w.grownBy w' row) (hb:∀ k,fpK v ks k→row≠some k):RdK w' v ks:=⟨h.1.offR g fun k hk=>hb k (.inl hk),h.2.offR g fun k hk=>hb k (.inr hk)⟩
theorem KsR.lt (h:KsR w ks):∀ k,fpKs ks k→k < w.heap.size:=fun k ⟨x,hx,hk⟩=>(h x hx).lt k hk
theorem RdK.kn (h:RdK w v ks) (g:w.grownBy w' none):RdK w' v ks:=⟨h.1.kn g,h.2.kn g⟩
theorem RdK.off (h:RdK w v ks) (g:w.grownBy w' (some b)) (hb:∀ k,fpK v ks k→k≠b):RdK w' v ks:=⟨h.1.off g fun k hk=>hb k (.inl hk),h.2.off g fun k hk=>hb k (.inr hk)⟩
theorem RdK.lt (h:RdK w v ks):∀ k,fpK v ks k→k < w.heap.size:=fun k hk=>hk.elim (h.1.2 k) (h.2.lt k)
theorem RdK.shape (h:RdK w v ks):∃ ao cap,v=.slice ao ks.length cap:=by
 obtain ⟨ao,cap,e,_⟩:=h.1.1.shape
 exact ⟨ao,cap,e⟩
theorem RdK.len (h:RdK w v ks):(ks.length:Int)≤9223372036854775807:=by
 obtain ⟨ao,cap,e,h1,h2⟩:=h.1.1.shape
 omega
end
theorem RdK.nil (w:World):RdK w (.slice none 0 0) []:=⟨⟨Sl.nil w 33,fun k hk=>by simp [fpS,Value.ownBlock] at hk⟩,fun k hk=>by simp at hk⟩
theorem fpK_nil (b:Nat):¬ fpK (.slice none 0 0) [] b:=by
 rintro (h | ⟨k,hk,_⟩)
 · simp [fpS,Value.ownBlock] at h
 · simp at hk
theorem od_map {ks:List VK} {j:Nat} (h:j < ks.length):od (ks.map VK.p) j=ks[j].o:=by rw [od_at (by simpa using h),List.getElem_map];rfl
theorem tr_map {ks:List VK} {j:Nat} (h:j < ks.length):tr (ks.map VK.p) j=ks[j].l:=by rw [tr_at (by simpa using h),List.getElem_map];rfl
theorem RdK.owner {w:World} {ao:Option Addr} {n cap j:Nat} {ks:List VK} (h:RdK w (.slice ao n cap) ks) (hn:n=ks.length) (hj:j < ks.length):w.rangeAt (bO ao) (oO ao+j * 33) (bv ks[j].o):=by
 subst hn
 have:=el_range h.1.1 kcells_len hj (by decide)
 exact mid_range (o:=oO ao+j * 33) (k:=0) (A:=[]) (B:=bv ks[j].o) (C:=[ks[j].s]) this rfl
theorem RdK.tree {w:World} {ao:Option Addr} {n cap j:Nat} {ks:List VK} (h:RdK w (.slice ao n cap) ks) (hn:n=ks.length) (hj:j < ks.length):w.rangeAt (bO ao) (oO ao+j * 33+32) [ks[j].s]:=by
 subst hn
 have:=el_range h.1.1 kcells_len hj (by decide)
 exact mid_range (A:=bv ks[j].o) (B:=[ks[j].s]) (C:=[]) this (by rw [bv_length,ks[j].ho.1])
theorem RdK.key {w:World} {ao:Option Addr} {n cap j:Nat} {ks:List VK} (h:RdK w (.slice ao n cap) ks) (hn:n=ks.length) (hj:j < ks.length):w.rangeAt (bO ao) (oO ao+j * 33) (kcells ks[j]):=by
 subst hn
 exact el_range h.1.1 kcells_len hj (by decide)
theorem blt_bytes:∀ {a b:List Nat},(∀ x ∈ a,x < 256)→(∀ x ∈ b,x < 256)→Lib.compareBytes (a.map UInt8.ofNat) (b.map UInt8.ofNat)=bcmp a b
 | [],[],_,_=>rfl
 | [],_ :: _,_,_=>rfl
 | _ :: _,[],_,_=>rfl
 | x :: a,y :: b,ha,hb=>by
   have hx:=ha x List.mem_cons_self
   have hy:=hb y List.mem_cons_self
   have ih:=blt_bytes (a:=a) (b:=b) (fun z hz=>ha z (List.mem_cons_of_mem _ hz)) (fun z hz=>hb z (List.mem_cons_of_mem _ hz))
   have e1:(UInt8.ofNat x < UInt8.ofNat y)↔x < y:=by rw [UInt8.lt_iff_toNat_lt,UInt8.toNat_ofNat',UInt8.toNat_ofNat',Nat.mod_eq_of_lt hx,Nat.mod_eq_of_lt hy]
   have e2:(UInt8.ofNat y < UInt8.ofNat x)↔y < x:=by rw [UInt8.lt_iff_toNat_lt,UInt8.toNat_ofNat',UInt8.toNat_ofNat',Nat.mod_eq_of_lt hx,Nat.mod_eq_of_lt hy]
   rw [List.map_cons,List.map_cons,Lib.compareBytes,ih]
   unfold bcmp
   by_cases h1:x < y
   · rw [if_pos (e1.2 h1),if_pos (by simp [blt,h1])]
   · rw [if_neg (fun h=>h1 (e1.1 h))]
     by_cases h2:y < x
     · rw [if_pos (e2.2 h2),if_neg (by simp [blt,h1];omega),if_neg (by simp;omega)]
     · have:x=y:=by omega
       subst this
       rw [if_neg (fun h=>h2 (e2.1 h))]
       simp [blt]
theorem run_bytes {P:Program} {w:World} {l:List Nat} (hl:∀ x ∈ l,x < 256) {n:Nat} (hn:l.length=n) {b o c:Nat} (h:w.rangeAt b o (bv l)):(Extern.Bytes.bytesOf (.slice (some ⟨b,o,none⟩) n c)).run P w=.ok ⟨(l.map UInt8.ofNat).toArray⟩ w:=by
 subst hn
 have:=Lib.run_loadBytesX (P:=P) w (l.map fun (x:Nat)=>(x:Int)) ⟨b,o,none⟩ .empty (fun j x hj=>by
   rw [Addr.add_mid]
   refine h j _ ?_
   rw [List.getElem?_map] at hj
   unfold bv
   rw [List.getElem?_map]
   cases e:l[j]? with
   | none=>rw [e] at hj;cases hj
   | some y =>
     rw [e] at hj
     obtain rfl:=Option.some.inj hj
     rfl)
 rw [List.length_map] at this
 show (Extern.Bytes.loadBytes ⟨b,o,none⟩ l.length .empty).run P w=_
 refine this.trans ?_
 congr 2
 simp [Lib.bytesOf,Function.comp_def]
theorem run_bcmp {x y:List Nat} (hx:Dg x) (hy:Dg y) {w:World} {b o b' o' c c':Nat} (h:w.rangeAt b o (bv x)) (h':w.rangeAt b' o' (bv y)) :
   (callFunc 129 #[.slice (some ⟨b,o,none⟩) 32 c,.slice (some ⟨b',o',none⟩) 32 c']).run Tryz.prog w=.ok (.value (.int .i64 (bcmp x y))) w:=by
 have e1:(Extern.BytealgCompare.compare #[.slice (some ⟨b,o,none⟩) 32 c,.slice (some ⟨b',o',none⟩) 32 c']).run Tryz.prog w=.ok (.int .i64 (bcmp x y)) w:=by
   change Sem.run Tryz.prog (do pure (goInt (Extern.BytealgCompare.cmp (← Extern.Bytes.bytesOf (.slice (some ⟨b,o,none⟩) 32 c)) (← Extern.Bytes.bytesOf (.slice (some ⟨b',o',none⟩) 32 c'))))) w=_
   rw [Sem.run_bind,run_bytes hx.2 hx.1 h]
   simp only [Result.andThen_ok]
   rw [Sem.run_bind,run_bytes hy.2 hy.1 h']
   simp only [Result.andThen_ok,Sem.run_pure]
   rw [Lib.cmp_eq]
   simp only
   rw [blt_bytes hx.2 hy.2]
   rfl
 rw [run_callFunc_extern Tryz.func129 (by kernel_rfl) (by kernel_rfl) (by kernel_rfl) (e:=Extern.BytealgCompare.compare) (by kernel_rfl),e1]
 rfl
set_option maxRecDepth 100000 in
theorem compare_walk {x y:List Nat} (hx:Dg x) (hy:Dg y) {w:World} {b o b' o' c c':Nat} (h:w.rangeAt b o (bv x)) (h':w.rangeAt b' o' (bv y)) :
   Calls Tryz.prog 94 #[.slice (some ⟨b,o,none⟩) 32 c,.slice (some ⟨b',o',none⟩) 32 c'] w fun e w'=>e=.returned (.int .i64 (bcmp x y))∧w.grownBy w' none:=by
 have H:=fun c c'=>run_bcmp hx hy h h' (c:=c) (c':=c')
 go_enter Tryz.func94,Tryz.ntmps94
 go_wp2
 go_ret
 exact ⟨rfl,World.grownBy.refl _ _⟩
theorem sl_arr (b o:Nat) (w:World):(Instr.sliceAt 23 (.pointer (some ⟨b,o,none⟩)) none none none).run Tryz.prog w=.ok (.slice (some ⟨b,o,none⟩) 32 32) w:=by
 kernel_rfl
end Go.Proofs.YtbfjfnbcmojpiaaGreat
