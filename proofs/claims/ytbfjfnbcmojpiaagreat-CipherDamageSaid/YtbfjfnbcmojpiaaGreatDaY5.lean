import Derived.Test.YtbfjfnbcmojpiaaGreatDaY3
import Derived.Test.YtbfjfnbcmojpiaaGreatDaR1
set_option linter.unusedSimpArgs false
set_option linter.unusedVariables false
set_option maxRecDepth 100000
set_option maxHeartbeats 4000000
namespace Go.Proofs.YtbfjfnbcmojpiaaGreat
open Go.RowKit Go.Shelf
theorem Jb {P:Program} {f:Nat} {args:Array Value} {w:World} {v:Value} (h:Calls P f args w fun e w'=>e=.returned v∧w.grownBy w' none):Calls P f args w fun e w'=>∃v',e=.returned v'∧(v'=v∧w.grownBy w' none):=h.mono fun e w' ⟨h1,h2⟩=>⟨v,h1,rfl,h2⟩
section
variable {P:Program} {Q:Exit→Act→World→Prop} {ops:Array Oper} {rest:List Oper} {o:Oper} {a:Act} {w:World} {n:Nat} {D:List Deferred} {K:List (Nat×Value)}
theorem Xe (sv:Sv n D K a) (hgd:o.guard=none) {d:Nat} {t e:TypeId} (ho:o.op=.buildSlice t 0 #[]) (hd:o.dst=some d) (hdn:decide (d<n)=true)
  (hr:∀W:World,(Instr.buildSlice t 0 #[]).run P W=.ok (.slice (some ⟨W.heap.size,0,none⟩) 0 0) (W.alloc (.cells #[] e)))
  (h:∀a' w' b,b=w.heap.size→w.grownBy w' none→w'.heap.size=b+1→w'.heap[b]?=some (.cells #[] e (0,0))→Sv n D ((d,.slice (some ⟨b,0,none⟩) 0 0)::Ku d K) a'→wpList P ops Q rest a' w'):wpList P ops Q (o::rest) a w:=by
 refine OH (w':=w.alloc (.cells #[] e)) sv hgd hd hdn ?_ fun a' sv'=>h a' _ _ rfl (World.grownBy_alloc _ _ _) (by simp) (Ak rfl) sv'
 simp only[execOp,ho,List.map_toArray,List.map_nil,Sem.run_bind,Sem.run_pure,Result.andThen_ok,hr]
theorem Sk {B:Nat} {t:TypeId} {sz:Nat} (h:w.heap[B]?=some (.cells #[] t (0,0))):Own w t sz (.slice (some ⟨B,0,none⟩) 0 0) 0 []:=
 ⟨by simp,.inr ⟨B,0,_,rfl,Nat.zero_le _,h,Nat.le_refl _,Nat.zero_le _,by simp,by simp⟩⟩
theorem Jc (sv:Sv n D K a) (hgd:o.guard=none) {d:Nat} {t e:TypeId} {x:Operand} {u:Value} {cs:List Value} (ho:o.op=.buildSlice t 1 #[(0,x)]) (hd:o.dst=some d) (hdn:decide (d<n)=true) (hx:Nk K x=true) (hxv:Nl K x=u)
  (hr:∀W:World,(Instr.buildSlice t 1 #[(0,u)]).run P W=.ok (.slice (some ⟨W.heap.size,0,none⟩) 1 1) (W.alloc (.cells cs.toArray e)))
  (h:∀a' w' b,b=w.heap.size→w.grownBy w' none→w'.heap.size=b+1→w'.heap[b]?=some (.cells cs.toArray e (0,0))→Sv n D ((d,.slice (some ⟨b,0,none⟩) 1 1)::Ku d K) a'→wpList P ops Q rest a' w'):wpList P ops Q (o::rest) a w:=by
 refine OH (w':=w.alloc (.cells cs.toArray e)) sv hgd hd hdn ?_ fun a' sv'=>h a' _ _ rfl (World.grownBy_alloc _ _ _) (by simp) (Ak rfl) sv'
 have e:=sv.ev hx hxv
 simp only[execOp,ho,e,List.map_toArray,List.map_cons,List.map_nil,Sem.run_bind,Sem.run_pure,Result.andThen_ok,hr]
theorem AEa (sv:Sv n D K a) (hgd:o.guard=none) {d:Nat} {t e:TypeId} {x y:Operand} {u v:Value} {cs:List Value} (ho:o.op=.buildSlice t 2 #[(0,x),(1,y)]) (hd:o.dst=some d) (hdn:decide (d<n)=true) (hx:Nk K x=true) (hxv:Nl K x=u) (hy:Nk K y=true) (hyv:Nl K y=v)
  (hr:∀W:World,(Instr.buildSlice t 2 #[(0,u),(1,v)]).run P W=.ok (.slice (some ⟨W.heap.size,0,none⟩) 2 2) (W.alloc (.cells cs.toArray e)))
  (h:∀a' w' b,b=w.heap.size→w.grownBy w' none→w'.heap.size=b+1→w'.heap[b]?=some (.cells cs.toArray e (0,0))→Sv n D ((d,.slice (some ⟨b,0,none⟩) 2 2)::Ku d K) a'→wpList P ops Q rest a' w'):wpList P ops Q (o::rest) a w:=by
 refine OH (w':=w.alloc (.cells cs.toArray e)) sv hgd hd hdn ?_ fun a' sv'=>h a' _ _ rfl (World.grownBy_alloc _ _ _) (by simp) (Ak rfl) sv'
 have e1:=sv.ev hx hxv
 have e2:=sv.ev hy hyv
 simp only[execOp,ho,e1,e2,List.map_toArray,List.map_cons,List.map_nil,Sem.run_bind,Sem.run_pure,Result.andThen_ok,hr]
end
section
variable {Q:Exit→Act→World→Prop} {ops:Array Oper} {rest:List Oper} {o:Oper} {a:Act} {w:World} {n:Nat} {D:List Deferred} {K:List (Nat×Value)}
theorem AJv (m:Nat):madeCells (Value.int .u8 0).cells (m*1)=(bv (zs m)).toArray:=by
 apply Array.ext'
 rw[SL (z:=.int .u8 0) (sz:=1) rfl (by decide)]
 induction m with
 | zero=>rfl
 | succ m ih=>rw[List.replicate_succ,List.flatMap_cons,ih];rfl
theorem AEb {m:Nat} (sv:Sv n D K a) (hgd:o.guard=none) {d:Nat} {x:Operand} (ho:o.op=.makeSlice 29 x x) (hd:o.dst=some d) (hdn:decide (d<n)=true) (hx:Nk K x=true) (hxv:Nl K x=.int .i64 (m:Int)) (hm:m≤1000000)
  (h:∀a' w' b,b=w.heap.size→w.grownBy w' none→w'.heap.size=b+1→w'.heap[b]?=some (.cells (bv (zs m)).toArray 5 (0,0))→Sv n D ((d,.slice (some ⟨b,0,none⟩) m m)::Ku d K) a'→wpList Tryz.prog ops Q rest a' w'):wpList Tryz.prog ops Q (o::rest) a w:=by
 refine OH (w':=w.alloc (.cells (bv (zs m)).toArray 5)) sv hgd hd hdn ?_ fun a' sv'=>h a' _ _ rfl (World.grownBy_alloc _ _ _) (by simp) (Ak rfl) sv'
 have e:=sv.ev hx hxv
 obtain⟨i,hi,hz,hs,hby⟩:=Di.inf
 have hb:=Di.bnd
 have hbytes:(i.bytes:Int)*(m:Int)≤281474976710656:=by rw[hby];omega
 have hr:=run_make (P:=Tryz.prog) w 29 5 i (.int .u8 0) Di.und hi hz .i64 .i64 (m:Int) (m:Int) (by omega) (by omega) hbytes (by omega)
 rw[hs,Int.toNat_natCast,AJv] at hr
 simp only[execOp,ho,e,Sem.run_bind,Sem.run_pure,Result.andThen_ok,hr]
theorem AEc {B n:Nat} {xs:List Value} {t:TypeId} (h:w.heap[B]?=some (.cells xs.toArray t (0,0))) (hl:xs.length=n) (hn:n≤1000000):Own w t 1 (.slice (some ⟨B,0,none⟩) n n) n xs:=by
 subst hl
 refine⟨by rw[Nat.mul_one],.inr ⟨B,xs.length,_,rfl,Nat.zero_le _,h,Nat.le_refl _,by unfold maxLen;omega,by simp,?_⟩⟩
 rw[Nat.mul_one,List.take_of_length_le (by simp)]
end
theorem ALh (n:Nat):(zs n).length=n:=List.length_replicate
theorem Xf (w:World):CallsD Tryz.prog 138 #[] .returning w fun e u' w'=>e=.returned (.tuple #[])∧u'=.returning∧w'=w:=by
 refine callsD_of_wpS Tryz.func138 rfl fun c₀ cs hu=>?_
 apply wpS_region
 simp[wpOpsS,go_sem,recoverD,hu,Tryz.ntmps138]
 cases c₀
 simp_all [bodyPostS,results,Tryz.results138]
theorem Xg (w:World):CallsD Tryz.prog 98 #[] .returning w fun e u' w'=>e=.returned (.tuple #[])∧u'=.returning∧w'=w:=by
 refine callsD_of_wpS Tryz.func98 rfl fun c₀ cs hu=>?_
 apply wpS_region
 simp[wpOpsS,go_sem,recoverD,hu,Tryz.ntmps98]
 cases c₀
 simp_all [bodyPostS,results,Tryz.results98]
theorem Sm (p q:Value) (w:World):CallsD Tryz.prog 139 #[p,q] .returning w fun e u' w'=>e=.returned (.tuple #[])∧u'=.returning∧w'=w:=by
 refine callsD_of_wpS Tryz.func139 rfl fun c₀ cs hu=>?_
 apply wpS_seq
 apply wpS_region
 simp[wpOpsS,go_sem,recoverD,hu,Tryz.ntmps139,Exit.thenS]
 refine wpS_cond (t:=false) (by simp[Act.eval,Array.replicate]) ?_
 simp only[Bool.false_eq_true,if_false]
 refine wpS_of_wp (AOU ?_)
 cases c₀
 simp_all [bodyPostS,results,Tryz.results139]
theorem Nu {P:Program} {f:Nat} {args:Array Value} {w:World} {xs:List Nat} (h:Calls P f args w fun e w'=>NwR w w' xs e):Calls P f args w fun e w'=>∃v,e=.returned v∧(Own w' 5 1 v xs.length (bv xs)∧Fresh w w' v):=
 h.mono fun e w' ⟨v,h1,h2,ao,cap,h3,h4,h5⟩=>⟨v,h1,h3▸h4,⟨by simpa [Ph,Value.ownBlock] using h2,fun k hk=>.inr (h5 k (h3▸hk))⟩⟩
theorem AJw {w:World} {B:Nat} {t:TypeId} {a:Int} (hb:w.heap[B]?=some (.cells [.int .i64 a].toArray t (0,0))) (h:N6 a):Calls Tryz.prog 132 #[.slice none 0 0,.slice (some ⟨B,0,none⟩) 1 1] w fun e w'=>∃v,e=.returned v∧(Own w' 5 1 v (enc a).length (bv (enc a))∧Fresh w w' v):=by
 have:=WE Ph (.slice (some ⟨B,0,none⟩) 1 1) [] [a] w (Own.nil _ _ _) (W8 hb ⟨rfl,by decide⟩) (.inr (by simp[Ph,Value.ownBlock])) (fun n hn=>by simp at hn;subst hn;exact h) (by simp)
 simpa using this
theorem AKl {w:World} {v:Value} {ys:List Nat} (h:Sl w 1 v ys.length (bv ys)) (hm:0<ys.length) (hl:ys.length≤3000000):Calls Tryz.prog 99 #[.slice none 0 0,v] w fun e w'=>∃v,e=.returned v∧(Own w' 5 1 v ys.length (bv ys)∧Fresh w w' v):=by
 have:=ZZ Ph v [] ys w (Sl.nil w 1) h hm (by simp;omega)
 simpa using this
theorem AEd (a:Int):0<(enc a).length:=by
 unfold enc
 by_cases h:zig a<128
 · rw[IR h];simp
 · rw[Lr h];simp
theorem AAk (x:V):0<(BQ x).length:=by
 unfold BQ Pi
 rw[List.length_append]
 have:=AEd x.clean.kind
 omega
theorem AMf (a:Int) (W:World):(Instr.buildSlice 74 1 #[(0,.int .i64 a)]).run Tryz.prog W=.ok (.slice (some ⟨W.heap.size,0,none⟩) 1 1) (W.alloc (.cells [.int .i64 a].toArray 2)):=by kernel_rfl
theorem AMg (ao bo:Option Addr) (n m c d:Nat) (W:World):(Instr.buildSlice 151 2 #[(0,.slice ao n c),(1,.slice bo m d)]).run Tryz.prog W=.ok (.slice (some ⟨W.heap.size,0,none⟩) 2 2) (W.alloc (.cells [.slice ao n c,.slice bo m d].toArray 29)):=by kernel_rfl
theorem AJx {w:World} (x:V):Calls Tryz.prog 100 #[.slice none 0 0,Br x] w fun e w'=>∃v,e=.returned v∧(Own w' 5 1 v (BQ x).length (bv (BQ x))∧Fresh w w' v):=by
 have:=AGj Ph x [] w (Own.nil _ _ _) (by simp)
 rw[List.nil_append] at this
 exact this
theorem Sn (n:Int) (hn:N6 n) (w:World) :
  Calls Tryz.prog 103 #[.slice none 0 0,.int .i64 n] w fun e w'=>NwR w w' (enc n) e:=by
 have hl:=D4 hn.1 hn.2
 refine FY Tryz.func103 rfl Tryz.ntmps103 rfl fun a0 sv0=>?_
 have HG:=World.grownBy.refl w none
 replace sv0:Sv 10 [] [(0,.slice none 0 0),(1,.int .i64 n)] a0:=sv0
 refine AOQ fun K1 k1=>?_
 refine AOP ?_
 refine AS (v:=.slice none 0 0) sv0 r6 fun a2 sv2=>?_
 refine AD ?_
 refine k1 _ _ ?_
 refine AOQ fun K3 k3=>?_
 refine AOP ?_
 refine Gh sv2 rfl (dd:={ target:=.fn (.func 138) #[],args:=#[] }) rfl (by simp[execOp,resolve,Deferred.ofValue];try rfl) fun a4 sv4=>?_
 refine AD ?_
 refine k3 _ _ ?_
 refine AOQ fun K5 k5=>?_
 refine AOP ?_
 refine AH sv4 2 [(5,.slice none 0 0),(6,.int .i64 n)]
  ⟨ym r5,ym r5,AOW⟩ fun a6 w6 g6 sv6=>?_
 refine Jc (cs:=[.int .i64 n]) (e:=2) sv6 rfl rfl rfl rfl rfl rfl (AMf n) fun a7 w7 AOJ ANI g7 z7 AMh sv7=>?_
 refine BA sv7 Tryz.func132 (by kernel_rfl) r6 (AJw AMh hn) fun a8 v8 w8 hR8 sv8=>?_
 obtain⟨ao8,cap8,rfl,_⟩:=(Sl.of_own hR8.1).shape
 obtain⟨ow8,fr8⟩:=hR8
 replace fr8:=DT fr8
 have g8:=fr8.1
 replace fr8:=fr8.2
 replace HG:=AA (AA (AA HG g6) g7) g8
 refine BA sv8 Tryz.func99 (by kernel_rfl) r6 (AKl (Sl.of_own ow8) (AEd n) (by omega)) fun a9 v9 w9 hR9 sv9=>?_
 obtain⟨ao9,cap9,rfl,_⟩:=(Sl.of_own hR9.1).shape
 obtain⟨ow9,fr9⟩:=hR9
 replace fr9:=DT fr9
 have g9:=fr9.1
 replace fr9:=fr9.2
 have So:=IM HG fr9
 replace HG:=AA HG g9
 refine AS (v:=.slice ao9 ((enc n)).length cap9) sv9 r6 fun a10 Bt=>?_
 have CQ:Sv _ _ [_] _:=Bt.dl [9,8,7,5,6,0,1]
 refine AD ?_
 refine k5 _ _ ?_
 refine AOT ?_
 repeat refine AM ?_
 refine Bz (fn:=Tryz.f103) CQ (BK (p:=4) Tryz.results103 CQ rfl rfl) (Ch Tryz.func138 (by kernel_rfl) rfl _ _) (Xf _) ?_
 exact⟨_,rfl,HG,_,_,rfl,ow9,So⟩
theorem ADP (x:V) (w:World) :
  Calls Tryz.prog 53 #[.slice none 0 0,Br x] w fun e w'=>NwR w w' (BQ x) e:=by
 have hl:=FN x
 refine FY Tryz.func53 rfl Tryz.ntmps53 rfl fun a0 sv0=>?_
 have HG:=World.grownBy.refl w none
 replace sv0:Sv 9 [] [(0,.slice none 0 0),(1,Br x)] a0:=sv0
 refine AOQ fun K1 k1=>?_
 refine AOP ?_
 refine Bi sv0 r6 (C6 x) fun a2 w2 I8 Ki g2 z2 An sv2=>?_
 refine AS (v:=.slice none 0 0) sv2 r6 fun a3 sv3=>?_
 refine AD ?_
 refine k1 _ _ ?_
 refine AOQ fun K4 k4=>?_
 refine AOP ?_
 refine Gh sv3 rfl (dd:={ target:=.fn (.func 98) #[],args:=#[] }) rfl (by simp[execOp,resolve,Deferred.ofValue];try rfl) fun a5 sv5=>?_
 refine AD ?_
 refine k4 _ _ ?_
 refine AOQ fun K6 k6=>?_
 refine AOP ?_
 refine AH sv5 2 [(5,.slice none 0 0),(6,Br x)]
  ⟨ym r5,yl r6 (C6 x) An,AOW⟩ fun a7 w7 g7 sv7=>?_
 refine BA sv7 Tryz.func100 (by kernel_rfl) r6 (AJx x) fun a8 v8 w8 hR8 sv8=>?_
 obtain⟨ao8,cap8,rfl,_⟩:=(Sl.of_own hR8.1).shape
 obtain⟨ow8,fr8⟩:=hR8
 replace fr8:=DT fr8
 have g8:=fr8.1
 replace fr8:=fr8.2
 replace HG:=AA (AA (AA HG g2) g7) g8
 refine BA sv8 Tryz.func99 (by kernel_rfl) r6 (AKl (Sl.of_own ow8) (AAk x) (by omega)) fun a9 v9 w9 hR9 sv9=>?_
 obtain⟨ao9,cap9,rfl,_⟩:=(Sl.of_own hR9.1).shape
 obtain⟨ow9,fr9⟩:=hR9
 replace fr9:=DT fr9
 have g9:=fr9.1
 replace fr9:=fr9.2
 have So:=IM HG fr9
 replace HG:=AA HG g9
 refine AS (v:=.slice ao9 ((BQ x)).length cap9) sv9 r6 fun a10 Bt=>?_
 have CQ:Sv _ _ [_,_] _:=Bt.dl [8,7,5,6,3,0]
 refine AD ?_
 refine k6 _ _ ?_
 refine AOT ?_
 repeat refine AM ?_
 refine Bz (fn:=Tryz.f53) CQ (BK (p:=4) Tryz.results53 CQ rfl rfl) (Ch Tryz.func98 (by kernel_rfl) rfl _ _) (Xg _) ?_
 exact⟨_,rfl,HG,_,_,rfl,ow9,So⟩
def SlZ (w:World) (v:Value) (n:Nat) (xs:List Value):Prop:=Sl w 1 v n xs
def fpZ (n:Nat) (v:Value) (k:Nat):Prop:=0<n∧BC v k
section
variable {w w':World} {v:Value} {n:Nat} {xs:List Value}
theorem SlZ.kn (h:SlZ w v n xs) (g:w.grownBy w' none):SlZ w' v n xs:=Sl.kn h g
theorem SlZ.lt (h:SlZ w v n xs):∀k,fpZ n v k→k<w.heap.size:=by
 rintro k ⟨h0,hk⟩
 obtain⟨hl,ao,cap,rfl,h1,h2,h3,h4⟩:=h
 cases ao with
 | none=>cases hk
 | some a =>
  obtain rfl:a.block=k:=Option.some.inj hk
  obtain⟨u,hu⟩:∃u,xs[0]?=some u:=⟨_,List.getElem?_eq_getElem (by omega)⟩
  have hb:=(h4 a rfl).2 0 u hu
  have:=AOR hb
  exact this
theorem SlZ.offR (h:SlZ w v n xs) {row:Option Nat} (g:w.grownBy w' row) (hb:∀k,fpZ n v k→row≠some k):SlZ w' v n xs:=by
 rcases Nat.eq_zero_or_pos n with h0|h0
 · subst h0
   obtain⟨hl,ao,cap,e,h1,h2,h3,h4⟩:=h
   obtain rfl:xs=[]:=List.eq_nil_of_length_eq_zero (by omega)
   exact⟨hl,ao,cap,e,h1,h2,h3,fun a ha=>⟨fun h=>absurd h (by omega),fun j u hu=>by simp at hu⟩⟩
 · exact Sl.offR h g fun k hk=>hb k ⟨h0,hk⟩
end
def AAl (c:List Nat) (n:Nat):List Nat:=sq (IS (BitVec.ofNat 64 284) c) n
theorem Xh (c:List Nat) (n:Nat):(AAl c n).length=n:=N8 _ _
theorem AHq (c:List Nat) (n:Nat):By (AAl c n):=fun x hx=>AGn _ _ x hx
theorem Hy (b c:List Nat):(Fj b c).length=b.length:=M0 (by rw[N8];omega)
theorem Kz {b:List Nat} (c:List Nat) (h:By b):By (Fj b c):=AEU h fun x hx=>AGn _ _ x hx
theorem AHr {w:World} {dom:Nat} (hd:dom<1000) {c:Int} (hc:c=(dom:Int)) {l:List Nat} {s:Value} (hb:By l) (hl:l.length≤1000000) (h:Sl w 1 s l.length (bv l)):Calls Tryz.prog 136 #[.int .u64 c,s] w fun e w'=>e=.returned (Lp (IS (BitVec.ofNat 64 dom) l))∧w.grownBy w' none:=by
 have e:c=wi (BitVec.ofNat 64 dom):=by rw[hc,←Lu,IntKind.wrap_u64];omega
 rw[e]
 exact QK _ l hb (by omega) s w h
theorem AFu {w:World} {dom:Nat} (hd:dom<1000) {c:Int} (hc:c=(dom:Int)) {l:List Nat} {s:Value} (hb:By l) (hl:l.length≤1000000) (h:Sl w 1 s l.length (bv l)):Calls Tryz.prog 80 #[.int .u64 c,s] w fun e w'=>e=.returned (Lp (IS (BitVec.ofNat 64 dom) l))∧w.grownBy w' none:=by
 have e:c=wi (BitVec.ofNat 64 dom):=by rw[hc,←Lu,IntKind.wrap_u64];omega
 rw[e]
 exact Oe _ l hb (by omega) s w h
theorem AKn {w:World} {dom:Nat} (hd:dom<1000) {c:Int} (hc:c=(dom:Int)) {l:List Nat} {s:Value} (hb:By l) (hl:l.length≤1000000) (h:Sl w 1 s l.length (bv l)):Calls Tryz.prog 101 #[.int .u64 c,s] w fun e w'=>e=.returned (AQ (QJ (BitVec.ofNat 64 dom) l))∧w.grownBy w' none:=by
 have e:c=wi (BitVec.ofNat 64 dom):=by rw[hc,←Lu,IntKind.wrap_u64];omega
 rw[e]
 exact Zj _ l hb (by omega) s w h
theorem ADQ {w:World} {dom:Nat} (hd:dom<1000) {c:Int} (hc:c=(dom:Int)) {l:List Nat} {s:Value} (hb:By l) (hl:l.length≤1000000) (h:Sl w 1 s l.length (bv l)):Calls Tryz.prog 33 #[.int .u64 c,s] w fun e w'=>e=.returned (AQ (QJ (BitVec.ofNat 64 dom) l))∧w.grownBy w' none:=by
 have e:c=wi (BitVec.ofNat 64 dom):=by rw[hc,←Lu,IntKind.wrap_u64];omega
 rw[e]
 exact WG _ l hb (by omega) s w h
theorem AHs {w:World} {dom:Nat} (hd:dom<1000) {c:Int} (hc:c=(dom:Int)) {k l:List Nat} {s:Value} (hk:Dg k) (hb:By l) (hl:l.length≤1000000) (h:Sl w 1 s l.length (bv l)):Calls Tryz.prog 66 #[.int .u64 c,AQ k,s] w fun e w'=>e=.returned (AQ (Nq (BitVec.ofNat 64 dom) k l))∧w.grownBy w' none:=by
 have e:c=wi (BitVec.ofNat 64 dom):=by rw[hc,←Lu,IntKind.wrap_u64];omega
 rw[e]
 exact N9 _ k l hk.1 hk.2 hb (by omega) s w h
theorem AFv {w:World} {dom:Nat} (hd:dom<1000) {c:Int} (hc:c=(dom:Int)) {k l:List Nat} {s:Value} (hk:Dg k) (hb:By l) (hl:l.length≤1000000) (h:Sl w 1 s l.length (bv l)):Calls Tryz.prog 35 #[.int .u64 c,AQ k,s] w fun e w'=>e=.returned (AQ (Nq (BitVec.ofNat 64 dom) k l))∧w.grownBy w' none:=by
 have e:c=wi (BitVec.ofNat 64 dom):=by rw[hc,←Lu,IntKind.wrap_u64];omega
 rw[e]
 exact Mi _ k l hk.1 hk.2 hb (by omega) s w h
theorem AJy {w:World} {d:List Nat} (hd:Dg d):Calls Tryz.prog 34 #[AQ d] w fun e w'=>∃v,e=.returned v∧(Own w' 5 1 v d.length (bv d)∧Fresh w w' v):=by
 rw[hd.1]
 exact OA d hd.1 w
theorem AMi {w:World} {s:St} {n D:Nat} {T:TypeId} (hn:n≤1000000) (hD:w.heap[D]?=some (.cells (bv (zs n)).toArray T (0,0))):Calls Tryz.prog 135 #[Lp s,.slice (some ⟨D,0,none⟩) n n] w fun e w'=>∃v,e=.returned v∧(v=.tuple #[]∧w.grownBy w' (some D)∧w'.heap[D]?=some (.cells (bv (sq s n)).toArray T (0,0))):=
 (Of s n (by omega) D T w hD).mono fun e w' ⟨h1,h2,h3⟩=>⟨_,h1,rfl,h2,h3⟩
theorem ALi {w:World} {s:St} {n:Nat} (hn:n≤1000000):Calls Tryz.prog 79 #[Lp s,.int .i64 (n:Int)] w fun e w'=>∃v,e=.returned v∧(SlZ w' v n (bv (sq s n))∧w.grownBy w' none∧∀k,fpZ n v k→w.heap.size≤k):=
 (Np s n (by omega) w).mono fun e w' ⟨v,h1,h2,h3,h4⟩=>⟨v,h1,h2,h3,fun k hk=>h4 k hk.2⟩
theorem AAm {w:World} {x y:List Nat} {s t:Value} {B:Nat} (hs:Sl w 1 s x.length (bv x)) (ht:Sl w 1 t y.length (bv y)) (hB:w.heap[B]?=some (.cells [s,t].toArray 29 (0,0))) (hx:x.length≤1000000) (hy:y.length≤1000000) :
  Calls Tryz.prog 102 #[.slice (some ⟨B,0,none⟩) 2 2] w fun e w'=>∃v,e=.returned v∧(Own w' 5 1 v (x++y).length (bv (x++y))∧Fresh w w' v):=by
 rw[List.length_append]
 exact QL x y (by omega) (by omega) s t w hs ht B hB
theorem AHt {w w':World} {xs:List Nat} {n cap:Nat} {ao:Option Addr} (hl:xs.length=n) (HG:w.grownBy w' none) (ho:Own w' 5 1 (.slice ao n cap) n (bv xs)) (lo:∀k,BC (.slice ao n cap) k→w.heap.size≤k) {v:Value} (hv:v=.slice ao n cap):NwR w w' xs (.returned v):=by
 subst hl hv
 exact⟨_,rfl,HG,_,_,rfl,ho,lo⟩
theorem AHu {x y:List Nat} {i a b:Nat} (ha:x[i]?=some a) (hb:y[i]?=some b):bv ((JA x y).take i)++[.int .u8 ((a ^^^ b:Nat):Int)]=bv ((JA x y).take (i+1)):=by
 have h:(JA x y)[i]?=some (a ^^^ b):=by unfold JA;rw[List.getElem?_zipWith,ha,hb]
 rw[List.take_add_one,h]
 simp[bv]
theorem ANV (a:Int) (W:World):(Instr.buildSlice 29 1 #[(0,.int .u8 a)]).run Tryz.prog W=.ok (.slice (some ⟨W.heap.size,0,none⟩) 1 1) (W.alloc (.cells [.int .u8 a].toArray 5)):=by kernel_rfl
theorem AHv {w:World} {v:Value} {a b:List Nat} (h:Sl w 1 v (a.length+b.length) (bv (a++b))):Sl w 1 v (a++b).length (bv (a++b)):=by rw[List.length_append];exact h
theorem Xi {x y:List Nat} (hx:By x) (hy:By y):By (x++y):=fun b hb=>(List.mem_append.1 hb).elim (hx b) (hy b)
theorem DJ (a:Int) (b:List Nat):Dg (Nt a b):=⟨Io _ _,Pj _ _⟩
theorem CE (c:List Nat) (a:Int) (b:List Nat):Dg (MI c a b):=⟨Io _ _,Pj _ _⟩
theorem Hc (q:Bool) (ks:List (List Nat)):Dg (Qx q ks):=⟨Io _ _,Pj _ _⟩
theorem AHw {w:World} {b:Nat} {k:List Nat} (hk:Dg k) (h:w.rangeAt b 0 (bv k)):Sl w 1 (.slice (some ⟨b,0,none⟩) 32 32) k.length (bv k):=by
 rw[hk.1]
 refine⟨by rw[AO,hk.1],_,_,rfl,Nat.le_refl _,by unfold maxLen;omega,fun h=>(by cases h),fun ad had=>?_⟩
 obtain rfl:=Option.some.inj had
 exact⟨fun _=>rfl,fun j u hu=>by simpa using h j u hu⟩
theorem AAn (q:List Nat) (hq:Dg q) (n:Nat) (hn:n≤4096) (w:World) :
  Calls Tryz.prog 105 #[.int .u64 284,AQ q,.int .i64 ((n:Int))] w fun e w'=>∃v,e=.returned (.tuple #[v,.int .i64 0])∧w.grownBy w' none∧(Sp.row w.heap.size 5 1 n (bv (AAl q n))).on w' v:=by
 refine FY Tryz.func105 rfl Tryz.ntmps105 rfl fun a0 sv0=>?_
 have HG:=World.grownBy.refl w none
 replace sv0:Sv 24 [] [(0,.int .u64 284),(1,AQ q),(2,.int .i64 ((n:Int)))] a0:=sv0
 refine AOQ fun K1 k1=>?_
 refine AOP ?_
 refine Bi sv0 r6 (Bb q hq.1) fun a2 w2 LZ Iq g2 z2 BU sv2=>?_
 replace HG:=AA HG g2
 refine A9 (T:=29) (Z:=[.slice none 0 0]) sv2 rfl rfl rfl (fun a w=>by kernel_rfl) fun a3 w3 ALj ML g3 z3 Ez sv3=>?_
 have O9:=Bq HG ML
 replace HG:=AA HG g3
 refine A9 (T:=38) (Z:=[.int .i64 0]) sv3 rfl rfl rfl (fun a w=>by kernel_rfl) fun a4 w4 ON It g4 z4 Kj sv4=>?_
 have PA:=Ao Ez It
 have PB:=Bq HG It
 refine AD ?_
 refine k1 _ _ ?_
 refine AOQ fun K5 k5=>?_
 refine AOP ?_
 refine I5 sv4 rfl rfl rfl rfl rfl rfl fun a6 sv6=>?_
 refine Gh sv6 rfl (dd:={ target:=.fn (.func 139) #[pt ALj,pt ON],args:=#[] }) rfl (by have e1:=sv6.ev (x:=.tmp 9) rfl rfl;simp[execOp,resolve,Deferred.ofValue,e1];try rfl) fun a7 sv7=>?_
 refine AD ?_
 refine k5 _ _ ?_
 refine AOQ fun K8 k8=>?_
 refine AOQ fun K9 k9=>?_
 refine AOP ?_
 refine AH sv7 6 [(10,.int .i64 ((n:Int))),(11,.bool false),(12,.bool false),(13,.int .i64 ((n:Int))),(14,.bool false),(15,.bool false)]
  ⟨ym r5,Ce r6 (fun _=>BR (decide_eq_false (by omega))),ym r5,Ae rq8,Ai rq9 (fun _=>C3 (decide_eq_false (by omega))),Ah rq9,AOW⟩ fun a10 w10 g10 Bt=>?_
 refine AD ?_
 refine k9 _ _ ?_
 refine Au Bt rfl rfl ?_
 refine AOU ?_
 refine k8 _ _ ?_
 refine AOQ fun K11 k11=>?_
 refine AOP ?_
 refine AH Bt 1 [(16,.int .i64 ((n:Int)))]
  ⟨ym r5,AOW⟩ fun a12 w12 g12 DF=>?_
 have AJz:=AA g10 g12
 replace Ez:=AC AJz (AC g4 Ez)
 replace Kj:=AC AJz Kj
 replace HG:=AA (AA HG g4) AJz
 refine AEb (m:=n) DF rfl rfl rfl rfl rfl rfl (by omega) fun a13 w13 Sq Px g13 z13 PC Cx=>?_
 have M4:=Ao Ez Px
 have M5:=Ao Kj Px
 have WZ:=Bq HG Px
 refine AS (v:=.slice ((some ⟨Sq,0,none⟩)) n n) Cx r6 fun a14 D1=>?_
 refine AD ?_
 refine k11 _ _ ?_
 refine AOQ fun K15 k15=>?_
 refine AOP ?_
 refine AH D1 2 [(18,.int .u64 284),(19,.slice ((some ⟨LZ,0,none⟩)) 32 32)]
  ⟨ym r5,I4 (l:=none) (u:=none) rfl rfl trivial (oy rfl rfl) trivial trivial (Mr LZ 0) (fun _=>rfl),AOW⟩ fun a16 w16 g16 DG=>?_
 replace BU:=AC g16 (AC g13 (AC AJz (AC g4 (AC g3 BU))))
 refine BA DG Tryz.func136 (by kernel_rfl) r6 (Jb (AHr (dom:=284) (by decide) rfl hq.2 (by rw[hq.1];decide) (AHw hq (Av BU)))) fun a17 v17 w17 hR17 EK=>?_
 obtain⟨rfl,g17⟩:=hR17
 have CY:Sv _ _ [_,_,_,_,_,_,_,_,_,_,_,_,_,_,_] _:=EK.dl [18,19,4,0]
 refine AH CY 1 [(21,.slice ((some ⟨Sq,0,none⟩)) n n)]
  ⟨ym r5,AOW⟩ fun a19 w19 g19 Dq=>?_
 replace PC:=AC g19 (AC g17 (AC g16 PC))
 refine BA Dq Tryz.func135 (by kernel_rfl) r6 (AMi (n:=n) (by omega) PC) fun a20 v20 w20 hR20 Du=>?_
 obtain⟨rfl,g20,h20⟩:=hR20
 replace Ez:=Aa g20 (AC g19 (AC g17 (AC g16 (AC g13 Ez)))) (Ne.symm M4)
 refine AD ?_
 refine k15 _ _ ?_
 refine AOQ fun K21 k21=>?_
 refine AOP ?_
 refine AH Du 1 [(23,.slice ((some ⟨Sq,0,none⟩)) n n)]
  ⟨ym r5,AOW⟩ fun a22 w22 g22 B7=>?_
 refine Aq B7 r7 (D5 (.slice ((some ⟨Sq,0,none⟩)) n n) rfl) (AC g22 Ez) rfl fun w23 g23 h23=>?_
 replace Kj:=Ab g22 g23 (Aa g20 (AC g19 (AC g17 (AC g16 (AC g13 Kj)))) (Ne.symm M5)) PA
 refine Aq B7 r7 (Gc 0) Kj rfl fun w24 g24 h24=>?_
 replace Ez:=Aa g24 h23 (Ne.symm PA)
 replace PC:=Aa g24 (Ab g22 g23 h20 M4) M5
 replace HG:=AE (AE (AA (AE (AA (AA (AA (AA HG g13) g16) g17) g19) g20 WZ) g22) g23 O9) g24 PB
 replace Kj:=h24
 refine AD ?_
 refine k21 _ _ ?_
 refine AOT ?_
 repeat refine AM ?_
 have ho:=AEc (n:=n) PC (by rw[AO];exact Xh q n) (by omega)
 refine Bz (fn:=Tryz.f105) B7 (CR (p:=6) (q:=7) Tryz.results105 B7 rfl rfl rfl rfl (D5 (.slice ((some ⟨Sq,0,none⟩)) n n) rfl) (Gc 0) Ez Kj) (Ch Tryz.func139 (by kernel_rfl) rfl _ _) (Sm _ _ _) ?_
 exact⟨_,rfl,HG,_,_,rfl,ho,fun k hk=>(Option.some.inj hk)▸WZ⟩
theorem Xj (q:List Nat) (hq:Dg q) (n:Nat) (hn:n≤4096) (w:World) :
  Calls Tryz.prog 92 #[.int .u64 284,AQ q,.int .i64 ((n:Int))] w fun e w'=>∃v,e=.returned (.tuple #[v,.int .i64 0])∧w.grownBy w' none∧SlZ w' v n (bv (AAl q n))∧∀k,fpZ n v k→w.heap.size≤k:=by
 refine BV Tryz.func92 rfl Tryz.ntmps92 rfl fun a0 sv0=>?_
 have HG:=World.grownBy.refl w none
 replace sv0:Sv 20 [] [(0,.int .u64 284),(1,AQ q),(2,.int .i64 ((n:Int)))] a0:=sv0
 refine AOQ fun K1 k1=>?_
 refine AOP ?_
 refine Bi sv0 r6 (Bb q hq.1) fun a2 w2 LZ Iq g2 z2 BU sv2=>?_
 refine AS (v:=.slice none 0 0) sv2 r6 fun a3 sv3=>?_
 refine AS (v:=.int .i64 0) sv3 r6 fun a4 sv4=>?_
 refine AD ?_
 refine k1 _ _ ?_
 refine AOQ fun K5 k5=>?_
 refine AOQ fun K6 k6=>?_
 refine AOP ?_
 refine AH sv4 6 [(8,.int .i64 ((n:Int))),(9,.bool false),(10,.bool false),(11,.int .i64 ((n:Int))),(12,.bool false),(13,.bool false)]
  ⟨ym r5,Ce r6 (fun _=>BR (decide_eq_false (by omega))),ym r5,Ae rq8,Ai rq9 (fun _=>C3 (decide_eq_false (by omega))),Ah rq9,AOW⟩ fun a7 w7 g7 sv7=>?_
 refine AD ?_
 refine k6 _ _ ?_
 refine Au sv7 rfl rfl ?_
 refine AOU ?_
 refine k5 _ _ ?_
 refine AOQ fun K8 k8=>?_
 refine AOP ?_
 refine AH sv7 2 [(14,.int .u64 284),(15,AQ q)]
  ⟨ym r5,yl r6 (Bb q hq.1) (AC g7 BU),AOW⟩ fun a9 w9 g9 sv9=>?_
 have gc9:=AA g7 g9
 refine BA sv9 Tryz.func34 (by kernel_rfl) r6 (AJy hq) fun a10 v10 w10 hR10 Bt=>?_
 obtain⟨ao10,cap10,rfl,_⟩:=(Sl.of_own hR10.1).shape
 obtain⟨ow10,fr10⟩:=hR10
 replace fr10:=DT fr10
 have g10:=fr10.1
 replace fr10:=fr10.2
 refine BA Bt Tryz.func80 (by kernel_rfl) r6 (Jb (AFu (dom:=284) (by decide) rfl hq.2 (by rw[hq.1];decide) (Sl.of_own ow10))) fun a11 v11 w11 hR11 CQ=>?_
 obtain⟨rfl,g11⟩:=hR11
 have DF:Sv _ _ [_,_,_,_,_,_,_,_,_,_,_] _:=CQ.dl [16,14,15,4,0]
 refine AH DF 1 [(18,.int .i64 ((n:Int)))]
  ⟨ym r5,AOW⟩ fun a13 w13 g13 Cx=>?_
 replace HG:=AA (AA (AA (AA (AA HG g2) gc9) g10) g11) g13
 refine BA Cx Tryz.func79 (by kernel_rfl) r6 (ALi (n:=n) (by omega)) fun a14 v14 w14 hR14 D1=>?_
 obtain⟨hz,g14,fz⟩:=hR14
 have lo_hz:=IM HG fz
 replace HG:=AA HG g14
 refine AS (v:=v14) D1 r6 fun a15 Fp=>?_
 refine AS (v:=.int .i64 0) Fp r6 fun a16 DG=>?_
 refine AD ?_
 refine k8 _ _ ?_
 refine AOT ?_
 repeat refine AM ?_
 refine Ap (fn:=Tryz.f92) DG (Ou (p:=6) (q:=7) Tryz.results92 DG rfl rfl rfl rfl) ?_
 exact⟨_,rfl,HG,hz,lo_hz⟩
theorem AMj {w:World} {k:List Nat} (hk:Dg k) {n:Nat} (hn:n≤4096):Calls Tryz.prog 105 #[.int .u64 284,AQ k,.int .i64 (n:Int)] w fun e w'=>∃v,e=.returned v∧(∃ao cap,v=.tuple #[.slice ao n cap,.int .i64 0]∧w.grownBy w' none∧Own w' 5 1 (.slice ao n cap) n (bv (AAl k n))∧∀b,BC (.slice ao n cap) b→w.heap.size≤b):=
 (AAn k hk n hn w).mono fun e w' ⟨v,h1,h2,ao,cap,h3,h4,h5⟩=>⟨_,h1,ao,cap,by rw[h3],h2,h4,h5⟩
theorem AMk {P:Program} {f:Nat} {args:Array Value} {w w1:World} {u:Value} {n:Nat} {xs:List Value} (h:Calls P f args w1 fun e w'=>e=.returned u∧w.grownBy w' none∧Own w' 5 1 u n xs):Calls P f args w1 fun e w'=>∃v,e=.returned v∧(v=u∧w.grownBy w' none∧Own w' 5 1 u n xs):=h.mono fun e w' ⟨h1,h2,h3⟩=>⟨_,h1,rfl,h2,h3⟩
theorem MM (x:List Nat) (bx:By x) (lx:x.length≤4096) (ao:Option Addr) (cap:Nat) (c:List Nat) (hc:Dg c) (w:World) (hx:SlB w 1 (.slice ao x.length cap) x.length (bv x)) :
  Calls Tryz.prog 57 #[.slice ao x.length cap,AQ c] w fun e w'=>NwR w w' (Fj x c) e:=by
 refine BV Tryz.func57 rfl Tryz.ntmps57 rfl fun a0 sv0=>?_
 have HG:=World.grownBy.refl w none
 replace sv0:Sv 20 [] [(0,.slice ao x.length cap),(1,AQ c)] a0:=sv0
 refine AOQ fun K1 k1=>?_
 refine AOP ?_
 refine Bi sv0 r6 (Bb c hc.1) fun a2 w2 I8 Ki g2 z2 An sv2=>?_
 refine AS (v:=.slice none 0 0) sv2 r6 fun a3 sv3=>?_
 refine AD ?_
 refine k1 _ _ ?_
 refine AOQ fun K4 k4=>?_
 refine AOP ?_
 refine AH sv3 3 [(8,AQ c),(9,.slice ao x.length cap),(10,.int .i64 ((x.length:Nat)))]
  ⟨yl r6 (Bb c hc.1) An,ym r5,BJ (Tryz.underlying29) rfl rfl trivial (oy rfl rfl) (fun _=>rfl),AOW⟩ fun a5 w5 g5 sv5=>?_
 refine BA sv5 Tryz.func105 (by kernel_rfl) r6 (AMj hc (n:=x.length) lx) fun a6 v6 w6 hR6 sv6=>?_
 obtain⟨ao6,cap6,rfl,g6,hs,fs⟩:=hR6
 have sv7:Sv _ _ [_,_,_,_] _:=sv6.dl [8,9,10,3]
 refine AH sv7 3 [(7,.tuple #[.slice ao6 x.length cap6,.int .i64 0]),(12,.slice ao6 x.length cap6),(13,.int .i64 0)]
  ⟨ym r5,Bh rq4 (fun _ _ h=>⟨_,_,h,rfl,rfl⟩),Bh rq4 (fun _ _ h=>⟨_,_,h,rfl,rfl⟩),AOW⟩ fun a8 w8 g8 sv8=>?_
 refine AS (v:=.slice ao6 x.length cap6) sv8 r6 fun a9 sv9=>?_
 refine AS (v:=.int .i64 0) sv9 r6 fun a10 Bt=>?_
 have CQ:Sv _ _ [_,_,_,_] _:=Bt.dl [6,7,12,13,11]
 refine AD ?_
 refine k4 _ _ ?_
 refine AOQ fun K12 k12=>?_
 refine AOP ?_
 refine AH CQ 2 [(14,.slice ao x.length cap),(15,.int .i64 ((x.length:Nat)))]
  ⟨ym r5,BJ (Tryz.underlying29) rfl rfl trivial (oy rfl rfl) (fun _=>rfl),AOW⟩ fun a13 w13 g13 Cx=>?_
 have AAo:=AA g8 g13
 replace An:=AC AAo (AC g6 (AC g5 An))
 replace hx:=(((hx.kn g2).kn g5).kn g6).kn AAo
 replace hs:=hs.kn AAo
 replace HG:=AA (AA (AA (AA HG g2) g5) g6) AAo
 refine AEb (m:=x.length) Cx rfl rfl rfl rfl rfl rfl (by omega) fun a14 w14 Sr NW g14 z14 Rc D1=>?_
 have Ss:=Ao An NW
 have AFw:=Bq HG NW
 have Xk:=Aw (hx.lt) NW
 have Xl:=Aw (Own.ltS hs) NW
 refine AH D1 2 [(17,.slice ao x.length cap),(18,.slice ao6 x.length cap6)]
  ⟨ym r5,ym r5,AOW⟩ fun a15 w15 g15 Fp=>?_
 replace Rc:=AC g15 Rc
 replace hx:=(hx.kn g14).kn g15
 replace hs:=(hs.kn g14).kn g15
 replace HG:=AA (AA HG g14) g15
 have om:=AEc (n:=x.length) Rc (by rw[AO,ALh]) (by omega)
 have ALk:∀k,BC (.slice ((some ⟨Sr,0,none⟩)) x.length x.length) k→k≠I8:=fun k hk e=>Ss ((Option.some.inj hk).trans e)
 have ap_hx_om:∀k,BC (.slice ao x.length cap) k→¬BC (.slice ((some ⟨Sr,0,none⟩)) x.length x.length) k:=fun k hk e=>Xk k hk (Option.some.inj e).symm
 have ap_hs_om:∀k,BC (.slice ao6 x.length cap6) k→¬BC (.slice ((some ⟨Sr,0,none⟩)) x.length x.length) k:=fun k hk e=>Xl k hk (Option.some.inj e).symm
 have lo_om:∀k,BC (.slice ((some ⟨Sr,0,none⟩)) x.length x.length) k→w.heap.size≤k:=fun k hk=>(Option.some.inj hk)▸AFw
 clear Rc
 rw[M1] at om
 have hs2:=(Own.sb hs)
 refine BA Fp Tryz.func106 (by kernel_rfl) r6 (AMk (AFr x (AAl c x.length) (zs x.length) bx (AHq c _) x.length (by omega) rfl x.length (Xh c _) (Nat.le_refl _) _ _ _ _ _ _ w _ HG om hx hs2 lo_om ap_hx_om ap_hs_om)) fun a16 v16 w16 hR16 DG=>?_
 obtain⟨rfl,G,oo⟩:=hR16
 refine AS (v:=.slice ((some ⟨Sr,0,none⟩)) x.length x.length) DG r6 fun a17 EK=>?_
 have CY:Sv _ _ [_,_,_] _:=EK.dl [19,17,18,16,14,15,5]
 refine AD ?_
 refine k12 _ _ ?_
 refine AOT ?_
 repeat refine AM ?_
 refine Ap (fn:=Tryz.f57) CY (BK (p:=4) Tryz.results57 CY rfl rfl) ?_
 exact AHt (Hy x c) G oo lo_om rfl
theorem AFx (x y:List Nat) (hbx:By x) (hby:By y) (hn63:x.length≤1000000) (m:Nat) (hym:y.length=m) (hny:x.length≤m) (ao bo:Option Addr) (ac bc:Nat) (w:World) (hx:SlB w 1 (.slice ao x.length ac) x.length (bv x)) (hy:SlZ w (.slice bo m bc) m (bv y)) :
   Calls Tryz.prog 93 #[.slice ao x.length ac,.slice bo m bc] w fun e w'=>NwR w w' (JA x y) e:=by
 refine BV Tryz.func93 rfl Tryz.ntmps93 rfl fun a0 sv0=>?_
 have HG:=World.grownBy.refl w none
 replace sv0:Sv 27 [] [(0,.slice ao x.length ac),(1,.slice bo m bc)] a0:=sv0
 refine AOQ fun K1 k1=>?_
 refine AOP ?_
 refine AS (v:=.slice none 0 0) sv0 r6 fun a2 sv2=>?_
 refine AD ?_
 refine k1 _ _ ?_
 refine AOQ fun K3 k3=>?_
 refine AOP ?_
 refine Xe (e:=5) sv2 rfl rfl rfl rfl (fun W=>by kernel_rfl) fun a4 w4 ON It g4 z4 Kj sv4=>?_
 have PB:=Bq HG It
 have ADR:=Aw (hx.lt) It
 have ADS:=Aw (SlZ.lt hy) It
 replace hx:=hx.kn g4
 replace hy:=SlZ.kn hy g4
 replace HG:=AA HG g4
 have ob:=Sk (sz:=1) Kj
 have ap_hx_ob:∀k,BC (.slice ao x.length ac) k→¬BC (.slice ((some ⟨ON,0,none⟩)) 0 0) k:=fun k hk e=>ADR k hk (Option.some.inj e).symm
 have ap_hy_ob:∀k,fpZ m (.slice bo m bc) k→¬BC (.slice ((some ⟨ON,0,none⟩)) 0 0) k:=fun k hk e=>ADS k hk (Option.some.inj e).symm
 have lo_ob:∀k,BC (.slice ((some ⟨ON,0,none⟩)) 0 0) k→w.heap.size≤k:=fun k hk=>(Option.some.inj hk)▸PB
 clear Kj
 refine AS (v:=.slice ((some ⟨ON,0,none⟩)) 0 0) sv4 r6 fun a5 sv5=>?_
 refine AD ?_
 refine k3 _ _ ?_
 refine AOQ fun K6 k6=>?_
 refine AOQ fun K7 k7=>?_
 refine AOP ?_
 refine AS (v:=.int .i64 0) sv5 r6 fun a8 sv8=>?_
 refine AD ?_
 refine k7 _ _ ?_
 refine BH fun Q9 x9 y9 rt9 o9=>?_
 refine wp_loop (fun a w'=>∃(i:Nat) (co:Option Addr) (cc:Nat),(i≤x.length)∧Sv 27 [] [(6,.int .i64 ((i:Int))),(5,.slice co i cc),(7,.slice ((some ⟨ON,0,none⟩)) 0 0),(4,.slice none 0 0),(0,.slice ao x.length ac),(1,.slice bo m bc)] a∧w.grownBy w' none∧SlB w' 1 (.slice ao x.length ac) x.length (bv x)∧SlZ w' (.slice bo m bc) m (bv y)∧Own w' 5 1 (.slice co i cc) i (bv (((JA x y).take i)))∧(∀k,BC (.slice ao x.length ac) k→¬BC (.slice co i cc) k)∧(∀k,fpZ m (.slice bo m bc) k→¬BC (.slice co i cc) k)∧(∀k,BC (.slice co i cc) k→w.heap.size≤k)) (fun a _=>(x.length-intOf (a.tmps.getD 6 undef)).toNat) ⟨0,(some ⟨ON,0,none⟩),0,Nat.zero_le _,⟨sv8.1,sv8.2.1,sv8.2.2.1,sv8.2.2.2.1,sv8.2.2.2.2.1,sv8.2.2.2.2.2.1,sv8.2.2.2.2.2.2.1,sv8.2.2.2.2.2.2.2.1,AOW⟩,HG,hx,hy,ob,ap_hx_ob,ap_hy_ob,lo_ob⟩ fun a10 w10 hI10=>?_
 clear hx
 clear hy
 clear ob
 clear HG
 obtain⟨i,co,cc,hin,Bt,HG,hx,hy,ob,ap_hx_ob,ap_hy_ob,lo_ob⟩:=hI10
 refine AOQ fun K11 k11=>?_
 refine AOQ fun K12 k12=>?_
 by_cases hi:i<x.length
 · have hiy:i<y.length:=by omega
   have hiz:i<m:=by omega
   obtain⟨xa,hx_xa⟩:∃zx,x[i]'hi=zx:=⟨_,rfl⟩
   obtain⟨xb,hx_xb⟩:∃zx,y[i]'hiy=zx:=⟨_,rfl⟩
   have hxa:x[i]?=some xa:=by rw[←hx_xa];exact List.getElem?_eq_getElem _
   have hxb:y[i]?=some xb:=by rw[←hx_xb];exact List.getElem?_eq_getElem _
   have ba:xa<256:=hbx _ (List.mem_of_getElem? hxa)
   have bb:xb<256:=hby _ (List.mem_of_getElem? hxb)
   refine AOP ?_
   refine AH Bt 4 [(8,.int .i64 ((i:Int))),(9,.slice ao x.length ac),(10,.int .i64 ((x.length:Nat))),(11,.bool true)]
    ⟨ym r5,ym r5,BJ (Tryz.underlying29) rfl rfl trivial (oy rfl rfl) (fun _=>rfl),Fg r7 (fun _=>BR (by simp;omega)),AOW⟩ fun a13 w13 g13 Cx=>?_
   refine AD ?_
   refine k12 _ _ ?_
   refine Am Cx rfl rfl ?_
   refine AOU ?_
   refine k11 _ _ ?_
   refine AOQ fun K14 k14=>?_
   refine BH fun Q15 x15 y15 rt15 o15=>?_
   have gd16:=Cz w13
   replace hx:=(hx.kn g13).kn gd16
   replace hy:=SlZ.kn (SlZ.kn hy g13) gd16
   refine wp_region_noPanic ?_
   refine Gf (fun w'=>w'.rangeAt (bO ao) (oO ao+i*1) ([.int .u8 ((xa:Int))])∧w'.rangeAt (bO bo) (oO bo+i*1) ([.int .u8 ((xb:Int))])∧True) [0,1,2,3,4,5,6,7,8,9] [10,11,12] (by kernel_rfl) (by kernel_rfl) (fun _ _ d _ _ h=>by cases d<;>exact h) rfl (by kernel_rfl) ⟨(by have:=Gl hx.1 hi;rw[hx_xa] at this;exact this),(by have:=Gl hy hiy;rw[hx_xb] at this;exact this),AOW⟩ ?_
   simp only[List.filterMap_cons,List.filterMap_nil,List.getElem?_toArray,List.getElem?_cons_succ,List.getElem?_cons_zero]
   refine IP (v:=.slice co i cc) w13.drew Cx rfl (by kernel_rfl) (F9 5 14 (.inl rfl) rfl rfl trivial (fun _ _ h=>h)) fun a17 EK=>?_
   refine IP (v:=.slice ao x.length ac) w13.drew EK rfl (by kernel_rfl) (F9 0 15 (.inl rfl) rfl rfl trivial (fun _ _ h=>h)) fun a18 CY=>?_
   refine IP (v:=.int .i64 ((i:Int))) w13.drew CY rfl (by kernel_rfl) (F9 6 16 (.inl rfl) rfl rfl trivial (fun _ _ h=>h)) fun a19 Dq=>?_
   refine IP (v:=pk ((bO ao)) (oO ao+i*1)) w13.drew Dq rfl (by kernel_rfl) (AAJ rfl rfl trivial (oy rfl rfl) (oy rfl rfl) (fun w=>CF Tryz.underlying29 (by kernel_rfl) (hx.1) (by omega) (rfl) w) (fun _=>rfl)) fun a20 Du=>?_
   refine NV Du rfl rfl rfl rfl ⟨rfl,rfl⟩ (fun w hS=>Ad (tyB ((xa:Int))) hS.1) fun a21 Dl=>?_
   refine IP (v:=.slice bo m bc) w13.drew Dl rfl (by kernel_rfl) (F9 1 19 (.inl rfl) rfl rfl trivial (fun _ _ h=>h)) fun a22 B7=>?_
   refine IP (v:=.int .i64 ((i:Int))) w13.drew B7 rfl (by kernel_rfl) (F9 6 20 (.inl rfl) rfl rfl trivial (fun _ _ h=>h)) fun a23 Cc=>?_
   refine IP (v:=pk ((bO bo)) (oO bo+i*1)) w13.drew Cc rfl (by kernel_rfl) (AAJ rfl rfl trivial (oy rfl rfl) (oy rfl rfl) (fun w=>CF Tryz.underlying29 (by kernel_rfl) (hy) (by omega) (rfl) w) (fun _=>rfl)) fun a24 EN=>?_
   refine NV EN rfl rfl rfl rfl ⟨rfl,rfl⟩ (fun w hS=>Ad (tyB ((xb:Int))) hS.2.1) fun a25 DR=>?_
   refine IP (v:=.int .u8 (((xa ^^^ xb:Nat):Int))) w13.drew DR rfl (by kernel_rfl) (ACz rfl rfl trivial (oy rfl rfl) (oy rfl rfl) (fun _=>MJ ba bb) (fun _=>rfl)) fun a26 DH=>?_
   have HU:Sv _ _ [_,_,_,_,_,_,_,_,_,_,_,_] _:=DH.dl [22,21,20,19,18,17,16,15]
   change wpList _ _ _ _ _ _
   refine Jc (cs:=[.int .u8 ((xa ^^^ xb:Nat):Int)]) (e:=5) HU rfl rfl rfl rfl rfl rfl (ANV _) fun a28 w28 ANW AL5 g28 z28 AJ0 Dm=>?_
   replace hx:=hx.kn g28
   replace hy:=SlZ.kn hy g28
   replace ob:=((ob.kn g13).kn gd16).kn g28
   replace HG:=AA (AA (AA HG g13) gd16) g28
   refine AD ⟨⟨(by have:=Gl hx.1 hi;rw[hx_xa] at this;exact this),(by have:=Gl hy hiy;rw[hx_xb] at this;exact this),AOW⟩,?_⟩
   change wpList _ _ _ _ _ _
   refine GZ Di Dm rfl rfl rfl rfl rfl rfl rfl rfl ob (W8 AJ0 ⟨rfl,by decide⟩) rfl (by omega) fun a29 ao29 cap29 w29 owx29 Bk Ck=>?_
   have AAp:=E4 Bk.2 ap_hx_ob (hx.lt)
   have AAq:=E4 Bk.2 ap_hy_ob (SlZ.lt hy)
   have Su:=Oq Bk.2 lo_ob HG
   replace hx:=hx.offR Bk.1 (fun k hk e=>ap_hx_ob k hk (e))
   replace hy:=SlZ.offR hy Bk.1 (fun k hk e=>ap_hy_ob k hk (e))
   replace HG:=Bu HG Bk.1 fun k e=>lo_ob k (e)
   rw[AHu hxa hxb] at owx29
   refine AD ⟨⟨(by have:=Gl hx.1 hi;rw[hx_xa] at this;exact this),(by have:=Gl hy hiy;rw[hx_xb] at this;exact this),AOW⟩,?_⟩
   change wpList _ _ _ _ _ _
   refine AS (v:=.slice ao29 (i+1) cap29) Ck r6 fun a30 EF=>?_
   refine AD ⟨⟨(by have:=Gl hx.1 hi;rw[hx_xa] at this;exact this),(by have:=Gl hy hiy;rw[hx_xb] at this;exact this),AOW⟩,?_⟩
   refine NoPanic.normal ?_
   have IJ:Sv _ _ [_,_,_,_,_,_,_,_,_,_] _:=EF.dl [25,24,23,14]
   refine y15 _ _ ?_
   refine k14 _ _ ?_
   refine AOP ?_
   refine AH IJ 2 [(12,.int .i64 ((i:Int))),(13,.int .i64 (((i+1:Nat):Int)))]
    ⟨ym r5,Ce r6 (fun _=>Dd (by rw[BT (by omega) (by omega)];omega)),AOW⟩ fun a32 w32 g32 Cu=>?_
   refine AS (v:=.int .i64 (((i+1:Nat):Int))) Cu r6 fun a33 FS=>?_
   refine AD ?_
   replace hx:=hx.kn g32
   replace hy:=SlZ.kn hy g32
   replace owx29:=owx29.kn g32
   replace HG:=AA HG g32
   exact⟨⟨i+1,ao29,cap29,by omega,⟨FS.1,FS.2.1,FS.2.2.1,FS.2.2.2.2.2.1,(AG FS).2.2.1,(AG FS).2.2.2.1,(AG FS).2.2.2.2.1,(AG FS).2.2.2.2.2.1,AOW⟩,HG,hx,hy,owx29,AAp,AAq,Su⟩,by rw[show _=_ from FS.2.2.1,show _=_ from Bt.2.2.1];simp[intOf];omega⟩
 · have hll:=M0 (a:=x) (b:=y) (by omega)
   rw[List.take_of_length_le (by omega)] at ob
   refine AOP ?_
   refine AH Bt 4 [(8,.int .i64 ((i:Int))),(9,.slice ao x.length ac),(10,.int .i64 ((x.length:Nat))),(11,.bool false)]
    ⟨ym r5,ym r5,BJ (Tryz.underlying29) rfl rfl trivial (oy rfl rfl) (fun _=>rfl),Fg r7 (fun _=>BR (by simp;omega)),AOW⟩ fun a34 w34 g34 DW=>?_
   refine AD ?_
   refine k12 _ _ ?_
   refine Au DW rfl rfl ?_
   refine wp_exit ?_
   repeat refine CA ?_
   refine x9 _ _ ?_
   refine k6 _ _ ?_
   refine AOQ fun K35 k35=>?_
   refine AOP ?_
   refine AH DW 1 [(26,.slice co i cc)]
    ⟨ym r5,AOW⟩ fun a36 w36 g36 GC=>?_
   have Ow:=AA g34 g36
   refine AS (v:=.slice co i cc) GC r6 fun a37 Gi=>?_
   refine AD ?_
   refine k35 _ _ ?_
   replace ob:=ob.kn Ow
   replace HG:=AA HG Ow
   refine AOT ?_
   repeat refine AM ?_
   refine Ap (fn:=Tryz.f93) Gi (BK (p:=4) Tryz.results93 Gi rfl rfl) ?_
   exact AHt (by omega) HG ob lo_ob rfl
theorem ALl {w:World} {k:List Nat} (hk:Dg k) {n:Nat} (hn:n≤4096):Calls Tryz.prog 92 #[.int .u64 284,AQ k,.int .i64 (n:Int)] w fun e w'=>∃v,e=.returned v∧(∃ao cap,v=.tuple #[.slice ao n cap,.int .i64 0]∧w.grownBy w' none∧SlZ w' (.slice ao n cap) n (bv (AAl k n))∧∀b,fpZ n (.slice ao n cap) b→w.heap.size≤b):=
 (Xj k hk n hn w).mono fun e w' ⟨v,h1,h2,h3,h4⟩=>by
  obtain⟨ao,cap,rfl,_⟩:=Sl.shape h3
  exact⟨_,h1,ao,cap,rfl,h2,h3,h4⟩
theorem OO (x:List Nat) (bx:By x) (lx:x.length≤4096) (ao:Option Addr) (cap:Nat) (c:List Nat) (hc:Dg c) (w:World) (hx:SlB w 1 (.slice ao x.length cap) x.length (bv x)) :
  Calls Tryz.prog 47 #[AQ c,.slice ao x.length cap] w fun e w'=>NwR w w' (Fj x c) e:=by
 refine BV Tryz.func47 rfl Tryz.ntmps47 rfl fun a0 sv0=>?_
 have HG:=World.grownBy.refl w none
 replace sv0:Sv 17 [] [(0,AQ c),(1,.slice ao x.length cap)] a0:=sv0
 refine AOQ fun K1 k1=>?_
 refine AOP ?_
 refine Bi sv0 r6 (Bb c hc.1) fun a2 w2 Cp Dt g2 z2 AJ sv2=>?_
 refine AS (v:=.slice none 0 0) sv2 r6 fun a3 sv3=>?_
 refine AD ?_
 refine k1 _ _ ?_
 refine AOQ fun K4 k4=>?_
 refine AOP ?_
 refine AH sv3 3 [(8,AQ c),(9,.slice ao x.length cap),(10,.int .i64 ((x.length:Nat)))]
  ⟨yl r6 (Bb c hc.1) AJ,ym r5,BJ (Tryz.underlying29) rfl rfl trivial (oy rfl rfl) (fun _=>rfl),AOW⟩ fun a5 w5 g5 sv5=>?_
 refine BA sv5 Tryz.func92 (by kernel_rfl) r6 (ALl hc (n:=x.length) lx) fun a6 v6 w6 hR6 sv6=>?_
 obtain⟨ao6,cap6,rfl,g6,hz,fz⟩:=hR6
 have sv7:Sv _ _ [_,_,_,_] _:=sv6.dl [8,9,10,2]
 refine AH sv7 3 [(7,.tuple #[.slice ao6 x.length cap6,.int .i64 0]),(12,.slice ao6 x.length cap6),(13,.int .i64 0)]
  ⟨ym r5,Bh rq4 (fun _ _ h=>⟨_,_,h,rfl,rfl⟩),Bh rq4 (fun _ _ h=>⟨_,_,h,rfl,rfl⟩),AOW⟩ fun a8 w8 g8 sv8=>?_
 refine AS (v:=.slice ao6 x.length cap6) sv8 r6 fun a9 sv9=>?_
 refine AS (v:=.int .i64 0) sv9 r6 fun a10 Bt=>?_
 have CQ:Sv _ _ [_,_,_,_] _:=Bt.dl [6,7,12,13,11]
 refine AD ?_
 refine k4 _ _ ?_
 refine AOQ fun K12 k12=>?_
 refine AOP ?_
 refine AH CQ 2 [(14,.slice ao x.length cap),(15,.slice ao6 x.length cap6)]
  ⟨ym r5,ym r5,AOW⟩ fun a13 w13 g13 Cx=>?_
 have AAo:=AA g8 g13
 replace hx:=(((hx.kn g2).kn g5).kn g6).kn AAo
 replace hz:=SlZ.kn hz AAo
 replace HG:=AA (AA (AA (AA HG g2) g5) g6) AAo
 refine BA Cx Tryz.func93 (by kernel_rfl) r6 (Nu (AFx x (AAl c x.length) bx (AHq c _) (by omega) x.length (Xh c _) (Nat.le_refl _) _ _ _ _ _ hx hz)) fun a14 v14 w14 hR14 D1=>?_
 obtain⟨ao14,cap14,rfl,_⟩:=(Sl.of_own hR14.1).shape
 obtain⟨ow14,fr14⟩:=hR14
 replace fr14:=DT fr14
 have g14:=fr14.1
 replace fr14:=fr14.2
 have ALm:∀k,fpZ x.length (.slice ao6 x.length cap6) k→¬BC (.slice ao14 ((Fj x c)).length cap14) k:=fun k hzr hk=>absurd (SlZ.lt hz k hzr) (Nat.not_lt.2 (fr14 k hk))
 have AJ1:=IM HG fr14
 replace HG:=AA HG g14
 refine AS (v:=.slice ao14 ((Fj x c)).length cap14) D1 r6 fun a15 Fp=>?_
 have DG:Sv _ _ [_,_,_] _:=Fp.dl [16,14,15,5]
 refine AD ?_
 refine k12 _ _ ?_
 refine AOT ?_
 repeat refine AM ?_
 refine Ap (fn:=Tryz.f47) DG (BK (p:=4) Tryz.results47 DG rfl rfl) ?_
 exact⟨_,rfl,HG,_,_,rfl,ow14,AJ1⟩
theorem LB (a:Int) (ha:N6 a) (x:List Nat) (bx:By x) (lx:x.length≤100000) (ao:Option Addr) (cap:Nat) (w:World) (hx:SlB w 1 (.slice ao x.length cap) x.length (bv x)) :
  Calls Tryz.prog 54 #[.int .i64 a,.slice ao x.length cap] w fun e w'=>e=.returned (AQ (Nt a x))∧w.grownBy w' none:=by
 have hle:=D4 ha.1 ha.2
 refine BV Tryz.func54 rfl Tryz.ntmps54 rfl fun a0 sv0=>?_
 have HG:=World.grownBy.refl w none
 replace sv0:Sv 11 [] [(0,.int .i64 a),(1,.slice ao x.length cap)] a0:=sv0
 refine AOQ fun K1 k1=>?_
 refine AOP ?_
 refine A9 (T:=23) (Z:=(bv AR)) sv0 rfl rfl rfl (fun a w=>by kernel_rfl) fun a2 w2 LZ Iq g2 z2 BU sv2=>?_
 have Kk:=Bq HG Iq
 refine AD ?_
 refine k1 _ _ ?_
 refine AOQ fun K3 k3=>?_
 refine AOP ?_
 refine AH sv2 1 [(5,.int .i64 a)]
  ⟨ym r5,AOW⟩ fun a4 w4 g4 sv4=>?_
 refine BA sv4 Tryz.func103 (by kernel_rfl) r6 (Nu (Sn a ha _)) fun a5 v5 w5 hR5 sv5=>?_
 obtain⟨ao5,cap5,rfl,_⟩:=(Sl.of_own hR5.1).shape
 obtain⟨ow5,fr5⟩:=hR5
 replace fr5:=DT fr5
 have g5:=fr5.1
 replace fr5:=fr5.2
 refine AH sv5 1 [(7,.slice ao x.length cap)]
  ⟨ym r5,AOW⟩ fun a6 w6 g6 sv6=>?_
 refine AEa (cs:=[.slice ao5 ((enc a)).length cap5,.slice ao x.length cap]) (e:=29) sv6 rfl rfl rfl rfl rfl rfl rfl rfl (AMg _ _ _ _ _ _) fun a7 w7 AOK ANJ g7 z7 AMl sv7=>?_
 replace hx:=((((hx.kn g2).kn g4).kn g5).kn g6).kn g7
 replace ow5:=(ow5.kn g6).kn g7
 refine BA sv7 Tryz.func102 (by kernel_rfl) r6 (AAm (Sl.of_own ow5) hx.1 AMl (by omega) (by omega)) fun a8 v8 w8 hR8 sv8=>?_
 obtain⟨ao8,cap8,rfl,_⟩:=(Sl.of_own hR8.1).shape
 obtain⟨ow8,fr8⟩:=hR8
 replace fr8:=DT fr8
 have g8:=fr8.1
 replace fr8:=fr8.2
 refine BA sv8 Tryz.func101 (by kernel_rfl) r6 (Jb (AKn (dom:=280) (by decide) rfl (Xi (N7 a) bx) (by rw[List.length_append];omega) (Sl.of_own ow8))) fun a9 v9 w9 hR9 sv9=>?_
 obtain⟨rfl,g9⟩:=hR9
 replace BU:=AC g9 (AC g8 (AC g7 (AC g6 (AC g5 (AC g4 BU)))))
 refine Aq sv9 r7 (Bb ((Nt a x)) (DJ a x).1) BU (EM (DJ a x)) fun w10 g10 h10=>?_
 replace HG:=AE (AA (AA (AA (AA (AA (AA (AA HG g2) g4) g5) g6) g7) g8) g9) g10 Kk
 replace BU:=h10
 have CQ:Sv _ _ [_] _:=sv9.dl [10,9,8,7,6,5,0,1]
 refine AD ?_
 refine k3 _ _ ?_
 refine AOT ?_
 repeat refine AM ?_
 refine Ap (fn:=Tryz.f54) CQ (EE (p:=4) Tryz.results54 CQ rfl rfl (Bb ((Nt a x)) (DJ a x).1) BU) ?_
 exact⟨rfl,HG⟩
theorem Iu (c:List Nat) (hc:Dg c) (a:Int) (ha:N6 a) (x:List Nat) (bx:By x) (lx:x.length≤100000) (ao:Option Addr) (cap:Nat) (w:World) (hx:SlB w 1 (.slice ao x.length cap) x.length (bv x)) :
  Calls Tryz.prog 58 #[AQ c,.int .i64 a,.slice ao x.length cap] w fun e w'=>e=.returned (AQ (MI c a x))∧w.grownBy w' none:=by
 have hle:=D4 ha.1 ha.2
 refine BV Tryz.func58 rfl Tryz.ntmps58 rfl fun a0 sv0=>?_
 have HG:=World.grownBy.refl w none
 replace sv0:Sv 14 [] [(0,AQ c),(1,.int .i64 a),(2,.slice ao x.length cap)] a0:=sv0
 refine AOQ fun K1 k1=>?_
 refine AOP ?_
 refine Bi sv0 r6 (Bb c hc.1) fun a2 w2 I8 Ki g2 z2 An sv2=>?_
 replace HG:=AA HG g2
 refine A9 (T:=23) (Z:=(bv AR)) sv2 rfl rfl rfl (fun a w=>by kernel_rfl) fun a3 w3 ALj ML g3 z3 Ez sv3=>?_
 have MN:=Ao An ML
 have O9:=Bq HG ML
 refine AD ?_
 refine k1 _ _ ?_
 refine AOQ fun K4 k4=>?_
 have gd5:=Cz w3
 replace An:=AC gd5 (AC g3 An)
 refine wp_region_noPanic ?_
 refine Gf (fun w'=>w'.heap[I8]?=some (.cells (bv c).toArray 23 (0,0))∧True) [0,1,3] [2,4,5,6,7] (by kernel_rfl) (by kernel_rfl) (fun _ _ d _ _ h=>by cases d<;>exact h) rfl (by kernel_rfl) ⟨An,AOW⟩ ?_
 simp only[List.filterMap_cons,List.filterMap_nil,List.getElem?_toArray,List.getElem?_cons_succ,List.getElem?_cons_zero]
 refine NV sv3 rfl rfl rfl rfl ⟨rfl,rfl⟩ (fun w hS=>Ad (Bb c hc.1) (Av hS.1)) fun a6 sv6=>?_
 refine IP (v:=.int .i64 a) w3.drew sv6 rfl (by kernel_rfl) (F9 1 8 (.inl rfl) rfl rfl trivial (fun _ _ h=>h)) fun a7 sv7=>?_
 refine IP (v:=.slice ao x.length cap) w3.drew sv7 rfl (by kernel_rfl) (F9 2 10 (.inl rfl) rfl rfl trivial (fun _ _ h=>h)) fun a8 sv8=>?_
 change wpList _ _ _ _ _ _
 refine BA sv8 Tryz.func103 (by kernel_rfl) r6 (Nu (Sn a ha _)) fun a9 v9 w9 hR9 sv9=>?_
 obtain⟨ao9,cap9,rfl,_⟩:=(Sl.of_own hR9.1).shape
 obtain⟨ow9,fr9⟩:=hR9
 replace fr9:=DT fr9
 have g9:=fr9.1
 replace fr9:=fr9.2
 replace An:=AC g9 An
 refine AD ⟨⟨An,AOW⟩,?_⟩
 change wpList _ _ _ _ _ _
 refine AEa (cs:=[.slice ao9 ((enc a)).length cap9,.slice ao x.length cap]) (e:=29) sv9 rfl rfl rfl rfl rfl rfl rfl rfl (AMg _ _ _ _ _ _) fun a10 w10 ANX AL6 g10 z10 AJ2 Bt=>?_
 replace An:=AC g10 An
 replace hx:=((((hx.kn g2).kn g3).kn gd5).kn g9).kn g10
 replace ow9:=ow9.kn g10
 refine AD ⟨⟨An,AOW⟩,?_⟩
 change wpList _ _ _ _ _ _
 refine BA Bt Tryz.func102 (by kernel_rfl) r6 (AAm (Sl.of_own ow9) hx.1 AJ2 (by omega) (by omega)) fun a11 v11 w11 hR11 CQ=>?_
 obtain⟨ao11,cap11,rfl,_⟩:=(Sl.of_own hR11.1).shape
 obtain⟨ow11,fr11⟩:=hR11
 replace fr11:=DT fr11
 have g11:=fr11.1
 replace fr11:=fr11.2
 replace An:=AC g11 An
 refine AD ⟨⟨An,AOW⟩,?_⟩
 change wpList _ _ _ _ _ _
 refine BA CQ Tryz.func66 (by kernel_rfl) r6 (Jb (AHs (dom:=285) (by decide) rfl hc (Xi (N7 a) bx) (by rw[List.length_append];omega) (Sl.of_own ow11))) fun a12 v12 w12 hR12 DF=>?_
 obtain⟨rfl,g12⟩:=hR12
 replace An:=AC g12 An
 replace Ez:=AC g12 (AC g11 (AC g10 (AC g9 (AC gd5 Ez))))
 refine AD ⟨⟨An,AOW⟩,?_⟩
 change wpList _ _ _ _ _ _
 refine Aq DF r7 (Bb ((MI c a x)) (CE c a x).1) Ez (EM (CE c a x)) fun w13 g13 h13=>?_
 replace An:=Aa g13 An (Ne.symm MN)
 replace HG:=AE (AA (AA (AA (AA (AA (AA HG g3) gd5) g9) g10) g11) g12) g13 O9
 replace Ez:=h13
 refine AD ⟨⟨An,AOW⟩,?_⟩
 refine NoPanic.normal ?_
 have D1:Sv _ _ [_,_] _:=DF.dl [13,12,11,9,10,8,7,3,1,2]
 refine k4 _ _ ?_
 refine AOT ?_
 repeat refine AM ?_
 refine Ap (fn:=Tryz.f58) D1 (EE (p:=6) Tryz.results58 D1 rfl rfl (Bb ((MI c a x)) (CE c a x).1) Ez) ?_
 exact⟨rfl,HG⟩
theorem Sw (a:Int) (ha:N6 a) (x:List Nat) (bx:By x) (lx:x.length≤100000) (ao:Option Addr) (cap:Nat) (w:World) (hx:SlB w 1 (.slice ao x.length cap) x.length (bv x)) :
  Calls Tryz.prog 44 #[.int .i64 a,.slice ao x.length cap] w fun e w'=>e=.returned (AQ (Nt a x))∧w.grownBy w' none:=by
 have hle:=D4 ha.1 ha.2
 refine BV Tryz.func44 rfl Tryz.ntmps44 rfl fun a0 sv0=>?_
 have HG:=World.grownBy.refl w none
 replace sv0:Sv 10 [] [(0,.int .i64 a),(1,.slice ao x.length cap)] a0:=sv0
 refine AOQ fun K1 k1=>?_
 refine AOP ?_
 refine A9 (T:=23) (Z:=(bv AR)) sv0 rfl rfl rfl (fun a w=>by kernel_rfl) fun a2 w2 LZ Iq g2 z2 BU sv2=>?_
 have Kk:=Bq HG Iq
 refine AD ?_
 refine k1 _ _ ?_
 refine AOQ fun K3 k3=>?_
 refine AOP ?_
 refine AH sv2 1 [(5,.int .i64 a)]
  ⟨ym r5,AOW⟩ fun a4 w4 g4 sv4=>?_
 replace BU:=AC g4 BU
 replace HG:=AA (AA HG g2) g4
 refine BA sv4 Tryz.func90 (by kernel_rfl) r6 (Fs a _ ha.1 ha.2) fun a5 v5 w5 hR5 sv5=>?_
 obtain⟨ao5,cap5,rfl,_⟩:=(Sl.of_own hR5.1).shape
 obtain⟨ow5,fr5⟩:=hR5
 replace fr5:=DT fr5
 have g5:=fr5.1
 replace fr5:=fr5.2
 have AAr:=Cj fr5 BU
 have ALn:=IM HG fr5
 refine AH sv5 1 [(7,.slice ao x.length cap)]
  ⟨ym r5,AOW⟩ fun a6 w6 g6 sv6=>?_
 replace hx:=(((hx.kn g2).kn g4).kn g5).kn g6
 replace ow5:=ow5.kn g6
 refine GZ Di sv6 rfl rfl rfl rfl rfl rfl rfl rfl ow5 (hx.1) (Dk _) (by omega) fun a7 ao7 cap7 w7 owx7 Bk sv7=>?_
 replace BU:=AF Bk.1 (AC g6 (AC g5 BU)) (fun e=>AAr _ e.symm rfl)
 replace HG:=Bu (AA (AA HG g5) g6) Bk.1 fun k e=>ALn k (e)
 rw[←DS] at owx7
 refine BA sv7 Tryz.func33 (by kernel_rfl) r6 (Jb (ADQ (dom:=280) (by decide) rfl (Xi (N7 a) bx) (by rw[List.length_append];omega) (AHv (Sl.of_own owx7)))) fun a8 v8 w8 hR8 sv8=>?_
 obtain⟨rfl,g8⟩:=hR8
 replace BU:=AC g8 BU
 refine Aq sv8 r7 (Bb ((Nt a x)) (DJ a x).1) BU (EM (DJ a x)) fun w9 g9 h9=>?_
 replace HG:=AE (AA HG g8) g9 Kk
 replace BU:=h9
 have Bt:Sv _ _ [_] _:=sv8.dl [9,8,7,6,5,0,1]
 refine AD ?_
 refine k3 _ _ ?_
 refine AOT ?_
 repeat refine AM ?_
 refine Ap (fn:=Tryz.f44) Bt (EE (p:=4) Tryz.results44 Bt rfl rfl (Bb ((Nt a x)) (DJ a x).1) BU) ?_
 exact⟨rfl,HG⟩
theorem Sy (c:List Nat) (hc:Dg c) (a:Int) (ha:N6 a) (x:List Nat) (bx:By x) (lx:x.length≤100000) (ao:Option Addr) (cap:Nat) (w:World) (hx:SlB w 1 (.slice ao x.length cap) x.length (bv x)) :
  Calls Tryz.prog 48 #[AQ c,.int .i64 a,.slice ao x.length cap] w fun e w'=>e=.returned (AQ (MI c a x))∧w.grownBy w' none:=by
 have hle:=D4 ha.1 ha.2
 refine BV Tryz.func48 rfl Tryz.ntmps48 rfl fun a0 sv0=>?_
 have HG:=World.grownBy.refl w none
 replace sv0:Sv 13 [] [(0,AQ c),(1,.int .i64 a),(2,.slice ao x.length cap)] a0:=sv0
 refine AOQ fun K1 k1=>?_
 refine AOP ?_
 refine Bi sv0 r6 (Bb c hc.1) fun a2 w2 I8 Ki g2 z2 An sv2=>?_
 replace HG:=AA HG g2
 refine A9 (T:=23) (Z:=(bv AR)) sv2 rfl rfl rfl (fun a w=>by kernel_rfl) fun a3 w3 ALj ML g3 z3 Ez sv3=>?_
 have MN:=Ao An ML
 have O9:=Bq HG ML
 refine AD ?_
 refine k1 _ _ ?_
 refine AOQ fun K4 k4=>?_
 have gd5:=Cz w3
 replace An:=AC gd5 (AC g3 An)
 replace Ez:=AC gd5 Ez
 replace HG:=AA (AA HG g3) gd5
 refine wp_region_noPanic ?_
 refine Gf (fun w'=>w'.heap[I8]?=some (.cells (bv c).toArray 23 (0,0))∧True) [0,1,3] [2,4,5,6] (by kernel_rfl) (by kernel_rfl) (fun _ _ d _ _ h=>by cases d<;>exact h) rfl (by kernel_rfl) ⟨An,AOW⟩ ?_
 simp only[List.filterMap_cons,List.filterMap_nil,List.getElem?_toArray,List.getElem?_cons_succ,List.getElem?_cons_zero]
 refine NV sv3 rfl rfl rfl rfl ⟨rfl,rfl⟩ (fun w hS=>Ad (Bb c hc.1) (Av hS.1)) fun a6 sv6=>?_
 refine IP (v:=.int .i64 a) w3.drew sv6 rfl (by kernel_rfl) (F9 1 8 (.inl rfl) rfl rfl trivial (fun _ _ h=>h)) fun a7 sv7=>?_
 refine IP (v:=.slice ao x.length cap) w3.drew sv7 rfl (by kernel_rfl) (F9 2 10 (.inl rfl) rfl rfl trivial (fun _ _ h=>h)) fun a8 sv8=>?_
 change wpList _ _ _ _ _ _
 refine BA sv8 Tryz.func90 (by kernel_rfl) r6 (Fs a _ ha.1 ha.2) fun a9 v9 w9 hR9 sv9=>?_
 obtain⟨ao9,cap9,rfl,_⟩:=(Sl.of_own hR9.1).shape
 obtain⟨ow9,fr9⟩:=hR9
 replace fr9:=DT fr9
 have g9:=fr9.1
 replace fr9:=fr9.2
 have AAs:=Cj fr9 An
 have AAt:=Cj fr9 Ez
 have So:=IM HG fr9
 replace An:=AC g9 An
 replace hx:=(((hx.kn g2).kn g3).kn gd5).kn g9
 refine AD ⟨⟨An,AOW⟩,?_⟩
 change wpList _ _ _ _ _ _
 refine GZ Di sv9 rfl rfl rfl rfl rfl rfl rfl rfl ow9 (hx.1) (Dk _) (by omega) fun a10 ao10 cap10 w10 owx10 Bk Bt=>?_
 replace An:=AF Bk.1 An (fun e=>AAs _ e.symm rfl)
 replace Ez:=AF Bk.1 (AC g9 Ez) (fun e=>AAt _ e.symm rfl)
 replace HG:=Bu (AA HG g9) Bk.1 fun k e=>So k (e)
 rw[←DS] at owx10
 refine AD ⟨⟨An,AOW⟩,?_⟩
 change wpList _ _ _ _ _ _
 refine BA Bt Tryz.func35 (by kernel_rfl) r6 (Jb (AFv (dom:=285) (by decide) rfl hc (Xi (N7 a) bx) (by rw[List.length_append];omega) (AHv (Sl.of_own owx10)))) fun a11 v11 w11 hR11 CQ=>?_
 obtain⟨rfl,g11⟩:=hR11
 replace An:=AC g11 An
 replace Ez:=AC g11 Ez
 refine AD ⟨⟨An,AOW⟩,?_⟩
 change wpList _ _ _ _ _ _
 refine Aq CQ r7 (Bb ((MI c a x)) (CE c a x).1) Ez (EM (CE c a x)) fun w12 g12 h12=>?_
 replace An:=Aa g12 An (Ne.symm MN)
 replace HG:=AE (AA HG g11) g12 O9
 replace Ez:=h12
 refine AD ⟨⟨An,AOW⟩,?_⟩
 refine NoPanic.normal ?_
 have Cx:Sv _ _ [_,_] _:=CQ.dl [12,11,9,10,8,7,3,1,2]
 refine k4 _ _ ?_
 refine AOT ?_
 repeat refine AM ?_
 refine Ap (fn:=Tryz.f48) Cx (EE (p:=6) Tryz.results48 Cx rfl rfl (Bb ((MI c a x)) (CE c a x).1) Ez) ?_
 exact⟨rfl,HG⟩
end Go.Proofs.YtbfjfnbcmojpiaaGreat
