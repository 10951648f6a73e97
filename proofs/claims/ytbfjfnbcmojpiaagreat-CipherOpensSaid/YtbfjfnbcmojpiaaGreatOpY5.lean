import Derived.Test.YtbfjfnbcmojpiaaGreatOpY3
import Derived.Test.YtbfjfnbcmojpiaaGreatOpR1
set_option linter.unusedSimpArgs false
set_option linter.unusedVariables false
set_option maxRecDepth 100000
set_option maxHeartbeats 4000000
namespace Go.Proofs.YtbfjfnbcmojpiaaGreat
open Go.RowKit Go.Shelf
theorem I1 {P:Program} {f:Nat} {args:Array Value} {w:World} {v:Value} (h:Calls P f args w fun e w'=>e=.returned v∧w.grownBy w' none):Calls P f args w fun e w'=>∃v',e=.returned v'∧(v'=v∧w.grownBy w' none):=h.mono fun e w' ⟨h1,h2⟩=>⟨v,h1,rfl,h2⟩
section
variable {P:Program} {Q:Exit→Act→World→Prop} {ops:Array Oper} {rest:List Oper} {o:Oper} {a:Act} {w:World} {n:Nat} {D:List Deferred} {K:List (Nat×Value)}
theorem AAf (sv:Sv n D K a) (hgd:o.guard=none) {d:Nat} {t e:TypeId} (ho:o.op=.buildSlice t 0 #[]) (hd:o.dst=some d) (hdn:decide (d<n)=true)
  (hr:∀W:World,(Instr.buildSlice t 0 #[]).run P W=.ok (.slice (some ⟨W.heap.size,0,none⟩) 0 0) (W.alloc (.cells #[] e)))
  (h:∀a' w' b,b=w.heap.size→w.grownBy w' none→w'.heap.size=b+1→w'.heap[b]?=some (.cells #[] e (0,0))→Sv n D ((d,.slice (some ⟨b,0,none⟩) 0 0)::Iw d K) a'→wpList P ops Q rest a' w'):wpList P ops Q (o::rest) a w:=by
 refine L3 (w':=w.alloc (.cells #[] e)) sv hgd hd hdn ?_ fun a' sv'=>h a' _ _ rfl (World.grownBy_alloc _ _ _) (by simp) (Am rfl) sv'
 simp only[execOp,ho,List.map_toArray,List.map_nil,Sem.run_bind,Sem.run_pure,Result.andThen_ok,hr]
theorem WM {B:Nat} {t:TypeId} {sz:Nat} (h:w.heap[B]?=some (.cells #[] t (0,0))):Own w t sz (.slice (some ⟨B,0,none⟩) 0 0) 0 []:=
 ⟨by simp,.inr ⟨B,0,_,rfl,Nat.zero_le _,h,Nat.le_refl _,Nat.zero_le _,by simp,by simp⟩⟩
theorem Jn (sv:Sv n D K a) (hgd:o.guard=none) {d:Nat} {t e:TypeId} {x:Operand} {u:Value} {cs:List Value} (ho:o.op=.buildSlice t 1 #[(0,x)]) (hd:o.dst=some d) (hdn:decide (d<n)=true) (hx:Ly K x=true) (hxv:Lz K x=u)
  (hr:∀W:World,(Instr.buildSlice t 1 #[(0,u)]).run P W=.ok (.slice (some ⟨W.heap.size,0,none⟩) 1 1) (W.alloc (.cells cs.toArray e)))
  (h:∀a' w' b,b=w.heap.size→w.grownBy w' none→w'.heap.size=b+1→w'.heap[b]?=some (.cells cs.toArray e (0,0))→Sv n D ((d,.slice (some ⟨b,0,none⟩) 1 1)::Iw d K) a'→wpList P ops Q rest a' w'):wpList P ops Q (o::rest) a w:=by
 refine L3 (w':=w.alloc (.cells cs.toArray e)) sv hgd hd hdn ?_ fun a' sv'=>h a' _ _ rfl (World.grownBy_alloc _ _ _) (by simp) (Am rfl) sv'
 have e:=sv.ev hx hxv
 simp only[execOp,ho,e,List.map_toArray,List.map_cons,List.map_nil,Sem.run_bind,Sem.run_pure,Result.andThen_ok,hr]
theorem AAg (sv:Sv n D K a) (hgd:o.guard=none) {d:Nat} {t e:TypeId} {x y:Operand} {u v:Value} {cs:List Value} (ho:o.op=.buildSlice t 2 #[(0,x),(1,y)]) (hd:o.dst=some d) (hdn:decide (d<n)=true) (hx:Ly K x=true) (hxv:Lz K x=u) (hy:Ly K y=true) (hyv:Lz K y=v)
  (hr:∀W:World,(Instr.buildSlice t 2 #[(0,u),(1,v)]).run P W=.ok (.slice (some ⟨W.heap.size,0,none⟩) 2 2) (W.alloc (.cells cs.toArray e)))
  (h:∀a' w' b,b=w.heap.size→w.grownBy w' none→w'.heap.size=b+1→w'.heap[b]?=some (.cells cs.toArray e (0,0))→Sv n D ((d,.slice (some ⟨b,0,none⟩) 2 2)::Iw d K) a'→wpList P ops Q rest a' w'):wpList P ops Q (o::rest) a w:=by
 refine L3 (w':=w.alloc (.cells cs.toArray e)) sv hgd hd hdn ?_ fun a' sv'=>h a' _ _ rfl (World.grownBy_alloc _ _ _) (by simp) (Am rfl) sv'
 have e1:=sv.ev hx hxv
 have e2:=sv.ev hy hyv
 simp only[execOp,ho,e1,e2,List.map_toArray,List.map_cons,List.map_nil,Sem.run_bind,Sem.run_pure,Result.andThen_ok,hr]
end
section
variable {Q:Exit→Act→World→Prop} {ops:Array Oper} {rest:List Oper} {o:Oper} {a:Act} {w:World} {n:Nat} {D:List Deferred} {K:List (Nat×Value)}
theorem AFt (m:Nat):madeCells (Value.int .u8 0).cells (m*1)=(bv (zs m)).toArray:=by
 apply Array.ext'
 rw[PC (z:=.int .u8 0) (sz:=1) rfl (by decide)]
 induction m with
 | zero=>rfl
 | succ m ih=>rw[List.replicate_succ,List.flatMap_cons,ih];rfl
theorem AAh {m:Nat} (sv:Sv n D K a) (hgd:o.guard=none) {d:Nat} {x:Operand} (ho:o.op=.makeSlice 29 x x) (hd:o.dst=some d) (hdn:decide (d<n)=true) (hx:Ly K x=true) (hxv:Lz K x=.int .i64 (m:Int)) (hm:m≤1000000)
  (h:∀a' w' b,b=w.heap.size→w.grownBy w' none→w'.heap.size=b+1→w'.heap[b]?=some (.cells (bv (zs m)).toArray 5 (0,0))→Sv n D ((d,.slice (some ⟨b,0,none⟩) m m)::Iw d K) a'→wpList Tryz.prog ops Q rest a' w'):wpList Tryz.prog ops Q (o::rest) a w:=by
 refine L3 (w':=w.alloc (.cells (bv (zs m)).toArray 5)) sv hgd hd hdn ?_ fun a' sv'=>h a' _ _ rfl (World.grownBy_alloc _ _ _) (by simp) (Am rfl) sv'
 have e:=sv.ev hx hxv
 obtain⟨i,hi,hz,hs,hby⟩:=DR.inf
 have hb:=DR.bnd
 have hbytes:(i.bytes:Int)*(m:Int)≤281474976710656:=by rw[hby];omega
 have hr:=run_make (P:=Tryz.prog) w 29 5 i (.int .u8 0) DR.und hi hz .i64 .i64 (m:Int) (m:Int) (by omega) (by omega) hbytes (by omega)
 rw[hs,Int.toNat_natCast,AFt] at hr
 simp only[execOp,ho,e,Sem.run_bind,Sem.run_pure,Result.andThen_ok,hr]
theorem AAi {B n:Nat} {xs:List Value} {t:TypeId} (h:w.heap[B]?=some (.cells xs.toArray t (0,0))) (hl:xs.length=n) (hn:n≤1000000):Own w t 1 (.slice (some ⟨B,0,none⟩) n n) n xs:=by
 subst hl
 refine⟨by rw[Nat.mul_one],.inr ⟨B,xs.length,_,rfl,Nat.zero_le _,h,Nat.le_refl _,by unfold maxLen;omega,by simp,?_⟩⟩
 rw[Nat.mul_one,List.take_of_length_le (by simp)]
end
theorem AHi (n:Nat):(zs n).length=n:=List.length_replicate
theorem Tf (w:World):CallsD Tryz.prog 138 #[] .returning w fun e u' w'=>e=.returned (.tuple #[])∧u'=.returning∧w'=w:=by
 refine callsD_of_wpS Tryz.func138 rfl fun c₀ cs hu=>?_
 apply wpS_region
 simp[wpOpsS,go_sem,recoverD,hu,Tryz.ntmps138]
 cases c₀
 simp_all [bodyPostS,results,Tryz.results138]
theorem Tg (w:World):CallsD Tryz.prog 98 #[] .returning w fun e u' w'=>e=.returned (.tuple #[])∧u'=.returning∧w'=w:=by
 refine callsD_of_wpS Tryz.func98 rfl fun c₀ cs hu=>?_
 apply wpS_region
 simp[wpOpsS,go_sem,recoverD,hu,Tryz.ntmps98]
 cases c₀
 simp_all [bodyPostS,results,Tryz.results98]
theorem PY (p q:Value) (w:World):CallsD Tryz.prog 139 #[p,q] .returning w fun e u' w'=>e=.returned (.tuple #[])∧u'=.returning∧w'=w:=by
 refine callsD_of_wpS Tryz.func139 rfl fun c₀ cs hu=>?_
 apply wpS_seq
 apply wpS_region
 simp[wpOpsS,go_sem,recoverD,hu,Tryz.ntmps139,Exit.thenS]
 refine wpS_cond (t:=false) (by simp[Act.eval,Array.replicate]) ?_
 simp only[Bool.false_eq_true,if_false]
 refine wpS_of_wp (AKU ?_)
 cases c₀
 simp_all [bodyPostS,results,Tryz.results139]
theorem Nt {P:Program} {f:Nat} {args:Array Value} {w:World} {xs:List Nat} (h:Calls P f args w fun e w'=>NwR w w' xs e):Calls P f args w fun e w'=>∃v,e=.returned v∧(Own w' 5 1 v xs.length (bv xs)∧Fresh w w' v):=
 h.mono fun e w' ⟨v,h1,h2,ao,cap,h3,h4,h5⟩=>⟨v,h1,h3▸h4,⟨by simpa [M5,Value.ownBlock] using h2,fun k hk=>.inr (h5 k (h3▸hk))⟩⟩
theorem AFu {w:World} {B:Nat} {t:TypeId} {a:Int} (hb:w.heap[B]?=some (.cells [.int .i64 a].toArray t (0,0))) (h:MM a):Calls Tryz.prog 132 #[.slice none 0 0,.slice (some ⟨B,0,none⟩) 1 1] w fun e w'=>∃v,e=.returned v∧(Own w' 5 1 v (enc a).length (bv (enc a))∧Fresh w w' v):=by
 have:=Ru M5 (.slice (some ⟨B,0,none⟩) 1 1) [] [a] w (Own.nil _ _ _) (Sr hb ⟨rfl,by decide⟩) (.inr (by simp[M5,Value.ownBlock])) (fun n hn=>by simp at hn;subst hn;exact h) (by simp)
 simpa using this
theorem AGh {w:World} {v:Value} {ys:List Nat} (h:Sl w 1 v ys.length (bv ys)) (hm:0<ys.length) (hl:ys.length≤3000000):Calls Tryz.prog 99 #[.slice none 0 0,v] w fun e w'=>∃v,e=.returned v∧(Own w' 5 1 v ys.length (bv ys)∧Fresh w w' v):=by
 have:=U0 M5 v [] ys w (Sl.nil w 1) h hm (by simp;omega)
 simpa using this
theorem AAj (a:Int):0<(enc a).length:=by
 unfold enc
 by_cases h:Zx a<128
 · rw[F9 h];simp
 · rw[JQ h];simp
theorem ADd (x:V):0<(CD x).length:=by
 unfold CD QN
 rw[List.length_append]
 have:=AAj x.clean.kind
 omega
theorem AIp (a:Int) (W:World):(Instr.buildSlice 74 1 #[(0,.int .i64 a)]).run Tryz.prog W=.ok (.slice (some ⟨W.heap.size,0,none⟩) 1 1) (W.alloc (.cells [.int .i64 a].toArray 2)):=by kernel_rfl
theorem AIq (ao bo:Option Addr) (n m c d:Nat) (W:World):(Instr.buildSlice 151 2 #[(0,.slice ao n c),(1,.slice bo m d)]).run Tryz.prog W=.ok (.slice (some ⟨W.heap.size,0,none⟩) 2 2) (W.alloc (.cells [.slice ao n c,.slice bo m d].toArray 29)):=by kernel_rfl
theorem AFv {w:World} (x:V):Calls Tryz.prog 100 #[.slice none 0 0,B7 x] w fun e w'=>∃v,e=.returned v∧(Own w' 5 1 v (CD x).length (bv (CD x))∧Fresh w w' v):=by
 have:=ACW M5 x [] w (Own.nil _ _ _) (by simp)
 rw[List.nil_append] at this
 exact this
theorem PZ (n:Int) (hn:MM n) (w:World) :
  Calls Tryz.prog 103 #[.slice none 0 0,.int .i64 n] w fun e w'=>NwR w w' (enc n) e:=by
 have hl:=EK hn.1 hn.2
 refine Dy Tryz.func103 rfl Tryz.ntmps103 rfl fun a0 sv0=>?_
 have HG:=World.grownBy.refl w none
 replace sv0:Sv 10 [] [(0,.slice none 0 0),(1,.int .i64 n)] a0:=sv0
 refine AKQ fun K1 k1=>?_
 refine AKP ?_
 refine AR (v:=.slice none 0 0) sv0 r6 fun a2 sv2=>?_
 refine AE ?_
 refine k1 _ _ ?_
 refine AKQ fun K3 k3=>?_
 refine AKP ?_
 refine Eo sv2 rfl (dd:={ target:=.fn (.func 138) #[],args:=#[] }) rfl (by simp[execOp,resolve,Deferred.ofValue];try rfl) fun a4 sv4=>?_
 refine AE ?_
 refine k3 _ _ ?_
 refine AKQ fun K5 k5=>?_
 refine AKP ?_
 refine AJ sv4 2 [(5,.slice none 0 0),(6,.int .i64 n)]
  ⟨ym r5,ym r5,AKW⟩ fun a6 w6 g6 sv6=>?_
 refine Jn (cs:=[.int .i64 n]) (e:=2) sv6 rfl rfl rfl rfl rfl rfl (AIp n) fun a7 w7 AKJ AJL g7 z7 AIr sv7=>?_
 refine BD sv7 Tryz.func132 (by kernel_rfl) r6 (AFu AIr hn) fun a8 v8 w8 hR8 sv8=>?_
 obtain⟨ao8,cap8,rfl,_⟩:=(Sl.of_own hR8.1).shape
 obtain⟨ow8,fr8⟩:=hR8
 replace fr8:=C7 fr8
 have g8:=fr8.1
 replace fr8:=fr8.2
 replace HG:=AA (AA (AA HG g6) g7) g8
 refine BD sv8 Tryz.func99 (by kernel_rfl) r6 (AGh (Sl.of_own ow8) (AAj n) (by omega)) fun a9 v9 w9 hR9 sv9=>?_
 obtain⟨ao9,cap9,rfl,_⟩:=(Sl.of_own hR9.1).shape
 obtain⟨ow9,fr9⟩:=hR9
 replace fr9:=C7 fr9
 have g9:=fr9.1
 replace fr9:=fr9.2
 have Pa:=JG HG fr9
 replace HG:=AA HG g9
 refine AR (v:=.slice ao9 ((enc n)).length cap9) sv9 r6 fun a10 BF=>?_
 have Bv:Sv _ _ [_] _:=BF.dl [9,8,7,5,6,0,1]
 refine AE ?_
 refine k5 _ _ ?_
 refine AKT ?_
 repeat refine AK ?_
 refine Bj (fn:=Tryz.f103) Bv (BC (p:=4) Tryz.results103 Bv rfl rfl) (CH Tryz.func138 (by kernel_rfl) rfl _ _) (Tf _) ?_
 exact⟨_,rfl,HG,_,_,rfl,ow9,Pa⟩
theorem ZT (x:V) (w:World) :
  Calls Tryz.prog 53 #[.slice none 0 0,B7 x] w fun e w'=>NwR w w' (CD x) e:=by
 have hl:=Hy x
 refine Dy Tryz.func53 rfl Tryz.ntmps53 rfl fun a0 sv0=>?_
 have HG:=World.grownBy.refl w none
 replace sv0:Sv 9 [] [(0,.slice none 0 0),(1,B7 x)] a0:=sv0
 refine AKQ fun K1 k1=>?_
 refine AKP ?_
 refine Be sv0 r6 (Ck x) fun a2 w2 Me Jh g2 z2 Az sv2=>?_
 refine AR (v:=.slice none 0 0) sv2 r6 fun a3 sv3=>?_
 refine AE ?_
 refine k1 _ _ ?_
 refine AKQ fun K4 k4=>?_
 refine AKP ?_
 refine Eo sv3 rfl (dd:={ target:=.fn (.func 98) #[],args:=#[] }) rfl (by simp[execOp,resolve,Deferred.ofValue];try rfl) fun a5 sv5=>?_
 refine AE ?_
 refine k4 _ _ ?_
 refine AKQ fun K6 k6=>?_
 refine AKP ?_
 refine AJ sv5 2 [(5,.slice none 0 0),(6,B7 x)]
  ⟨ym r5,yl r6 (Ck x) Az,AKW⟩ fun a7 w7 g7 sv7=>?_
 refine BD sv7 Tryz.func100 (by kernel_rfl) r6 (AFv x) fun a8 v8 w8 hR8 sv8=>?_
 obtain⟨ao8,cap8,rfl,_⟩:=(Sl.of_own hR8.1).shape
 obtain⟨ow8,fr8⟩:=hR8
 replace fr8:=C7 fr8
 have g8:=fr8.1
 replace fr8:=fr8.2
 replace HG:=AA (AA (AA HG g2) g7) g8
 refine BD sv8 Tryz.func99 (by kernel_rfl) r6 (AGh (Sl.of_own ow8) (ADd x) (by omega)) fun a9 v9 w9 hR9 sv9=>?_
 obtain⟨ao9,cap9,rfl,_⟩:=(Sl.of_own hR9.1).shape
 obtain⟨ow9,fr9⟩:=hR9
 replace fr9:=C7 fr9
 have g9:=fr9.1
 replace fr9:=fr9.2
 have Pa:=JG HG fr9
 replace HG:=AA HG g9
 refine AR (v:=.slice ao9 ((CD x)).length cap9) sv9 r6 fun a10 BF=>?_
 have Bv:Sv _ _ [_,_] _:=BF.dl [8,7,5,6,3,0]
 refine AE ?_
 refine k6 _ _ ?_
 refine AKT ?_
 repeat refine AK ?_
 refine Bj (fn:=Tryz.f53) Bv (BC (p:=4) Tryz.results53 Bv rfl rfl) (CH Tryz.func98 (by kernel_rfl) rfl _ _) (Tg _) ?_
 exact⟨_,rfl,HG,_,_,rfl,ow9,Pa⟩
def SlZ (w:World) (v:Value) (n:Nat) (xs:List Value):Prop:=Sl w 1 v n xs
def fpZ (n:Nat) (v:Value) (k:Nat):Prop:=0<n∧Ba v k
section
variable {w w':World} {v:Value} {n:Nat} {xs:List Value}
theorem SlZ.kn (h:SlZ w v n xs) (g:w.grownBy w' none):SlZ w' v n xs:=Sl.kn h g
theorem SlZ.lt (h:SlZ w v n xs):∀k,fpZ n v k→k<w.heap.size:=by
 rintro k ⟨h0,hk⟩
 obtain⟨hl,ao,cap,rfl,h1,h2,h3,h4⟩:=h
 cases ao with
 | none=>cases hk
 | some a =>
  obtain rfl:a.block=k:=Option.some.inj hk
  obtain⟨u,hu⟩:∃u,xs[0]?=some u:=⟨_,List.getElem?_eq_getElem (by omega)⟩
  have hb:=(h4 a rfl).2 0 u hu
  have:=AKR hb
  exact this
theorem SlZ.offR (h:SlZ w v n xs) {row:Option Nat} (g:w.grownBy w' row) (hb:∀k,fpZ n v k→row≠some k):SlZ w' v n xs:=by
 rcases Nat.eq_zero_or_pos n with h0|h0
 · subst h0
   obtain⟨hl,ao,cap,e,h1,h2,h3,h4⟩:=h
   obtain rfl:xs=[]:=List.eq_nil_of_length_eq_zero (by omega)
   exact⟨hl,ao,cap,e,h1,h2,h3,fun a ha=>⟨fun h=>absurd h (by omega),fun j u hu=>by simp at hu⟩⟩
 · exact Sl.offR h g fun k hk=>hb k ⟨h0,hk⟩
end
def WN (c:List Nat) (n:Nat):List Nat:=sq (GB (BitVec.ofNat 64 284) c) n
theorem Th (c:List Nat) (n:Nat):(WN c n).length=n:=Lp _ _
theorem ADe (c:List Nat) (n:Nat):By (WN c n):=fun x hx=>ACa _ _ x hx
theorem LG (b c:List Nat):(IK b c).length=b.length:=KX (by rw[Lp];omega)
theorem NJ {b:List Nat} (c:List Nat) (h:By b):By (IK b c):=AAa h fun x hx=>ACa _ _ x hx
theorem ADf {w:World} {dom:Nat} (hd:dom<1000) {c:Int} (hc:c=(dom:Int)) {l:List Nat} {s:Value} (hb:By l) (hl:l.length≤1000000) (h:Sl w 1 s l.length (bv l)):Calls Tryz.prog 136 #[.int .u64 c,s] w fun e w'=>e=.returned (JP (GB (BitVec.ofNat 64 dom) l))∧w.grownBy w' none:=by
 have e:c=wi (BitVec.ofNat 64 dom):=by rw[hc,←JS,IntKind.wrap_u64];omega
 rw[e]
 exact Nh _ l hb (by omega) s w h
theorem ABq {w:World} {dom:Nat} (hd:dom<1000) {c:Int} (hc:c=(dom:Int)) {l:List Nat} {s:Value} (hb:By l) (hl:l.length≤1000000) (h:Sl w 1 s l.length (bv l)):Calls Tryz.prog 80 #[.int .u64 c,s] w fun e w'=>e=.returned (JP (GB (BitVec.ofNat 64 dom) l))∧w.grownBy w' none:=by
 have e:c=wi (BitVec.ofNat 64 dom):=by rw[hc,←JS,IntKind.wrap_u64];omega
 rw[e]
 exact MP _ l hb (by omega) s w h
theorem AGj {w:World} {dom:Nat} (hd:dom<1000) {c:Int} (hc:c=(dom:Int)) {l:List Nat} {s:Value} (hb:By l) (hl:l.length≤1000000) (h:Sl w 1 s l.length (bv l)):Calls Tryz.prog 101 #[.int .u64 c,s] w fun e w'=>e=.returned (AQ (Ng (BitVec.ofNat 64 dom) l))∧w.grownBy w' none:=by
 have e:c=wi (BitVec.ofNat 64 dom):=by rw[hc,←JS,IntKind.wrap_u64];omega
 rw[e]
 exact VF _ l hb (by omega) s w h
theorem ZU {w:World} {dom:Nat} (hd:dom<1000) {c:Int} (hc:c=(dom:Int)) {l:List Nat} {s:Value} (hb:By l) (hl:l.length≤1000000) (h:Sl w 1 s l.length (bv l)):Calls Tryz.prog 33 #[.int .u64 c,s] w fun e w'=>e=.returned (AQ (Ng (BitVec.ofNat 64 dom) l))∧w.grownBy w' none:=by
 have e:c=wi (BitVec.ofNat 64 dom):=by rw[hc,←JS,IntKind.wrap_u64];omega
 rw[e]
 exact Rx _ l hb (by omega) s w h
theorem ADg {w:World} {dom:Nat} (hd:dom<1000) {c:Int} (hc:c=(dom:Int)) {k l:List Nat} {s:Value} (hk:Dg k) (hb:By l) (hl:l.length≤1000000) (h:Sl w 1 s l.length (bv l)):Calls Tryz.prog 66 #[.int .u64 c,AQ k,s] w fun e w'=>e=.returned (AQ (LY (BitVec.ofNat 64 dom) k l))∧w.grownBy w' none:=by
 have e:c=wi (BitVec.ofNat 64 dom):=by rw[hc,←JS,IntKind.wrap_u64];omega
 rw[e]
 exact Lr _ k l hk.1 hk.2 hb (by omega) s w h
theorem ABr {w:World} {dom:Nat} (hd:dom<1000) {c:Int} (hc:c=(dom:Int)) {k l:List Nat} {s:Value} (hk:Dg k) (hb:By l) (hl:l.length≤1000000) (h:Sl w 1 s l.length (bv l)):Calls Tryz.prog 35 #[.int .u64 c,AQ k,s] w fun e w'=>e=.returned (AQ (LY (BitVec.ofNat 64 dom) k l))∧w.grownBy w' none:=by
 have e:c=wi (BitVec.ofNat 64 dom):=by rw[hc,←JS,IntKind.wrap_u64];omega
 rw[e]
 exact KG _ k l hk.1 hk.2 hb (by omega) s w h
theorem AFw {w:World} {d:List Nat} (hd:Dg d):Calls Tryz.prog 34 #[AQ d] w fun e w'=>∃v,e=.returned v∧(Own w' 5 1 v d.length (bv d)∧Fresh w w' v):=by
 rw[hd.1]
 exact Ls d hd.1 w
theorem AIs {w:World} {s:St} {n D:Nat} {T:TypeId} (hn:n≤1000000) (hD:w.heap[D]?=some (.cells (bv (zs n)).toArray T (0,0))):Calls Tryz.prog 135 #[JP s,.slice (some ⟨D,0,none⟩) n n] w fun e w'=>∃v,e=.returned v∧(v=.tuple #[]∧w.grownBy w' (some D)∧w'.heap[D]?=some (.cells (bv (sq s n)).toArray T (0,0))):=
 (MR s n (by omega) D T w hD).mono fun e w' ⟨h1,h2,h3⟩=>⟨_,h1,rfl,h2,h3⟩
theorem AHj {w:World} {s:St} {n:Nat} (hn:n≤1000000):Calls Tryz.prog 79 #[JP s,.int .i64 (n:Int)] w fun e w'=>∃v,e=.returned v∧(SlZ w' v n (bv (sq s n))∧w.grownBy w' none∧∀k,fpZ n v k→w.heap.size≤k):=
 (LV s n (by omega) w).mono fun e w' ⟨v,h1,h2,h3,h4⟩=>⟨v,h1,h2,h3,fun k hk=>h4 k hk.2⟩
theorem WO {w:World} {x y:List Nat} {s t:Value} {B:Nat} (hs:Sl w 1 s x.length (bv x)) (ht:Sl w 1 t y.length (bv y)) (hB:w.heap[B]?=some (.cells [s,t].toArray 29 (0,0))) (hx:x.length≤1000000) (hy:y.length≤1000000) :
  Calls Tryz.prog 102 #[.slice (some ⟨B,0,none⟩) 2 2] w fun e w'=>∃v,e=.returned v∧(Own w' 5 1 v (x++y).length (bv (x++y))∧Fresh w w' v):=by
 rw[List.length_append]
 exact Ni x y (by omega) (by omega) s t w hs ht B hB
theorem ADh {w w':World} {xs:List Nat} {n cap:Nat} {ao:Option Addr} (hl:xs.length=n) (HG:w.grownBy w' none) (ho:Own w' 5 1 (.slice ao n cap) n (bv xs)) (lo:∀k,Ba (.slice ao n cap) k→w.heap.size≤k) {v:Value} (hv:v=.slice ao n cap):NwR w w' xs (.returned v):=by
 subst hl hv
 exact⟨_,rfl,HG,_,_,rfl,ho,lo⟩
theorem ADi {x y:List Nat} {i a b:Nat} (ha:x[i]?=some a) (hb:y[i]?=some b):bv ((Gq x y).take i)++[.int .u8 ((a ^^^ b:Nat):Int)]=bv ((Gq x y).take (i+1)):=by
 have h:(Gq x y)[i]?=some (a ^^^ b):=by unfold Gq;rw[List.getElem?_zipWith,ha,hb]
 rw[List.take_add_one,h]
 simp[bv]
theorem AJb (a:Int) (W:World):(Instr.buildSlice 29 1 #[(0,.int .u8 a)]).run Tryz.prog W=.ok (.slice (some ⟨W.heap.size,0,none⟩) 1 1) (W.alloc (.cells [.int .u8 a].toArray 5)):=by kernel_rfl
theorem ADj {w:World} {v:Value} {a b:List Nat} (h:Sl w 1 v (a.length+b.length) (bv (a++b))):Sl w 1 v (a++b).length (bv (a++b)):=by rw[List.length_append];exact h
theorem Ti {x y:List Nat} (hx:By x) (hy:By y):By (x++y):=fun b hb=>(List.mem_append.1 hb).elim (hx b) (hy b)
theorem DM (a:Int) (b:List Nat):Dg (ML a b):=⟨GQ _ _,M9 _ _⟩
theorem Cm (c:List Nat) (a:Int) (b:List Nat):Dg (LS c a b):=⟨GQ _ _,M9 _ _⟩
theorem GJ (q:Bool) (ks:List (List Nat)):Dg (PT q ks):=⟨GQ _ _,M9 _ _⟩
theorem ADk {w:World} {b:Nat} {k:List Nat} (hk:Dg k) (h:w.rangeAt b 0 (bv k)):Sl w 1 (.slice (some ⟨b,0,none⟩) 32 32) k.length (bv k):=by
 rw[hk.1]
 refine⟨by rw[AO,hk.1],_,_,rfl,Nat.le_refl _,by unfold maxLen;omega,fun h=>(by cases h),fun ad had=>?_⟩
 obtain rfl:=Option.some.inj had
 exact⟨fun _=>rfl,fun j u hu=>by simpa using h j u hu⟩
theorem WP (q:List Nat) (hq:Dg q) (n:Nat) (hn:n≤4096) (w:World) :
  Calls Tryz.prog 105 #[.int .u64 284,AQ q,.int .i64 ((n:Int))] w fun e w'=>∃v,e=.returned (.tuple #[v,.int .i64 0])∧w.grownBy w' none∧(Sp.row w.heap.size 5 1 n (bv (WN q n))).on w' v:=by
 refine Dy Tryz.func105 rfl Tryz.ntmps105 rfl fun a0 sv0=>?_
 have HG:=World.grownBy.refl w none
 replace sv0:Sv 24 [] [(0,.int .u64 284),(1,AQ q),(2,.int .i64 ((n:Int)))] a0:=sv0
 refine AKQ fun K1 k1=>?_
 refine AKP ?_
 refine Be sv0 r6 (Bb q hq.1) fun a2 w2 JI GY g2 z2 BG sv2=>?_
 replace HG:=AA HG g2
 refine BB (T:=29) (Z:=[.slice none 0 0]) sv2 rfl rfl rfl (fun a w=>by kernel_rfl) fun a3 w3 AHk Jo g3 z3 EI sv3=>?_
 have Ml:=Bq HG Jo
 replace HG:=AA HG g3
 refine BB (T:=38) (Z:=[.int .i64 0]) sv3 rfl rfl rfl (fun a w=>by kernel_rfl) fun a4 w4 MG Ga g4 z4 Ii sv4=>?_
 have Mm:=As EI Ga
 have Mn:=Bq HG Ga
 refine AE ?_
 refine k1 _ _ ?_
 refine AKQ fun K5 k5=>?_
 refine AKP ?_
 refine Gm sv4 rfl rfl rfl rfl rfl rfl fun a6 sv6=>?_
 refine Eo sv6 rfl (dd:={ target:=.fn (.func 139) #[pt AHk,pt MG],args:=#[] }) rfl (by have e1:=sv6.ev (x:=.tmp 9) rfl rfl;simp[execOp,resolve,Deferred.ofValue,e1];try rfl) fun a7 sv7=>?_
 refine AE ?_
 refine k5 _ _ ?_
 refine AKQ fun K8 k8=>?_
 refine AKQ fun K9 k9=>?_
 refine AKP ?_
 refine AJ sv7 6 [(10,.int .i64 ((n:Int))),(11,.bool false),(12,.bool false),(13,.int .i64 ((n:Int))),(14,.bool false),(15,.bool false)]
  ⟨ym r5,Cp r6 (fun _=>BJ (decide_eq_false (by omega))),ym r5,Ad rq8,Af rq9 (fun _=>Bl (decide_eq_false (by omega))),Aa rq9,AKW⟩ fun a10 w10 g10 BF=>?_
 refine AE ?_
 refine k9 _ _ ?_
 refine A2 BF rfl rfl ?_
 refine AKU ?_
 refine k8 _ _ ?_
 refine AKQ fun K11 k11=>?_
 refine AKP ?_
 refine AJ BF 1 [(16,.int .i64 ((n:Int)))]
  ⟨ym r5,AKW⟩ fun a12 w12 g12 Cq=>?_
 have AFx:=AA g10 g12
 replace EI:=AC AFx (AC g4 EI)
 replace Ii:=AC AFx Ii
 replace HG:=AA (AA HG g4) AFx
 refine AAh (m:=n) Cq rfl rfl rfl rfl rfl rfl (by omega) fun a13 w13 Pb NK g13 z13 Mo Cg=>?_
 have Kh:=As EI NK
 have Ki:=As Ii NK
 have SS:=Bq HG NK
 refine AR (v:=.slice ((some ⟨Pb,0,none⟩)) n n) Cg r6 fun a14 C6=>?_
 refine AE ?_
 refine k11 _ _ ?_
 refine AKQ fun K15 k15=>?_
 refine AKP ?_
 refine AJ C6 2 [(18,.int .u64 284),(19,.slice ((some ⟨JI,0,none⟩)) 32 32)]
  ⟨ym r5,Gl (l:=none) (u:=none) rfl rfl trivial (oy rfl rfl) trivial trivial (KP JI 0) (fun _=>rfl),AKW⟩ fun a16 w16 g16 Cr=>?_
 replace BG:=AC g16 (AC g13 (AC AFx (AC g4 (AC g3 BG))))
 refine BD Cr Tryz.func136 (by kernel_rfl) r6 (I1 (ADf (dom:=284) (by decide) rfl hq.2 (by rw[hq.1];decide) (ADk hq (Aj BG)))) fun a17 v17 w17 hR17 De=>?_
 obtain⟨rfl,g17⟩:=hR17
 have CQ:Sv _ _ [_,_,_,_,_,_,_,_,_,_,_,_,_,_,_] _:=De.dl [18,19,4,0]
 refine AJ CQ 1 [(21,.slice ((some ⟨Pb,0,none⟩)) n n)]
  ⟨ym r5,AKW⟩ fun a19 w19 g19 Cs=>?_
 replace Mo:=AC g19 (AC g17 (AC g16 Mo))
 refine BD Cs Tryz.func135 (by kernel_rfl) r6 (AIs (n:=n) (by omega) Mo) fun a20 v20 w20 hR20 DH=>?_
 obtain⟨rfl,g20,h20⟩:=hR20
 replace EI:=AZ g20 (AC g19 (AC g17 (AC g16 (AC g13 EI)))) (Ne.symm Kh)
 refine AE ?_
 refine k15 _ _ ?_
 refine AKQ fun K21 k21=>?_
 refine AKP ?_
 refine AJ DH 1 [(23,.slice ((some ⟨Pb,0,none⟩)) n n)]
  ⟨ym r5,AKW⟩ fun a22 w22 g22 Bu=>?_
 refine Av Bu r7 (Di (.slice ((some ⟨Pb,0,none⟩)) n n) rfl) (AC g22 EI) rfl fun w23 g23 h23=>?_
 replace Ii:=Ag g22 g23 (AZ g20 (AC g19 (AC g17 (AC g16 (AC g13 Ii)))) (Ne.symm Ki)) Mm
 refine Av Bu r7 (E9 0) Ii rfl fun w24 g24 h24=>?_
 replace EI:=AZ g24 h23 (Ne.symm Mm)
 replace Mo:=AZ g24 (Ag g22 g23 h20 Kh) Ki
 replace HG:=AD (AD (AA (AD (AA (AA (AA (AA HG g13) g16) g17) g19) g20 SS) g22) g23 Ml) g24 Mn
 replace Ii:=h24
 refine AE ?_
 refine k21 _ _ ?_
 refine AKT ?_
 repeat refine AK ?_
 have ho:=AAi (n:=n) Mo (by rw[AO];exact Th q n) (by omega)
 refine Bj (fn:=Tryz.f105) Bu (CC (p:=6) (q:=7) Tryz.results105 Bu rfl rfl rfl rfl (Di (.slice ((some ⟨Pb,0,none⟩)) n n) rfl) (E9 0) EI Ii) (CH Tryz.func139 (by kernel_rfl) rfl _ _) (PY _ _ _) ?_
 exact⟨_,rfl,HG,_,_,rfl,ho,fun k hk=>(Option.some.inj hk)▸SS⟩
theorem Tj (q:List Nat) (hq:Dg q) (n:Nat) (hn:n≤4096) (w:World) :
  Calls Tryz.prog 92 #[.int .u64 284,AQ q,.int .i64 ((n:Int))] w fun e w'=>∃v,e=.returned (.tuple #[v,.int .i64 0])∧w.grownBy w' none∧SlZ w' v n (bv (WN q n))∧∀k,fpZ n v k→w.heap.size≤k:=by
 refine BV Tryz.func92 rfl Tryz.ntmps92 rfl fun a0 sv0=>?_
 have HG:=World.grownBy.refl w none
 replace sv0:Sv 20 [] [(0,.int .u64 284),(1,AQ q),(2,.int .i64 ((n:Int)))] a0:=sv0
 refine AKQ fun K1 k1=>?_
 refine AKP ?_
 refine Be sv0 r6 (Bb q hq.1) fun a2 w2 JI GY g2 z2 BG sv2=>?_
 refine AR (v:=.slice none 0 0) sv2 r6 fun a3 sv3=>?_
 refine AR (v:=.int .i64 0) sv3 r6 fun a4 sv4=>?_
 refine AE ?_
 refine k1 _ _ ?_
 refine AKQ fun K5 k5=>?_
 refine AKQ fun K6 k6=>?_
 refine AKP ?_
 refine AJ sv4 6 [(8,.int .i64 ((n:Int))),(9,.bool false),(10,.bool false),(11,.int .i64 ((n:Int))),(12,.bool false),(13,.bool false)]
  ⟨ym r5,Cp r6 (fun _=>BJ (decide_eq_false (by omega))),ym r5,Ad rq8,Af rq9 (fun _=>Bl (decide_eq_false (by omega))),Aa rq9,AKW⟩ fun a7 w7 g7 sv7=>?_
 refine AE ?_
 refine k6 _ _ ?_
 refine A2 sv7 rfl rfl ?_
 refine AKU ?_
 refine k5 _ _ ?_
 refine AKQ fun K8 k8=>?_
 refine AKP ?_
 refine AJ sv7 2 [(14,.int .u64 284),(15,AQ q)]
  ⟨ym r5,yl r6 (Bb q hq.1) (AC g7 BG),AKW⟩ fun a9 w9 g9 sv9=>?_
 have gc9:=AA g7 g9
 refine BD sv9 Tryz.func34 (by kernel_rfl) r6 (AFw hq) fun a10 v10 w10 hR10 BF=>?_
 obtain⟨ao10,cap10,rfl,_⟩:=(Sl.of_own hR10.1).shape
 obtain⟨ow10,fr10⟩:=hR10
 replace fr10:=C7 fr10
 have g10:=fr10.1
 replace fr10:=fr10.2
 refine BD BF Tryz.func80 (by kernel_rfl) r6 (I1 (ABq (dom:=284) (by decide) rfl hq.2 (by rw[hq.1];decide) (Sl.of_own ow10))) fun a11 v11 w11 hR11 Bv=>?_
 obtain⟨rfl,g11⟩:=hR11
 have Cq:Sv _ _ [_,_,_,_,_,_,_,_,_,_,_] _:=Bv.dl [16,14,15,4,0]
 refine AJ Cq 1 [(18,.int .i64 ((n:Int)))]
  ⟨ym r5,AKW⟩ fun a13 w13 g13 Cg=>?_
 replace HG:=AA (AA (AA (AA (AA HG g2) gc9) g10) g11) g13
 refine BD Cg Tryz.func79 (by kernel_rfl) r6 (AHj (n:=n) (by omega)) fun a14 v14 w14 hR14 C6=>?_
 obtain⟨hz,g14,fz⟩:=hR14
 have lo_hz:=JG HG fz
 replace HG:=AA HG g14
 refine AR (v:=v14) C6 r6 fun a15 EE=>?_
 refine AR (v:=.int .i64 0) EE r6 fun a16 Cr=>?_
 refine AE ?_
 refine k8 _ _ ?_
 refine AKT ?_
 repeat refine AK ?_
 refine Aw (fn:=Tryz.f92) Cr (Mb (p:=6) (q:=7) Tryz.results92 Cr rfl rfl rfl rfl) ?_
 exact⟨_,rfl,HG,hz,lo_hz⟩
theorem AIt {w:World} {k:List Nat} (hk:Dg k) {n:Nat} (hn:n≤4096):Calls Tryz.prog 105 #[.int .u64 284,AQ k,.int .i64 (n:Int)] w fun e w'=>∃v,e=.returned v∧(∃ao cap,v=.tuple #[.slice ao n cap,.int .i64 0]∧w.grownBy w' none∧Own w' 5 1 (.slice ao n cap) n (bv (WN k n))∧∀b,Ba (.slice ao n cap) b→w.heap.size≤b):=
 (WP k hk n hn w).mono fun e w' ⟨v,h1,h2,ao,cap,h3,h4,h5⟩=>⟨_,h1,ao,cap,by rw[h3],h2,h4,h5⟩
theorem AIu {P:Program} {f:Nat} {args:Array Value} {w w1:World} {u:Value} {n:Nat} {xs:List Value} (h:Calls P f args w1 fun e w'=>e=.returned u∧w.grownBy w' none∧Own w' 5 1 u n xs):Calls P f args w1 fun e w'=>∃v,e=.returned v∧(v=u∧w.grownBy w' none∧Own w' 5 1 u n xs):=h.mono fun e w' ⟨h1,h2,h3⟩=>⟨_,h1,rfl,h2,h3⟩
theorem Jp (x:List Nat) (bx:By x) (lx:x.length≤4096) (ao:Option Addr) (cap:Nat) (c:List Nat) (hc:Dg c) (w:World) (hx:SlB w 1 (.slice ao x.length cap) x.length (bv x)) :
  Calls Tryz.prog 57 #[.slice ao x.length cap,AQ c] w fun e w'=>NwR w w' (IK x c) e:=by
 refine BV Tryz.func57 rfl Tryz.ntmps57 rfl fun a0 sv0=>?_
 have HG:=World.grownBy.refl w none
 replace sv0:Sv 20 [] [(0,.slice ao x.length cap),(1,AQ c)] a0:=sv0
 refine AKQ fun K1 k1=>?_
 refine AKP ?_
 refine Be sv0 r6 (Bb c hc.1) fun a2 w2 Me Jh g2 z2 Az sv2=>?_
 refine AR (v:=.slice none 0 0) sv2 r6 fun a3 sv3=>?_
 refine AE ?_
 refine k1 _ _ ?_
 refine AKQ fun K4 k4=>?_
 refine AKP ?_
 refine AJ sv3 3 [(8,AQ c),(9,.slice ao x.length cap),(10,.int .i64 ((x.length:Nat)))]
  ⟨yl r6 (Bb c hc.1) Az,ym r5,Au (Tryz.underlying29) rfl rfl trivial (oy rfl rfl) (fun _=>rfl),AKW⟩ fun a5 w5 g5 sv5=>?_
 refine BD sv5 Tryz.func105 (by kernel_rfl) r6 (AIt hc (n:=x.length) lx) fun a6 v6 w6 hR6 sv6=>?_
 obtain⟨ao6,cap6,rfl,g6,hs,fs⟩:=hR6
 have sv7:Sv _ _ [_,_,_,_] _:=sv6.dl [8,9,10,3]
 refine AJ sv7 3 [(7,.tuple #[.slice ao6 x.length cap6,.int .i64 0]),(12,.slice ao6 x.length cap6),(13,.int .i64 0)]
  ⟨ym r5,BZ rq4 (fun _ _ h=>⟨_,_,h,rfl,rfl⟩),BZ rq4 (fun _ _ h=>⟨_,_,h,rfl,rfl⟩),AKW⟩ fun a8 w8 g8 sv8=>?_
 refine AR (v:=.slice ao6 x.length cap6) sv8 r6 fun a9 sv9=>?_
 refine AR (v:=.int .i64 0) sv9 r6 fun a10 BF=>?_
 have Bv:Sv _ _ [_,_,_,_] _:=BF.dl [6,7,12,13,11]
 refine AE ?_
 refine k4 _ _ ?_
 refine AKQ fun K12 k12=>?_
 refine AKP ?_
 refine AJ Bv 2 [(14,.slice ao x.length cap),(15,.int .i64 ((x.length:Nat)))]
  ⟨ym r5,Au (Tryz.underlying29) rfl rfl trivial (oy rfl rfl) (fun _=>rfl),AKW⟩ fun a13 w13 g13 Cg=>?_
 have WQ:=AA g8 g13
 replace Az:=AC WQ (AC g6 (AC g5 Az))
 replace hx:=(((hx.kn g2).kn g5).kn g6).kn WQ
 replace hs:=hs.kn WQ
 replace HG:=AA (AA (AA (AA HG g2) g5) g6) WQ
 refine AAh (m:=x.length) Cg rfl rfl rfl rfl rfl rfl (by omega) fun a14 w14 Pc LH g14 z14 Oe C6=>?_
 have Pd:=As Az LH
 have ABs:=Bq HG LH
 have Tk:=Ay (hx.lt) LH
 have Tl:=Ay (Own.ltS hs) LH
 refine AJ C6 2 [(17,.slice ao x.length cap),(18,.slice ao6 x.length cap6)]
  ⟨ym r5,ym r5,AKW⟩ fun a15 w15 g15 EE=>?_
 replace Oe:=AC g15 Oe
 replace hx:=(hx.kn g14).kn g15
 replace hs:=(hs.kn g14).kn g15
 replace HG:=AA (AA HG g14) g15
 have om:=AAi (n:=x.length) Oe (by rw[AO,AHi]) (by omega)
 have AHl:∀k,Ba (.slice ((some ⟨Pc,0,none⟩)) x.length x.length) k→k≠Me:=fun k hk e=>Pd ((Option.some.inj hk).trans e)
 have ap_hx_om:∀k,Ba (.slice ao x.length cap) k→¬Ba (.slice ((some ⟨Pc,0,none⟩)) x.length x.length) k:=fun k hk e=>Tk k hk (Option.some.inj e).symm
 have ap_hs_om:∀k,Ba (.slice ao6 x.length cap6) k→¬Ba (.slice ((some ⟨Pc,0,none⟩)) x.length x.length) k:=fun k hk e=>Tl k hk (Option.some.inj e).symm
 have lo_om:∀k,Ba (.slice ((some ⟨Pc,0,none⟩)) x.length x.length) k→w.heap.size≤k:=fun k hk=>(Option.some.inj hk)▸ABs
 clear Oe
 rw[Mh] at om
 have hs2:=(Own.sb hs)
 refine BD EE Tryz.func106 (by kernel_rfl) r6 (AIu (ABm x (WN c x.length) (zs x.length) bx (ADe c _) x.length (by omega) rfl x.length (Th c _) (Nat.le_refl _) _ _ _ _ _ _ w _ HG om hx hs2 lo_om ap_hx_om ap_hs_om)) fun a16 v16 w16 hR16 Cr=>?_
 obtain⟨rfl,G,oo⟩:=hR16
 refine AR (v:=.slice ((some ⟨Pc,0,none⟩)) x.length x.length) Cr r6 fun a17 De=>?_
 have CQ:Sv _ _ [_,_,_] _:=De.dl [19,17,18,16,14,15,5]
 refine AE ?_
 refine k12 _ _ ?_
 refine AKT ?_
 repeat refine AK ?_
 refine Aw (fn:=Tryz.f57) CQ (BC (p:=4) Tryz.results57 CQ rfl rfl) ?_
 exact ADh (LG x c) G oo lo_om rfl
theorem ABt (x y:List Nat) (hbx:By x) (hby:By y) (hn63:x.length≤1000000) (m:Nat) (hym:y.length=m) (hny:x.length≤m) (ao bo:Option Addr) (ac bc:Nat) (w:World) (hx:SlB w 1 (.slice ao x.length ac) x.length (bv x)) (hy:SlZ w (.slice bo m bc) m (bv y)) :
   Calls Tryz.prog 93 #[.slice ao x.length ac,.slice bo m bc] w fun e w'=>NwR w w' (Gq x y) e:=by
 refine BV Tryz.func93 rfl Tryz.ntmps93 rfl fun a0 sv0=>?_
 have HG:=World.grownBy.refl w none
 replace sv0:Sv 27 [] [(0,.slice ao x.length ac),(1,.slice bo m bc)] a0:=sv0
 refine AKQ fun K1 k1=>?_
 refine AKP ?_
 refine AR (v:=.slice none 0 0) sv0 r6 fun a2 sv2=>?_
 refine AE ?_
 refine k1 _ _ ?_
 refine AKQ fun K3 k3=>?_
 refine AKP ?_
 refine AAf (e:=5) sv2 rfl rfl rfl rfl (fun W=>by kernel_rfl) fun a4 w4 MG Ga g4 z4 Ii sv4=>?_
 have Mn:=Bq HG Ga
 have ZV:=Ay (hx.lt) Ga
 have ZW:=Ay (SlZ.lt hy) Ga
 replace hx:=hx.kn g4
 replace hy:=SlZ.kn hy g4
 replace HG:=AA HG g4
 have ob:=WM (sz:=1) Ii
 have ap_hx_ob:∀k,Ba (.slice ao x.length ac) k→¬Ba (.slice ((some ⟨MG,0,none⟩)) 0 0) k:=fun k hk e=>ZV k hk (Option.some.inj e).symm
 have ap_hy_ob:∀k,fpZ m (.slice bo m bc) k→¬Ba (.slice ((some ⟨MG,0,none⟩)) 0 0) k:=fun k hk e=>ZW k hk (Option.some.inj e).symm
 have lo_ob:∀k,Ba (.slice ((some ⟨MG,0,none⟩)) 0 0) k→w.heap.size≤k:=fun k hk=>(Option.some.inj hk)▸Mn
 clear Ii
 refine AR (v:=.slice ((some ⟨MG,0,none⟩)) 0 0) sv4 r6 fun a5 sv5=>?_
 refine AE ?_
 refine k3 _ _ ?_
 refine AKQ fun K6 k6=>?_
 refine AKQ fun K7 k7=>?_
 refine AKP ?_
 refine AR (v:=.int .i64 0) sv5 r6 fun a8 sv8=>?_
 refine AE ?_
 refine k7 _ _ ?_
 refine BI fun Q9 x9 y9 rt9 o9=>?_
 refine wp_loop (fun a w'=>∃(i:Nat) (co:Option Addr) (cc:Nat),(i≤x.length)∧Sv 27 [] [(6,.int .i64 ((i:Int))),(5,.slice co i cc),(7,.slice ((some ⟨MG,0,none⟩)) 0 0),(4,.slice none 0 0),(0,.slice ao x.length ac),(1,.slice bo m bc)] a∧w.grownBy w' none∧SlB w' 1 (.slice ao x.length ac) x.length (bv x)∧SlZ w' (.slice bo m bc) m (bv y)∧Own w' 5 1 (.slice co i cc) i (bv (((Gq x y).take i)))∧(∀k,Ba (.slice ao x.length ac) k→¬Ba (.slice co i cc) k)∧(∀k,fpZ m (.slice bo m bc) k→¬Ba (.slice co i cc) k)∧(∀k,Ba (.slice co i cc) k→w.heap.size≤k)) (fun a _=>(x.length-intOf (a.tmps.getD 6 undef)).toNat) ⟨0,(some ⟨MG,0,none⟩),0,Nat.zero_le _,⟨sv8.1,sv8.2.1,sv8.2.2.1,sv8.2.2.2.1,sv8.2.2.2.2.1,sv8.2.2.2.2.2.1,sv8.2.2.2.2.2.2.1,sv8.2.2.2.2.2.2.2.1,AKW⟩,HG,hx,hy,ob,ap_hx_ob,ap_hy_ob,lo_ob⟩ fun a10 w10 hI10=>?_
 clear hx
 clear hy
 clear ob
 clear HG
 obtain⟨i,co,cc,hin,BF,HG,hx,hy,ob,ap_hx_ob,ap_hy_ob,lo_ob⟩:=hI10
 refine AKQ fun K11 k11=>?_
 refine AKQ fun K12 k12=>?_
 by_cases hi:i<x.length
 · have hiy:i<y.length:=by omega
   have hiz:i<m:=by omega
   obtain⟨xa,hx_xa⟩:∃zx,x[i]'hi=zx:=⟨_,rfl⟩
   obtain⟨xb,hx_xb⟩:∃zx,y[i]'hiy=zx:=⟨_,rfl⟩
   have hxa:x[i]?=some xa:=by rw[←hx_xa];exact List.getElem?_eq_getElem _
   have hxb:y[i]?=some xb:=by rw[←hx_xb];exact List.getElem?_eq_getElem _
   have ba:xa<256:=hbx _ (List.mem_of_getElem? hxa)
   have bb:xb<256:=hby _ (List.mem_of_getElem? hxb)
   refine AKP ?_
   refine AJ BF 4 [(8,.int .i64 ((i:Int))),(9,.slice ao x.length ac),(10,.int .i64 ((x.length:Nat))),(11,.bool true)]
    ⟨ym r5,ym r5,Au (Tryz.underlying29) rfl rfl trivial (oy rfl rfl) (fun _=>rfl),FG r7 (fun _=>BJ (by simp;omega)),AKW⟩ fun a13 w13 g13 Cg=>?_
   refine AE ?_
   refine k12 _ _ ?_
   refine Ar Cg rfl rfl ?_
   refine AKU ?_
   refine k11 _ _ ?_
   refine AKQ fun K14 k14=>?_
   refine BI fun Q15 x15 y15 rt15 o15=>?_
   have gd16:=CZ w13
   replace hx:=(hx.kn g13).kn gd16
   replace hy:=SlZ.kn (SlZ.kn hy g13) gd16
   refine wp_region_noPanic ?_
   refine FB (fun w'=>w'.rangeAt (bO ao) (oO ao+i*1) ([.int .u8 ((xa:Int))])∧w'.rangeAt (bO bo) (oO bo+i*1) ([.int .u8 ((xb:Int))])∧True) [0,1,2,3,4,5,6,7,8,9] [10,11,12] (by kernel_rfl) (by kernel_rfl) (fun _ _ d _ _ h=>by cases d<;>exact h) rfl (by kernel_rfl) ⟨(by have:=FK hx.1 hi;rw[hx_xa] at this;exact this),(by have:=FK hy hiy;rw[hx_xb] at this;exact this),AKW⟩ ?_
   simp only[List.filterMap_cons,List.filterMap_nil,List.getElem?_toArray,List.getElem?_cons_succ,List.getElem?_cons_zero]
   refine F7 (v:=.slice co i cc) w13.drew Cg rfl (by kernel_rfl) (Fm 5 14 (.inl rfl) rfl rfl trivial (fun _ _ h=>h)) fun a17 De=>?_
   refine F7 (v:=.slice ao x.length ac) w13.drew De rfl (by kernel_rfl) (Fm 0 15 (.inl rfl) rfl rfl trivial (fun _ _ h=>h)) fun a18 CQ=>?_
   refine F7 (v:=.int .i64 ((i:Int))) w13.drew CQ rfl (by kernel_rfl) (Fm 6 16 (.inl rfl) rfl rfl trivial (fun _ _ h=>h)) fun a19 Cs=>?_
   refine F7 (v:=pk ((bO ao)) (oO ao+i*1)) w13.drew Cs rfl (by kernel_rfl) (Vo rfl rfl trivial (oy rfl rfl) (oy rfl rfl) (fun w=>CU Tryz.underlying29 (by kernel_rfl) (hx.1) (by omega) (rfl) w) (fun _=>rfl)) fun a20 DH=>?_
   refine LD DH rfl rfl rfl rfl ⟨rfl,rfl⟩ (fun w hS=>AY (tyB ((xa:Int))) hS.1) fun a21 CK=>?_
   refine F7 (v:=.slice bo m bc) w13.drew CK rfl (by kernel_rfl) (Fm 1 19 (.inl rfl) rfl rfl trivial (fun _ _ h=>h)) fun a22 Bu=>?_
   refine F7 (v:=.int .i64 ((i:Int))) w13.drew Bu rfl (by kernel_rfl) (Fm 6 20 (.inl rfl) rfl rfl trivial (fun _ _ h=>h)) fun a23 Cl=>?_
   refine F7 (v:=pk ((bO bo)) (oO bo+i*1)) w13.drew Cl rfl (by kernel_rfl) (Vo rfl rfl trivial (oy rfl rfl) (oy rfl rfl) (fun w=>CU Tryz.underlying29 (by kernel_rfl) (hy) (by omega) (rfl) w) (fun _=>rfl)) fun a24 Du=>?_
   refine LD Du rfl rfl rfl rfl ⟨rfl,rfl⟩ (fun w hS=>AY (tyB ((xb:Int))) hS.2.1) fun a25 Bz=>?_
   refine F7 (v:=.int .u8 (((xa ^^^ xb:Nat):Int))) w13.drew Bz rfl (by kernel_rfl) (Yv rfl rfl trivial (oy rfl rfl) (oy rfl rfl) (fun _=>Oc ba bb) (fun _=>rfl)) fun a26 Cy=>?_
   have F6:Sv _ _ [_,_,_,_,_,_,_,_,_,_,_,_] _:=Cy.dl [22,21,20,19,18,17,16,15]
   change wpList _ _ _ _ _ _
   refine Jn (cs:=[.int .u8 ((xa ^^^ xb:Nat):Int)]) (e:=5) F6 rfl rfl rfl rfl rfl rfl (AJb _) fun a28 w28 AJc AIA g28 z28 AFy GI=>?_
   replace hx:=hx.kn g28
   replace hy:=SlZ.kn hy g28
   replace ob:=((ob.kn g13).kn gd16).kn g28
   replace HG:=AA (AA (AA HG g13) gd16) g28
   refine AE ⟨⟨(by have:=FK hx.1 hi;rw[hx_xa] at this;exact this),(by have:=FK hy hiy;rw[hx_xb] at this;exact this),AKW⟩,?_⟩
   change wpList _ _ _ _ _ _
   refine IC DR GI rfl rfl rfl rfl rfl rfl rfl rfl ob (Sr AFy ⟨rfl,by decide⟩) rfl (by omega) fun a29 ao29 cap29 w29 owx29 CG CY=>?_
   have WR:=Fl CG.2 ap_hx_ob (hx.lt)
   have WS:=Fl CG.2 ap_hy_ob (SlZ.lt hy)
   have Pe:=TB CG.2 lo_ob HG
   replace hx:=hx.offR CG.1 (fun k hk e=>ap_hx_ob k hk (e))
   replace hy:=SlZ.offR hy CG.1 (fun k hk e=>ap_hy_ob k hk (e))
   replace HG:=Ca HG CG.1 fun k e=>lo_ob k (e)
   rw[ADi hxa hxb] at owx29
   refine AE ⟨⟨(by have:=FK hx.1 hi;rw[hx_xa] at this;exact this),(by have:=FK hy hiy;rw[hx_xb] at this;exact this),AKW⟩,?_⟩
   change wpList _ _ _ _ _ _
   refine AR (v:=.slice ao29 (i+1) cap29) CY r6 fun a30 Dl=>?_
   refine AE ⟨⟨(by have:=FK hx.1 hi;rw[hx_xa] at this;exact this),(by have:=FK hy hiy;rw[hx_xb] at this;exact this),AKW⟩,?_⟩
   refine NoPanic.normal ?_
   have Fp:Sv _ _ [_,_,_,_,_,_,_,_,_,_] _:=Dl.dl [25,24,23,14]
   refine y15 _ _ ?_
   refine k14 _ _ ?_
   refine AKP ?_
   refine AJ Fp 2 [(12,.int .i64 ((i:Int))),(13,.int .i64 (((i+1:Nat):Int)))]
    ⟨ym r5,Cp r6 (fun _=>DL (by rw[Bc (by omega) (by omega)];omega)),AKW⟩ fun a32 w32 g32 Dm=>?_
   refine AR (v:=.int .i64 (((i+1:Nat):Int))) Dm r6 fun a33 Eu=>?_
   refine AE ?_
   replace hx:=hx.kn g32
   replace hy:=SlZ.kn hy g32
   replace owx29:=owx29.kn g32
   replace HG:=AA HG g32
   exact⟨⟨i+1,ao29,cap29,by omega,⟨Eu.1,Eu.2.1,Eu.2.2.1,Eu.2.2.2.2.2.1,(AL Eu).2.2.1,(AL Eu).2.2.2.1,(AL Eu).2.2.2.2.1,(AL Eu).2.2.2.2.2.1,AKW⟩,HG,hx,hy,owx29,WR,WS,Pe⟩,by rw[show _=_ from Eu.2.2.1,show _=_ from BF.2.2.1];simp[intOf];omega⟩
 · have hll:=KX (a:=x) (b:=y) (by omega)
   rw[List.take_of_length_le (by omega)] at ob
   refine AKP ?_
   refine AJ BF 4 [(8,.int .i64 ((i:Int))),(9,.slice ao x.length ac),(10,.int .i64 ((x.length:Nat))),(11,.bool false)]
    ⟨ym r5,ym r5,Au (Tryz.underlying29) rfl rfl trivial (oy rfl rfl) (fun _=>rfl),FG r7 (fun _=>BJ (by simp;omega)),AKW⟩ fun a34 w34 g34 FI=>?_
   refine AE ?_
   refine k12 _ _ ?_
   refine A2 FI rfl rfl ?_
   refine wp_exit ?_
   repeat refine CT ?_
   refine x9 _ _ ?_
   refine k6 _ _ ?_
   refine AKQ fun K35 k35=>?_
   refine AKP ?_
   refine AJ FI 1 [(26,.slice co i cc)]
    ⟨ym r5,AKW⟩ fun a36 w36 g36 Ep=>?_
   have Mc:=AA g34 g36
   refine AR (v:=.slice co i cc) Ep r6 fun a37 IE=>?_
   refine AE ?_
   refine k35 _ _ ?_
   replace ob:=ob.kn Mc
   replace HG:=AA HG Mc
   refine AKT ?_
   repeat refine AK ?_
   refine Aw (fn:=Tryz.f93) IE (BC (p:=4) Tryz.results93 IE rfl rfl) ?_
   exact ADh (by omega) HG ob lo_ob rfl
theorem AHm {w:World} {k:List Nat} (hk:Dg k) {n:Nat} (hn:n≤4096):Calls Tryz.prog 92 #[.int .u64 284,AQ k,.int .i64 (n:Int)] w fun e w'=>∃v,e=.returned v∧(∃ao cap,v=.tuple #[.slice ao n cap,.int .i64 0]∧w.grownBy w' none∧SlZ w' (.slice ao n cap) n (bv (WN k n))∧∀b,fpZ n (.slice ao n cap) b→w.heap.size≤b):=
 (Tj k hk n hn w).mono fun e w' ⟨v,h1,h2,h3,h4⟩=>by
  obtain⟨ao,cap,rfl,_⟩:=Sl.shape h3
  exact⟨_,h1,ao,cap,rfl,h2,h3,h4⟩
theorem ZX (x:List Nat) (bx:By x) (lx:x.length≤4096) (ao:Option Addr) (cap:Nat) (c:List Nat) (hc:Dg c) (w:World) (hx:SlB w 1 (.slice ao x.length cap) x.length (bv x)) :
  Calls Tryz.prog 47 #[AQ c,.slice ao x.length cap] w fun e w'=>NwR w w' (IK x c) e:=by
 refine BV Tryz.func47 rfl Tryz.ntmps47 rfl fun a0 sv0=>?_
 have HG:=World.grownBy.refl w none
 replace sv0:Sv 17 [] [(0,AQ c),(1,.slice ao x.length cap)] a0:=sv0
 refine AKQ fun K1 k1=>?_
 refine AKP ?_
 refine Be sv0 r6 (Bb c hc.1) fun a2 w2 CP DG g2 z2 AH sv2=>?_
 refine AR (v:=.slice none 0 0) sv2 r6 fun a3 sv3=>?_
 refine AE ?_
 refine k1 _ _ ?_
 refine AKQ fun K4 k4=>?_
 refine AKP ?_
 refine AJ sv3 3 [(8,AQ c),(9,.slice ao x.length cap),(10,.int .i64 ((x.length:Nat)))]
  ⟨yl r6 (Bb c hc.1) AH,ym r5,Au (Tryz.underlying29) rfl rfl trivial (oy rfl rfl) (fun _=>rfl),AKW⟩ fun a5 w5 g5 sv5=>?_
 refine BD sv5 Tryz.func92 (by kernel_rfl) r6 (AHm hc (n:=x.length) lx) fun a6 v6 w6 hR6 sv6=>?_
 obtain⟨ao6,cap6,rfl,g6,hz,fz⟩:=hR6
 have sv7:Sv _ _ [_,_,_,_] _:=sv6.dl [8,9,10,2]
 refine AJ sv7 3 [(7,.tuple #[.slice ao6 x.length cap6,.int .i64 0]),(12,.slice ao6 x.length cap6),(13,.int .i64 0)]
  ⟨ym r5,BZ rq4 (fun _ _ h=>⟨_,_,h,rfl,rfl⟩),BZ rq4 (fun _ _ h=>⟨_,_,h,rfl,rfl⟩),AKW⟩ fun a8 w8 g8 sv8=>?_
 refine AR (v:=.slice ao6 x.length cap6) sv8 r6 fun a9 sv9=>?_
 refine AR (v:=.int .i64 0) sv9 r6 fun a10 BF=>?_
 have Bv:Sv _ _ [_,_,_,_] _:=BF.dl [6,7,12,13,11]
 refine AE ?_
 refine k4 _ _ ?_
 refine AKQ fun K12 k12=>?_
 refine AKP ?_
 refine AJ Bv 2 [(14,.slice ao x.length cap),(15,.slice ao6 x.length cap6)]
  ⟨ym r5,ym r5,AKW⟩ fun a13 w13 g13 Cg=>?_
 have WQ:=AA g8 g13
 replace hx:=(((hx.kn g2).kn g5).kn g6).kn WQ
 replace hz:=SlZ.kn hz WQ
 replace HG:=AA (AA (AA (AA HG g2) g5) g6) WQ
 refine BD Cg Tryz.func93 (by kernel_rfl) r6 (Nt (ABt x (WN c x.length) bx (ADe c _) (by omega) x.length (Th c _) (Nat.le_refl _) _ _ _ _ _ hx hz)) fun a14 v14 w14 hR14 C6=>?_
 obtain⟨ao14,cap14,rfl,_⟩:=(Sl.of_own hR14.1).shape
 obtain⟨ow14,fr14⟩:=hR14
 replace fr14:=C7 fr14
 have g14:=fr14.1
 replace fr14:=fr14.2
 have AHn:∀k,fpZ x.length (.slice ao6 x.length cap6) k→¬Ba (.slice ao14 ((IK x c)).length cap14) k:=fun k hzr hk=>absurd (SlZ.lt hz k hzr) (Nat.not_lt.2 (fr14 k hk))
 have AFz:=JG HG fr14
 replace HG:=AA HG g14
 refine AR (v:=.slice ao14 ((IK x c)).length cap14) C6 r6 fun a15 EE=>?_
 have Cr:Sv _ _ [_,_,_] _:=EE.dl [16,14,15,5]
 refine AE ?_
 refine k12 _ _ ?_
 refine AKT ?_
 repeat refine AK ?_
 refine Aw (fn:=Tryz.f47) Cr (BC (p:=4) Tryz.results47 Cr rfl rfl) ?_
 exact⟨_,rfl,HG,_,_,rfl,ow14,AFz⟩
theorem I2 (a:Int) (ha:MM a) (x:List Nat) (bx:By x) (lx:x.length≤100000) (ao:Option Addr) (cap:Nat) (w:World) (hx:SlB w 1 (.slice ao x.length cap) x.length (bv x)) :
  Calls Tryz.prog 54 #[.int .i64 a,.slice ao x.length cap] w fun e w'=>e=.returned (AQ (ML a x))∧w.grownBy w' none:=by
 have hle:=EK ha.1 ha.2
 refine BV Tryz.func54 rfl Tryz.ntmps54 rfl fun a0 sv0=>?_
 have HG:=World.grownBy.refl w none
 replace sv0:Sv 11 [] [(0,.int .i64 a),(1,.slice ao x.length cap)] a0:=sv0
 refine AKQ fun K1 k1=>?_
 refine AKP ?_
 refine BB (T:=23) (Z:=(bv AS)) sv0 rfl rfl rfl (fun a w=>by kernel_rfl) fun a2 w2 JI GY g2 z2 BG sv2=>?_
 have Ij:=Bq HG GY
 refine AE ?_
 refine k1 _ _ ?_
 refine AKQ fun K3 k3=>?_
 refine AKP ?_
 refine AJ sv2 1 [(5,.int .i64 a)]
  ⟨ym r5,AKW⟩ fun a4 w4 g4 sv4=>?_
 refine BD sv4 Tryz.func103 (by kernel_rfl) r6 (Nt (PZ a ha _)) fun a5 v5 w5 hR5 sv5=>?_
 obtain⟨ao5,cap5,rfl,_⟩:=(Sl.of_own hR5.1).shape
 obtain⟨ow5,fr5⟩:=hR5
 replace fr5:=C7 fr5
 have g5:=fr5.1
 replace fr5:=fr5.2
 refine AJ sv5 1 [(7,.slice ao x.length cap)]
  ⟨ym r5,AKW⟩ fun a6 w6 g6 sv6=>?_
 refine AAg (cs:=[.slice ao5 ((enc a)).length cap5,.slice ao x.length cap]) (e:=29) sv6 rfl rfl rfl rfl rfl rfl rfl rfl (AIq _ _ _ _ _ _) fun a7 w7 AKK AJM g7 z7 AIv sv7=>?_
 replace hx:=((((hx.kn g2).kn g4).kn g5).kn g6).kn g7
 replace ow5:=(ow5.kn g6).kn g7
 refine BD sv7 Tryz.func102 (by kernel_rfl) r6 (WO (Sl.of_own ow5) hx.1 AIv (by omega) (by omega)) fun a8 v8 w8 hR8 sv8=>?_
 obtain⟨ao8,cap8,rfl,_⟩:=(Sl.of_own hR8.1).shape
 obtain⟨ow8,fr8⟩:=hR8
 replace fr8:=C7 fr8
 have g8:=fr8.1
 replace fr8:=fr8.2
 refine BD sv8 Tryz.func101 (by kernel_rfl) r6 (I1 (AGj (dom:=280) (by decide) rfl (Ti (Ln a) bx) (by rw[List.length_append];omega) (Sl.of_own ow8))) fun a9 v9 w9 hR9 sv9=>?_
 obtain⟨rfl,g9⟩:=hR9
 replace BG:=AC g9 (AC g8 (AC g7 (AC g6 (AC g5 (AC g4 BG)))))
 refine Av sv9 r7 (Bb ((ML a x)) (DM a x).1) BG (Dk (DM a x)) fun w10 g10 h10=>?_
 replace HG:=AD (AA (AA (AA (AA (AA (AA (AA HG g2) g4) g5) g6) g7) g8) g9) g10 Ij
 replace BG:=h10
 have Bv:Sv _ _ [_] _:=sv9.dl [10,9,8,7,6,5,0,1]
 refine AE ?_
 refine k3 _ _ ?_
 refine AKT ?_
 repeat refine AK ?_
 refine Aw (fn:=Tryz.f54) Bv (Dz (p:=4) Tryz.results54 Bv rfl rfl (Bb ((ML a x)) (DM a x).1) BG) ?_
 exact⟨rfl,HG⟩
theorem Gb (c:List Nat) (hc:Dg c) (a:Int) (ha:MM a) (x:List Nat) (bx:By x) (lx:x.length≤100000) (ao:Option Addr) (cap:Nat) (w:World) (hx:SlB w 1 (.slice ao x.length cap) x.length (bv x)) :
  Calls Tryz.prog 58 #[AQ c,.int .i64 a,.slice ao x.length cap] w fun e w'=>e=.returned (AQ (LS c a x))∧w.grownBy w' none:=by
 have hle:=EK ha.1 ha.2
 refine BV Tryz.func58 rfl Tryz.ntmps58 rfl fun a0 sv0=>?_
 have HG:=World.grownBy.refl w none
 replace sv0:Sv 14 [] [(0,AQ c),(1,.int .i64 a),(2,.slice ao x.length cap)] a0:=sv0
 refine AKQ fun K1 k1=>?_
 refine AKP ?_
 refine Be sv0 r6 (Bb c hc.1) fun a2 w2 Me Jh g2 z2 Az sv2=>?_
 replace HG:=AA HG g2
 refine BB (T:=23) (Z:=(bv AS)) sv2 rfl rfl rfl (fun a w=>by kernel_rfl) fun a3 w3 AHk Jo g3 z3 EI sv3=>?_
 have Jq:=As Az Jo
 have Ml:=Bq HG Jo
 refine AE ?_
 refine k1 _ _ ?_
 refine AKQ fun K4 k4=>?_
 have gd5:=CZ w3
 replace Az:=AC gd5 (AC g3 Az)
 refine wp_region_noPanic ?_
 refine FB (fun w'=>w'.heap[Me]?=some (.cells (bv c).toArray 23 (0,0))∧True) [0,1,3] [2,4,5,6,7] (by kernel_rfl) (by kernel_rfl) (fun _ _ d _ _ h=>by cases d<;>exact h) rfl (by kernel_rfl) ⟨Az,AKW⟩ ?_
 simp only[List.filterMap_cons,List.filterMap_nil,List.getElem?_toArray,List.getElem?_cons_succ,List.getElem?_cons_zero]
 refine LD sv3 rfl rfl rfl rfl ⟨rfl,rfl⟩ (fun w hS=>AY (Bb c hc.1) (Aj hS.1)) fun a6 sv6=>?_
 refine F7 (v:=.int .i64 a) w3.drew sv6 rfl (by kernel_rfl) (Fm 1 8 (.inl rfl) rfl rfl trivial (fun _ _ h=>h)) fun a7 sv7=>?_
 refine F7 (v:=.slice ao x.length cap) w3.drew sv7 rfl (by kernel_rfl) (Fm 2 10 (.inl rfl) rfl rfl trivial (fun _ _ h=>h)) fun a8 sv8=>?_
 change wpList _ _ _ _ _ _
 refine BD sv8 Tryz.func103 (by kernel_rfl) r6 (Nt (PZ a ha _)) fun a9 v9 w9 hR9 sv9=>?_
 obtain⟨ao9,cap9,rfl,_⟩:=(Sl.of_own hR9.1).shape
 obtain⟨ow9,fr9⟩:=hR9
 replace fr9:=C7 fr9
 have g9:=fr9.1
 replace fr9:=fr9.2
 replace Az:=AC g9 Az
 refine AE ⟨⟨Az,AKW⟩,?_⟩
 change wpList _ _ _ _ _ _
 refine AAg (cs:=[.slice ao9 ((enc a)).length cap9,.slice ao x.length cap]) (e:=29) sv9 rfl rfl rfl rfl rfl rfl rfl rfl (AIq _ _ _ _ _ _) fun a10 w10 AJd AIB g10 z10 AF0 BF=>?_
 replace Az:=AC g10 Az
 replace hx:=((((hx.kn g2).kn g3).kn gd5).kn g9).kn g10
 replace ow9:=ow9.kn g10
 refine AE ⟨⟨Az,AKW⟩,?_⟩
 change wpList _ _ _ _ _ _
 refine BD BF Tryz.func102 (by kernel_rfl) r6 (WO (Sl.of_own ow9) hx.1 AF0 (by omega) (by omega)) fun a11 v11 w11 hR11 Bv=>?_
 obtain⟨ao11,cap11,rfl,_⟩:=(Sl.of_own hR11.1).shape
 obtain⟨ow11,fr11⟩:=hR11
 replace fr11:=C7 fr11
 have g11:=fr11.1
 replace fr11:=fr11.2
 replace Az:=AC g11 Az
 refine AE ⟨⟨Az,AKW⟩,?_⟩
 change wpList _ _ _ _ _ _
 refine BD Bv Tryz.func66 (by kernel_rfl) r6 (I1 (ADg (dom:=285) (by decide) rfl hc (Ti (Ln a) bx) (by rw[List.length_append];omega) (Sl.of_own ow11))) fun a12 v12 w12 hR12 Cq=>?_
 obtain⟨rfl,g12⟩:=hR12
 replace Az:=AC g12 Az
 replace EI:=AC g12 (AC g11 (AC g10 (AC g9 (AC gd5 EI))))
 refine AE ⟨⟨Az,AKW⟩,?_⟩
 change wpList _ _ _ _ _ _
 refine Av Cq r7 (Bb ((LS c a x)) (Cm c a x).1) EI (Dk (Cm c a x)) fun w13 g13 h13=>?_
 replace Az:=AZ g13 Az (Ne.symm Jq)
 replace HG:=AD (AA (AA (AA (AA (AA (AA HG g3) gd5) g9) g10) g11) g12) g13 Ml
 replace EI:=h13
 refine AE ⟨⟨Az,AKW⟩,?_⟩
 refine NoPanic.normal ?_
 have C6:Sv _ _ [_,_] _:=Cq.dl [13,12,11,9,10,8,7,3,1,2]
 refine k4 _ _ ?_
 refine AKT ?_
 repeat refine AK ?_
 refine Aw (fn:=Tryz.f58) C6 (Dz (p:=6) Tryz.results58 C6 rfl rfl (Bb ((LS c a x)) (Cm c a x).1) EI) ?_
 exact⟨rfl,HG⟩
theorem ZY (a:Int) (ha:MM a) (x:List Nat) (bx:By x) (lx:x.length≤100000) (ao:Option Addr) (cap:Nat) (w:World) (hx:SlB w 1 (.slice ao x.length cap) x.length (bv x)) :
  Calls Tryz.prog 44 #[.int .i64 a,.slice ao x.length cap] w fun e w'=>e=.returned (AQ (ML a x))∧w.grownBy w' none:=by
 have hle:=EK ha.1 ha.2
 refine BV Tryz.func44 rfl Tryz.ntmps44 rfl fun a0 sv0=>?_
 have HG:=World.grownBy.refl w none
 replace sv0:Sv 10 [] [(0,.int .i64 a),(1,.slice ao x.length cap)] a0:=sv0
 refine AKQ fun K1 k1=>?_
 refine AKP ?_
 refine BB (T:=23) (Z:=(bv AS)) sv0 rfl rfl rfl (fun a w=>by kernel_rfl) fun a2 w2 JI GY g2 z2 BG sv2=>?_
 have Ij:=Bq HG GY
 refine AE ?_
 refine k1 _ _ ?_
 refine AKQ fun K3 k3=>?_
 refine AKP ?_
 refine AJ sv2 1 [(5,.int .i64 a)]
  ⟨ym r5,AKW⟩ fun a4 w4 g4 sv4=>?_
 replace BG:=AC g4 BG
 replace HG:=AA (AA HG g2) g4
 refine BD sv4 Tryz.func90 (by kernel_rfl) r6 (Nf a _ ha.1 ha.2) fun a5 v5 w5 hR5 sv5=>?_
 obtain⟨ao5,cap5,rfl,_⟩:=(Sl.of_own hR5.1).shape
 obtain⟨ow5,fr5⟩:=hR5
 replace fr5:=C7 fr5
 have g5:=fr5.1
 replace fr5:=fr5.2
 have WT:=DK fr5 BG
 have AHo:=JG HG fr5
 refine AJ sv5 1 [(7,.slice ao x.length cap)]
  ⟨ym r5,AKW⟩ fun a6 w6 g6 sv6=>?_
 replace hx:=(((hx.kn g2).kn g4).kn g5).kn g6
 replace ow5:=ow5.kn g6
 refine IC DR sv6 rfl rfl rfl rfl rfl rfl rfl rfl ow5 (hx.1) (Dx _) (by omega) fun a7 ao7 cap7 w7 owx7 CG sv7=>?_
 replace BG:=AF CG.1 (AC g6 (AC g5 BG)) (fun e=>WT _ e.symm rfl)
 replace HG:=Ca (AA (AA HG g5) g6) CG.1 fun k e=>AHo k (e)
 rw[←C9] at owx7
 refine BD sv7 Tryz.func33 (by kernel_rfl) r6 (I1 (ZU (dom:=280) (by decide) rfl (Ti (Ln a) bx) (by rw[List.length_append];omega) (ADj (Sl.of_own owx7)))) fun a8 v8 w8 hR8 sv8=>?_
 obtain⟨rfl,g8⟩:=hR8
 replace BG:=AC g8 BG
 refine Av sv8 r7 (Bb ((ML a x)) (DM a x).1) BG (Dk (DM a x)) fun w9 g9 h9=>?_
 replace HG:=AD (AA HG g8) g9 Ij
 replace BG:=h9
 have BF:Sv _ _ [_] _:=sv8.dl [9,8,7,6,5,0,1]
 refine AE ?_
 refine k3 _ _ ?_
 refine AKT ?_
 repeat refine AK ?_
 refine Aw (fn:=Tryz.f44) BF (Dz (p:=4) Tryz.results44 BF rfl rfl (Bb ((ML a x)) (DM a x).1) BG) ?_
 exact⟨rfl,HG⟩
theorem ADl (c:List Nat) (hc:Dg c) (a:Int) (ha:MM a) (x:List Nat) (bx:By x) (lx:x.length≤100000) (ao:Option Addr) (cap:Nat) (w:World) (hx:SlB w 1 (.slice ao x.length cap) x.length (bv x)) :
  Calls Tryz.prog 48 #[AQ c,.int .i64 a,.slice ao x.length cap] w fun e w'=>e=.returned (AQ (LS c a x))∧w.grownBy w' none:=by
 have hle:=EK ha.1 ha.2
 refine BV Tryz.func48 rfl Tryz.ntmps48 rfl fun a0 sv0=>?_
 have HG:=World.grownBy.refl w none
 replace sv0:Sv 13 [] [(0,AQ c),(1,.int .i64 a),(2,.slice ao x.length cap)] a0:=sv0
 refine AKQ fun K1 k1=>?_
 refine AKP ?_
 refine Be sv0 r6 (Bb c hc.1) fun a2 w2 Me Jh g2 z2 Az sv2=>?_
 replace HG:=AA HG g2
 refine BB (T:=23) (Z:=(bv AS)) sv2 rfl rfl rfl (fun a w=>by kernel_rfl) fun a3 w3 AHk Jo g3 z3 EI sv3=>?_
 have Jq:=As Az Jo
 have Ml:=Bq HG Jo
 refine AE ?_
 refine k1 _ _ ?_
 refine AKQ fun K4 k4=>?_
 have gd5:=CZ w3
 replace Az:=AC gd5 (AC g3 Az)
 replace EI:=AC gd5 EI
 replace HG:=AA (AA HG g3) gd5
 refine wp_region_noPanic ?_
 refine FB (fun w'=>w'.heap[Me]?=some (.cells (bv c).toArray 23 (0,0))∧True) [0,1,3] [2,4,5,6] (by kernel_rfl) (by kernel_rfl) (fun _ _ d _ _ h=>by cases d<;>exact h) rfl (by kernel_rfl) ⟨Az,AKW⟩ ?_
 simp only[List.filterMap_cons,List.filterMap_nil,List.getElem?_toArray,List.getElem?_cons_succ,List.getElem?_cons_zero]
 refine LD sv3 rfl rfl rfl rfl ⟨rfl,rfl⟩ (fun w hS=>AY (Bb c hc.1) (Aj hS.1)) fun a6 sv6=>?_
 refine F7 (v:=.int .i64 a) w3.drew sv6 rfl (by kernel_rfl) (Fm 1 8 (.inl rfl) rfl rfl trivial (fun _ _ h=>h)) fun a7 sv7=>?_
 refine F7 (v:=.slice ao x.length cap) w3.drew sv7 rfl (by kernel_rfl) (Fm 2 10 (.inl rfl) rfl rfl trivial (fun _ _ h=>h)) fun a8 sv8=>?_
 change wpList _ _ _ _ _ _
 refine BD sv8 Tryz.func90 (by kernel_rfl) r6 (Nf a _ ha.1 ha.2) fun a9 v9 w9 hR9 sv9=>?_
 obtain⟨ao9,cap9,rfl,_⟩:=(Sl.of_own hR9.1).shape
 obtain⟨ow9,fr9⟩:=hR9
 replace fr9:=C7 fr9
 have g9:=fr9.1
 replace fr9:=fr9.2
 have WU:=DK fr9 Az
 have WV:=DK fr9 EI
 have Pa:=JG HG fr9
 replace Az:=AC g9 Az
 replace hx:=(((hx.kn g2).kn g3).kn gd5).kn g9
 refine AE ⟨⟨Az,AKW⟩,?_⟩
 change wpList _ _ _ _ _ _
 refine IC DR sv9 rfl rfl rfl rfl rfl rfl rfl rfl ow9 (hx.1) (Dx _) (by omega) fun a10 ao10 cap10 w10 owx10 CG BF=>?_
 replace Az:=AF CG.1 Az (fun e=>WU _ e.symm rfl)
 replace EI:=AF CG.1 (AC g9 EI) (fun e=>WV _ e.symm rfl)
 replace HG:=Ca (AA HG g9) CG.1 fun k e=>Pa k (e)
 rw[←C9] at owx10
 refine AE ⟨⟨Az,AKW⟩,?_⟩
 change wpList _ _ _ _ _ _
 refine BD BF Tryz.func35 (by kernel_rfl) r6 (I1 (ABr (dom:=285) (by decide) rfl hc (Ti (Ln a) bx) (by rw[List.length_append];omega) (ADj (Sl.of_own owx10)))) fun a11 v11 w11 hR11 Bv=>?_
 obtain⟨rfl,g11⟩:=hR11
 replace Az:=AC g11 Az
 replace EI:=AC g11 EI
 refine AE ⟨⟨Az,AKW⟩,?_⟩
 change wpList _ _ _ _ _ _
 refine Av Bv r7 (Bb ((LS c a x)) (Cm c a x).1) EI (Dk (Cm c a x)) fun w12 g12 h12=>?_
 replace Az:=AZ g12 Az (Ne.symm Jq)
 replace HG:=AD (AA HG g11) g12 Ml
 replace EI:=h12
 refine AE ⟨⟨Az,AKW⟩,?_⟩
 refine NoPanic.normal ?_
 have Cg:Sv _ _ [_,_] _:=Bv.dl [12,11,9,10,8,7,3,1,2]
 refine k4 _ _ ?_
 refine AKT ?_
 repeat refine AK ?_
 refine Aw (fn:=Tryz.f48) Cg (Dz (p:=6) Tryz.results48 Cg rfl rfl (Bb ((LS c a x)) (Cm c a x).1) EI) ?_
 exact⟨rfl,HG⟩
end Go.Proofs.YtbfjfnbcmojpiaaGreat
