import Derived.Test.YtbfjfnbcmojpiaaGreatShY3
import Derived.Test.YtbfjfnbcmojpiaaGreatShR1
set_option linter.unusedSimpArgs false
set_option linter.unusedVariables false
set_option maxRecDepth 100000
set_option maxHeartbeats 4000000
namespace Go.Proofs.YtbfjfnbcmojpiaaGreat
open Go.RowKit Go.Shelf
theorem QV {P:Program} {f:Nat} {args:Array Value} {w:World} {v:Value} (h:Calls P f args w fun e w'=>e=.returned v∧w.grownBy w' none):Calls P f args w fun e w'=>∃v',e=.returned v'∧(v'=v∧w.grownBy w' none):=h.mono fun e w' ⟨h1,h2⟩=>⟨v,h1,rfl,h2⟩
section
variable {P:Program} {Q:Exit→Act→World→Prop} {ops:Array Oper} {rest:List Oper} {o:Oper} {a:Act} {w:World} {n:Nat} {D:List Deferred} {K:List (Nat×Value)}
theorem Oa (sv:Sv n D K a) (hgd:o.guard=none) {d:Nat} {t e:TypeId} {x:Operand} {u:Value} {cs:List Value} (ho:o.op=.buildSlice t 1 #[(0,x)]) (hd:o.dst=some d) (hdn:decide (d<n)=true) (hx:NX K x=true) (hxv:NY K x=u)
  (hr:∀W:World,(Instr.buildSlice t 1 #[(0,u)]).run P W=.ok (.slice (some ⟨W.heap.size,0,none⟩) 1 1) (W.alloc (.cells cs.toArray e)))
  (h:∀a' w' b,b=w.heap.size→w.grownBy w' none→w'.heap.size=b+1→w'.heap[b]?=some (.cells cs.toArray e (0,0))→Sv n D ((d,.slice (some ⟨b,0,none⟩) 1 1)::KD d K) a'→wpList P ops Q rest a' w'):wpList P ops Q (o::rest) a w:=by
 refine PQ (w':=w.alloc (.cells cs.toArray e)) sv hgd hd hdn ?_ fun a' sv'=>h a' _ _ rfl (World.grownBy_alloc _ _ _) (by simp) (Aj rfl) sv'
 have e:=sv.ev hx hxv
 simp only[execOp,ho,e,List.map_toArray,List.map_cons,List.map_nil,Sem.run_bind,Sem.run_pure,Result.andThen_ok,hr]
theorem ABi (sv:Sv n D K a) (hgd:o.guard=none) {d:Nat} {t e:TypeId} {x y:Operand} {u v:Value} {cs:List Value} (ho:o.op=.buildSlice t 2 #[(0,x),(1,y)]) (hd:o.dst=some d) (hdn:decide (d<n)=true) (hx:NX K x=true) (hxv:NY K x=u) (hy:NX K y=true) (hyv:NY K y=v)
  (hr:∀W:World,(Instr.buildSlice t 2 #[(0,u),(1,v)]).run P W=.ok (.slice (some ⟨W.heap.size,0,none⟩) 2 2) (W.alloc (.cells cs.toArray e)))
  (h:∀a' w' b,b=w.heap.size→w.grownBy w' none→w'.heap.size=b+1→w'.heap[b]?=some (.cells cs.toArray e (0,0))→Sv n D ((d,.slice (some ⟨b,0,none⟩) 2 2)::KD d K) a'→wpList P ops Q rest a' w'):wpList P ops Q (o::rest) a w:=by
 refine PQ (w':=w.alloc (.cells cs.toArray e)) sv hgd hd hdn ?_ fun a' sv'=>h a' _ _ rfl (World.grownBy_alloc _ _ _) (by simp) (Aj rfl) sv'
 have e1:=sv.ev hx hxv
 have e2:=sv.ev hy hyv
 simp only[execOp,ho,e1,e2,List.map_toArray,List.map_cons,List.map_nil,Sem.run_bind,Sem.run_pure,Result.andThen_ok,hr]
end
section
variable {Q:Exit→Act→World→Prop} {ops:Array Oper} {rest:List Oper} {o:Oper} {a:Act} {w:World} {n:Nat} {D:List Deferred} {K:List (Nat×Value)}
theorem AG8 (m:Nat):madeCells (Value.int .u8 0).cells (m*1)=(bv (zs m)).toArray:=by
 apply Array.ext'
 rw[Rh (z:=.int .u8 0) (sz:=1) rfl (by decide)]
 induction m with
 | zero=>rfl
 | succ m ih=>rw[List.replicate_succ,List.flatMap_cons,ih];rfl
theorem ABj {m:Nat} (sv:Sv n D K a) (hgd:o.guard=none) {d:Nat} {x:Operand} (ho:o.op=.makeSlice 29 x x) (hd:o.dst=some d) (hdn:decide (d<n)=true) (hx:NX K x=true) (hxv:NY K x=.int .i64 (m:Int)) (hm:m≤1000000)
  (h:∀a' w' b,b=w.heap.size→w.grownBy w' none→w'.heap.size=b+1→w'.heap[b]?=some (.cells (bv (zs m)).toArray 5 (0,0))→Sv n D ((d,.slice (some ⟨b,0,none⟩) m m)::KD d K) a'→wpList Tryz.prog ops Q rest a' w'):wpList Tryz.prog ops Q (o::rest) a w:=by
 refine PQ (w':=w.alloc (.cells (bv (zs m)).toArray 5)) sv hgd hd hdn ?_ fun a' sv'=>h a' _ _ rfl (World.grownBy_alloc _ _ _) (by simp) (Aj rfl) sv'
 have e:=sv.ev hx hxv
 obtain⟨i,hi,hz,hs,hby⟩:=EE.inf
 have hb:=EE.bnd
 have hbytes:(i.bytes:Int)*(m:Int)≤281474976710656:=by rw[hby];omega
 have hr:=run_make (P:=Tryz.prog) w 29 5 i (.int .u8 0) EE.und hi hz .i64 .i64 (m:Int) (m:Int) (by omega) (by omega) hbytes (by omega)
 rw[hs,Int.toNat_natCast,AG8] at hr
 simp only[execOp,ho,e,Sem.run_bind,Sem.run_pure,Result.andThen_ok,hr]
theorem ABk {B n:Nat} {xs:List Value} {t:TypeId} (h:w.heap[B]?=some (.cells xs.toArray t (0,0))) (hl:xs.length=n) (hn:n≤1000000):Own w t 1 (.slice (some ⟨B,0,none⟩) n n) n xs:=by
 subst hl
 refine⟨by rw[Nat.mul_one],.inr ⟨B,xs.length,_,rfl,Nat.zero_le _,h,Nat.le_refl _,by unfold maxLen;omega,by simp,?_⟩⟩
 rw[Nat.mul_one,List.take_of_length_le (by simp)]
end
theorem AI4 (n:Nat):(zs n).length=n:=List.length_replicate
theorem Vk (w:World):CallsD Tryz.prog 138 #[] .returning w fun e u' w'=>e=.returned (.tuple #[])∧u'=.returning∧w'=w:=by
 refine callsD_of_wpS Tryz.func138 rfl fun c₀ cs hu=>?_
 apply wpS_region
 simp[wpOpsS,go_sem,recoverD,hu,Tryz.ntmps138]
 cases c₀
 simp_all [bodyPostS,results,Tryz.results138]
theorem Vl (w:World):CallsD Tryz.prog 98 #[] .returning w fun e u' w'=>e=.returned (.tuple #[])∧u'=.returning∧w'=w:=by
 refine callsD_of_wpS Tryz.func98 rfl fun c₀ cs hu=>?_
 apply wpS_region
 simp[wpOpsS,go_sem,recoverD,hu,Tryz.ntmps98]
 cases c₀
 simp_all [bodyPostS,results,Tryz.results98]
theorem SC (p q:Value) (w:World):CallsD Tryz.prog 139 #[p,q] .returning w fun e u' w'=>e=.returned (.tuple #[])∧u'=.returning∧w'=w:=by
 refine callsD_of_wpS Tryz.func139 rfl fun c₀ cs hu=>?_
 apply wpS_seq
 apply wpS_region
 simp[wpOpsS,go_sem,recoverD,hu,Tryz.ntmps139,Exit.thenS]
 refine wpS_cond (t:=false) (by simp[Act.eval,Array.replicate]) ?_
 simp only[Bool.false_eq_true,if_false]
 refine wpS_of_wp (ALs ?_)
 cases c₀
 simp_all [bodyPostS,results,Tryz.results139]
theorem Uk {P:Program} {f:Nat} {args:Array Value} {w:World} {xs:List Nat} (h:Calls P f args w fun e w'=>NwR w w' xs e):Calls P f args w fun e w'=>∃v,e=.returned v∧(Own w' 5 1 v xs.length (bv xs)∧Fresh w w' v):=
 h.mono fun e w' ⟨v,h1,h2,ao,cap,h3,h4,h5⟩=>⟨v,h1,h3▸h4,⟨by simpa [Nw,Value.ownBlock] using h2,fun k hk=>.inr (h5 k (h3▸hk))⟩⟩
theorem AG9 {w:World} {B:Nat} {t:TypeId} {a:Int} (hb:w.heap[B]?=some (.cells [.int .i64 a].toArray t (0,0))) (h:RB a):Calls Tryz.prog 132 #[.slice none 0 0,.slice (some ⟨B,0,none⟩) 1 1] w fun e w'=>∃v,e=.returned v∧(Own w' 5 1 v (enc a).length (bv (enc a))∧Fresh w w' v):=by
 have:=UO Nw (.slice (some ⟨B,0,none⟩) 1 1) [] [a] w (Own.nil _ _ _) (Zn hb ⟨rfl,by decide⟩) (.inr (by simp[Nw,Value.ownBlock])) (fun n hn=>by simp at hn;subst hn;exact h) (by simp)
 simpa using this
theorem AHz {w:World} {v:Value} {ys:List Nat} (h:Sl w 1 v ys.length (bv ys)) (hm:0<ys.length) (hl:ys.length≤3000000):Calls Tryz.prog 99 #[.slice none 0 0,v] w fun e w'=>∃v,e=.returned v∧(Own w' 5 1 v ys.length (bv ys)∧Fresh w w' v):=by
 have:=W8 Nw v [] ys w (Sl.nil w 1) h hm (by simp;omega)
 simpa using this
theorem ABl (a:Int):0<(enc a).length:=by
 unfold enc
 by_cases h:zig a<128
 · rw[Gk h];simp
 · rw[KP h];simp
theorem AE7 (x:V):0<(B6 x).length:=by
 unfold B6 TE
 rw[List.length_append]
 have:=ABl x.clean.kind
 omega
theorem AKE (a:Int) (W:World):(Instr.buildSlice 74 1 #[(0,.int .i64 a)]).run Tryz.prog W=.ok (.slice (some ⟨W.heap.size,0,none⟩) 1 1) (W.alloc (.cells [.int .i64 a].toArray 2)):=by kernel_rfl
theorem AKF (ao bo:Option Addr) (n m c d:Nat) (W:World):(Instr.buildSlice 151 2 #[(0,.slice ao n c),(1,.slice bo m d)]).run Tryz.prog W=.ok (.slice (some ⟨W.heap.size,0,none⟩) 2 2) (W.alloc (.cells [.slice ao n c,.slice bo m d].toArray 29)):=by kernel_rfl
theorem AHA {w:World} (x:V):Calls Tryz.prog 100 #[.slice none 0 0,BR x] w fun e w'=>∃v,e=.returned v∧(Own w' 5 1 v (B6 x).length (bv (B6 x))∧Fresh w w' v):=by
 have:=ADl Nw x [] w (Own.nil _ _ _) (by simp)
 rw[List.nil_append] at this
 exact this
theorem SD (n:Int) (hn:RB n) (w:World) :
  Calls Tryz.prog 103 #[.slice none 0 0,.int .i64 n] w fun e w'=>NwR w w' (enc n) e:=by
 have hl:=FM hn.1 hn.2
 refine Dv Tryz.func103 rfl Tryz.ntmps103 rfl fun a0 sv0=>?_
 have HG:=World.grownBy.refl w none
 replace sv0:Sv 10 [] [(0,.slice none 0 0),(1,.int .i64 n)] a0:=sv0
 refine ALo fun K1 k1=>?_
 refine ALn ?_
 refine Aa (v:=.slice none 0 0) sv0 r6 fun a2 sv2=>?_
 refine AE ?_
 refine k1 _ _ ?_
 refine ALo fun K3 k3=>?_
 refine ALn ?_
 refine Er sv2 rfl (dd:={ target:=.fn (.func 138) #[],args:=#[] }) rfl (by simp[execOp,resolve,Deferred.ofValue];try rfl) fun a4 sv4=>?_
 refine AE ?_
 refine k3 _ _ ?_
 refine ALo fun K5 k5=>?_
 refine ALn ?_
 refine AI sv4 2 [(5,.slice none 0 0),(6,.int .i64 n)]
  ⟨ym r5,ym r5,ALu⟩ fun a6 w6 g6 sv6=>?_
 refine Oa (cs:=[.int .i64 n]) (e:=2) sv6 rfl rfl rfl rfl rfl rfl (AKE n) fun a7 w7 ALi AKq g7 z7 AKG sv7=>?_
 refine Bu sv7 Tryz.func132 (by kernel_rfl) r6 (AG9 AKG hn) fun a8 v8 w8 hR8 sv8=>?_
 obtain⟨ao8,cap8,rfl,_⟩:=(Sl.of_own hR8.1).shape
 obtain⟨ow8,fr8⟩:=hR8
 replace fr8:=En fr8
 have g8:=fr8.1
 replace fr8:=fr8.2
 replace HG:=AA (AA (AA HG g6) g7) g8
 refine Bu sv8 Tryz.func99 (by kernel_rfl) r6 (AHz (Sl.of_own ow8) (ABl n) (by omega)) fun a9 v9 w9 hR9 sv9=>?_
 obtain⟨ao9,cap9,rfl,_⟩:=(Sl.of_own hR9.1).shape
 obtain⟨ow9,fr9⟩:=hR9
 replace fr9:=En fr9
 have g9:=fr9.1
 replace fr9:=fr9.2
 have AAg:=LO HG fr9
 replace HG:=AA HG g9
 refine Aa (v:=.slice ao9 ((enc n)).length cap9) sv9 r6 fun a10 Ci=>?_
 have CV:Sv _ _ [_] _:=Ci.dl [9,8,7,5,6,0,1]
 refine AE ?_
 refine k5 _ _ ?_
 refine ALr ?_
 repeat refine AL ?_
 refine BU (fn:=Tryz.f103) CV (BD (p:=4) Tryz.results103 CV rfl rfl) (Bz Tryz.func138 (by kernel_rfl) rfl _ _) (Vk _) ?_
 exact⟨_,rfl,HG,_,_,rfl,ow9,AAg⟩
theorem AAh (x:V) (w:World) :
  Calls Tryz.prog 53 #[.slice none 0 0,BR x] w fun e w'=>NwR w w' (B6 x) e:=by
 have hl:=Ip x
 refine Dv Tryz.func53 rfl Tryz.ntmps53 rfl fun a0 sv0=>?_
 have HG:=World.grownBy.refl w none
 replace sv0:Sv 9 [] [(0,.slice none 0 0),(1,BR x)] a0:=sv0
 refine ALo fun K1 k1=>?_
 refine ALn ?_
 refine Bn sv0 r6 (C6 x) fun a2 w2 Ia Ib g2 z2 Ab sv2=>?_
 refine Aa (v:=.slice none 0 0) sv2 r6 fun a3 sv3=>?_
 refine AE ?_
 refine k1 _ _ ?_
 refine ALo fun K4 k4=>?_
 refine ALn ?_
 refine Er sv3 rfl (dd:={ target:=.fn (.func 98) #[],args:=#[] }) rfl (by simp[execOp,resolve,Deferred.ofValue];try rfl) fun a5 sv5=>?_
 refine AE ?_
 refine k4 _ _ ?_
 refine ALo fun K6 k6=>?_
 refine ALn ?_
 refine AI sv5 2 [(5,.slice none 0 0),(6,BR x)]
  ⟨ym r5,yl r6 (C6 x) Ab,ALu⟩ fun a7 w7 g7 sv7=>?_
 refine Bu sv7 Tryz.func100 (by kernel_rfl) r6 (AHA x) fun a8 v8 w8 hR8 sv8=>?_
 obtain⟨ao8,cap8,rfl,_⟩:=(Sl.of_own hR8.1).shape
 obtain⟨ow8,fr8⟩:=hR8
 replace fr8:=En fr8
 have g8:=fr8.1
 replace fr8:=fr8.2
 replace HG:=AA (AA (AA HG g2) g7) g8
 refine Bu sv8 Tryz.func99 (by kernel_rfl) r6 (AHz (Sl.of_own ow8) (AE7 x) (by omega)) fun a9 v9 w9 hR9 sv9=>?_
 obtain⟨ao9,cap9,rfl,_⟩:=(Sl.of_own hR9.1).shape
 obtain⟨ow9,fr9⟩:=hR9
 replace fr9:=En fr9
 have g9:=fr9.1
 replace fr9:=fr9.2
 have AAg:=LO HG fr9
 replace HG:=AA HG g9
 refine Aa (v:=.slice ao9 ((B6 x)).length cap9) sv9 r6 fun a10 Ci=>?_
 have CV:Sv _ _ [_,_] _:=Ci.dl [8,7,5,6,3,0]
 refine AE ?_
 refine k6 _ _ ?_
 refine ALr ?_
 repeat refine AL ?_
 refine BU (fn:=Tryz.f53) CV (BD (p:=4) Tryz.results53 CV rfl rfl) (Bz Tryz.func98 (by kernel_rfl) rfl _ _) (Vl _) ?_
 exact⟨_,rfl,HG,_,_,rfl,ow9,AAg⟩
def AE8 (c:List Nat) (n:Nat):List Nat:=sq (Hz (BitVec.ofNat 64 284) c) n
theorem ABm (c:List Nat) (n:Nat):(AE8 c n).length=n:=NN _ _
theorem AI5 (c:List Nat) (n:Nat):By (AE8 c n):=fun x hx=>ADp _ _ x hx
theorem Kp (b c:List Nat):(Jv b c).length=b.length:=OU (by rw[NN];omega)
theorem SE {b:List Nat} (c:List Nat) (h:By b):By (Jv b c):=ABc h fun x hx=>ADp _ _ x hx
theorem AE9 {w:World} {dom:Nat} (hd:dom<1000) {c:Int} (hc:c=(dom:Int)) {l:List Nat} {s:Value} (hb:By l) (hl:l.length≤1000000) (h:Sl w 1 s l.length (bv l)):Calls Tryz.prog 136 #[.int .u64 c,s] w fun e w'=>e=.returned (Li (Hz (BitVec.ofNat 64 dom) l))∧w.grownBy w' none:=by
 have e:c=wi (BitVec.ofNat 64 dom):=by rw[hc,←PC,IntKind.wrap_u64];omega
 rw[e]
 exact Pu _ l hb (by omega) s w h
theorem AH0 {w:World} {dom:Nat} (hd:dom<1000) {c:Int} (hc:c=(dom:Int)) {l:List Nat} {s:Value} (hb:By l) (hl:l.length≤1000000) (h:Sl w 1 s l.length (bv l)):Calls Tryz.prog 101 #[.int .u64 c,s] w fun e w'=>e=.returned (AP (TG (BitVec.ofNat 64 dom) l))∧w.grownBy w' none:=by
 have e:c=wi (BitVec.ofNat 64 dom):=by rw[hc,←PC,IntKind.wrap_u64];omega
 rw[e]
 exact XI _ l hb (by omega) s w h
theorem AFA {w:World} {dom:Nat} (hd:dom<1000) {c:Int} (hc:c=(dom:Int)) {k l:List Nat} {s:Value} (hk:Dg k) (hb:By l) (hl:l.length≤1000000) (h:Sl w 1 s l.length (bv l)):Calls Tryz.prog 66 #[.int .u64 c,AP k,s] w fun e w'=>e=.returned (AP (N2 (BitVec.ofNat 64 dom) k l))∧w.grownBy w' none:=by
 have e:c=wi (BitVec.ofNat 64 dom):=by rw[hc,←PC,IntKind.wrap_u64];omega
 rw[e]
 exact NO _ k l hk.1 hk.2 hb (by omega) s w h
theorem AKH {w:World} {s:St} {n D:Nat} {T:TypeId} (hn:n≤1000000) (hD:w.heap[D]?=some (.cells (bv (zs n)).toArray T (0,0))):Calls Tryz.prog 135 #[Li s,.slice (some ⟨D,0,none⟩) n n] w fun e w'=>∃v,e=.returned v∧(v=.tuple #[]∧w.grownBy w' (some D)∧w'.heap[D]?=some (.cells (bv (sq s n)).toArray T (0,0))):=
 (N1 s n (by omega) D T w hD).mono fun e w' ⟨h1,h2,h3⟩=>⟨_,h1,rfl,h2,h3⟩
theorem Ya {w:World} {x y:List Nat} {s t:Value} {B:Nat} (hs:Sl w 1 s x.length (bv x)) (ht:Sl w 1 t y.length (bv y)) (hB:w.heap[B]?=some (.cells [s,t].toArray 29 (0,0))) (hx:x.length≤1000000) (hy:y.length≤1000000) :
  Calls Tryz.prog 102 #[.slice (some ⟨B,0,none⟩) 2 2] w fun e w'=>∃v,e=.returned v∧(Own w' 5 1 v (x++y).length (bv (x++y))∧Fresh w w' v):=by
 rw[List.length_append]
 exact Pv x y (by omega) (by omega) s t w hs ht B hB
theorem AI6 {w w':World} {xs:List Nat} {n cap:Nat} {ao:Option Addr} (hl:xs.length=n) (HG:w.grownBy w' none) (ho:Own w' 5 1 (.slice ao n cap) n (bv xs)) (lo:∀k,Bq (.slice ao n cap) k→w.heap.size≤k) {v:Value} (hv:v=.slice ao n cap):NwR w w' xs (.returned v):=by
 subst hl hv
 exact⟨_,rfl,HG,_,_,rfl,ho,lo⟩
theorem AFB {x y:List Nat} (hx:By x) (hy:By y):By (x++y):=fun b hb=>(List.mem_append.1 hb).elim (hx b) (hy b)
theorem IE (a:Int) (b:List Nat):Dg (tgC a b):=⟨HU _ _,PD _ _⟩
theorem Ef (c:List Nat) (a:Int) (b:List Nat):Dg (Vg c a b):=⟨HU _ _,PD _ _⟩
theorem Nk (q:Bool) (ks:List (List Nat)):Dg (Vf q ks):=⟨HU _ _,PD _ _⟩
theorem AFC {w:World} {b:Nat} {k:List Nat} (hk:Dg k) (h:w.rangeAt b 0 (bv k)):Sl w 1 (.slice (some ⟨b,0,none⟩) 32 32) k.length (bv k):=by
 rw[hk.1]
 refine⟨by rw[AJ,hk.1],_,_,rfl,Nat.le_refl _,by unfold maxLen;omega,fun h=>(by cases h),fun ad had=>?_⟩
 obtain rfl:=Option.some.inj had
 exact⟨fun _=>rfl,fun j u hu=>by simpa using h j u hu⟩
theorem Yb (q:List Nat) (hq:Dg q) (n:Nat) (hn:n≤4096) (w:World) :
  Calls Tryz.prog 105 #[.int .u64 284,AP q,.int .i64 ((n:Int))] w fun e w'=>∃v,e=.returned (.tuple #[v,.int .i64 0])∧w.grownBy w' none∧(Sp.row w.heap.size 5 1 n (bv (AE8 q n))).on w' v:=by
 refine Dv Tryz.func105 rfl Tryz.ntmps105 rfl fun a0 sv0=>?_
 have HG:=World.grownBy.refl w none
 replace sv0:Sv 24 [] [(0,.int .u64 284),(1,AP q),(2,.int .i64 ((n:Int)))] a0:=sv0
 refine ALo fun K1 k1=>?_
 refine ALn ?_
 refine Bn sv0 r6 (CD q hq.1) fun a2 w2 PS OJ g2 z2 CA sv2=>?_
 replace HG:=AA HG g2
 refine Av (T:=29) (Z:=[.slice none 0 0]) sv2 rfl rfl rfl (fun a w=>by kernel_rfl) fun a3 w3 AKI Qq g3 z3 I7 sv3=>?_
 have Vm:=Bt HG Qq
 replace HG:=AA HG g3
 refine Av (T:=38) (Z:=[.int .i64 0]) sv3 rfl rfl rfl (fun a w=>by kernel_rfl) fun a4 w4 AK6 ABn g4 z4 QB sv4=>?_
 have Oc:=Ar I7 ABn
 have AHB:=Bt HG ABn
 refine AE ?_
 refine k1 _ _ ?_
 refine ALo fun K5 k5=>?_
 refine ALn ?_
 refine Fu sv4 rfl rfl rfl rfl rfl rfl fun a6 sv6=>?_
 refine Er sv6 rfl (dd:={ target:=.fn (.func 139) #[pt AKI,pt AK6],args:=#[] }) rfl (by have e1:=sv6.ev (x:=.tmp 9) rfl rfl;simp[execOp,resolve,Deferred.ofValue,e1];try rfl) fun a7 sv7=>?_
 refine AE ?_
 refine k5 _ _ ?_
 refine ALo fun K8 k8=>?_
 refine ALo fun K9 k9=>?_
 refine ALn ?_
 refine AI sv7 6 [(10,.int .i64 ((n:Int))),(11,.bool false),(12,.bool false),(13,.int .i64 ((n:Int))),(14,.bool false),(15,.bool false)]
  ⟨ym r5,CQ r6 (fun _=>Bv (decide_eq_false (by omega))),ym r5,Aw rq8,Bc rq9 (fun _=>DQ (decide_eq_false (by omega))),Ax rq9,ALu⟩ fun a10 w10 g10 Ci=>?_
 refine AE ?_
 refine k9 _ _ ?_
 refine Az Ci rfl rfl ?_
 refine ALs ?_
 refine k8 _ _ ?_
 refine ALo fun K11 k11=>?_
 refine ALn ?_
 refine AI Ci 1 [(16,.int .i64 ((n:Int)))]
  ⟨ym r5,ALu⟩ fun a12 w12 g12 DX=>?_
 have AHC:=AA g10 g12
 replace I7:=AC AHC (AC g4 I7)
 replace QB:=AC AHC QB
 replace HG:=AA (AA HG g4) AHC
 refine ABj (m:=n) DX rfl rfl rfl rfl rfl rfl (by omega) fun a13 w13 SI Pc g13 z13 Od EC=>?_
 have MO:=Ar I7 Pc
 have MP:=Ar QB Pc
 have Ul:=Bt HG Pc
 refine Aa (v:=.slice ((some ⟨SI,0,none⟩)) n n) EC r6 fun a14 Db=>?_
 refine AE ?_
 refine k11 _ _ ?_
 refine ALo fun K15 k15=>?_
 refine ALn ?_
 refine AI Db 2 [(18,.int .u64 284),(19,.slice ((some ⟨PS,0,none⟩)) 32 32)]
  ⟨ym r5,Hq (l:=none) (u:=none) rfl rfl trivial (oy rfl rfl) trivial trivial (L5 PS 0) (fun _=>rfl),ALu⟩ fun a16 w16 g16 Cu=>?_
 replace CA:=AC g16 (AC g13 (AC AHC (AC g4 (AC g3 CA))))
 refine Bu Cu Tryz.func136 (by kernel_rfl) r6 (QV (AE9 (dom:=284) (by decide) rfl hq.2 (by rw[hq.1];decide) (AFC hq (Af CA)))) fun a17 v17 w17 hR17 GH=>?_
 obtain⟨rfl,g17⟩:=hR17
 have CU:Sv _ _ [_,_,_,_,_,_,_,_,_,_,_,_,_,_,_] _:=GH.dl [18,19,4,0]
 refine AI CU 1 [(21,.slice ((some ⟨SI,0,none⟩)) n n)]
  ⟨ym r5,ALu⟩ fun a19 w19 g19 E3=>?_
 replace Od:=AC g19 (AC g17 (AC g16 Od))
 refine Bu E3 Tryz.func135 (by kernel_rfl) r6 (AKH (n:=n) (by omega) Od) fun a20 v20 w20 hR20 FA=>?_
 obtain⟨rfl,g20,h20⟩:=hR20
 replace I7:=AY g20 (AC g19 (AC g17 (AC g16 (AC g13 I7)))) (Ne.symm MO)
 refine AE ?_
 refine k15 _ _ ?_
 refine ALo fun K21 k21=>?_
 refine ALn ?_
 refine AI FA 1 [(23,.slice ((some ⟨SI,0,none⟩)) n n)]
  ⟨ym r5,ALu⟩ fun a22 w22 g22 Cw=>?_
 refine As Cw r7 (IR (.slice ((some ⟨SI,0,none⟩)) n n) rfl) (AC g22 I7) rfl fun w23 g23 h23=>?_
 replace QB:=Al g22 g23 (AY g20 (AC g19 (AC g17 (AC g16 (AC g13 QB)))) (Ne.symm MP)) Oc
 refine As Cw r7 (EU 0) QB rfl fun w24 g24 h24=>?_
 replace I7:=AY g24 h23 (Ne.symm Oc)
 replace Od:=AY g24 (Al g22 g23 h20 MO) MP
 replace HG:=AD (AD (AA (AD (AA (AA (AA (AA HG g13) g16) g17) g19) g20 Ul) g22) g23 Vm) g24 AHB
 replace QB:=h24
 refine AE ?_
 refine k21 _ _ ?_
 refine ALr ?_
 repeat refine AL ?_
 have ho:=ABk (n:=n) Od (by rw[AJ];exact ABm q n) (by omega)
 refine BU (fn:=Tryz.f105) Cw (Bj (p:=6) (q:=7) Tryz.results105 Cw rfl rfl rfl rfl (IR (.slice ((some ⟨SI,0,none⟩)) n n) rfl) (EU 0) I7 QB) (Bz Tryz.func139 (by kernel_rfl) rfl _ _) (SC _ _ _) ?_
 exact⟨_,rfl,HG,_,_,rfl,ho,fun k hk=>(Option.some.inj hk)▸Ul⟩
theorem AKJ {w:World} {k:List Nat} (hk:Dg k) {n:Nat} (hn:n≤4096):Calls Tryz.prog 105 #[.int .u64 284,AP k,.int .i64 (n:Int)] w fun e w'=>∃v,e=.returned v∧(∃ao cap,v=.tuple #[.slice ao n cap,.int .i64 0]∧w.grownBy w' none∧Own w' 5 1 (.slice ao n cap) n (bv (AE8 k n))∧∀b,Bq (.slice ao n cap) b→w.heap.size≤b):=
 (Yb k hk n hn w).mono fun e w' ⟨v,h1,h2,ao,cap,h3,h4,h5⟩=>⟨_,h1,ao,cap,by rw[h3],h2,h4,h5⟩
theorem AKK {P:Program} {f:Nat} {args:Array Value} {w w1:World} {u:Value} {n:Nat} {xs:List Value} (h:Calls P f args w1 fun e w'=>e=.returned u∧w.grownBy w' none∧Own w' 5 1 u n xs):Calls P f args w1 fun e w'=>∃v,e=.returned v∧(v=u∧w.grownBy w' none∧Own w' 5 1 u n xs):=h.mono fun e w' ⟨h1,h2,h3⟩=>⟨_,h1,rfl,h2,h3⟩
theorem Kq (x:List Nat) (bx:By x) (lx:x.length≤4096) (ao:Option Addr) (cap:Nat) (c:List Nat) (hc:Dg c) (w:World) (hx:SlB w 1 (.slice ao x.length cap) x.length (bv x)) :
  Calls Tryz.prog 57 #[.slice ao x.length cap,AP c] w fun e w'=>NwR w w' (Jv x c) e:=by
 refine Bg Tryz.func57 rfl Tryz.ntmps57 rfl fun a0 sv0=>?_
 have HG:=World.grownBy.refl w none
 replace sv0:Sv 20 [] [(0,.slice ao x.length cap),(1,AP c)] a0:=sv0
 refine ALo fun K1 k1=>?_
 refine ALn ?_
 refine Bn sv0 r6 (CD c hc.1) fun a2 w2 Ia Ib g2 z2 Ab sv2=>?_
 refine Aa (v:=.slice none 0 0) sv2 r6 fun a3 sv3=>?_
 refine AE ?_
 refine k1 _ _ ?_
 refine ALo fun K4 k4=>?_
 refine ALn ?_
 refine AI sv3 3 [(8,AP c),(9,.slice ao x.length cap),(10,.int .i64 ((x.length:Nat)))]
  ⟨yl r6 (CD c hc.1) Ab,ym r5,CB (Tryz.underlying29) rfl rfl trivial (oy rfl rfl) (fun _=>rfl),ALu⟩ fun a5 w5 g5 sv5=>?_
 refine Bu sv5 Tryz.func105 (by kernel_rfl) r6 (AKJ hc (n:=x.length) lx) fun a6 v6 w6 hR6 sv6=>?_
 obtain⟨ao6,cap6,rfl,g6,hs,fs⟩:=hR6
 have sv7:Sv _ _ [_,_,_,_] _:=sv6.dl [8,9,10,3]
 refine AI sv7 3 [(7,.tuple #[.slice ao6 x.length cap6,.int .i64 0]),(12,.slice ao6 x.length cap6),(13,.int .i64 0)]
  ⟨ym r5,BC rq4 (fun _ _ h=>⟨_,_,h,rfl,rfl⟩),BC rq4 (fun _ _ h=>⟨_,_,h,rfl,rfl⟩),ALu⟩ fun a8 w8 g8 sv8=>?_
 refine Aa (v:=.slice ao6 x.length cap6) sv8 r6 fun a9 sv9=>?_
 refine Aa (v:=.int .i64 0) sv9 r6 fun a10 Ci=>?_
 have CV:Sv _ _ [_,_,_,_] _:=Ci.dl [6,7,12,13,11]
 refine AE ?_
 refine k4 _ _ ?_
 refine ALo fun K12 k12=>?_
 refine ALn ?_
 refine AI CV 2 [(14,.slice ao x.length cap),(15,.int .i64 ((x.length:Nat)))]
  ⟨ym r5,CB (Tryz.underlying29) rfl rfl trivial (oy rfl rfl) (fun _=>rfl),ALu⟩ fun a13 w13 g13 EC=>?_
 have AHD:=AA g8 g13
 replace Ab:=AC AHD (AC g6 (AC g5 Ab))
 replace hx:=(((hx.kn g2).kn g5).kn g6).kn AHD
 replace hs:=hs.kn AHD
 replace HG:=AA (AA (AA (AA HG g2) g5) g6) AHD
 refine ABj (m:=x.length) EC rfl rfl rfl rfl rfl rfl (by omega) fun a14 w14 SL Mr g14 z14 Qr Db=>?_
 have SM:=Ar Ab Mr
 have AC1:=Bt HG Mr
 have Vn:=A1 (hx.lt) Mr
 have Vo:=A1 (Own.ltS hs) Mr
 refine AI Db 2 [(17,.slice ao x.length cap),(18,.slice ao6 x.length cap6)]
  ⟨ym r5,ym r5,ALu⟩ fun a15 w15 g15 Nj=>?_
 replace Qr:=AC g15 Qr
 replace hx:=(hx.kn g14).kn g15
 replace hs:=(hs.kn g14).kn g15
 replace HG:=AA (AA HG g14) g15
 have om:=ABk (n:=x.length) Qr (by rw[AJ,AI4]) (by omega)
 have AI7:∀k,Bq (.slice ((some ⟨SL,0,none⟩)) x.length x.length) k→k≠Ia:=fun k hk e=>SM ((Option.some.inj hk).trans e)
 have ap_hx_om:∀k,Bq (.slice ao x.length cap) k→¬Bq (.slice ((some ⟨SL,0,none⟩)) x.length x.length) k:=fun k hk e=>Vn k hk (Option.some.inj e).symm
 have ap_hs_om:∀k,Bq (.slice ao6 x.length cap6) k→¬Bq (.slice ((some ⟨SL,0,none⟩)) x.length x.length) k:=fun k hk e=>Vo k hk (Option.some.inj e).symm
 have lo_om:∀k,Bq (.slice ((some ⟨SL,0,none⟩)) x.length x.length) k→w.heap.size≤k:=fun k hk=>(Option.some.inj hk)▸AC1
 clear Qr
 rw[OY] at om
 have hs2:=(Own.sb hs)
 refine Bu Nj Tryz.func106 (by kernel_rfl) r6 (AKK (ACz x (AE8 c x.length) (zs x.length) bx (AI5 c _) x.length (by omega) rfl x.length (ABm c _) (Nat.le_refl _) _ _ _ _ _ _ w _ HG om hx hs2 lo_om ap_hx_om ap_hs_om)) fun a16 v16 w16 hR16 Cu=>?_
 obtain⟨rfl,G,oo⟩:=hR16
 refine Aa (v:=.slice ((some ⟨SL,0,none⟩)) x.length x.length) Cu r6 fun a17 GH=>?_
 have CU:Sv _ _ [_,_,_] _:=GH.dl [19,17,18,16,14,15,5]
 refine AE ?_
 refine k12 _ _ ?_
 refine ALr ?_
 repeat refine AL ?_
 refine BH (fn:=Tryz.f57) CU (BD (p:=4) Tryz.results57 CU rfl rfl) ?_
 exact AI6 (Kp x c) G oo lo_om rfl
theorem Jw (a:Int) (ha:RB a) (x:List Nat) (bx:By x) (lx:x.length≤100000) (ao:Option Addr) (cap:Nat) (w:World) (hx:SlB w 1 (.slice ao x.length cap) x.length (bv x)) :
  Calls Tryz.prog 54 #[.int .i64 a,.slice ao x.length cap] w fun e w'=>e=.returned (AP (tgC a x))∧w.grownBy w' none:=by
 have hle:=FM ha.1 ha.2
 refine Bg Tryz.func54 rfl Tryz.ntmps54 rfl fun a0 sv0=>?_
 have HG:=World.grownBy.refl w none
 replace sv0:Sv 11 [] [(0,.int .i64 a),(1,.slice ao x.length cap)] a0:=sv0
 refine ALo fun K1 k1=>?_
 refine ALn ?_
 refine Av (T:=23) (Z:=(bv AQ)) sv0 rfl rfl rfl (fun a w=>by kernel_rfl) fun a2 w2 PS OJ g2 z2 CA sv2=>?_
 have Vp:=Bt HG OJ
 refine AE ?_
 refine k1 _ _ ?_
 refine ALo fun K3 k3=>?_
 refine ALn ?_
 refine AI sv2 1 [(5,.int .i64 a)]
  ⟨ym r5,ALu⟩ fun a4 w4 g4 sv4=>?_
 refine Bu sv4 Tryz.func103 (by kernel_rfl) r6 (Uk (SD a ha _)) fun a5 v5 w5 hR5 sv5=>?_
 obtain⟨ao5,cap5,rfl,_⟩:=(Sl.of_own hR5.1).shape
 obtain⟨ow5,fr5⟩:=hR5
 replace fr5:=En fr5
 have g5:=fr5.1
 replace fr5:=fr5.2
 refine AI sv5 1 [(7,.slice ao x.length cap)]
  ⟨ym r5,ALu⟩ fun a6 w6 g6 sv6=>?_
 refine ABi (cs:=[.slice ao5 ((enc a)).length cap5,.slice ao x.length cap]) (e:=29) sv6 rfl rfl rfl rfl rfl rfl rfl rfl (AKF _ _ _ _ _ _) fun a7 w7 ALj AKr g7 z7 AKL sv7=>?_
 replace hx:=((((hx.kn g2).kn g4).kn g5).kn g6).kn g7
 replace ow5:=(ow5.kn g6).kn g7
 refine Bu sv7 Tryz.func102 (by kernel_rfl) r6 (Ya (Sl.of_own ow5) hx.1 AKL (by omega) (by omega)) fun a8 v8 w8 hR8 sv8=>?_
 obtain⟨ao8,cap8,rfl,_⟩:=(Sl.of_own hR8.1).shape
 obtain⟨ow8,fr8⟩:=hR8
 replace fr8:=En fr8
 have g8:=fr8.1
 replace fr8:=fr8.2
 refine Bu sv8 Tryz.func101 (by kernel_rfl) r6 (QV (AH0 (dom:=280) (by decide) rfl (AFB (RC a) bx) (by rw[List.length_append];omega) (Sl.of_own ow8))) fun a9 v9 w9 hR9 sv9=>?_
 obtain⟨rfl,g9⟩:=hR9
 replace CA:=AC g9 (AC g8 (AC g7 (AC g6 (AC g5 (AC g4 CA)))))
 refine As sv9 r7 (CD ((tgC a x)) (IE a x).1) CA (IB (IE a x)) fun w10 g10 h10=>?_
 replace HG:=AD (AA (AA (AA (AA (AA (AA (AA HG g2) g4) g5) g6) g7) g8) g9) g10 Vp
 replace CA:=h10
 have CV:Sv _ _ [_] _:=sv9.dl [10,9,8,7,6,5,0,1]
 refine AE ?_
 refine k3 _ _ ?_
 refine ALr ?_
 repeat refine AL ?_
 refine BH (fn:=Tryz.f54) CV (FG (p:=4) Tryz.results54 CV rfl rfl (CD ((tgC a x)) (IE a x).1) CA) ?_
 exact⟨rfl,HG⟩
theorem Hj (c:List Nat) (hc:Dg c) (a:Int) (ha:RB a) (x:List Nat) (bx:By x) (lx:x.length≤100000) (ao:Option Addr) (cap:Nat) (w:World) (hx:SlB w 1 (.slice ao x.length cap) x.length (bv x)) :
  Calls Tryz.prog 58 #[AP c,.int .i64 a,.slice ao x.length cap] w fun e w'=>e=.returned (AP (Vg c a x))∧w.grownBy w' none:=by
 have hle:=FM ha.1 ha.2
 refine Bg Tryz.func58 rfl Tryz.ntmps58 rfl fun a0 sv0=>?_
 have HG:=World.grownBy.refl w none
 replace sv0:Sv 14 [] [(0,AP c),(1,.int .i64 a),(2,.slice ao x.length cap)] a0:=sv0
 refine ALo fun K1 k1=>?_
 refine ALn ?_
 refine Bn sv0 r6 (CD c hc.1) fun a2 w2 Ia Ib g2 z2 Ab sv2=>?_
 replace HG:=AA HG g2
 refine Av (T:=23) (Z:=(bv AQ)) sv2 rfl rfl rfl (fun a w=>by kernel_rfl) fun a3 w3 AKI Qq g3 z3 I7 sv3=>?_
 have Vq:=Ar Ab Qq
 have Vm:=Bt HG Qq
 refine AE ?_
 refine k1 _ _ ?_
 refine ALo fun K4 k4=>?_
 have gd5:=Ca w3
 replace Ab:=AC gd5 (AC g3 Ab)
 refine wp_region_noPanic ?_
 refine M9 (fun w'=>w'.heap[Ia]?=some (.cells (bv c).toArray 23 (0,0))∧True) [0,1,3] [2,4,5,6,7] (by kernel_rfl) (by kernel_rfl) (fun _ _ d _ _ h=>by cases d<;>exact h) rfl (by kernel_rfl) ⟨Ab,ALu⟩ ?_
 simp only[List.filterMap_cons,List.filterMap_nil,List.getElem?_toArray,List.getElem?_cons_succ,List.getElem?_cons_zero]
 refine AG1 sv3 rfl rfl rfl rfl ⟨rfl,rfl⟩ (fun w hS=>Ac (CD c hc.1) (Af hS.1)) fun a6 sv6=>?_
 refine AHy (v:=.int .i64 a) w3.drew sv6 rfl (by kernel_rfl) (Qp 1 8 (.inl rfl) rfl rfl trivial (fun _ _ h=>h)) fun a7 sv7=>?_
 refine AHy (v:=.slice ao x.length cap) w3.drew sv7 rfl (by kernel_rfl) (Qp 2 10 (.inl rfl) rfl rfl trivial (fun _ _ h=>h)) fun a8 sv8=>?_
 change wpList _ _ _ _ _ _
 refine Bu sv8 Tryz.func103 (by kernel_rfl) r6 (Uk (SD a ha _)) fun a9 v9 w9 hR9 sv9=>?_
 obtain⟨ao9,cap9,rfl,_⟩:=(Sl.of_own hR9.1).shape
 obtain⟨ow9,fr9⟩:=hR9
 replace fr9:=En fr9
 have g9:=fr9.1
 replace fr9:=fr9.2
 replace Ab:=AC g9 Ab
 refine AE ⟨⟨Ab,ALu⟩,?_⟩
 change wpList _ _ _ _ _ _
 refine ABi (cs:=[.slice ao9 ((enc a)).length cap9,.slice ao x.length cap]) (e:=29) sv9 rfl rfl rfl rfl rfl rfl rfl rfl (AKF _ _ _ _ _ _) fun a10 w10 AK7 AJa g10 z10 AHE Ci=>?_
 replace Ab:=AC g10 Ab
 replace hx:=((((hx.kn g2).kn g3).kn gd5).kn g9).kn g10
 replace ow9:=ow9.kn g10
 refine AE ⟨⟨Ab,ALu⟩,?_⟩
 change wpList _ _ _ _ _ _
 refine Bu Ci Tryz.func102 (by kernel_rfl) r6 (Ya (Sl.of_own ow9) hx.1 AHE (by omega) (by omega)) fun a11 v11 w11 hR11 CV=>?_
 obtain⟨ao11,cap11,rfl,_⟩:=(Sl.of_own hR11.1).shape
 obtain⟨ow11,fr11⟩:=hR11
 replace fr11:=En fr11
 have g11:=fr11.1
 replace fr11:=fr11.2
 replace Ab:=AC g11 Ab
 refine AE ⟨⟨Ab,ALu⟩,?_⟩
 change wpList _ _ _ _ _ _
 refine Bu CV Tryz.func66 (by kernel_rfl) r6 (QV (AFA (dom:=285) (by decide) rfl hc (AFB (RC a) bx) (by rw[List.length_append];omega) (Sl.of_own ow11))) fun a12 v12 w12 hR12 DX=>?_
 obtain⟨rfl,g12⟩:=hR12
 replace Ab:=AC g12 Ab
 replace I7:=AC g12 (AC g11 (AC g10 (AC g9 (AC gd5 I7))))
 refine AE ⟨⟨Ab,ALu⟩,?_⟩
 change wpList _ _ _ _ _ _
 refine As DX r7 (CD ((Vg c a x)) (Ef c a x).1) I7 (IB (Ef c a x)) fun w13 g13 h13=>?_
 replace Ab:=AY g13 Ab (Ne.symm Vq)
 replace HG:=AD (AA (AA (AA (AA (AA (AA HG g3) gd5) g9) g10) g11) g12) g13 Vm
 replace I7:=h13
 refine AE ⟨⟨Ab,ALu⟩,?_⟩
 refine NoPanic.normal ?_
 have Db:Sv _ _ [_,_] _:=DX.dl [13,12,11,9,10,8,7,3,1,2]
 refine k4 _ _ ?_
 refine ALr ?_
 repeat refine AL ?_
 refine BH (fn:=Tryz.f58) Db (FG (p:=6) Tryz.results58 Db rfl rfl (CD ((Vg c a x)) (Ef c a x).1) I7) ?_
 exact⟨rfl,HG⟩
def Bw (a:Int) (os:Value) (j:Int) (ws bs:Value) (tg:List Nat):Value:=.agg ([[.int .i64 a],[os],[.int .i64 j],[ws],[bs],bv tg].flatten).toArray
theorem FS {x y:List Nat} (hx:Dg x) (hy:Dg y) {a j b k:Int} {os ws bs os' ws' bs':Value}:([[.int .i64 a],[os],[.int .i64 j],[ws],[bs],bv x].flatten).length=([[.int .i64 b],[os'],[.int .i64 k],[ws'],[bs'],bv y].flatten).length:=by simp[AJ,hx.1,hy.1]
theorem Dz (a j:Int) {tg:List Nat} (ht:Dg tg) (os ws bs:Value) (h1:os.oneCell'=true) (h2:ws.oneCell'=true) (h3:bs.oneCell'=true):TY Tryz.prog 31 ([[.int .i64 a],[os],[.int .i64 j],[ws],[bs],bv tg].flatten) (Bw a os j ws bs tg):=by
 refine TY.agg Tryz.underlying31 rfl ?_ ?_
 · rw[show([[.int .i64 a],[os],[.int .i64 j],[ws],[bs],bv tg].flatten).length=37 by simp[AJ,ht.1]]
   kernel_rfl
 · intro c hc
   simp only[List.flatten_cons,List.flatten_nil,List.append_nil,List.mem_append,List.mem_singleton] at hc
   rcases hc with rfl|rfl|rfl|rfl|rfl|hc
   · rfl
   · exact h1
   · rfl
   · exact h2
   · exact h3
   · exact IW _ _ hc
theorem AHF (w:World):(Instr.build 31 #[]).run Tryz.prog w=.ok (Bw 0 (.slice none 0 0) 0 (.slice none 0 0) (.slice none 0 0) AQ) w:=by kernel_rfl
theorem AK8 (a:Int) (ao:Option Addr) (n c:Nat) (j:Int) (w:World):(Instr.build 31 #[(0,.int .i64 a),(1,.slice ao n c),(2,.int .i64 j)]).run Tryz.prog w=.ok (Bw a (.slice ao n c) j (.slice none 0 0) (.slice none 0 0) AQ) w:=by kernel_rfl
theorem C3 (x:Int):TY Tryz.prog 3 [.int .i64 x] (.int .i64 x):=TY.one' Tryz.underlying3 rfl (by kernel_rfl) rfl
def fl (ds:List DD) (i:Nat):List Nat:=(ds.take i).flatMap DD.x
theorem ABo {ds:List DD} {i:Nat} {x:DD} (hi:i<ds.length) (hx:ds[i]=x):fl ds (i+1)=fl ds i++x.x:=by
 unfold fl
 rw[List.take_add_one,List.getElem?_eq_getElem hi,hx,List.flatMap_append]
 simp
theorem AAi (d:BitVec 64) (l:List Nat):Dg (TG d l):=⟨HU _ _,PD _ _⟩
theorem AI8 {ds:List DD}:∀{i:Nat},i≤ds.length→(fl ds i).length=32*i
 | 0,_=>rfl
 | i+1,h=>by rw[ABo (i:=i) (by omega) rfl,List.length_append,AI8 (by omega),(ds[i]).h.1];omega
theorem AKM (ds:List DD) (i:Nat):By (fl ds i):=fun b hb=>by
 obtain⟨d,_,hd⟩:=List.mem_flatMap.1 hb
 exact d.h.2 b hd
theorem AI9 {ds:List DD} {i:Nat} (h:ds.length≤i):fl ds i=(ds.map DD.x).flatten:=by
 unfold fl
 rw[List.take_of_length_le h,List.flatMap_def]
theorem AFD {w:World} {b:Nat} {k:List Nat} (hk:Dg k) (h:w.rangeAt b 0 (bv k)):Sl w 1 (.slice (some ⟨b,0,none⟩) 32 32) 32 (bv k):=by
 have:=AFC hk h
 rwa [hk.1] at this
theorem AKN {w:World} {v:Value} {ds:List DD} {i:Nat} (hi:i≤ds.length) (h:Sl w 1 v (32*i) (bv (fl ds i))):Sl w 1 v (fl ds i).length (bv (fl ds i)):=by rw[AI8 hi];exact h
theorem AHG (ds:List DD):(ds.flatMap ML).all Value.oneCell'=true:=by
 rw[List.all_eq_true]
 intro v hv
 obtain⟨d,_,hd⟩:=List.mem_flatMap.1 hv
 exact IW _ _ hd
theorem AK9 {a b:List Nat} (h:a=b):Ending.returned (AP a)=Ending.returned (AP b):=by rw[h]
theorem EI (w:World):CallsD Tryz.prog 69 #[] .returning w fun e u' w'=>e=.returned (.tuple #[])∧u'=.returning∧w'=w:=by
 refine callsD_of_wpS Tryz.func69 rfl fun c₀ cs hu=>?_
 apply wpS_region
 simp[wpOpsS,go_sem,recoverD,hu,Tryz.ntmps69]
 cases c₀
 simp_all [bodyPostS,results,Tryz.results69]
theorem AC2 (joint:Int) (ds:List DD) (ao:Option Addr) (cap:Nat) (w:World) (hr:RdD w (.slice ao ds.length cap) ds) (hl:ds.length≤1000) :
   Calls Tryz.prog 55 #[.int .i64 joint,.slice ao ds.length cap] w fun e w'=>e=.returned (AP (Vf (decide (joint=1)) (ds.map DD.x)))∧w.grownBy w' none:=by
 obtain⟨dm,hdm⟩:∃dm:Nat,dm=if decide (joint=1)=true then 282 else 281:=⟨_,rfl⟩
 have hdl:dm<1000:=by rw[hdm];split<;>decide
 refine Bg Tryz.func55 rfl Tryz.ntmps55 rfl fun a0 sv0=>?_
 have HG:=World.grownBy.refl w none
 replace sv0:Sv 24 [] [(0,.int .i64 joint),(1,.slice ao ds.length cap)] a0:=sv0
 refine ALo fun K1 k1=>?_
 refine ALn ?_
 refine Av (T:=23) (Z:=(bv AQ)) sv0 rfl rfl rfl (fun a w=>by kernel_rfl) fun a2 w2 PS OJ g2 z2 CA sv2=>?_
 have Vp:=Bt HG OJ
 replace hr:=hr.kn g2
 replace HG:=AA HG g2
 refine AE ?_
 refine k1 _ _ ?_
 refine ALo fun K3 k3=>?_
 refine ALn ?_
 refine Aa (v:=.int .u64 281) sv2 r6 fun a4 sv4=>?_
 refine AE ?_
 refine k3 _ _ ?_
 refine ALo fun K5 k5=>?_
 suffices MG6:∀(a':Act) (w':World),Sv 24 [] [(5,.int .u64 ((dm:Int))),(4,pt PS),(0,.int .i64 joint),(1,.slice ao ds.length cap)] a'→w.grownBy w' none→w'.heap[PS]?=some (.cells ((bv AQ)).toArray 23 (0,0))→(RdD w' (.slice ao ds.length cap) ds)→K5 a' w' by
   by_cases hj:joint=1
   · obtain rfl:dm=282:=by rw[hdm,decide_eq_true hj];rfl
     refine ALo fun K7 k7=>?_
     refine ALn ?_
     refine AI sv4 2 [(9,.int .i64 joint),(10,.bool true)]
      ⟨ym r5,CQ r6 (fun _=>Bi (by simpa using hj)),ALu⟩ fun a8 w8 g8 sv8=>?_
     refine AE ?_
     refine k7 _ _ ?_
     refine Ay sv8 rfl rfl ?_
     refine ALn ?_
     refine Aa (v:=.int .u64 282) sv8 r6 fun a9 sv9=>?_
     refine AE ?_
     replace CA:=AC g8 CA
     replace hr:=hr.kn g8
     replace HG:=AA HG g8
     have svm:Sv 24 [] [(5,_),(4,_),(0,_),(1,_)] a9:=⟨sv9.1,sv9.2.1,sv9.2.2.1,sv9.2.2.2.2.2.1,sv9.2.2.2.2.2.2.1,sv9.2.2.2.2.2.2.2.1,ALu⟩
     exact MG6 _ _ svm HG CA hr
   · obtain rfl:dm=281:=by rw[hdm,decide_eq_false hj];rfl
     refine ALo fun K10 k10=>?_
     refine ALn ?_
     refine AI sv4 2 [(9,.int .i64 joint),(10,.bool false)]
      ⟨ym r5,CQ r6 (fun _=>Bi (by simpa using hj)),ALu⟩ fun a11 w11 g11 CV=>?_
     refine AE ?_
     refine k10 _ _ ?_
     refine Az CV rfl rfl ?_
     refine ALs ?_
     replace CA:=AC g11 CA
     replace hr:=hr.kn g11
     replace HG:=AA HG g11
     have svm:Sv 24 [] [(5,_),(4,_),(0,_),(1,_)] a11:=⟨CV.1,CV.2.1,CV.2.2.2.2.1,CV.2.2.2.2.2.1,CV.2.2.2.2.2.2.1,CV.2.2.2.2.2.2.2.1,ALu⟩
     exact MG6 _ _ svm HG CA hr
 clear CA
 clear hr
 clear HG
 intro a6 w6 sv6 HG CA hr
 refine k5 _ _ ?_
 refine ALo fun K12 k12=>?_
 refine ALn ?_
 refine Aa (v:=.slice none 0 0) sv6 r6 fun a13 EC=>?_
 refine AE ?_
 refine k12 _ _ ?_
 refine ALo fun K14 k14=>?_
 refine ALo fun K15 k15=>?_
 refine ALn ?_
 refine AI EC 3 [(11,.slice ao ds.length cap),(12,.int .i64 ((ds.length:Nat))),(13,.int .i64 0)]
   ⟨ym r5,CB (Tryz.underlying28) rfl rfl trivial (oy rfl rfl) (fun _=>rfl),FE (.inl rfl) rfl trivial (fun _=>rfl),ALu⟩ fun a16 w16 g16 Cu=>?_
 refine AE ?_
 refine k15 _ _ ?_
 refine BM fun Q17 x17 y17 rt17 o17=>?_
 replace CA:=AC g16 CA
 replace hr:=hr.kn g16
 replace HG:=AA HG g16
 have ob:=Own.nil w16 5 1
 have I8:=LZ PS
 have ap_hr_ob:=La (Bq (.slice ao ds.length cap))
 have lo_ob:=ACe w
 refine wp_loop (fun a w'=>∃(i:Nat) (bo:Option Addr) (bc:Nat),(i≤ds.length)∧Sv 24 [] [(13,.int .i64 ((i:Int))),(6,.slice bo (32*i) bc),(11,.slice ao ds.length cap),(12,.int .i64 ((ds.length:Nat))),(5,.int .u64 ((dm:Int))),(4,pt PS),(0,.int .i64 joint),(1,.slice ao ds.length cap)] a∧w.grownBy w' none∧w'.heap[PS]?=some (.cells ((bv AQ)).toArray 23 (0,0))∧RdD w' (.slice ao ds.length cap) ds∧Own w' 5 1 (.slice bo (32*i) bc) ((32*i)) (bv ((fl ds i)))∧(∀k,Bq (.slice bo (32*i) bc) k→k≠PS)∧(∀k,Bq (.slice ao ds.length cap) k→¬Bq (.slice bo (32*i) bc) k)∧(∀k,Bq (.slice bo (32*i) bc) k→w.heap.size≤k)) (fun a _=>(ds.length-intOf (a.tmps.getD 13 undef)).toNat) ⟨0,none,0,Nat.zero_le _,⟨Cu.1,Cu.2.1,Cu.2.2.2.2.1,Cu.2.2.2.2.2.1,Cu.2.2.1,Cu.2.2.2.1,Cu.2.2.2.2.2.2.1,Cu.2.2.2.2.2.2.2.1,(AH Cu).1,(AH Cu).2.1,ALu⟩,HG,CA,hr,ob,I8,ap_hr_ob,lo_ob⟩ fun a18 w18 hI18=>?_
 clear CA
 clear hr
 clear ob
 clear HG
 obtain⟨i,bo,bc,hin,CU,HG,CA,hr,ob,I8,ap_hr_ob,lo_ob⟩:=hI18
 refine ALo fun K19 k19=>?_
 by_cases hi:i<ds.length
 · obtain⟨x,hx_x⟩:∃zx,ds[i]'hi=zx:=⟨_,rfl⟩
   have hfs:=ABo hi hx_x
   refine ALn ?_
   refine AI CU 1 [(14,.bool true)]
     ⟨Hc r7 (fun _=>Bv (by simp;omega)),ALu⟩ fun a20 w20 g20 FA=>?_
   refine AE ?_
   refine k19 _ _ ?_
   refine ALo fun K21 k21=>?_
   refine Ay FA rfl rfl ?_
   refine ALs ?_
   refine k21 _ _ ?_
   refine ALo fun K22 k22=>?_
   refine BM fun Q23 x23 y23 rt23 o23=>?_
   refine ALo fun K24 k24=>?_
   refine ALn ?_
   replace hr:=hr.kn g20
   refine AI FA 2 [(15,pk ((bO ao)) (oO ao+i*32)),(16,AP x.x)]
     ⟨BV rq8 (fun w=>Ce Tryz.underlying28 (by kernel_rfl) (hr.1) (by omega) (rfl) w),CE r6 (fun _ g=>Ac (CD x.x x.h.1) (by have:=Dq (hr.kn g).1 Hh hi (by decide);rw[hx_x] at this;exact this)),ALu⟩ fun a25 w25 g25 DY=>?_
   replace CA:=AC g25 (AC g20 CA)
   replace hr:=hr.kn g25
   replace ob:=(ob.kn g20).kn g25
   replace HG:=AA (AA HG g20) g25
   refine Av (T:=23) (Z:=(bv AQ)) DY rfl rfl rfl (fun a w=>by kernel_rfl) fun a26 w26 AH1 Oe g26 z26 AAj Cj=>?_
   have Te:=Ar CA Oe
   have AFE:=Bt HG Oe
   have Yc:=A1 (hr.lt) Oe
   have Yd:=A1 (Own.ltS ob) Oe
   refine As Cj r7 (CD x.x x.h.1) AAj (IB x.h) fun w27 g27 h27=>?_
   refine AE ?_
   refine k24 _ _ ?_
   refine ALn ?_
   refine AI Cj 2 [(17,.slice bo (32*i) bc),(18,.slice ((some ⟨AH1,0,none⟩)) 32 32)]
     ⟨ym r5,Hq (l:=none) (u:=none) rfl rfl trivial (oy rfl rfl) trivial trivial (L5 AH1 0) (fun _=>rfl),ALu⟩ fun a28 w28 g28 L8=>?_
   replace CA:=AC g28 (AY g27 (AC g26 CA) (Ne.symm Te))
   replace AAj:=AC g28 h27
   replace hr:=((hr.kn g26).offR g27 (AV Yc)).kn g28
   replace ob:=((ob.kn g26).offR g27 (AV Yd)).kn g28
   replace HG:=AA (AD (AA HG g26) g27 AFE) g28
   refine NZ EE L8 rfl rfl rfl rfl rfl rfl rfl rfl ob (AFD x.h (Af AAj)) (Hl _) (by omega) fun a29 ao29 cap29 w29 owx29 Cq CR=>?_
   have Tf:=LV Cq.2 I8 CA
   have Ye:=LY Cq.2 ap_hr_ob (hr.lt)
   have AFF:=AAD Cq.2 lo_ob HG
   replace CA:=AF Cq.1 CA (fun e=>I8 _ e.symm rfl)
   replace hr:=hr.offR Cq.1 (fun k hk e=>ap_hr_ob k hk (e))
   replace HG:=Bp HG Cq.1 fun k e=>lo_ob k (e)
   rw[←Du,←hfs] at owx29
   refine Aa (v:=.slice ao29 (32*i+32) cap29) CR r6 fun a30 Fd=>?_
   refine AE ?_
   refine y23 _ _ ?_
   refine k22 _ _ ?_
   refine ALn ?_
   refine AI Fd 1 [(20,.int .i64 (((i+1:Nat):Int)))]
     ⟨CQ r6 (fun _=>DV (by rw[BG (by omega) (by omega)];omega)),ALu⟩ fun a31 w31 g31 Hu=>?_
   refine AI (Hu.dl [13]) 1 [(13,.int .i64 (((i+1:Nat):Int)))]
     ⟨ym r5,ALu⟩ fun a32 w32 g32 Cr=>?_
   have AHH:=AA g31 g32
   refine AE ?_
   replace CA:=AC AHH CA
   replace hr:=hr.kn AHH
   replace owx29:=owx29.kn AHH
   replace HG:=AA HG AHH
   exact⟨⟨i+1,ao29,cap29,by omega,⟨Cr.1,Cr.2.1,Cr.2.2.1,Cr.2.2.2.2.1,(AH Cr).2.2.2.2.1,(AH Cr).2.2.2.2.2.1,(AH Cr).2.2.2.2.2.2.1,(AH Cr).2.2.2.2.2.2.2.1,(AH (AH Cr)).1,(AH (AH Cr)).2.1,ALu⟩,HG,CA,hr,owx29,Tf,Ye,AFF⟩,by rw[show _=_ from Cr.2.2.1,show _=_ from CU.2.2.1];simp[intOf];omega⟩
 · have hall:=AI9 (ds:=ds) (i:=i) (by omega)
   refine ALn ?_
   refine AI CU 1 [(14,.bool false)]
     ⟨Hc r7 (fun _=>Bv (by simp;omega)),ALu⟩ fun a33 w33 g33 IZ=>?_
   refine AE ?_
   refine k19 _ _ ?_
   refine ALo fun K34 k34=>?_
   refine Az IZ rfl rfl ?_
   refine wp_exit ?_
   repeat refine CW ?_
   refine x17 _ _ ?_
   refine k14 _ _ ?_
   refine ALo fun K35 k35=>?_
   refine ALn ?_
   refine AI IZ 2 [(21,.int .u64 ((dm:Int))),(22,.slice bo (32*i) bc)]
     ⟨ym r5,ym r5,ALu⟩ fun a36 w36 g36 F5=>?_
   have Rn:=AA g33 g36
   replace ob:=ob.kn Rn
   refine Bu F5 Tryz.func101 (by kernel_rfl) r6 (QV (AH0 (dom:=dm) hdl rfl (AKM ds i) (by rw[AI8 (by omega)];omega) (AKN (by omega) (Sl.of_own ob)))) fun a37 v37 w37 hR37 Jt=>?_
   obtain⟨rfl,g37⟩:=hR37
   replace CA:=AC g37 (AC Rn CA)
   refine As Jt r7 (CD ((TG (BitVec.ofNat 64 dm) (fl ds i))) (AAi _ _).1) CA (IB (AAi _ _)) fun w38 g38 h38=>?_
   replace ob:=(ob.kn g37).offR g38 (AV I8)
   replace HG:=AD (AA (AA HG Rn) g37) g38 Vp
   replace CA:=h38
   refine AE ?_
   refine k35 _ _ ?_
   refine ALr ?_
   repeat refine AL ?_
   refine BH (fn:=Tryz.f55) Jt (FG (p:=4) Tryz.results55 Jt rfl rfl (CD ((TG (BitVec.ofNat 64 dm) (fl ds i))) (AAi _ _).1) CA) ?_
   exact⟨AK9 (by rw[hall,hdm];rfl),HG⟩
end Go.Proofs.YtbfjfnbcmojpiaaGreat
