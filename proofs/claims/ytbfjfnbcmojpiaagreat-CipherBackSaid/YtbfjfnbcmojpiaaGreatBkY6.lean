import Derived.Test.YtbfjfnbcmojpiaaGreatBkY3
import Derived.Test.YtbfjfnbcmojpiaaGreatBkR1
set_option linter.unusedSimpArgs false
set_option linter.unusedVariables false
set_option maxRecDepth 100000
set_option maxHeartbeats 4000000
namespace Go.Proofs.YtbfjfnbcmojpiaaGreat
open Go.RowKit Go.Shelf
theorem NH {P:Program} {f:Nat} {args:Array Value} {w:World} {v:Value} (h:Calls P f args w fun e w'=>e=.returned v∧w.grownBy w' none):Calls P f args w fun e w'=>∃v',e=.returned v'∧(v'=v∧w.grownBy w' none):=h.mono fun e w' ⟨h1,h2⟩=>⟨v,h1,rfl,h2⟩
section
variable {P:Program} {Q:Exit→Act→World→Prop} {ops:Array Oper} {rest:List Oper} {o:Oper} {a:Act} {w:World} {n:Nat} {D:List Deferred} {K:List (Nat×Value)}
theorem Lb (sv:Sv n D K a) (hgd:o.guard=none) {d:Nat} {t e:TypeId} {x:Operand} {u:Value} {cs:List Value} (ho:o.op=.buildSlice t 1 #[(0,x)]) (hd:o.dst=some d) (hdn:decide (d<n)=true) (hx:KX K x=true) (hxv:KY K x=u)
  (hr:∀W:World,(Instr.buildSlice t 1 #[(0,u)]).run P W=.ok (.slice (some ⟨W.heap.size,0,none⟩) 1 1) (W.alloc (.cells cs.toArray e)))
  (h:∀a' w' b,b=w.heap.size→w.grownBy w' none→w'.heap.size=b+1→w'.heap[b]?=some (.cells cs.toArray e (0,0))→Sv n D ((d,.slice (some ⟨b,0,none⟩) 1 1)::Hw d K) a'→wpList P ops Q rest a' w'):wpList P ops Q (o::rest) a w:=by
 refine MM (w':=w.alloc (.cells cs.toArray e)) sv hgd hd hdn ?_ fun a' sv'=>h a' _ _ rfl (World.grownBy_alloc _ _ _) (by simp) (Af rfl) sv'
 have e:=sv.ev hx hxv
 simp only[execOp,ho,e,List.map_toArray,List.map_cons,List.map_nil,Sem.run_bind,Sem.run_pure,Result.andThen_ok,hr]
theorem XR (sv:Sv n D K a) (hgd:o.guard=none) {d:Nat} {t e:TypeId} {x y:Operand} {u v:Value} {cs:List Value} (ho:o.op=.buildSlice t 2 #[(0,x),(1,y)]) (hd:o.dst=some d) (hdn:decide (d<n)=true) (hx:KX K x=true) (hxv:KY K x=u) (hy:KX K y=true) (hyv:KY K y=v)
  (hr:∀W:World,(Instr.buildSlice t 2 #[(0,u),(1,v)]).run P W=.ok (.slice (some ⟨W.heap.size,0,none⟩) 2 2) (W.alloc (.cells cs.toArray e)))
  (h:∀a' w' b,b=w.heap.size→w.grownBy w' none→w'.heap.size=b+1→w'.heap[b]?=some (.cells cs.toArray e (0,0))→Sv n D ((d,.slice (some ⟨b,0,none⟩) 2 2)::Hw d K) a'→wpList P ops Q rest a' w'):wpList P ops Q (o::rest) a w:=by
 refine MM (w':=w.alloc (.cells cs.toArray e)) sv hgd hd hdn ?_ fun a' sv'=>h a' _ _ rfl (World.grownBy_alloc _ _ _) (by simp) (Af rfl) sv'
 have e1:=sv.ev hx hxv
 have e2:=sv.ev hy hyv
 simp only[execOp,ho,e1,e2,List.map_toArray,List.map_cons,List.map_nil,Sem.run_bind,Sem.run_pure,Result.andThen_ok,hr]
end
section
variable {Q:Exit→Act→World→Prop} {ops:Array Oper} {rest:List Oper} {o:Oper} {a:Act} {w:World} {n:Nat} {D:List Deferred} {K:List (Nat×Value)}
theorem AC8 (m:Nat):madeCells (Value.int .u8 0).cells (m*1)=(bv (zs m)).toArray:=by
 apply Array.ext'
 rw[N8 (z:=.int .u8 0) (sz:=1) rfl (by decide)]
 induction m with
 | zero=>rfl
 | succ m ih=>rw[List.replicate_succ,List.flatMap_cons,ih];rfl
theorem XS {m:Nat} (sv:Sv n D K a) (hgd:o.guard=none) {d:Nat} {x:Operand} (ho:o.op=.makeSlice 29 x x) (hd:o.dst=some d) (hdn:decide (d<n)=true) (hx:KX K x=true) (hxv:KY K x=.int .i64 (m:Int)) (hm:m≤1000000)
  (h:∀a' w' b,b=w.heap.size→w.grownBy w' none→w'.heap.size=b+1→w'.heap[b]?=some (.cells (bv (zs m)).toArray 5 (0,0))→Sv n D ((d,.slice (some ⟨b,0,none⟩) m m)::Hw d K) a'→wpList Tryz.prog ops Q rest a' w'):wpList Tryz.prog ops Q (o::rest) a w:=by
 refine MM (w':=w.alloc (.cells (bv (zs m)).toArray 5)) sv hgd hd hdn ?_ fun a' sv'=>h a' _ _ rfl (World.grownBy_alloc _ _ _) (by simp) (Af rfl) sv'
 have e:=sv.ev hx hxv
 obtain⟨i,hi,hz,hs,hby⟩:=DM.inf
 have hb:=DM.bnd
 have hbytes:(i.bytes:Int)*(m:Int)≤281474976710656:=by rw[hby];omega
 have hr:=run_make (P:=Tryz.prog) w 29 5 i (.int .u8 0) DM.und hi hz .i64 .i64 (m:Int) (m:Int) (by omega) (by omega) hbytes (by omega)
 rw[hs,Int.toNat_natCast,AC8] at hr
 simp only[execOp,ho,e,Sem.run_bind,Sem.run_pure,Result.andThen_ok,hr]
theorem XT {B n:Nat} {xs:List Value} {t:TypeId} (h:w.heap[B]?=some (.cells xs.toArray t (0,0))) (hl:xs.length=n) (hn:n≤1000000):Own w t 1 (.slice (some ⟨B,0,none⟩) n n) n xs:=by
 subst hl
 refine⟨by rw[Nat.mul_one],.inr ⟨B,xs.length,_,rfl,Nat.zero_le _,h,Nat.le_refl _,by unfold maxLen;omega,by simp,?_⟩⟩
 rw[Nat.mul_one,List.take_of_length_le (by simp)]
end
theorem AE9 (n:Nat):(zs n).length=n:=List.length_replicate
theorem Rh (w:World):CallsD Tryz.prog 138 #[] .returning w fun e u' w'=>e=.returned (.tuple #[])∧u'=.returning∧w'=w:=by
 refine callsD_of_wpS Tryz.func138 rfl fun c₀ cs hu=>?_
 apply wpS_region
 simp[wpOpsS,go_sem,recoverD,hu,Tryz.ntmps138]
 cases c₀
 simp_all [bodyPostS,results,Tryz.results138]
theorem Ri (w:World):CallsD Tryz.prog 98 #[] .returning w fun e u' w'=>e=.returned (.tuple #[])∧u'=.returning∧w'=w:=by
 refine callsD_of_wpS Tryz.func98 rfl fun c₀ cs hu=>?_
 apply wpS_region
 simp[wpOpsS,go_sem,recoverD,hu,Tryz.ntmps98]
 cases c₀
 simp_all [bodyPostS,results,Tryz.results98]
theorem OU (p q:Value) (w:World):CallsD Tryz.prog 139 #[p,q] .returning w fun e u' w'=>e=.returned (.tuple #[])∧u'=.returning∧w'=w:=by
 refine callsD_of_wpS Tryz.func139 rfl fun c₀ cs hu=>?_
 apply wpS_seq
 apply wpS_region
 simp[wpOpsS,go_sem,recoverD,hu,Tryz.ntmps139,Exit.thenS]
 refine wpS_cond (t:=false) (by simp[Act.eval,Array.replicate]) ?_
 simp only[Bool.false_eq_true,if_false]
 refine wpS_of_wp (AH8 ?_)
 cases c₀
 simp_all [bodyPostS,results,Tryz.results139]
theorem Qo {P:Program} {f:Nat} {args:Array Value} {w:World} {xs:List Nat} (h:Calls P f args w fun e w'=>NwR w w' xs e):Calls P f args w fun e w'=>∃v,e=.returned v∧(Own w' 5 1 v xs.length (bv xs)∧Fresh w w' v):=
 h.mono fun e w' ⟨v,h1,h2,ao,cap,h3,h4,h5⟩=>⟨v,h1,h3▸h4,⟨by simpa [L9,Value.ownBlock] using h2,fun k hk=>.inr (h5 k (h3▸hk))⟩⟩
theorem AC9 {w:World} {B:Nat} {t:TypeId} {a:Int} (hb:w.heap[B]?=some (.cells [.int .i64 a].toArray t (0,0))) (h:No a):Calls Tryz.prog 132 #[.slice none 0 0,.slice (some ⟨B,0,none⟩) 1 1] w fun e w'=>∃v,e=.returned v∧(Own w' 5 1 v (enc a).length (bv (enc a))∧Fresh w w' v):=by
 have:=QY L9 (.slice (some ⟨B,0,none⟩) 1 1) [] [a] w (Own.nil _ _ _) (VH hb ⟨rfl,by decide⟩) (.inr (by simp[L9,Value.ownBlock])) (fun n hn=>by simp at hn;subst hn;exact h) (by simp)
 simpa using this
theorem AD5 {w:World} {v:Value} {ys:List Nat} (h:Sl w 1 v ys.length (bv ys)) (hm:0<ys.length) (hl:ys.length≤3000000):Calls Tryz.prog 99 #[.slice none 0 0,v] w fun e w'=>∃v,e=.returned v∧(Own w' 5 1 v ys.length (bv ys)∧Fresh w w' v):=by
 have:=S4 L9 v [] ys w (Sl.nil w 1) h hm (by simp;omega)
 simpa using this
theorem XU (a:Int):0<(enc a).length:=by
 unfold enc
 by_cases h:Wm a<128
 · rw[FI h];simp
 · rw[IK h];simp
theorem AAz (x:V):0<(BV x).length:=by
 unfold BV PK
 rw[List.length_append]
 have:=XU x.clean.kind
 omega
theorem AGE (a:Int) (W:World):(Instr.buildSlice 74 1 #[(0,.int .i64 a)]).run Tryz.prog W=.ok (.slice (some ⟨W.heap.size,0,none⟩) 1 1) (W.alloc (.cells [.int .i64 a].toArray 2)):=by kernel_rfl
theorem AGF (ao bo:Option Addr) (n m c d:Nat) (W:World):(Instr.buildSlice 151 2 #[(0,.slice ao n c),(1,.slice bo m d)]).run Tryz.prog W=.ok (.slice (some ⟨W.heap.size,0,none⟩) 2 2) (W.alloc (.cells [.slice ao n c,.slice bo m d].toArray 29)):=by kernel_rfl
theorem ADA {w:World} (x:V):Calls Tryz.prog 100 #[.slice none 0 0,Bi x] w fun e w'=>∃v,e=.returned v∧(Own w' 5 1 v (BV x).length (bv (BV x))∧Fresh w w' v):=by
 have:=Zk L9 x [] w (Own.nil _ _ _) (by simp)
 rw[List.nil_append] at this
 exact this
theorem OY (n:Int) (hn:No n) (w:World) :
  Calls Tryz.prog 103 #[.slice none 0 0,.int .i64 n] w fun e w'=>NwR w w' (enc n) e:=by
 have hl:=EF hn.1 hn.2
 refine DP Tryz.func103 rfl Tryz.ntmps103 rfl fun a0 sv0=>?_
 have HG:=World.grownBy.refl w none
 replace sv0:Sv 10 [] [(0,.slice none 0 0),(1,.int .i64 n)] a0:=sv0
 refine AH4 fun K1 k1=>?_
 refine AH3 ?_
 refine AZ (v:=.slice none 0 0) sv0 r6 fun a2 sv2=>?_
 refine AE ?_
 refine k1 _ _ ?_
 refine AH4 fun K3 k3=>?_
 refine AH3 ?_
 refine D9 sv2 rfl (dd:={ target:=.fn (.func 138) #[],args:=#[] }) rfl (by simp[execOp,resolve,Deferred.ofValue];try rfl) fun a4 sv4=>?_
 refine AE ?_
 refine k3 _ _ ?_
 refine AH4 fun K5 k5=>?_
 refine AH3 ?_
 refine AK sv4 2 [(5,.slice none 0 0),(6,.int .i64 n)]
  ⟨ym r5,ym r5,AIA⟩ fun a6 w6 g6 sv6=>?_
 refine Lb (cs:=[.int .i64 n]) (e:=2) sv6 rfl rfl rfl rfl rfl rfl (AGE n) fun a7 w7 AHx AGu g7 z7 AGG sv7=>?_
 refine BR sv7 Tryz.func132 (by kernel_rfl) r6 (AC9 AGG hn) fun a8 v8 w8 hR8 sv8=>?_
 obtain⟨ao8,cap8,rfl,_⟩:=(Sl.of_own hR8.1).shape
 obtain⟨ow8,fr8⟩:=hR8
 replace fr8:=Dj fr8
 have g8:=fr8.1
 replace fr8:=fr8.2
 replace HG:=AA (AA (AA HG g6) g7) g8
 refine BR sv8 Tryz.func99 (by kernel_rfl) r6 (AD5 (Sl.of_own ow8) (XU n) (by omega)) fun a9 v9 w9 hR9 sv9=>?_
 obtain⟨ao9,cap9,rfl,_⟩:=(Sl.of_own hR9.1).shape
 obtain⟨ow9,fr9⟩:=hR9
 replace fr9:=Dj fr9
 have g9:=fr9.1
 replace fr9:=fr9.2
 have WK:=JL HG fr9
 replace HG:=AA HG g9
 refine AZ (v:=.slice ao9 ((enc n)).length cap9) sv9 r6 fun a10 CG=>?_
 have CC:Sv _ _ [_] _:=CG.dl [9,8,7,5,6,0,1]
 refine AE ?_
 refine k5 _ _ ?_
 refine AH7 ?_
 repeat refine AM ?_
 refine BI (fn:=Tryz.f103) CC (A2 (p:=4) Tryz.results103 CC rfl rfl) (Bh Tryz.func138 (by kernel_rfl) rfl _ _) (Rh _) ?_
 exact⟨_,rfl,HG,_,_,rfl,ow9,WK⟩
theorem WL (x:V) (w:World) :
  Calls Tryz.prog 53 #[.slice none 0 0,Bi x] w fun e w'=>NwR w w' (BV x) e:=by
 have hl:=GI x
 refine DP Tryz.func53 rfl Tryz.ntmps53 rfl fun a0 sv0=>?_
 have HG:=World.grownBy.refl w none
 replace sv0:Sv 9 [] [(0,.slice none 0 0),(1,Bi x)] a0:=sv0
 refine AH4 fun K1 k1=>?_
 refine AH3 ?_
 refine BQ sv0 r6 (DY x) fun a2 w2 Pd LQ g2 z2 BF sv2=>?_
 refine AZ (v:=.slice none 0 0) sv2 r6 fun a3 sv3=>?_
 refine AE ?_
 refine k1 _ _ ?_
 refine AH4 fun K4 k4=>?_
 refine AH3 ?_
 refine D9 sv3 rfl (dd:={ target:=.fn (.func 98) #[],args:=#[] }) rfl (by simp[execOp,resolve,Deferred.ofValue];try rfl) fun a5 sv5=>?_
 refine AE ?_
 refine k4 _ _ ?_
 refine AH4 fun K6 k6=>?_
 refine AH3 ?_
 refine AK sv5 2 [(5,.slice none 0 0),(6,Bi x)]
  ⟨ym r5,yl r6 (DY x) BF,AIA⟩ fun a7 w7 g7 sv7=>?_
 refine BR sv7 Tryz.func100 (by kernel_rfl) r6 (ADA x) fun a8 v8 w8 hR8 sv8=>?_
 obtain⟨ao8,cap8,rfl,_⟩:=(Sl.of_own hR8.1).shape
 obtain⟨ow8,fr8⟩:=hR8
 replace fr8:=Dj fr8
 have g8:=fr8.1
 replace fr8:=fr8.2
 replace HG:=AA (AA (AA HG g2) g7) g8
 refine BR sv8 Tryz.func99 (by kernel_rfl) r6 (AD5 (Sl.of_own ow8) (AAz x) (by omega)) fun a9 v9 w9 hR9 sv9=>?_
 obtain⟨ao9,cap9,rfl,_⟩:=(Sl.of_own hR9.1).shape
 obtain⟨ow9,fr9⟩:=hR9
 replace fr9:=Dj fr9
 have g9:=fr9.1
 replace fr9:=fr9.2
 have WK:=JL HG fr9
 replace HG:=AA HG g9
 refine AZ (v:=.slice ao9 ((BV x)).length cap9) sv9 r6 fun a10 CG=>?_
 have CC:Sv _ _ [_,_] _:=CG.dl [8,7,5,6,3,0]
 refine AE ?_
 refine k6 _ _ ?_
 refine AH7 ?_
 repeat refine AM ?_
 refine BI (fn:=Tryz.f53) CC (A2 (p:=4) Tryz.results53 CC rfl rfl) (Bh Tryz.func98 (by kernel_rfl) rfl _ _) (Ri _) ?_
 exact⟨_,rfl,HG,_,_,rfl,ow9,WK⟩
section
variable {w w':World} {v:Value} {n:Nat} {xs:List Value}
end
def AA0 (c:List Nat) (n:Nat):List Nat:=sq (Fp (BitVec.ofNat 64 284) c) n
theorem XV (c:List Nat) (n:Nat):(AA0 c n).length=n:=KQ _ _
theorem AFA (c:List Nat) (n:Nat):By (AA0 c n):=fun x hx=>Zo _ _ x hx
theorem Ip (b c:List Nat):(IB b c).length=b.length:=LY (by rw[KQ];omega)
theorem OZ {b:List Nat} (c:List Nat) (h:By b):By (IB b c):=XL h fun x hx=>Zo _ _ x hx
theorem AA1 {w:World} {dom:Nat} (hd:dom<1000) {c:Int} (hc:c=(dom:Int)) {l:List Nat} {s:Value} (hb:By l) (hl:l.length≤1000000) (h:Sl w 1 s l.length (bv l)):Calls Tryz.prog 136 #[.int .u64 c,s] w fun e w'=>e=.returned (JB (Fp (BitVec.ofNat 64 dom) l))∧w.grownBy w' none:=by
 have e:c=wi (BitVec.ofNat 64 dom):=by rw[hc,←MB,IntKind.wrap_u64];omega
 rw[e]
 exact Mo _ l hb (by omega) s w h
theorem AD6 {w:World} {dom:Nat} (hd:dom<1000) {c:Int} (hc:c=(dom:Int)) {l:List Nat} {s:Value} (hb:By l) (hl:l.length≤1000000) (h:Sl w 1 s l.length (bv l)):Calls Tryz.prog 101 #[.int .u64 c,s] w fun e w'=>e=.returned (AP (PM (BitVec.ofNat 64 dom) l))∧w.grownBy w' none:=by
 have e:c=wi (BitVec.ofNat 64 dom):=by rw[hc,←MB,IntKind.wrap_u64];omega
 rw[e]
 exact TG _ l hb (by omega) s w h
theorem AA2 {w:World} {dom:Nat} (hd:dom<1000) {c:Int} (hc:c=(dom:Int)) {k l:List Nat} {s:Value} (hk:Dg k) (hb:By l) (hl:l.length≤1000000) (h:Sl w 1 s l.length (bv l)):Calls Tryz.prog 66 #[.int .u64 c,AP k,s] w fun e w'=>e=.returned (AP (LB (BitVec.ofNat 64 dom) k l))∧w.grownBy w' none:=by
 have e:c=wi (BitVec.ofNat 64 dom):=by rw[hc,←MB,IntKind.wrap_u64];omega
 rw[e]
 exact KR _ k l hk.1 hk.2 hb (by omega) s w h
theorem AGH {w:World} {s:St} {n D:Nat} {T:TypeId} (hn:n≤1000000) (hD:w.heap[D]?=some (.cells (bv (zs n)).toArray T (0,0))):Calls Tryz.prog 135 #[JB s,.slice (some ⟨D,0,none⟩) n n] w fun e w'=>∃v,e=.returned v∧(v=.tuple #[]∧w.grownBy w' (some D)∧w'.heap[D]?=some (.cells (bv (sq s n)).toArray T (0,0))):=
 (Kz s n (by omega) D T w hD).mono fun e w' ⟨h1,h2,h3⟩=>⟨_,h1,rfl,h2,h3⟩
theorem UE {w:World} {x y:List Nat} {s t:Value} {B:Nat} (hs:Sl w 1 s x.length (bv x)) (ht:Sl w 1 t y.length (bv y)) (hB:w.heap[B]?=some (.cells [s,t].toArray 29 (0,0))) (hx:x.length≤1000000) (hy:y.length≤1000000) :
  Calls Tryz.prog 102 #[.slice (some ⟨B,0,none⟩) 2 2] w fun e w'=>∃v,e=.returned v∧(Own w' 5 1 v (x++y).length (bv (x++y))∧Fresh w w' v):=by
 rw[List.length_append]
 exact Mp x y (by omega) (by omega) s t w hs ht B hB
theorem AFB {w w':World} {xs:List Nat} {n cap:Nat} {ao:Option Addr} (hl:xs.length=n) (HG:w.grownBy w' none) (ho:Own w' 5 1 (.slice ao n cap) n (bv xs)) (lo:∀k,BO (.slice ao n cap) k→w.heap.size≤k) {v:Value} (hv:v=.slice ao n cap):NwR w w' xs (.returned v):=by
 subst hl hv
 exact⟨_,rfl,HG,_,_,rfl,ho,lo⟩
theorem AA3 {x y:List Nat} (hx:By x) (hy:By y):By (x++y):=fun b hb=>(List.mem_append.1 hb).elim (hx b) (hy b)
theorem Fv (a:Int) (b:List Nat):Dg (Yw a b):=⟨FT _ _,MC _ _⟩
theorem Db (c:List Nat) (a:Int) (b:List Nat):Dg (So c a b):=⟨FT _ _,MC _ _⟩
theorem MZ (q:Bool) (ks:List (List Nat)):Dg (Sn q ks):=⟨FT _ _,MC _ _⟩
theorem AA4 {w:World} {b:Nat} {k:List Nat} (hk:Dg k) (h:w.rangeAt b 0 (bv k)):Sl w 1 (.slice (some ⟨b,0,none⟩) 32 32) k.length (bv k):=by
 rw[hk.1]
 refine⟨by rw[AI,hk.1],_,_,rfl,Nat.le_refl _,by unfold maxLen;omega,fun h=>(by cases h),fun ad had=>?_⟩
 obtain rfl:=Option.some.inj had
 exact⟨fun _=>rfl,fun j u hu=>by simpa using h j u hu⟩
theorem UF (q:List Nat) (hq:Dg q) (n:Nat) (hn:n≤4096) (w:World) :
  Calls Tryz.prog 105 #[.int .u64 284,AP q,.int .i64 ((n:Int))] w fun e w'=>∃v,e=.returned (.tuple #[v,.int .i64 0])∧w.grownBy w' none∧(Sp.row w.heap.size 5 1 n (bv (AA0 q n))).on w' v:=by
 refine DP Tryz.func105 rfl Tryz.ntmps105 rfl fun a0 sv0=>?_
 have HG:=World.grownBy.refl w none
 replace sv0:Sv 24 [] [(0,.int .u64 284),(1,AP q),(2,.int .i64 ((n:Int)))] a0:=sv0
 refine AH4 fun K1 k1=>?_
 refine AH3 ?_
 refine BQ sv0 r6 (Bj q hq.1) fun a2 w2 MO LN g2 z2 BZ sv2=>?_
 replace HG:=AA HG g2
 refine Ap (T:=29) (Z:=[.slice none 0 0]) sv2 rfl rfl rfl (fun a w=>by kernel_rfl) fun a3 w3 AGI Nf g3 z3 Gb sv3=>?_
 have Rj:=Bp HG Nf
 replace HG:=AA HG g3
 refine Ap (T:=38) (Z:=[.int .i64 0]) sv3 rfl rfl rfl (fun a w=>by kernel_rfl) fun a4 w4 AHC XW g4 z4 My sv4=>?_
 have Lc:=As Gb XW
 have ADB:=Bp HG XW
 refine AE ?_
 refine k1 _ _ ?_
 refine AH4 fun K5 k5=>?_
 refine AH3 ?_
 refine Fg sv4 rfl rfl rfl rfl rfl rfl fun a6 sv6=>?_
 refine D9 sv6 rfl (dd:={ target:=.fn (.func 139) #[pt AGI,pt AHC],args:=#[] }) rfl (by have e1:=sv6.ev (x:=.tmp 9) rfl rfl;simp[execOp,resolve,Deferred.ofValue,e1];try rfl) fun a7 sv7=>?_
 refine AE ?_
 refine k5 _ _ ?_
 refine AH4 fun K8 k8=>?_
 refine AH4 fun K9 k9=>?_
 refine AH3 ?_
 refine AK sv7 6 [(10,.int .i64 ((n:Int))),(11,.bool false),(12,.bool false),(13,.int .i64 ((n:Int))),(14,.bool false),(15,.bool false)]
  ⟨ym r5,Cm r6 (fun _=>Bb (decide_eq_false (by omega))),ym r5,Ar rq8,BD rq9 (fun _=>Cj (decide_eq_false (by omega))),A1 rq9,AIA⟩ fun a10 w10 g10 CG=>?_
 refine AE ?_
 refine k9 _ _ ?_
 refine Ax CG rfl rfl ?_
 refine AH8 ?_
 refine k8 _ _ ?_
 refine AH4 fun K11 k11=>?_
 refine AH3 ?_
 refine AK CG 1 [(16,.int .i64 ((n:Int)))]
  ⟨ym r5,AIA⟩ fun a12 w12 g12 Cr=>?_
 have ADC:=AA g10 g12
 replace Gb:=AC ADC (AC g4 Gb)
 replace My:=AC ADC My
 replace HG:=AA (AA HG g4) ADC
 refine XS (m:=n) Cr rfl rfl rfl rfl rfl rfl (by omega) fun a13 w13 Oa Ma g13 z13 Ld Dx=>?_
 have JZ:=As Gb Ma
 have Ja:=As My Ma
 have Qp:=Bp HG Ma
 refine AZ (v:=.slice ((some ⟨Oa,0,none⟩)) n n) Dx r6 fun a14 Cy=>?_
 refine AE ?_
 refine k11 _ _ ?_
 refine AH4 fun K15 k15=>?_
 refine AH3 ?_
 refine AK Cy 2 [(18,.int .u64 284),(19,.slice ((some ⟨MO,0,none⟩)) 32 32)]
  ⟨ym r5,Ff (l:=none) (u:=none) rfl rfl trivial (oy rfl rfl) trivial trivial (JN MO 0) (fun _=>rfl),AIA⟩ fun a16 w16 g16 Ck=>?_
 replace BZ:=AC g16 (AC g13 (AC ADC (AC g4 (AC g3 BZ))))
 refine BR Ck Tryz.func136 (by kernel_rfl) r6 (NH (AA1 (dom:=284) (by decide) rfl hq.2 (by rw[hq.1];decide) (AA4 hq (Aj BZ)))) fun a17 v17 w17 hR17 E2=>?_
 obtain⟨rfl,g17⟩:=hR17
 have CF:Sv _ _ [_,_,_,_,_,_,_,_,_,_,_,_,_,_,_] _:=E2.dl [18,19,4,0]
 refine AK CF 1 [(21,.slice ((some ⟨Oa,0,none⟩)) n n)]
  ⟨ym r5,AIA⟩ fun a19 w19 g19 Dv=>?_
 replace Ld:=AC g19 (AC g17 (AC g16 Ld))
 refine BR Dv Tryz.func135 (by kernel_rfl) r6 (AGH (n:=n) (by omega) Ld) fun a20 v20 w20 hR20 Dl=>?_
 obtain⟨rfl,g20,h20⟩:=hR20
 replace Gb:=Aa g20 (AC g19 (AC g17 (AC g16 (AC g13 Gb)))) (Ne.symm JZ)
 refine AE ?_
 refine k15 _ _ ?_
 refine AH4 fun K21 k21=>?_
 refine AH3 ?_
 refine AK Dl 1 [(23,.slice ((some ⟨Oa,0,none⟩)) n n)]
  ⟨ym r5,AIA⟩ fun a22 w22 g22 CU=>?_
 refine Am CU r7 (Fx (.slice ((some ⟨Oa,0,none⟩)) n n) rfl) (AC g22 Gb) rfl fun w23 g23 h23=>?_
 replace My:=Ak g22 g23 (Aa g20 (AC g19 (AC g17 (AC g16 (AC g13 My)))) (Ne.symm Ja)) Lc
 refine Am CU r7 (Ep 0) My rfl fun w24 g24 h24=>?_
 replace Gb:=Aa g24 h23 (Ne.symm Lc)
 replace Ld:=Aa g24 (Ak g22 g23 h20 JZ) Ja
 replace HG:=AD (AD (AA (AD (AA (AA (AA (AA HG g13) g16) g17) g19) g20 Qp) g22) g23 Rj) g24 ADB
 replace My:=h24
 refine AE ?_
 refine k21 _ _ ?_
 refine AH7 ?_
 repeat refine AM ?_
 have ho:=XT (n:=n) Ld (by rw[AI];exact XV q n) (by omega)
 refine BI (fn:=Tryz.f105) CU (Bc (p:=6) (q:=7) Tryz.results105 CU rfl rfl rfl rfl (Fx (.slice ((some ⟨Oa,0,none⟩)) n n) rfl) (Ep 0) Gb My) (Bh Tryz.func139 (by kernel_rfl) rfl _ _) (OU _ _ _) ?_
 exact⟨_,rfl,HG,_,_,rfl,ho,fun k hk=>(Option.some.inj hk)▸Qp⟩
theorem AGJ {w:World} {k:List Nat} (hk:Dg k) {n:Nat} (hn:n≤4096):Calls Tryz.prog 105 #[.int .u64 284,AP k,.int .i64 (n:Int)] w fun e w'=>∃v,e=.returned v∧(∃ao cap,v=.tuple #[.slice ao n cap,.int .i64 0]∧w.grownBy w' none∧Own w' 5 1 (.slice ao n cap) n (bv (AA0 k n))∧∀b,BO (.slice ao n cap) b→w.heap.size≤b):=
 (UF k hk n hn w).mono fun e w' ⟨v,h1,h2,ao,cap,h3,h4,h5⟩=>⟨_,h1,ao,cap,by rw[h3],h2,h4,h5⟩
theorem AGK {P:Program} {f:Nat} {args:Array Value} {w w1:World} {u:Value} {n:Nat} {xs:List Value} (h:Calls P f args w1 fun e w'=>e=.returned u∧w.grownBy w' none∧Own w' 5 1 u n xs):Calls P f args w1 fun e w'=>∃v,e=.returned v∧(v=u∧w.grownBy w' none∧Own w' 5 1 u n xs):=h.mono fun e w' ⟨h1,h2,h3⟩=>⟨_,h1,rfl,h2,h3⟩
theorem Iq (x:List Nat) (bx:By x) (lx:x.length≤4096) (ao:Option Addr) (cap:Nat) (c:List Nat) (hc:Dg c) (w:World) (hx:SlB w 1 (.slice ao x.length cap) x.length (bv x)) :
  Calls Tryz.prog 57 #[.slice ao x.length cap,AP c] w fun e w'=>NwR w w' (IB x c) e:=by
 refine BH Tryz.func57 rfl Tryz.ntmps57 rfl fun a0 sv0=>?_
 have HG:=World.grownBy.refl w none
 replace sv0:Sv 20 [] [(0,.slice ao x.length cap),(1,AP c)] a0:=sv0
 refine AH4 fun K1 k1=>?_
 refine AH3 ?_
 refine BQ sv0 r6 (Bj c hc.1) fun a2 w2 Pd LQ g2 z2 BF sv2=>?_
 refine AZ (v:=.slice none 0 0) sv2 r6 fun a3 sv3=>?_
 refine AE ?_
 refine k1 _ _ ?_
 refine AH4 fun K4 k4=>?_
 refine AH3 ?_
 refine AK sv3 3 [(8,AP c),(9,.slice ao x.length cap),(10,.int .i64 ((x.length:Nat)))]
  ⟨yl r6 (Bj c hc.1) BF,ym r5,Be (Tryz.underlying29) rfl rfl trivial (oy rfl rfl) (fun _=>rfl),AIA⟩ fun a5 w5 g5 sv5=>?_
 refine BR sv5 Tryz.func105 (by kernel_rfl) r6 (AGJ hc (n:=x.length) lx) fun a6 v6 w6 hR6 sv6=>?_
 obtain⟨ao6,cap6,rfl,g6,hs,fs⟩:=hR6
 have sv7:Sv _ _ [_,_,_,_] _:=sv6.dl [8,9,10,3]
 refine AK sv7 3 [(7,.tuple #[.slice ao6 x.length cap6,.int .i64 0]),(12,.slice ao6 x.length cap6),(13,.int .i64 0)]
  ⟨ym r5,BL rq4 (fun _ _ h=>⟨_,_,h,rfl,rfl⟩),BL rq4 (fun _ _ h=>⟨_,_,h,rfl,rfl⟩),AIA⟩ fun a8 w8 g8 sv8=>?_
 refine AZ (v:=.slice ao6 x.length cap6) sv8 r6 fun a9 sv9=>?_
 refine AZ (v:=.int .i64 0) sv9 r6 fun a10 CG=>?_
 have CC:Sv _ _ [_,_,_,_] _:=CG.dl [6,7,12,13,11]
 refine AE ?_
 refine k4 _ _ ?_
 refine AH4 fun K12 k12=>?_
 refine AH3 ?_
 refine AK CC 2 [(14,.slice ao x.length cap),(15,.int .i64 ((x.length:Nat)))]
  ⟨ym r5,Be (Tryz.underlying29) rfl rfl trivial (oy rfl rfl) (fun _=>rfl),AIA⟩ fun a13 w13 g13 Dx=>?_
 have ADD:=AA g8 g13
 replace BF:=AC ADD (AC g6 (AC g5 BF))
 replace hx:=(((hx.kn g2).kn g5).kn g6).kn ADD
 replace hs:=hs.kn ADD
 replace HG:=AA (AA (AA (AA HG g2) g5) g6) ADD
 refine XS (m:=x.length) Dx rfl rfl rfl rfl rfl rfl (by omega) fun a14 w14 Ob Jz g14 z14 Ng Cy=>?_
 have Oc:=As BF Jz
 have Y0:=Bp HG Jz
 have Rk:=Av (hx.lt) Jz
 have Rl:=Av (Own.ltS hs) Jz
 refine AK Cy 2 [(17,.slice ao x.length cap),(18,.slice ao6 x.length cap6)]
  ⟨ym r5,ym r5,AIA⟩ fun a15 w15 g15 Ko=>?_
 replace Ng:=AC g15 Ng
 replace hx:=(hx.kn g14).kn g15
 replace hs:=(hs.kn g14).kn g15
 replace HG:=AA (AA HG g14) g15
 have om:=XT (n:=x.length) Ng (by rw[AI,AE9]) (by omega)
 have AFC:∀k,BO (.slice ((some ⟨Ob,0,none⟩)) x.length x.length) k→k≠Pd:=fun k hk e=>Oc ((Option.some.inj hk).trans e)
 have ap_hx_om:∀k,BO (.slice ao x.length cap) k→¬BO (.slice ((some ⟨Ob,0,none⟩)) x.length x.length) k:=fun k hk e=>Rk k hk (Option.some.inj e).symm
 have ap_hs_om:∀k,BO (.slice ao6 x.length cap6) k→¬BO (.slice ((some ⟨Ob,0,none⟩)) x.length x.length) k:=fun k hk e=>Rl k hk (Option.some.inj e).symm
 have lo_om:∀k,BO (.slice ((some ⟨Ob,0,none⟩)) x.length x.length) k→w.heap.size≤k:=fun k hk=>(Option.some.inj hk)▸Y0
 clear Ng
 rw[LZ] at om
 have hs2:=(Own.sb hs)
 refine BR Ko Tryz.func106 (by kernel_rfl) r6 (AGK (Yy x (AA0 c x.length) (zs x.length) bx (AFA c _) x.length (by omega) rfl x.length (XV c _) (Nat.le_refl _) _ _ _ _ _ _ w _ HG om hx hs2 lo_om ap_hx_om ap_hs_om)) fun a16 v16 w16 hR16 Ck=>?_
 obtain⟨rfl,G,oo⟩:=hR16
 refine AZ (v:=.slice ((some ⟨Ob,0,none⟩)) x.length x.length) Ck r6 fun a17 E2=>?_
 have CF:Sv _ _ [_,_,_] _:=E2.dl [19,17,18,16,14,15,5]
 refine AE ?_
 refine k12 _ _ ?_
 refine AH7 ?_
 repeat refine AM ?_
 refine A3 (fn:=Tryz.f57) CF (A2 (p:=4) Tryz.results57 CF rfl rfl) ?_
 exact AFB (Ip x c) G oo lo_om rfl
theorem Hl (a:Int) (ha:No a) (x:List Nat) (bx:By x) (lx:x.length≤100000) (ao:Option Addr) (cap:Nat) (w:World) (hx:SlB w 1 (.slice ao x.length cap) x.length (bv x)) :
  Calls Tryz.prog 54 #[.int .i64 a,.slice ao x.length cap] w fun e w'=>e=.returned (AP (Yw a x))∧w.grownBy w' none:=by
 have hle:=EF ha.1 ha.2
 refine BH Tryz.func54 rfl Tryz.ntmps54 rfl fun a0 sv0=>?_
 have HG:=World.grownBy.refl w none
 replace sv0:Sv 11 [] [(0,.int .i64 a),(1,.slice ao x.length cap)] a0:=sv0
 refine AH4 fun K1 k1=>?_
 refine AH3 ?_
 refine Ap (T:=23) (Z:=(bv AS)) sv0 rfl rfl rfl (fun a w=>by kernel_rfl) fun a2 w2 MO LN g2 z2 BZ sv2=>?_
 have Rm:=Bp HG LN
 refine AE ?_
 refine k1 _ _ ?_
 refine AH4 fun K3 k3=>?_
 refine AH3 ?_
 refine AK sv2 1 [(5,.int .i64 a)]
  ⟨ym r5,AIA⟩ fun a4 w4 g4 sv4=>?_
 refine BR sv4 Tryz.func103 (by kernel_rfl) r6 (Qo (OY a ha _)) fun a5 v5 w5 hR5 sv5=>?_
 obtain⟨ao5,cap5,rfl,_⟩:=(Sl.of_own hR5.1).shape
 obtain⟨ow5,fr5⟩:=hR5
 replace fr5:=Dj fr5
 have g5:=fr5.1
 replace fr5:=fr5.2
 refine AK sv5 1 [(7,.slice ao x.length cap)]
  ⟨ym r5,AIA⟩ fun a6 w6 g6 sv6=>?_
 refine XR (cs:=[.slice ao5 ((enc a)).length cap5,.slice ao x.length cap]) (e:=29) sv6 rfl rfl rfl rfl rfl rfl rfl rfl (AGF _ _ _ _ _ _) fun a7 w7 AHy AGv g7 z7 AGL sv7=>?_
 replace hx:=((((hx.kn g2).kn g4).kn g5).kn g6).kn g7
 replace ow5:=(ow5.kn g6).kn g7
 refine BR sv7 Tryz.func102 (by kernel_rfl) r6 (UE (Sl.of_own ow5) hx.1 AGL (by omega) (by omega)) fun a8 v8 w8 hR8 sv8=>?_
 obtain⟨ao8,cap8,rfl,_⟩:=(Sl.of_own hR8.1).shape
 obtain⟨ow8,fr8⟩:=hR8
 replace fr8:=Dj fr8
 have g8:=fr8.1
 replace fr8:=fr8.2
 refine BR sv8 Tryz.func101 (by kernel_rfl) r6 (NH (AD6 (dom:=280) (by decide) rfl (AA3 (Np a) bx) (by rw[List.length_append];omega) (Sl.of_own ow8))) fun a9 v9 w9 hR9 sv9=>?_
 obtain⟨rfl,g9⟩:=hR9
 replace BZ:=AC g9 (AC g8 (AC g7 (AC g6 (AC g5 (AC g4 BZ)))))
 refine Am sv9 r7 (Bj ((Yw a x)) (Fv a x).1) BZ (Fu (Fv a x)) fun w10 g10 h10=>?_
 replace HG:=AD (AA (AA (AA (AA (AA (AA (AA HG g2) g4) g5) g6) g7) g8) g9) g10 Rm
 replace BZ:=h10
 have CC:Sv _ _ [_] _:=sv9.dl [10,9,8,7,6,5,0,1]
 refine AE ?_
 refine k3 _ _ ?_
 refine AH7 ?_
 repeat refine AM ?_
 refine A3 (fn:=Tryz.f54) CC (EA (p:=4) Tryz.results54 CC rfl rfl (Bj ((Yw a x)) (Fv a x).1) BZ) ?_
 exact⟨rfl,HG⟩
theorem FZ (c:List Nat) (hc:Dg c) (a:Int) (ha:No a) (x:List Nat) (bx:By x) (lx:x.length≤100000) (ao:Option Addr) (cap:Nat) (w:World) (hx:SlB w 1 (.slice ao x.length cap) x.length (bv x)) :
  Calls Tryz.prog 58 #[AP c,.int .i64 a,.slice ao x.length cap] w fun e w'=>e=.returned (AP (So c a x))∧w.grownBy w' none:=by
 have hle:=EF ha.1 ha.2
 refine BH Tryz.func58 rfl Tryz.ntmps58 rfl fun a0 sv0=>?_
 have HG:=World.grownBy.refl w none
 replace sv0:Sv 14 [] [(0,AP c),(1,.int .i64 a),(2,.slice ao x.length cap)] a0:=sv0
 refine AH4 fun K1 k1=>?_
 refine AH3 ?_
 refine BQ sv0 r6 (Bj c hc.1) fun a2 w2 Pd LQ g2 z2 BF sv2=>?_
 replace HG:=AA HG g2
 refine Ap (T:=23) (Z:=(bv AS)) sv2 rfl rfl rfl (fun a w=>by kernel_rfl) fun a3 w3 AGI Nf g3 z3 Gb sv3=>?_
 have Rn:=As BF Nf
 have Rj:=Bp HG Nf
 refine AE ?_
 refine k1 _ _ ?_
 refine AH4 fun K4 k4=>?_
 have gd5:=Cb w3
 replace BF:=AC gd5 (AC g3 BF)
 refine wp_region_noPanic ?_
 refine PY (fun w'=>w'.heap[Pd]?=some (.cells (bv c).toArray 23 (0,0))∧True) [0,1,3] [2,4,5,6,7] (by kernel_rfl) (by kernel_rfl) (fun _ _ d _ _ h=>by cases d<;>exact h) rfl (by kernel_rfl) ⟨BF,AIA⟩ ?_
 simp only[List.filterMap_cons,List.filterMap_nil,List.getElem?_toArray,List.getElem?_cons_succ,List.getElem?_cons_zero]
 refine ACy sv3 rfl rfl rfl rfl ⟨rfl,rfl⟩ (fun w hS=>Ad (Bj c hc.1) (Aj hS.1)) fun a6 sv6=>?_
 refine AD4 (v:=.int .i64 a) w3.drew sv6 rfl (by kernel_rfl) (NY 1 8 (.inl rfl) rfl rfl trivial (fun _ _ h=>h)) fun a7 sv7=>?_
 refine AD4 (v:=.slice ao x.length cap) w3.drew sv7 rfl (by kernel_rfl) (NY 2 10 (.inl rfl) rfl rfl trivial (fun _ _ h=>h)) fun a8 sv8=>?_
 change wpList _ _ _ _ _ _
 refine BR sv8 Tryz.func103 (by kernel_rfl) r6 (Qo (OY a ha _)) fun a9 v9 w9 hR9 sv9=>?_
 obtain⟨ao9,cap9,rfl,_⟩:=(Sl.of_own hR9.1).shape
 obtain⟨ow9,fr9⟩:=hR9
 replace fr9:=Dj fr9
 have g9:=fr9.1
 replace fr9:=fr9.2
 replace BF:=AC g9 BF
 refine AE ⟨⟨BF,AIA⟩,?_⟩
 change wpList _ _ _ _ _ _
 refine XR (cs:=[.slice ao9 ((enc a)).length cap9,.slice ao x.length cap]) (e:=29) sv9 rfl rfl rfl rfl rfl rfl rfl rfl (AGF _ _ _ _ _ _) fun a10 w10 AHD AFb g10 z10 ADE CG=>?_
 replace BF:=AC g10 BF
 replace hx:=((((hx.kn g2).kn g3).kn gd5).kn g9).kn g10
 replace ow9:=ow9.kn g10
 refine AE ⟨⟨BF,AIA⟩,?_⟩
 change wpList _ _ _ _ _ _
 refine BR CG Tryz.func102 (by kernel_rfl) r6 (UE (Sl.of_own ow9) hx.1 ADE (by omega) (by omega)) fun a11 v11 w11 hR11 CC=>?_
 obtain⟨ao11,cap11,rfl,_⟩:=(Sl.of_own hR11.1).shape
 obtain⟨ow11,fr11⟩:=hR11
 replace fr11:=Dj fr11
 have g11:=fr11.1
 replace fr11:=fr11.2
 replace BF:=AC g11 BF
 refine AE ⟨⟨BF,AIA⟩,?_⟩
 change wpList _ _ _ _ _ _
 refine BR CC Tryz.func66 (by kernel_rfl) r6 (NH (AA2 (dom:=285) (by decide) rfl hc (AA3 (Np a) bx) (by rw[List.length_append];omega) (Sl.of_own ow11))) fun a12 v12 w12 hR12 Cr=>?_
 obtain⟨rfl,g12⟩:=hR12
 replace BF:=AC g12 BF
 replace Gb:=AC g12 (AC g11 (AC g10 (AC g9 (AC gd5 Gb))))
 refine AE ⟨⟨BF,AIA⟩,?_⟩
 change wpList _ _ _ _ _ _
 refine Am Cr r7 (Bj ((So c a x)) (Db c a x).1) Gb (Fu (Db c a x)) fun w13 g13 h13=>?_
 replace BF:=Aa g13 BF (Ne.symm Rn)
 replace HG:=AD (AA (AA (AA (AA (AA (AA HG g3) gd5) g9) g10) g11) g12) g13 Rj
 replace Gb:=h13
 refine AE ⟨⟨BF,AIA⟩,?_⟩
 refine NoPanic.normal ?_
 have Cy:Sv _ _ [_,_] _:=Cr.dl [13,12,11,9,10,8,7,3,1,2]
 refine k4 _ _ ?_
 refine AH7 ?_
 repeat refine AM ?_
 refine A3 (fn:=Tryz.f58) Cy (EA (p:=6) Tryz.results58 Cy rfl rfl (Bj ((So c a x)) (Db c a x).1) Gb) ?_
 exact⟨rfl,HG⟩
def Br (a:Int) (os:Value) (j:Int) (ws bs:Value) (tg:List Nat):Value:=.agg ([[.int .i64 a],[os],[.int .i64 j],[ws],[bs],bv tg].flatten).toArray
theorem EZ {x y:List Nat} (hx:Dg x) (hy:Dg y) {a j b k:Int} {os ws bs os' ws' bs':Value}:([[.int .i64 a],[os],[.int .i64 j],[ws],[bs],bv x].flatten).length=([[.int .i64 b],[os'],[.int .i64 k],[ws'],[bs'],bv y].flatten).length:=by simp[AI,hx.1,hy.1]
theorem Dn (a j:Int) {tg:List Nat} (ht:Dg tg) (os ws bs:Value) (h1:os.oneCell'=true) (h2:ws.oneCell'=true) (h3:bs.oneCell'=true):TY Tryz.prog 31 ([[.int .i64 a],[os],[.int .i64 j],[ws],[bs],bv tg].flatten) (Br a os j ws bs tg):=by
 refine TY.agg Tryz.underlying31 rfl ?_ ?_
 · rw[show([[.int .i64 a],[os],[.int .i64 j],[ws],[bs],bv tg].flatten).length=37 by simp[AI,ht.1]]
   kernel_rfl
 · intro c hc
   simp only[List.flatten_cons,List.flatten_nil,List.append_nil,List.mem_append,List.mem_singleton] at hc
   rcases hc with rfl|rfl|rfl|rfl|rfl|hc
   · rfl
   · exact h1
   · rfl
   · exact h2
   · exact h3
   · exact F4 _ _ hc
theorem ADF (w:World):(Instr.build 31 #[]).run Tryz.prog w=.ok (Br 0 (.slice none 0 0) 0 (.slice none 0 0) (.slice none 0 0) AS) w:=by kernel_rfl
theorem AHE (a:Int) (ao:Option Addr) (n c:Nat) (j:Int) (w:World):(Instr.build 31 #[(0,.int .i64 a),(1,.slice ao n c),(2,.int .i64 j)]).run Tryz.prog w=.ok (Br a (.slice ao n c) j (.slice none 0 0) (.slice none 0 0) AS) w:=by kernel_rfl
theorem ER (x:Int):TY Tryz.prog 3 [.int .i64 x] (.int .i64 x):=TY.one' Tryz.underlying3 rfl (by kernel_rfl) rfl
def fl (ds:List DD) (i:Nat):List Nat:=(ds.take i).flatMap DD.x
theorem XX {ds:List DD} {i:Nat} {x:DD} (hi:i<ds.length) (hx:ds[i]=x):fl ds (i+1)=fl ds i++x.x:=by
 unfold fl
 rw[List.take_add_one,List.getElem?_eq_getElem hi,hx,List.flatMap_append]
 simp
theorem WM (d:BitVec 64) (l:List Nat):Dg (PM d l):=⟨FT _ _,MC _ _⟩
theorem AFD {ds:List DD}:∀{i:Nat},i≤ds.length→(fl ds i).length=32*i
 | 0,_=>rfl
 | i+1,h=>by rw[XX (i:=i) (by omega) rfl,List.length_append,AFD (by omega),(ds[i]).h.1];omega
theorem AGM (ds:List DD) (i:Nat):By (fl ds i):=fun b hb=>by
 obtain⟨d,_,hd⟩:=List.mem_flatMap.1 hb
 exact d.h.2 b hd
theorem AFE {ds:List DD} {i:Nat} (h:ds.length≤i):fl ds i=(ds.map DD.x).flatten:=by
 unfold fl
 rw[List.take_of_length_le h,List.flatMap_def]
theorem AA5 {w:World} {b:Nat} {k:List Nat} (hk:Dg k) (h:w.rangeAt b 0 (bv k)):Sl w 1 (.slice (some ⟨b,0,none⟩) 32 32) 32 (bv k):=by
 have:=AA4 hk h
 rwa [hk.1] at this
theorem AGN {w:World} {v:Value} {ds:List DD} {i:Nat} (hi:i≤ds.length) (h:Sl w 1 v (32*i) (bv (fl ds i))):Sl w 1 v (fl ds i).length (bv (fl ds i)):=by rw[AFD hi];exact h
theorem ADG (ds:List DD):(ds.flatMap JW).all Value.oneCell'=true:=by
 rw[List.all_eq_true]
 intro v hv
 obtain⟨d,_,hd⟩:=List.mem_flatMap.1 hv
 exact F4 _ _ hd
theorem AHF {a b:List Nat} (h:a=b):Ending.returned (AP a)=Ending.returned (AP b):=by rw[h]
theorem DR (w:World):CallsD Tryz.prog 69 #[] .returning w fun e u' w'=>e=.returned (.tuple #[])∧u'=.returning∧w'=w:=by
 refine callsD_of_wpS Tryz.func69 rfl fun c₀ cs hu=>?_
 apply wpS_region
 simp[wpOpsS,go_sem,recoverD,hu,Tryz.ntmps69]
 cases c₀
 simp_all [bodyPostS,results,Tryz.results69]
theorem ZA (joint:Int) (ds:List DD) (ao:Option Addr) (cap:Nat) (w:World) (hr:RdD w (.slice ao ds.length cap) ds) (hl:ds.length≤1000) :
   Calls Tryz.prog 55 #[.int .i64 joint,.slice ao ds.length cap] w fun e w'=>e=.returned (AP (Sn (decide (joint=1)) (ds.map DD.x)))∧w.grownBy w' none:=by
 obtain⟨dm,hdm⟩:∃dm:Nat,dm=if decide (joint=1)=true then 282 else 281:=⟨_,rfl⟩
 have hdl:dm<1000:=by rw[hdm];split<;>decide
 refine BH Tryz.func55 rfl Tryz.ntmps55 rfl fun a0 sv0=>?_
 have HG:=World.grownBy.refl w none
 replace sv0:Sv 24 [] [(0,.int .i64 joint),(1,.slice ao ds.length cap)] a0:=sv0
 refine AH4 fun K1 k1=>?_
 refine AH3 ?_
 refine Ap (T:=23) (Z:=(bv AS)) sv0 rfl rfl rfl (fun a w=>by kernel_rfl) fun a2 w2 MO LN g2 z2 BZ sv2=>?_
 have Rm:=Bp HG LN
 replace hr:=hr.kn g2
 replace HG:=AA HG g2
 refine AE ?_
 refine k1 _ _ ?_
 refine AH4 fun K3 k3=>?_
 refine AH3 ?_
 refine AZ (v:=.int .u64 281) sv2 r6 fun a4 sv4=>?_
 refine AE ?_
 refine k3 _ _ ?_
 refine AH4 fun K5 k5=>?_
 suffices MG6:∀(a':Act) (w':World),Sv 24 [] [(5,.int .u64 ((dm:Int))),(4,pt MO),(0,.int .i64 joint),(1,.slice ao ds.length cap)] a'→w.grownBy w' none→w'.heap[MO]?=some (.cells ((bv AS)).toArray 23 (0,0))→(RdD w' (.slice ao ds.length cap) ds)→K5 a' w' by
   by_cases hj:joint=1
   · obtain rfl:dm=282:=by rw[hdm,decide_eq_true hj];rfl
     refine AH4 fun K7 k7=>?_
     refine AH3 ?_
     refine AK sv4 2 [(9,.int .i64 joint),(10,.bool true)]
      ⟨ym r5,Cm r6 (fun _=>B3 (by simpa using hj)),AIA⟩ fun a8 w8 g8 sv8=>?_
     refine AE ?_
     refine k7 _ _ ?_
     refine Aq sv8 rfl rfl ?_
     refine AH3 ?_
     refine AZ (v:=.int .u64 282) sv8 r6 fun a9 sv9=>?_
     refine AE ?_
     replace BZ:=AC g8 BZ
     replace hr:=hr.kn g8
     replace HG:=AA HG g8
     have svm:Sv 24 [] [(5,_),(4,_),(0,_),(1,_)] a9:=⟨sv9.1,sv9.2.1,sv9.2.2.1,sv9.2.2.2.2.2.1,sv9.2.2.2.2.2.2.1,sv9.2.2.2.2.2.2.2.1,AIA⟩
     exact MG6 _ _ svm HG BZ hr
   · obtain rfl:dm=281:=by rw[hdm,decide_eq_false hj];rfl
     refine AH4 fun K10 k10=>?_
     refine AH3 ?_
     refine AK sv4 2 [(9,.int .i64 joint),(10,.bool false)]
      ⟨ym r5,Cm r6 (fun _=>B3 (by simpa using hj)),AIA⟩ fun a11 w11 g11 CC=>?_
     refine AE ?_
     refine k10 _ _ ?_
     refine Ax CC rfl rfl ?_
     refine AH8 ?_
     replace BZ:=AC g11 BZ
     replace hr:=hr.kn g11
     replace HG:=AA HG g11
     have svm:Sv 24 [] [(5,_),(4,_),(0,_),(1,_)] a11:=⟨CC.1,CC.2.1,CC.2.2.2.2.1,CC.2.2.2.2.2.1,CC.2.2.2.2.2.2.1,CC.2.2.2.2.2.2.2.1,AIA⟩
     exact MG6 _ _ svm HG BZ hr
 clear BZ
 clear hr
 clear HG
 intro a6 w6 sv6 HG BZ hr
 refine k5 _ _ ?_
 refine AH4 fun K12 k12=>?_
 refine AH3 ?_
 refine AZ (v:=.slice none 0 0) sv6 r6 fun a13 Dx=>?_
 refine AE ?_
 refine k12 _ _ ?_
 refine AH4 fun K14 k14=>?_
 refine AH4 fun K15 k15=>?_
 refine AH3 ?_
 refine AK Dx 3 [(11,.slice ao ds.length cap),(12,.int .i64 ((ds.length:Nat))),(13,.int .i64 0)]
   ⟨ym r5,Be (Tryz.underlying28) rfl rfl trivial (oy rfl rfl) (fun _=>rfl),D8 (.inl rfl) rfl trivial (fun _=>rfl),AIA⟩ fun a16 w16 g16 Ck=>?_
 refine AE ?_
 refine k15 _ _ ?_
 refine BB fun Q17 x17 y17 rt17 o17=>?_
 replace BZ:=AC g16 BZ
 replace hr:=hr.kn g16
 replace HG:=AA HG g16
 have ob:=Own.nil w16 5 1
 have Gc:=I6 MO
 have ap_hr_ob:=I7 (BO (.slice ao ds.length cap))
 have lo_ob:=Yf w
 refine wp_loop (fun a w'=>∃(i:Nat) (bo:Option Addr) (bc:Nat),(i≤ds.length)∧Sv 24 [] [(13,.int .i64 ((i:Int))),(6,.slice bo (32*i) bc),(11,.slice ao ds.length cap),(12,.int .i64 ((ds.length:Nat))),(5,.int .u64 ((dm:Int))),(4,pt MO),(0,.int .i64 joint),(1,.slice ao ds.length cap)] a∧w.grownBy w' none∧w'.heap[MO]?=some (.cells ((bv AS)).toArray 23 (0,0))∧RdD w' (.slice ao ds.length cap) ds∧Own w' 5 1 (.slice bo (32*i) bc) ((32*i)) (bv ((fl ds i)))∧(∀k,BO (.slice bo (32*i) bc) k→k≠MO)∧(∀k,BO (.slice ao ds.length cap) k→¬BO (.slice bo (32*i) bc) k)∧(∀k,BO (.slice bo (32*i) bc) k→w.heap.size≤k)) (fun a _=>(ds.length-intOf (a.tmps.getD 13 undef)).toNat) ⟨0,none,0,Nat.zero_le _,⟨Ck.1,Ck.2.1,Ck.2.2.2.2.1,Ck.2.2.2.2.2.1,Ck.2.2.1,Ck.2.2.2.1,Ck.2.2.2.2.2.2.1,Ck.2.2.2.2.2.2.2.1,(AJ Ck).1,(AJ Ck).2.1,AIA⟩,HG,BZ,hr,ob,Gc,ap_hr_ob,lo_ob⟩ fun a18 w18 hI18=>?_
 clear BZ
 clear hr
 clear ob
 clear HG
 obtain⟨i,bo,bc,hin,CF,HG,BZ,hr,ob,Gc,ap_hr_ob,lo_ob⟩:=hI18
 refine AH4 fun K19 k19=>?_
 by_cases hi:i<ds.length
 · obtain⟨x,hx_x⟩:∃zx,ds[i]'hi=zx:=⟨_,rfl⟩
   have hfs:=XX hi hx_x
   refine AH3 ?_
   refine AK CF 1 [(14,.bool true)]
     ⟨Gs r7 (fun _=>Bb (by simp;omega)),AIA⟩ fun a20 w20 g20 Dl=>?_
   refine AE ?_
   refine k19 _ _ ?_
   refine AH4 fun K21 k21=>?_
   refine Aq Dl rfl rfl ?_
   refine AH8 ?_
   refine k21 _ _ ?_
   refine AH4 fun K22 k22=>?_
   refine BB fun Q23 x23 y23 rt23 o23=>?_
   refine AH4 fun K24 k24=>?_
   refine AH3 ?_
   replace hr:=hr.kn g20
   refine AK Dl 2 [(15,pk ((bO ao)) (oO ao+i*32)),(16,AP x.x)]
     ⟨BA rq8 (fun w=>CD Tryz.underlying28 (by kernel_rfl) (hr.1) (by omega) (rfl) w),Bn r6 (fun _ g=>Ad (Bj x.x x.h.1) (by have:=Cw (hr.kn g).1 FX hi (by decide);rw[hx_x] at this;exact this)),AIA⟩ fun a25 w25 g25 Cu=>?_
   replace BZ:=AC g25 (AC g20 BZ)
   replace hr:=hr.kn g25
   replace ob:=(ob.kn g20).kn g25
   replace HG:=AA (AA HG g20) g25
   refine Ap (T:=23) (Z:=(bv AS)) Cu rfl rfl rfl (fun a w=>by kernel_rfl) fun a26 w26 AD7 Lf g26 z26 WN CW=>?_
   have Pm:=As BZ Lf
   have AA6:=Bp HG Lf
   have UG:=Av (hr.lt) Lf
   have UH:=Av (Own.ltS ob) Lf
   refine Am CW r7 (Bj x.x x.h.1) WN (Fu x.h) fun w27 g27 h27=>?_
   refine AE ?_
   refine k24 _ _ ?_
   refine AH3 ?_
   refine AK CW 2 [(17,.slice bo (32*i) bc),(18,.slice ((some ⟨AD7,0,none⟩)) 32 32)]
     ⟨ym r5,Ff (l:=none) (u:=none) rfl rfl trivial (oy rfl rfl) trivial trivial (JN AD7 0) (fun _=>rfl),AIA⟩ fun a28 w28 g28 JO=>?_
   replace BZ:=AC g28 (Aa g27 (AC g26 BZ) (Ne.symm Pm))
   replace WN:=AC g28 h27
   replace hr:=((hr.kn g26).offR g27 (AQ UG)).kn g28
   replace ob:=((ob.kn g26).offR g27 (AQ UH)).kn g28
   replace HG:=AA (AD (AA HG g26) g27 AA6) g28
   refine Kg DM JO rfl rfl rfl rfl rfl rfl rfl rfl ob (AA5 x.h (Aj WN)) (Fb _) (by omega) fun a29 ao29 cap29 w29 owx29 CM CK=>?_
   have Pn:=I4 CM.2 Gc BZ
   have UI:=I5 CM.2 ap_hr_ob (hr.lt)
   have AA7:=Vh CM.2 lo_ob HG
   replace BZ:=AF CM.1 BZ (fun e=>Gc _ e.symm rfl)
   replace hr:=hr.offR CM.1 (fun k hk e=>ap_hr_ob k hk (e))
   replace HG:=CN HG CM.1 fun k e=>lo_ob k (e)
   rw[←C4,←hfs] at owx29
   refine AZ (v:=.slice ao29 (32*i+32) cap29) CK r6 fun a30 EB=>?_
   refine AE ?_
   refine y23 _ _ ?_
   refine k22 _ _ ?_
   refine AH3 ?_
   refine AK EB 1 [(20,.int .i64 (((i+1:Nat):Int)))]
     ⟨Cm r6 (fun _=>DH (by rw[A7 (by omega) (by omega)];omega)),AIA⟩ fun a31 w31 g31 Hj=>?_
   refine AK (Hj.dl [13]) 1 [(13,.int .i64 (((i+1:Nat):Int)))]
     ⟨ym r5,AIA⟩ fun a32 w32 g32 CO=>?_
   have ADH:=AA g31 g32
   refine AE ?_
   replace BZ:=AC ADH BZ
   replace hr:=hr.kn ADH
   replace owx29:=owx29.kn ADH
   replace HG:=AA HG ADH
   exact⟨⟨i+1,ao29,cap29,by omega,⟨CO.1,CO.2.1,CO.2.2.1,CO.2.2.2.2.1,(AJ CO).2.2.2.2.1,(AJ CO).2.2.2.2.2.1,(AJ CO).2.2.2.2.2.2.1,(AJ CO).2.2.2.2.2.2.2.1,(AJ (AJ CO)).1,(AJ (AJ CO)).2.1,AIA⟩,HG,BZ,hr,owx29,Pn,UI,AA7⟩,by rw[show _=_ from CO.2.2.1,show _=_ from CF.2.2.1];simp[intOf];omega⟩
 · have hall:=AFE (ds:=ds) (i:=i) (by omega)
   refine AH3 ?_
   refine AK CF 1 [(14,.bool false)]
     ⟨Gs r7 (fun _=>Bb (by simp;omega)),AIA⟩ fun a33 w33 g33 I9=>?_
   refine AE ?_
   refine k19 _ _ ?_
   refine AH4 fun K34 k34=>?_
   refine Ax I9 rfl rfl ?_
   refine wp_exit ?_
   repeat refine CH ?_
   refine x17 _ _ ?_
   refine k14 _ _ ?_
   refine AH4 fun K35 k35=>?_
   refine AH3 ?_
   refine AK I9 2 [(21,.int .u64 ((dm:Int))),(22,.slice bo (32*i) bc)]
     ⟨ym r5,ym r5,AIA⟩ fun a36 w36 g36 FE=>?_
   have OI:=AA g33 g36
   replace ob:=ob.kn OI
   refine BR FE Tryz.func101 (by kernel_rfl) r6 (NH (AD6 (dom:=dm) hdl rfl (AGM ds i) (by rw[AFD (by omega)];omega) (AGN (by omega) (Sl.of_own ob)))) fun a37 v37 w37 hR37 IW=>?_
   obtain⟨rfl,g37⟩:=hR37
   replace BZ:=AC g37 (AC OI BZ)
   refine Am IW r7 (Bj ((PM (BitVec.ofNat 64 dm) (fl ds i))) (WM _ _).1) BZ (Fu (WM _ _)) fun w38 g38 h38=>?_
   replace ob:=(ob.kn g37).offR g38 (AQ Gc)
   replace HG:=AD (AA (AA HG OI) g37) g38 Rm
   replace BZ:=h38
   refine AE ?_
   refine k35 _ _ ?_
   refine AH7 ?_
   repeat refine AM ?_
   refine A3 (fn:=Tryz.f55) IW (EA (p:=4) Tryz.results55 IW rfl rfl (Bj ((PM (BitVec.ofNat 64 dm) (fl ds i))) (WM _ _).1) BZ) ?_
   exact⟨AHF (by rw[hall,hdm];rfl),HG⟩
end Go.Proofs.YtbfjfnbcmojpiaaGreat
