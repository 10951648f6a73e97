import Derived.Test.YtbfjfnbcmojpiaaGreatDrY3
import Derived.Test.YtbfjfnbcmojpiaaGreatDrR1
set_option linter.unusedSimpArgs false
set_option linter.unusedVariables false
set_option maxRecDepth 100000
set_option maxHeartbeats 4000000
namespace Go.Proofs.YtbfjfnbcmojpiaaGreat
open Go.RowKit Go.Shelf
theorem O4 {P:Program} {f:Nat} {args:Array Value} {w:World} {v:Value} (h:Calls P f args w fun e w'=>e=.returned v∧w.grownBy w' none):Calls P f args w fun e w'=>∃v',e=.returned v'∧(v'=v∧w.grownBy w' none):=h.mono fun e w' ⟨h1,h2⟩=>⟨v,h1,rfl,h2⟩
section
variable {P:Program} {Q:Exit→Act→World→Prop} {ops:Array Oper} {rest:List Oper} {o:Oper} {a:Act} {w:World} {n:Nat} {D:List Deferred} {K:List (Nat×Value)}
theorem MF (sv:Sv n D K a) (hgd:o.guard=none) {d:Nat} {t e:TypeId} {x:Operand} {u:Value} {cs:List Value} (ho:o.op=.buildSlice t 1 #[(0,x)]) (hd:o.dst=some d) (hdn:decide (d<n)=true) (hx:LK K x=true) (hxv:LL K x=u)
  (hr:∀W:World,(Instr.buildSlice t 1 #[(0,u)]).run P W=.ok (.slice (some ⟨W.heap.size,0,none⟩) 1 1) (W.alloc (.cells cs.toArray e)))
  (h:∀a' w' b,b=w.heap.size→w.grownBy w' none→w'.heap.size=b+1→w'.heap[b]?=some (.cells cs.toArray e (0,0))→Sv n D ((d,.slice (some ⟨b,0,none⟩) 1 1)::IS d K) a'→wpList P ops Q rest a' w'):wpList P ops Q (o::rest) a w:=by
 refine Ms (w':=w.alloc (.cells cs.toArray e)) sv hgd hd hdn ?_ fun a' sv'=>h a' _ _ rfl (World.grownBy_alloc _ _ _) (by simp) (Ah rfl) sv'
 have e:=sv.ev hx hxv
 simp only[execOp,ho,e,List.map_toArray,List.map_cons,List.map_nil,Sem.run_bind,Sem.run_pure,Result.andThen_ok,hr]
theorem YK (sv:Sv n D K a) (hgd:o.guard=none) {d:Nat} {t e:TypeId} {x y:Operand} {u v:Value} {cs:List Value} (ho:o.op=.buildSlice t 2 #[(0,x),(1,y)]) (hd:o.dst=some d) (hdn:decide (d<n)=true) (hx:LK K x=true) (hxv:LL K x=u) (hy:LK K y=true) (hyv:LL K y=v)
  (hr:∀W:World,(Instr.buildSlice t 2 #[(0,u),(1,v)]).run P W=.ok (.slice (some ⟨W.heap.size,0,none⟩) 2 2) (W.alloc (.cells cs.toArray e)))
  (h:∀a' w' b,b=w.heap.size→w.grownBy w' none→w'.heap.size=b+1→w'.heap[b]?=some (.cells cs.toArray e (0,0))→Sv n D ((d,.slice (some ⟨b,0,none⟩) 2 2)::IS d K) a'→wpList P ops Q rest a' w'):wpList P ops Q (o::rest) a w:=by
 refine Ms (w':=w.alloc (.cells cs.toArray e)) sv hgd hd hdn ?_ fun a' sv'=>h a' _ _ rfl (World.grownBy_alloc _ _ _) (by simp) (Ah rfl) sv'
 have e1:=sv.ev hx hxv
 have e2:=sv.ev hy hyv
 simp only[execOp,ho,e1,e2,List.map_toArray,List.map_cons,List.map_nil,Sem.run_bind,Sem.run_pure,Result.andThen_ok,hr]
end
section
variable {Q:Exit→Act→World→Prop} {ops:Array Oper} {rest:List Oper} {o:Oper} {a:Act} {w:World} {n:Nat} {D:List Deferred} {K:List (Nat×Value)}
theorem ADp (m:Nat):madeCells (Value.int .u8 0).cells (m*1)=(bv (zs m)).toArray:=by
 apply Array.ext'
 rw[Oi (z:=.int .u8 0) (sz:=1) rfl (by decide)]
 induction m with
 | zero=>rfl
 | succ m ih=>rw[List.replicate_succ,List.flatMap_cons,ih];rfl
theorem YL {m:Nat} (sv:Sv n D K a) (hgd:o.guard=none) {d:Nat} {x:Operand} (ho:o.op=.makeSlice 29 x x) (hd:o.dst=some d) (hdn:decide (d<n)=true) (hx:LK K x=true) (hxv:LL K x=.int .i64 (m:Int)) (hm:m≤1000000)
  (h:∀a' w' b,b=w.heap.size→w.grownBy w' none→w'.heap.size=b+1→w'.heap[b]?=some (.cells (bv (zs m)).toArray 5 (0,0))→Sv n D ((d,.slice (some ⟨b,0,none⟩) m m)::IS d K) a'→wpList Tryz.prog ops Q rest a' w'):wpList Tryz.prog ops Q (o::rest) a w:=by
 refine Ms (w':=w.alloc (.cells (bv (zs m)).toArray 5)) sv hgd hd hdn ?_ fun a' sv'=>h a' _ _ rfl (World.grownBy_alloc _ _ _) (by simp) (Ah rfl) sv'
 have e:=sv.ev hx hxv
 obtain⟨i,hi,hz,hs,hby⟩:=DW.inf
 have hb:=DW.bnd
 have hbytes:(i.bytes:Int)*(m:Int)≤281474976710656:=by rw[hby];omega
 have hr:=run_make (P:=Tryz.prog) w 29 5 i (.int .u8 0) DW.und hi hz .i64 .i64 (m:Int) (m:Int) (by omega) (by omega) hbytes (by omega)
 rw[hs,Int.toNat_natCast,ADp] at hr
 simp only[execOp,ho,e,Sem.run_bind,Sem.run_pure,Result.andThen_ok,hr]
theorem YM {B n:Nat} {xs:List Value} {t:TypeId} (h:w.heap[B]?=some (.cells xs.toArray t (0,0))) (hl:xs.length=n) (hn:n≤1000000):Own w t 1 (.slice (some ⟨B,0,none⟩) n n) n xs:=by
 subst hl
 refine⟨by rw[Nat.mul_one],.inr ⟨B,xs.length,_,rfl,Nat.zero_le _,h,Nat.le_refl _,by unfold maxLen;omega,by simp,?_⟩⟩
 rw[Nat.mul_one,List.take_of_length_le (by simp)]
end
theorem AFs (n:Nat):(zs n).length=n:=List.length_replicate
theorem SM (w:World):CallsD Tryz.prog 138 #[] .returning w fun e u' w'=>e=.returned (.tuple #[])∧u'=.returning∧w'=w:=by
 refine callsD_of_wpS Tryz.func138 rfl fun c₀ cs hu=>?_
 apply wpS_region
 simp[wpOpsS,go_sem,recoverD,hu,Tryz.ntmps138]
 cases c₀
 simp_all [bodyPostS,results,Tryz.results138]
theorem SN (w:World):CallsD Tryz.prog 98 #[] .returning w fun e u' w'=>e=.returned (.tuple #[])∧u'=.returning∧w'=w:=by
 refine callsD_of_wpS Tryz.func98 rfl fun c₀ cs hu=>?_
 apply wpS_region
 simp[wpOpsS,go_sem,recoverD,hu,Tryz.ntmps98]
 cases c₀
 simp_all [bodyPostS,results,Tryz.results98]
theorem O5 (p q:Value) (w:World):CallsD Tryz.prog 139 #[p,q] .returning w fun e u' w'=>e=.returned (.tuple #[])∧u'=.returning∧w'=w:=by
 refine callsD_of_wpS Tryz.func139 rfl fun c₀ cs hu=>?_
 apply wpS_seq
 apply wpS_region
 simp[wpOpsS,go_sem,recoverD,hu,Tryz.ntmps139,Exit.thenS]
 refine wpS_cond (t:=false) (by simp[Act.eval,Array.replicate]) ?_
 simp only[Bool.false_eq_true,if_false]
 refine wpS_of_wp (AIm ?_)
 cases c₀
 simp_all [bodyPostS,results,Tryz.results139]
theorem RO {P:Program} {f:Nat} {args:Array Value} {w:World} {xs:List Nat} (h:Calls P f args w fun e w'=>NwR w w' xs e):Calls P f args w fun e w'=>∃v,e=.returned v∧(Own w' 5 1 v xs.length (bv xs)∧Fresh w w' v):=
 h.mono fun e w' ⟨v,h1,h2,ao,cap,h3,h4,h5⟩=>⟨v,h1,h3▸h4,⟨by simpa [Mf,Value.ownBlock] using h2,fun k hk=>.inr (h5 k (h3▸hk))⟩⟩
theorem ADq {w:World} {B:Nat} {t:TypeId} {a:Int} (hb:w.heap[B]?=some (.cells [.int .i64 a].toArray t (0,0))) (h:OL a):Calls Tryz.prog 132 #[.slice none 0 0,.slice (some ⟨B,0,none⟩) 1 1] w fun e w'=>∃v,e=.returned v∧(Own w' 5 1 v (enc a).length (bv (enc a))∧Fresh w w' v):=by
 have:=Q2 Mf (.slice (some ⟨B,0,none⟩) 1 1) [] [a] w (Own.nil _ _ _) (WA hb ⟨rfl,by decide⟩) (.inr (by simp[Mf,Value.ownBlock])) (fun n hn=>by simp at hn;subst hn;exact h) (by simp)
 simpa using this
theorem AEk {w:World} {v:Value} {ys:List Nat} (h:Sl w 1 v ys.length (bv ys)) (hm:0<ys.length) (hl:ys.length≤3000000):Calls Tryz.prog 99 #[.slice none 0 0,v] w fun e w'=>∃v,e=.returned v∧(Own w' 5 1 v ys.length (bv ys)∧Fresh w w' v):=by
 have:=Tk Mf v [] ys w (Sl.nil w 1) h hm (by simp;omega)
 simpa using this
theorem YN (a:Int):0<(enc a).length:=by
 unfold enc
 by_cases h:XU a<128
 · rw[FS h];simp
 · rw[Ie h];simp
theorem ABk (x:V):0<(Be x).length:=by
 unfold Be Pp
 rw[List.length_append]
 have:=YN x.clean.kind
 omega
theorem AG0 (a:Int) (W:World):(Instr.buildSlice 74 1 #[(0,.int .i64 a)]).run Tryz.prog W=.ok (.slice (some ⟨W.heap.size,0,none⟩) 1 1) (W.alloc (.cells [.int .i64 a].toArray 2)):=by kernel_rfl
theorem AG1 (ao bo:Option Addr) (n m c d:Nat) (W:World):(Instr.buildSlice 151 2 #[(0,.slice ao n c),(1,.slice bo m d)]).run Tryz.prog W=.ok (.slice (some ⟨W.heap.size,0,none⟩) 2 2) (W.alloc (.cells [.slice ao n c,.slice bo m d].toArray 29)):=by kernel_rfl
theorem ADr {w:World} (x:V):Calls Tryz.prog 100 #[.slice none 0 0,Bu x] w fun e w'=>∃v,e=.returned v∧(Own w' 5 1 v (Be x).length (bv (Be x))∧Fresh w w' v):=by
 have:=AAa Mf x [] w (Own.nil _ _ _) (by simp)
 rw[List.nil_append] at this
 exact this
theorem O6 (n:Int) (hn:OL n) (w:World) :
  Calls Tryz.prog 103 #[.slice none 0 0,.int .i64 n] w fun e w'=>NwR w w' (enc n) e:=by
 have hl:=EO hn.1 hn.2
 refine DX Tryz.func103 rfl Tryz.ntmps103 rfl fun a0 sv0=>?_
 have HG:=World.grownBy.refl w none
 replace sv0:Sv 10 [] [(0,.slice none 0 0),(1,.int .i64 n)] a0:=sv0
 refine AIi fun K1 k1=>?_
 refine AIh ?_
 refine Aa (v:=.slice none 0 0) sv0 r6 fun a2 sv2=>?_
 refine AE ?_
 refine k1 _ _ ?_
 refine AIi fun K3 k3=>?_
 refine AIh ?_
 refine EJ sv2 rfl (dd:={ target:=.fn (.func 138) #[],args:=#[] }) rfl (by simp[execOp,resolve,Deferred.ofValue];try rfl) fun a4 sv4=>?_
 refine AE ?_
 refine k3 _ _ ?_
 refine AIi fun K5 k5=>?_
 refine AIh ?_
 refine AL sv4 2 [(5,.slice none 0 0),(6,.int .i64 n)]
  ⟨ym r5,ym r5,AIo⟩ fun a6 w6 g6 sv6=>?_
 refine MF (cs:=[.int .i64 n]) (e:=2) sv6 rfl rfl rfl rfl rfl rfl (AG0 n) fun a7 w7 AIb AHe g7 z7 AG2 sv7=>?_
 refine BU sv7 Tryz.func132 (by kernel_rfl) r6 (ADq AG2 hn) fun a8 v8 w8 hR8 sv8=>?_
 obtain⟨ao8,cap8,rfl,_⟩:=(Sl.of_own hR8.1).shape
 obtain⟨ow8,fr8⟩:=hR8
 replace fr8:=Dx fr8
 have g8:=fr8.1
 replace fr8:=fr8.2
 replace HG:=AA (AA (AA HG g6) g7) g8
 refine BU sv8 Tryz.func99 (by kernel_rfl) r6 (AEk (Sl.of_own ow8) (YN n) (by omega)) fun a9 v9 w9 hR9 sv9=>?_
 obtain⟨ao9,cap9,rfl,_⟩:=(Sl.of_own hR9.1).shape
 obtain⟨ow9,fr9⟩:=hR9
 replace fr9:=Dx fr9
 have g9:=fr9.1
 replace fr9:=fr9.2
 have Wz:=JC HG fr9
 replace HG:=AA HG g9
 refine Aa (v:=.slice ao9 ((enc n)).length cap9) sv9 r6 fun a10 CK=>?_
 have CH:Sv _ _ [_] _:=CK.dl [9,8,7,5,6,0,1]
 refine AE ?_
 refine k5 _ _ ?_
 refine AIl ?_
 repeat refine AM ?_
 refine BK (fn:=Tryz.f103) CH (A7 (p:=4) Tryz.results103 CH rfl rfl) (Bl Tryz.func138 (by kernel_rfl) rfl _ _) (SM _) ?_
 exact⟨_,rfl,HG,_,_,rfl,ow9,Wz⟩
theorem W0 (x:V) (w:World) :
  Calls Tryz.prog 53 #[.slice none 0 0,Bu x] w fun e w'=>NwR w w' (Be x) e:=by
 have hl:=Ga x
 refine DX Tryz.func53 rfl Tryz.ntmps53 rfl fun a0 sv0=>?_
 have HG:=World.grownBy.refl w none
 replace sv0:Sv 9 [] [(0,.slice none 0 0),(1,Bu x)] a0:=sv0
 refine AIi fun K1 k1=>?_
 refine AIh ?_
 refine BT sv0 r6 (Dm x) fun a2 w2 P9 Lz g2 z2 BG sv2=>?_
 refine Aa (v:=.slice none 0 0) sv2 r6 fun a3 sv3=>?_
 refine AE ?_
 refine k1 _ _ ?_
 refine AIi fun K4 k4=>?_
 refine AIh ?_
 refine EJ sv3 rfl (dd:={ target:=.fn (.func 98) #[],args:=#[] }) rfl (by simp[execOp,resolve,Deferred.ofValue];try rfl) fun a5 sv5=>?_
 refine AE ?_
 refine k4 _ _ ?_
 refine AIi fun K6 k6=>?_
 refine AIh ?_
 refine AL sv5 2 [(5,.slice none 0 0),(6,Bu x)]
  ⟨ym r5,yl r6 (Dm x) BG,AIo⟩ fun a7 w7 g7 sv7=>?_
 refine BU sv7 Tryz.func100 (by kernel_rfl) r6 (ADr x) fun a8 v8 w8 hR8 sv8=>?_
 obtain⟨ao8,cap8,rfl,_⟩:=(Sl.of_own hR8.1).shape
 obtain⟨ow8,fr8⟩:=hR8
 replace fr8:=Dx fr8
 have g8:=fr8.1
 replace fr8:=fr8.2
 replace HG:=AA (AA (AA HG g2) g7) g8
 refine BU sv8 Tryz.func99 (by kernel_rfl) r6 (AEk (Sl.of_own ow8) (ABk x) (by omega)) fun a9 v9 w9 hR9 sv9=>?_
 obtain⟨ao9,cap9,rfl,_⟩:=(Sl.of_own hR9.1).shape
 obtain⟨ow9,fr9⟩:=hR9
 replace fr9:=Dx fr9
 have g9:=fr9.1
 replace fr9:=fr9.2
 have Wz:=JC HG fr9
 replace HG:=AA HG g9
 refine Aa (v:=.slice ao9 ((Be x)).length cap9) sv9 r6 fun a10 CK=>?_
 have CH:Sv _ _ [_,_] _:=CK.dl [8,7,5,6,3,0]
 refine AE ?_
 refine k6 _ _ ?_
 refine AIl ?_
 repeat refine AM ?_
 refine BK (fn:=Tryz.f53) CH (A7 (p:=4) Tryz.results53 CH rfl rfl) (Bl Tryz.func98 (by kernel_rfl) rfl _ _) (SN _) ?_
 exact⟨_,rfl,HG,_,_,rfl,ow9,Wz⟩
section
variable {w w':World} {v:Value} {n:Nat} {xs:List Value}
end
def ABl (c:List Nat) (n:Nat):List Nat:=sq (Fx (BitVec.ofNat 64 284) c) n
theorem YO (c:List Nat) (n:Nat):(ABl c n).length=n:=LB _ _
theorem AFt (c:List Nat) (n:Nat):By (ABl c n):=fun x hx=>AAe _ _ x hx
theorem I3 (b c:List Nat):(IX b c).length=b.length:=MB (by rw[LB];omega)
theorem O7 {b:List Nat} (c:List Nat) (h:By b):By (IX b c):=Xx h fun x hx=>AAe _ _ x hx
theorem ABm {w:World} {dom:Nat} (hd:dom<1000) {c:Int} (hc:c=(dom:Int)) {l:List Nat} {s:Value} (hb:By l) (hl:l.length≤1000000) (h:Sl w 1 s l.length (bv l)):Calls Tryz.prog 136 #[.int .u64 c,s] w fun e w'=>e=.returned (JR (Fx (BitVec.ofNat 64 dom) l))∧w.grownBy w' none:=by
 have e:c=wi (BitVec.ofNat 64 dom):=by rw[hc,←Mh,IntKind.wrap_u64];omega
 rw[e]
 exact NF _ l hb (by omega) s w h
theorem AEl {w:World} {dom:Nat} (hd:dom<1000) {c:Int} (hc:c=(dom:Int)) {l:List Nat} {s:Value} (hb:By l) (hl:l.length≤1000000) (h:Sl w 1 s l.length (bv l)):Calls Tryz.prog 101 #[.int .u64 c,s] w fun e w'=>e=.returned (AO (Pr (BitVec.ofNat 64 dom) l))∧w.grownBy w' none:=by
 have e:c=wi (BitVec.ofNat 64 dom):=by rw[hc,←Mh,IntKind.wrap_u64];omega
 rw[e]
 exact Tv _ l hb (by omega) s w h
theorem ABn {w:World} {dom:Nat} (hd:dom<1000) {c:Int} (hc:c=(dom:Int)) {k l:List Nat} {s:Value} (hk:Dg k) (hb:By l) (hl:l.length≤1000000) (h:Sl w 1 s l.length (bv l)):Calls Tryz.prog 66 #[.int .u64 c,AO k,s] w fun e w'=>e=.returned (AO (Li (BitVec.ofNat 64 dom) k l))∧w.grownBy w' none:=by
 have e:c=wi (BitVec.ofNat 64 dom):=by rw[hc,←Mh,IntKind.wrap_u64];omega
 rw[e]
 exact LC _ k l hk.1 hk.2 hb (by omega) s w h
theorem AG3 {w:World} {s:St} {n D:Nat} {T:TypeId} (hn:n≤1000000) (hD:w.heap[D]?=some (.cells (bv (zs n)).toArray T (0,0))):Calls Tryz.prog 135 #[JR s,.slice (some ⟨D,0,none⟩) n n] w fun e w'=>∃v,e=.returned v∧(v=.tuple #[]∧w.grownBy w' (some D)∧w'.heap[D]?=some (.cells (bv (sq s n)).toArray T (0,0))):=
 (Lh s n (by omega) D T w hD).mono fun e w' ⟨h1,h2,h3⟩=>⟨_,h1,rfl,h2,h3⟩
theorem Ut {w:World} {x y:List Nat} {s t:Value} {B:Nat} (hs:Sl w 1 s x.length (bv x)) (ht:Sl w 1 t y.length (bv y)) (hB:w.heap[B]?=some (.cells [s,t].toArray 29 (0,0))) (hx:x.length≤1000000) (hy:y.length≤1000000) :
  Calls Tryz.prog 102 #[.slice (some ⟨B,0,none⟩) 2 2] w fun e w'=>∃v,e=.returned v∧(Own w' 5 1 v (x++y).length (bv (x++y))∧Fresh w w' v):=by
 rw[List.length_append]
 exact NG x y (by omega) (by omega) s t w hs ht B hB
theorem AFu {w w':World} {xs:List Nat} {n cap:Nat} {ao:Option Addr} (hl:xs.length=n) (HG:w.grownBy w' none) (ho:Own w' 5 1 (.slice ao n cap) n (bv xs)) (lo:∀k,BO (.slice ao n cap) k→w.heap.size≤k) {v:Value} (hv:v=.slice ao n cap):NwR w w' xs (.returned v):=by
 subst hl hv
 exact⟨_,rfl,HG,_,_,rfl,ho,lo⟩
theorem ABo {x y:List Nat} (hx:By x) (hy:By y):By (x++y):=fun b hb=>(List.mem_append.1 hb).elim (hx b) (hy b)
theorem F7 (a:Int) (b:List Nat):Dg (Zn a b):=⟨Fd _ _,Mi _ _⟩
theorem Dq (c:List Nat) (a:Int) (b:List Nat):Dg (Tc c a b):=⟨Fd _ _,Mi _ _⟩
theorem M2 (q:Bool) (ks:List (List Nat)):Dg (Ta q ks):=⟨Fd _ _,Mi _ _⟩
theorem ABp {w:World} {b:Nat} {k:List Nat} (hk:Dg k) (h:w.rangeAt b 0 (bv k)):Sl w 1 (.slice (some ⟨b,0,none⟩) 32 32) k.length (bv k):=by
 rw[hk.1]
 refine⟨by rw[AI,hk.1],_,_,rfl,Nat.le_refl _,by unfold maxLen;omega,fun h=>(by cases h),fun ad had=>?_⟩
 obtain rfl:=Option.some.inj had
 exact⟨fun _=>rfl,fun j u hu=>by simpa using h j u hu⟩
theorem Uu (q:List Nat) (hq:Dg q) (n:Nat) (hn:n≤4096) (w:World) :
  Calls Tryz.prog 105 #[.int .u64 284,AO q,.int .i64 ((n:Int))] w fun e w'=>∃v,e=.returned (.tuple #[v,.int .i64 0])∧w.grownBy w' none∧(Sp.row w.heap.size 5 1 n (bv (ABl q n))).on w' v:=by
 refine DX Tryz.func105 rfl Tryz.ntmps105 rfl fun a0 sv0=>?_
 have HG:=World.grownBy.refl w none
 replace sv0:Sv 24 [] [(0,.int .u64 284),(1,AO q),(2,.int .i64 ((n:Int)))] a0:=sv0
 refine AIi fun K1 k1=>?_
 refine AIh ?_
 refine BT sv0 r6 (Bn q hq.1) fun a2 w2 Mu Lx g2 z2 Bg sv2=>?_
 replace HG:=AA HG g2
 refine As (T:=29) (Z:=[.slice none 0 0]) sv2 rfl rfl rfl (fun a w=>by kernel_rfl) fun a3 w3 AG4 N8 g3 z3 Gu sv3=>?_
 have SO:=Bq HG N8
 replace HG:=AA HG g3
 refine As (T:=38) (Z:=[.int .i64 0]) sv3 rfl rfl rfl (fun a w=>by kernel_rfl) fun a4 w4 AHu YP g4 z4 NS sv4=>?_
 have MG:=Ar Gu YP
 have ADs:=Bq HG YP
 refine AE ?_
 refine k1 _ _ ?_
 refine AIi fun K5 k5=>?_
 refine AIh ?_
 refine Es sv4 rfl rfl rfl rfl rfl rfl fun a6 sv6=>?_
 refine EJ sv6 rfl (dd:={ target:=.fn (.func 139) #[pt AG4,pt AHu],args:=#[] }) rfl (by have e1:=sv6.ev (x:=.tmp 9) rfl rfl;simp[execOp,resolve,Deferred.ofValue,e1];try rfl) fun a7 sv7=>?_
 refine AE ?_
 refine k5 _ _ ?_
 refine AIi fun K8 k8=>?_
 refine AIi fun K9 k9=>?_
 refine AIh ?_
 refine AL sv7 6 [(10,.int .i64 ((n:Int))),(11,.bool false),(12,.bool false),(13,.int .i64 ((n:Int))),(14,.bool false),(15,.bool false)]
  ⟨ym r5,Cm r6 (fun _=>Ba (decide_eq_false (by omega))),ym r5,Av rq8,BA rq9 (fun _=>Cp (decide_eq_false (by omega))),A3 rq9,AIo⟩ fun a10 w10 g10 CK=>?_
 refine AE ?_
 refine k9 _ _ ?_
 refine Au CK rfl rfl ?_
 refine AIm ?_
 refine k8 _ _ ?_
 refine AIi fun K11 k11=>?_
 refine AIh ?_
 refine AL CK 1 [(16,.int .i64 ((n:Int)))]
  ⟨ym r5,AIo⟩ fun a12 w12 g12 C6=>?_
 have ADt:=AA g10 g12
 replace Gu:=AC ADt (AC g4 Gu)
 replace NS:=AC ADt NS
 replace HG:=AA (AA HG g4) ADt
 refine YL (m:=n) C6 rfl rfl rfl rfl rfl rfl (by omega) fun a13 w13 O8 M3 g13 z13 MH DI=>?_
 have Jr:=Ar Gu M3
 have Js:=Ar NS M3
 have RP:=Bq HG M3
 refine Aa (v:=.slice ((some ⟨O8,0,none⟩)) n n) DI r6 fun a14 DE=>?_
 refine AE ?_
 refine k11 _ _ ?_
 refine AIi fun K15 k15=>?_
 refine AIh ?_
 refine AL DE 2 [(18,.int .u64 284),(19,.slice ((some ⟨Mu,0,none⟩)) 32 32)]
  ⟨ym r5,Fp (l:=none) (u:=none) rfl rfl trivial (oy rfl rfl) trivial trivial (Jf Mu 0) (fun _=>rfl),AIo⟩ fun a16 w16 g16 Cj=>?_
 replace Bg:=AC g16 (AC g13 (AC ADt (AC g4 (AC g3 Bg))))
 refine BU Cj Tryz.func136 (by kernel_rfl) r6 (O4 (ABm (dom:=284) (by decide) rfl hq.2 (by rw[hq.1];decide) (ABp hq (Al Bg)))) fun a17 v17 w17 hR17 FH=>?_
 obtain⟨rfl,g17⟩:=hR17
 have CS:Sv _ _ [_,_,_,_,_,_,_,_,_,_,_,_,_,_,_] _:=FH.dl [18,19,4,0]
 refine AL CS 1 [(21,.slice ((some ⟨O8,0,none⟩)) n n)]
  ⟨ym r5,AIo⟩ fun a19 w19 g19 Dj=>?_
 replace MH:=AC g19 (AC g17 (AC g16 MH))
 refine BU Dj Tryz.func135 (by kernel_rfl) r6 (AG3 (n:=n) (by omega) MH) fun a20 v20 w20 hR20 EL=>?_
 obtain⟨rfl,g20,h20⟩:=hR20
 replace Gu:=Ab g20 (AC g19 (AC g17 (AC g16 (AC g13 Gu)))) (Ne.symm Jr)
 refine AE ?_
 refine k15 _ _ ?_
 refine AIi fun K21 k21=>?_
 refine AIh ?_
 refine AL EL 1 [(23,.slice ((some ⟨O8,0,none⟩)) n n)]
  ⟨ym r5,AIo⟩ fun a22 w22 g22 CX=>?_
 refine An CX r7 (F9 (.slice ((some ⟨O8,0,none⟩)) n n) rfl) (AC g22 Gu) rfl fun w23 g23 h23=>?_
 replace NS:=Ak g22 g23 (Ab g20 (AC g19 (AC g17 (AC g16 (AC g13 NS)))) (Ne.symm Js)) MG
 refine An CX r7 (Ed 0) NS rfl fun w24 g24 h24=>?_
 replace Gu:=Ab g24 h23 (Ne.symm MG)
 replace MH:=Ab g24 (Ak g22 g23 h20 Jr) Js
 replace HG:=AD (AD (AA (AD (AA (AA (AA (AA HG g13) g16) g17) g19) g20 RP) g22) g23 SO) g24 ADs
 replace NS:=h24
 refine AE ?_
 refine k21 _ _ ?_
 refine AIl ?_
 repeat refine AM ?_
 have ho:=YM (n:=n) MH (by rw[AI];exact YO q n) (by omega)
 refine BK (fn:=Tryz.f105) CX (BQ (p:=6) (q:=7) Tryz.results105 CX rfl rfl rfl rfl (F9 (.slice ((some ⟨O8,0,none⟩)) n n) rfl) (Ed 0) Gu NS) (Bl Tryz.func139 (by kernel_rfl) rfl _ _) (O5 _ _ _) ?_
 exact⟨_,rfl,HG,_,_,rfl,ho,fun k hk=>(Option.some.inj hk)▸RP⟩
theorem AG5 {w:World} {k:List Nat} (hk:Dg k) {n:Nat} (hn:n≤4096):Calls Tryz.prog 105 #[.int .u64 284,AO k,.int .i64 (n:Int)] w fun e w'=>∃v,e=.returned v∧(∃ao cap,v=.tuple #[.slice ao n cap,.int .i64 0]∧w.grownBy w' none∧Own w' 5 1 (.slice ao n cap) n (bv (ABl k n))∧∀b,BO (.slice ao n cap) b→w.heap.size≤b):=
 (Uu k hk n hn w).mono fun e w' ⟨v,h1,h2,ao,cap,h3,h4,h5⟩=>⟨_,h1,ao,cap,by rw[h3],h2,h4,h5⟩
theorem AG6 {P:Program} {f:Nat} {args:Array Value} {w w1:World} {u:Value} {n:Nat} {xs:List Value} (h:Calls P f args w1 fun e w'=>e=.returned u∧w.grownBy w' none∧Own w' 5 1 u n xs):Calls P f args w1 fun e w'=>∃v,e=.returned v∧(v=u∧w.grownBy w' none∧Own w' 5 1 u n xs):=h.mono fun e w' ⟨h1,h2,h3⟩=>⟨_,h1,rfl,h2,h3⟩
theorem I4 (x:List Nat) (bx:By x) (lx:x.length≤4096) (ao:Option Addr) (cap:Nat) (c:List Nat) (hc:Dg c) (w:World) (hx:SlB w 1 (.slice ao x.length cap) x.length (bv x)) :
  Calls Tryz.prog 57 #[.slice ao x.length cap,AO c] w fun e w'=>NwR w w' (IX x c) e:=by
 refine BM Tryz.func57 rfl Tryz.ntmps57 rfl fun a0 sv0=>?_
 have HG:=World.grownBy.refl w none
 replace sv0:Sv 20 [] [(0,.slice ao x.length cap),(1,AO c)] a0:=sv0
 refine AIi fun K1 k1=>?_
 refine AIh ?_
 refine BT sv0 r6 (Bn c hc.1) fun a2 w2 P9 Lz g2 z2 BG sv2=>?_
 refine Aa (v:=.slice none 0 0) sv2 r6 fun a3 sv3=>?_
 refine AE ?_
 refine k1 _ _ ?_
 refine AIi fun K4 k4=>?_
 refine AIh ?_
 refine AL sv3 3 [(8,AO c),(9,.slice ao x.length cap),(10,.int .i64 ((x.length:Nat)))]
  ⟨yl r6 (Bn c hc.1) BG,ym r5,Bk (Tryz.underlying29) rfl rfl trivial (oy rfl rfl) (fun _=>rfl),AIo⟩ fun a5 w5 g5 sv5=>?_
 refine BU sv5 Tryz.func105 (by kernel_rfl) r6 (AG5 hc (n:=x.length) lx) fun a6 v6 w6 hR6 sv6=>?_
 obtain⟨ao6,cap6,rfl,g6,hs,fs⟩:=hR6
 have sv7:Sv _ _ [_,_,_,_] _:=sv6.dl [8,9,10,3]
 refine AL sv7 3 [(7,.tuple #[.slice ao6 x.length cap6,.int .i64 0]),(12,.slice ao6 x.length cap6),(13,.int .i64 0)]
  ⟨ym r5,BH rq4 (fun _ _ h=>⟨_,_,h,rfl,rfl⟩),BH rq4 (fun _ _ h=>⟨_,_,h,rfl,rfl⟩),AIo⟩ fun a8 w8 g8 sv8=>?_
 refine Aa (v:=.slice ao6 x.length cap6) sv8 r6 fun a9 sv9=>?_
 refine Aa (v:=.int .i64 0) sv9 r6 fun a10 CK=>?_
 have CH:Sv _ _ [_,_,_,_] _:=CK.dl [6,7,12,13,11]
 refine AE ?_
 refine k4 _ _ ?_
 refine AIi fun K12 k12=>?_
 refine AIh ?_
 refine AL CH 2 [(14,.slice ao x.length cap),(15,.int .i64 ((x.length:Nat)))]
  ⟨ym r5,Bk (Tryz.underlying29) rfl rfl trivial (oy rfl rfl) (fun _=>rfl),AIo⟩ fun a13 w13 g13 DI=>?_
 have ADu:=AA g8 g13
 replace BG:=AC ADu (AC g6 (AC g5 BG))
 replace hx:=(((hx.kn g2).kn g5).kn g6).kn ADu
 replace hs:=hs.kn ADu
 replace HG:=AA (AA (AA (AA HG g2) g5) g6) ADu
 refine YL (m:=x.length) DI rfl rfl rfl rfl rfl rfl (by omega) fun a14 w14 O9 KS g14 z14 N9 DE=>?_
 have PA:=Ar BG KS
 have Zs:=Bq HG KS
 have SP:=Ax (hx.lt) KS
 have SQ:=Ax (Own.ltS hs) KS
 refine AL DE 2 [(17,.slice ao x.length cap),(18,.slice ao6 x.length cap6)]
  ⟨ym r5,ym r5,AIo⟩ fun a15 w15 g15 LS=>?_
 replace N9:=AC g15 N9
 replace hx:=(hx.kn g14).kn g15
 replace hs:=(hs.kn g14).kn g15
 replace HG:=AA (AA HG g14) g15
 have om:=YM (n:=x.length) N9 (by rw[AI,AFs]) (by omega)
 have AFv:∀k,BO (.slice ((some ⟨O9,0,none⟩)) x.length x.length) k→k≠P9:=fun k hk e=>PA ((Option.some.inj hk).trans e)
 have ap_hx_om:∀k,BO (.slice ao x.length cap) k→¬BO (.slice ((some ⟨O9,0,none⟩)) x.length x.length) k:=fun k hk e=>SP k hk (Option.some.inj e).symm
 have ap_hs_om:∀k,BO (.slice ao6 x.length cap6) k→¬BO (.slice ((some ⟨O9,0,none⟩)) x.length x.length) k:=fun k hk e=>SQ k hk (Option.some.inj e).symm
 have lo_om:∀k,BO (.slice ((some ⟨O9,0,none⟩)) x.length x.length) k→w.heap.size≤k:=fun k hk=>(Option.some.inj hk)▸Zs
 clear N9
 rw[MC] at om
 have hs2:=(Own.sb hs)
 refine BU LS Tryz.func106 (by kernel_rfl) r6 (AG6 (Zq x (ABl c x.length) (zs x.length) bx (AFt c _) x.length (by omega) rfl x.length (YO c _) (Nat.le_refl _) _ _ _ _ _ _ w _ HG om hx hs2 lo_om ap_hx_om ap_hs_om)) fun a16 v16 w16 hR16 Cj=>?_
 obtain⟨rfl,G,oo⟩:=hR16
 refine Aa (v:=.slice ((some ⟨O9,0,none⟩)) x.length x.length) Cj r6 fun a17 FH=>?_
 have CS:Sv _ _ [_,_,_] _:=FH.dl [19,17,18,16,14,15,5]
 refine AE ?_
 refine k12 _ _ ?_
 refine AIl ?_
 repeat refine AM ?_
 refine A8 (fn:=Tryz.f57) CS (A7 (p:=4) Tryz.results57 CS rfl rfl) ?_
 exact AFu (I3 x c) G oo lo_om rfl
theorem IE (a:Int) (ha:OL a) (x:List Nat) (bx:By x) (lx:x.length≤100000) (ao:Option Addr) (cap:Nat) (w:World) (hx:SlB w 1 (.slice ao x.length cap) x.length (bv x)) :
  Calls Tryz.prog 54 #[.int .i64 a,.slice ao x.length cap] w fun e w'=>e=.returned (AO (Zn a x))∧w.grownBy w' none:=by
 have hle:=EO ha.1 ha.2
 refine BM Tryz.func54 rfl Tryz.ntmps54 rfl fun a0 sv0=>?_
 have HG:=World.grownBy.refl w none
 replace sv0:Sv 11 [] [(0,.int .i64 a),(1,.slice ao x.length cap)] a0:=sv0
 refine AIi fun K1 k1=>?_
 refine AIh ?_
 refine As (T:=23) (Z:=(bv AS)) sv0 rfl rfl rfl (fun a w=>by kernel_rfl) fun a2 w2 Mu Lx g2 z2 Bg sv2=>?_
 have SR:=Bq HG Lx
 refine AE ?_
 refine k1 _ _ ?_
 refine AIi fun K3 k3=>?_
 refine AIh ?_
 refine AL sv2 1 [(5,.int .i64 a)]
  ⟨ym r5,AIo⟩ fun a4 w4 g4 sv4=>?_
 refine BU sv4 Tryz.func103 (by kernel_rfl) r6 (RO (O6 a ha _)) fun a5 v5 w5 hR5 sv5=>?_
 obtain⟨ao5,cap5,rfl,_⟩:=(Sl.of_own hR5.1).shape
 obtain⟨ow5,fr5⟩:=hR5
 replace fr5:=Dx fr5
 have g5:=fr5.1
 replace fr5:=fr5.2
 refine AL sv5 1 [(7,.slice ao x.length cap)]
  ⟨ym r5,AIo⟩ fun a6 w6 g6 sv6=>?_
 refine YK (cs:=[.slice ao5 ((enc a)).length cap5,.slice ao x.length cap]) (e:=29) sv6 rfl rfl rfl rfl rfl rfl rfl rfl (AG1 _ _ _ _ _ _) fun a7 w7 AIc AHf g7 z7 AG7 sv7=>?_
 replace hx:=((((hx.kn g2).kn g4).kn g5).kn g6).kn g7
 replace ow5:=(ow5.kn g6).kn g7
 refine BU sv7 Tryz.func102 (by kernel_rfl) r6 (Ut (Sl.of_own ow5) hx.1 AG7 (by omega) (by omega)) fun a8 v8 w8 hR8 sv8=>?_
 obtain⟨ao8,cap8,rfl,_⟩:=(Sl.of_own hR8.1).shape
 obtain⟨ow8,fr8⟩:=hR8
 replace fr8:=Dx fr8
 have g8:=fr8.1
 replace fr8:=fr8.2
 refine BU sv8 Tryz.func101 (by kernel_rfl) r6 (O4 (AEl (dom:=280) (by decide) rfl (ABo (OM a) bx) (by rw[List.length_append];omega) (Sl.of_own ow8))) fun a9 v9 w9 hR9 sv9=>?_
 obtain⟨rfl,g9⟩:=hR9
 replace Bg:=AC g9 (AC g8 (AC g7 (AC g6 (AC g5 (AC g4 Bg)))))
 refine An sv9 r7 (Bn ((Zn a x)) (F7 a x).1) Bg (F5 (F7 a x)) fun w10 g10 h10=>?_
 replace HG:=AD (AA (AA (AA (AA (AA (AA (AA HG g2) g4) g5) g6) g7) g8) g9) g10 SR
 replace Bg:=h10
 have CH:Sv _ _ [_] _:=sv9.dl [10,9,8,7,6,5,0,1]
 refine AE ?_
 refine k3 _ _ ?_
 refine AIl ?_
 repeat refine AM ?_
 refine A8 (fn:=Tryz.f54) CH (EK (p:=4) Tryz.results54 CH rfl rfl (Bn ((Zn a x)) (F7 a x).1) Bg) ?_
 exact⟨rfl,HG⟩
theorem Fg (c:List Nat) (hc:Dg c) (a:Int) (ha:OL a) (x:List Nat) (bx:By x) (lx:x.length≤100000) (ao:Option Addr) (cap:Nat) (w:World) (hx:SlB w 1 (.slice ao x.length cap) x.length (bv x)) :
  Calls Tryz.prog 58 #[AO c,.int .i64 a,.slice ao x.length cap] w fun e w'=>e=.returned (AO (Tc c a x))∧w.grownBy w' none:=by
 have hle:=EO ha.1 ha.2
 refine BM Tryz.func58 rfl Tryz.ntmps58 rfl fun a0 sv0=>?_
 have HG:=World.grownBy.refl w none
 replace sv0:Sv 14 [] [(0,AO c),(1,.int .i64 a),(2,.slice ao x.length cap)] a0:=sv0
 refine AIi fun K1 k1=>?_
 refine AIh ?_
 refine BT sv0 r6 (Bn c hc.1) fun a2 w2 P9 Lz g2 z2 BG sv2=>?_
 replace HG:=AA HG g2
 refine As (T:=23) (Z:=(bv AS)) sv2 rfl rfl rfl (fun a w=>by kernel_rfl) fun a3 w3 AG4 N8 g3 z3 Gu sv3=>?_
 have SS:=Ar BG N8
 have SO:=Bq HG N8
 refine AE ?_
 refine k1 _ _ ?_
 refine AIi fun K4 k4=>?_
 have gd5:=CZ w3
 replace BG:=AC gd5 (AC g3 BG)
 refine wp_region_noPanic ?_
 refine P0 (fun w'=>w'.heap[P9]?=some (.cells (bv c).toArray 23 (0,0))∧True) [0,1,3] [2,4,5,6,7] (by kernel_rfl) (by kernel_rfl) (fun _ _ d _ _ h=>by cases d<;>exact h) rfl (by kernel_rfl) ⟨BG,AIo⟩ ?_
 simp only[List.filterMap_cons,List.filterMap_nil,List.getElem?_toArray,List.getElem?_cons_succ,List.getElem?_cons_zero]
 refine ADh sv3 rfl rfl rfl rfl ⟨rfl,rfl⟩ (fun w hS=>Ae (Bn c hc.1) (Al hS.1)) fun a6 sv6=>?_
 refine AEj (v:=.int .i64 a) w3.drew sv6 rfl (by kernel_rfl) (N3 1 8 (.inl rfl) rfl rfl trivial (fun _ _ h=>h)) fun a7 sv7=>?_
 refine AEj (v:=.slice ao x.length cap) w3.drew sv7 rfl (by kernel_rfl) (N3 2 10 (.inl rfl) rfl rfl trivial (fun _ _ h=>h)) fun a8 sv8=>?_
 change wpList _ _ _ _ _ _
 refine BU sv8 Tryz.func103 (by kernel_rfl) r6 (RO (O6 a ha _)) fun a9 v9 w9 hR9 sv9=>?_
 obtain⟨ao9,cap9,rfl,_⟩:=(Sl.of_own hR9.1).shape
 obtain⟨ow9,fr9⟩:=hR9
 replace fr9:=Dx fr9
 have g9:=fr9.1
 replace fr9:=fr9.2
 replace BG:=AC g9 BG
 refine AE ⟨⟨BG,AIo⟩,?_⟩
 change wpList _ _ _ _ _ _
 refine YK (cs:=[.slice ao9 ((enc a)).length cap9,.slice ao x.length cap]) (e:=29) sv9 rfl rfl rfl rfl rfl rfl rfl rfl (AG1 _ _ _ _ _ _) fun a10 w10 AHv AGN g10 z10 ADv CK=>?_
 replace BG:=AC g10 BG
 replace hx:=((((hx.kn g2).kn g3).kn gd5).kn g9).kn g10
 replace ow9:=ow9.kn g10
 refine AE ⟨⟨BG,AIo⟩,?_⟩
 change wpList _ _ _ _ _ _
 refine BU CK Tryz.func102 (by kernel_rfl) r6 (Ut (Sl.of_own ow9) hx.1 ADv (by omega) (by omega)) fun a11 v11 w11 hR11 CH=>?_
 obtain⟨ao11,cap11,rfl,_⟩:=(Sl.of_own hR11.1).shape
 obtain⟨ow11,fr11⟩:=hR11
 replace fr11:=Dx fr11
 have g11:=fr11.1
 replace fr11:=fr11.2
 replace BG:=AC g11 BG
 refine AE ⟨⟨BG,AIo⟩,?_⟩
 change wpList _ _ _ _ _ _
 refine BU CH Tryz.func66 (by kernel_rfl) r6 (O4 (ABn (dom:=285) (by decide) rfl hc (ABo (OM a) bx) (by rw[List.length_append];omega) (Sl.of_own ow11))) fun a12 v12 w12 hR12 C6=>?_
 obtain⟨rfl,g12⟩:=hR12
 replace BG:=AC g12 BG
 replace Gu:=AC g12 (AC g11 (AC g10 (AC g9 (AC gd5 Gu))))
 refine AE ⟨⟨BG,AIo⟩,?_⟩
 change wpList _ _ _ _ _ _
 refine An C6 r7 (Bn ((Tc c a x)) (Dq c a x).1) Gu (F5 (Dq c a x)) fun w13 g13 h13=>?_
 replace BG:=Ab g13 BG (Ne.symm SS)
 replace HG:=AD (AA (AA (AA (AA (AA (AA HG g3) gd5) g9) g10) g11) g12) g13 SO
 replace Gu:=h13
 refine AE ⟨⟨BG,AIo⟩,?_⟩
 refine NoPanic.normal ?_
 have DE:Sv _ _ [_,_] _:=C6.dl [13,12,11,9,10,8,7,3,1,2]
 refine k4 _ _ ?_
 refine AIl ?_
 repeat refine AM ?_
 refine A8 (fn:=Tryz.f58) DE (EK (p:=6) Tryz.results58 DE rfl rfl (Bn ((Tc c a x)) (Dq c a x).1) Gu) ?_
 exact⟨rfl,HG⟩
def CP (a:Int) (os:Value) (j:Int) (ws bs:Value) (tg:List Nat):Value:=.agg ([[.int .i64 a],[os],[.int .i64 j],[ws],[bs],bv tg].flatten).toArray
theorem Ek {x y:List Nat} (hx:Dg x) (hy:Dg y) {a j b k:Int} {os ws bs os' ws' bs':Value}:([[.int .i64 a],[os],[.int .i64 j],[ws],[bs],bv x].flatten).length=([[.int .i64 b],[os'],[.int .i64 k],[ws'],[bs'],bv y].flatten).length:=by simp[AI,hx.1,hy.1]
theorem EU (a j:Int) {tg:List Nat} (ht:Dg tg) (os ws bs:Value) (h1:os.oneCell'=true) (h2:ws.oneCell'=true) (h3:bs.oneCell'=true):TY Tryz.prog 31 ([[.int .i64 a],[os],[.int .i64 j],[ws],[bs],bv tg].flatten) (CP a os j ws bs tg):=by
 refine TY.agg Tryz.underlying31 rfl ?_ ?_
 · rw[show([[.int .i64 a],[os],[.int .i64 j],[ws],[bs],bv tg].flatten).length=37 by simp[AI,ht.1]]
   kernel_rfl
 · intro c hc
   simp only[List.flatten_cons,List.flatten_nil,List.append_nil,List.mem_append,List.mem_singleton] at hc
   rcases hc with rfl|rfl|rfl|rfl|rfl|hc
   · rfl
   · exact h1
   · rfl
   · exact h2
   · exact h3
   · exact GF _ _ hc
theorem ADw (w:World):(Instr.build 31 #[]).run Tryz.prog w=.ok (CP 0 (.slice none 0 0) 0 (.slice none 0 0) (.slice none 0 0) AS) w:=by kernel_rfl
theorem AHw (a:Int) (ao:Option Addr) (n c:Nat) (j:Int) (w:World):(Instr.build 31 #[(0,.int .i64 a),(1,.slice ao n c),(2,.int .i64 j)]).run Tryz.prog w=.ok (CP a (.slice ao n c) j (.slice none 0 0) (.slice none 0 0) AS) w:=by kernel_rfl
theorem EA (x:Int):TY Tryz.prog 3 [.int .i64 x] (.int .i64 x):=TY.one' Tryz.underlying3 rfl (by kernel_rfl) rfl
def fl (ds:List DD) (i:Nat):List Nat:=(ds.take i).flatMap DD.x
theorem YQ {ds:List DD} {i:Nat} {x:DD} (hi:i<ds.length) (hx:ds[i]=x):fl ds (i+1)=fl ds i++x.x:=by
 unfold fl
 rw[List.take_add_one,List.getElem?_eq_getElem hi,hx,List.flatMap_append]
 simp
theorem W7 (d:BitVec 64) (l:List Nat):Dg (Pr d l):=⟨Fd _ _,Mi _ _⟩
theorem AFw {ds:List DD}:∀{i:Nat},i≤ds.length→(fl ds i).length=32*i
 | 0,_=>rfl
 | i+1,h=>by rw[YQ (i:=i) (by omega) rfl,List.length_append,AFw (by omega),(ds[i]).h.1];omega
theorem AG8 (ds:List DD) (i:Nat):By (fl ds i):=fun b hb=>by
 obtain⟨d,_,hd⟩:=List.mem_flatMap.1 hb
 exact d.h.2 b hd
theorem AFx {ds:List DD} {i:Nat} (h:ds.length≤i):fl ds i=(ds.map DD.x).flatten:=by
 unfold fl
 rw[List.take_of_length_le h,List.flatMap_def]
theorem ABq {w:World} {b:Nat} {k:List Nat} (hk:Dg k) (h:w.rangeAt b 0 (bv k)):Sl w 1 (.slice (some ⟨b,0,none⟩) 32 32) 32 (bv k):=by
 have:=ABp hk h
 rwa [hk.1] at this
theorem AG9 {w:World} {v:Value} {ds:List DD} {i:Nat} (hi:i≤ds.length) (h:Sl w 1 v (32*i) (bv (fl ds i))):Sl w 1 v (fl ds i).length (bv (fl ds i)):=by rw[AFw hi];exact h
theorem ADx (ds:List DD):(ds.flatMap Jo).all Value.oneCell'=true:=by
 rw[List.all_eq_true]
 intro v hv
 obtain⟨d,_,hd⟩:=List.mem_flatMap.1 hv
 exact GF _ _ hd
theorem AHx {a b:List Nat} (h:a=b):Ending.returned (AO a)=Ending.returned (AO b):=by rw[h]
theorem Db (w:World):CallsD Tryz.prog 69 #[] .returning w fun e u' w'=>e=.returned (.tuple #[])∧u'=.returning∧w'=w:=by
 refine callsD_of_wpS Tryz.func69 rfl fun c₀ cs hu=>?_
 apply wpS_region
 simp[wpOpsS,go_sem,recoverD,hu,Tryz.ntmps69]
 cases c₀
 simp_all [bodyPostS,results,Tryz.results69]
theorem Zt (joint:Int) (ds:List DD) (ao:Option Addr) (cap:Nat) (w:World) (hr:RdD w (.slice ao ds.length cap) ds) (hl:ds.length≤1000) :
   Calls Tryz.prog 55 #[.int .i64 joint,.slice ao ds.length cap] w fun e w'=>e=.returned (AO (Ta (decide (joint=1)) (ds.map DD.x)))∧w.grownBy w' none:=by
 obtain⟨dm,hdm⟩:∃dm:Nat,dm=if decide (joint=1)=true then 282 else 281:=⟨_,rfl⟩
 have hdl:dm<1000:=by rw[hdm];split<;>decide
 refine BM Tryz.func55 rfl Tryz.ntmps55 rfl fun a0 sv0=>?_
 have HG:=World.grownBy.refl w none
 replace sv0:Sv 24 [] [(0,.int .i64 joint),(1,.slice ao ds.length cap)] a0:=sv0
 refine AIi fun K1 k1=>?_
 refine AIh ?_
 refine As (T:=23) (Z:=(bv AS)) sv0 rfl rfl rfl (fun a w=>by kernel_rfl) fun a2 w2 Mu Lx g2 z2 Bg sv2=>?_
 have SR:=Bq HG Lx
 replace hr:=hr.kn g2
 replace HG:=AA HG g2
 refine AE ?_
 refine k1 _ _ ?_
 refine AIi fun K3 k3=>?_
 refine AIh ?_
 refine Aa (v:=.int .u64 281) sv2 r6 fun a4 sv4=>?_
 refine AE ?_
 refine k3 _ _ ?_
 refine AIi fun K5 k5=>?_
 suffices MG6:∀(a':Act) (w':World),Sv 24 [] [(5,.int .u64 ((dm:Int))),(4,pt Mu),(0,.int .i64 joint),(1,.slice ao ds.length cap)] a'→w.grownBy w' none→w'.heap[Mu]?=some (.cells ((bv AS)).toArray 23 (0,0))→(RdD w' (.slice ao ds.length cap) ds)→K5 a' w' by
   by_cases hj:joint=1
   · obtain rfl:dm=282:=by rw[hdm,decide_eq_true hj];rfl
     refine AIi fun K7 k7=>?_
     refine AIh ?_
     refine AL sv4 2 [(9,.int .i64 joint),(10,.bool true)]
      ⟨ym r5,Cm r6 (fun _=>CB (by simpa using hj)),AIo⟩ fun a8 w8 g8 sv8=>?_
     refine AE ?_
     refine k7 _ _ ?_
     refine Ap sv8 rfl rfl ?_
     refine AIh ?_
     refine Aa (v:=.int .u64 282) sv8 r6 fun a9 sv9=>?_
     refine AE ?_
     replace Bg:=AC g8 Bg
     replace hr:=hr.kn g8
     replace HG:=AA HG g8
     have svm:Sv 24 [] [(5,_),(4,_),(0,_),(1,_)] a9:=⟨sv9.1,sv9.2.1,sv9.2.2.1,sv9.2.2.2.2.2.1,sv9.2.2.2.2.2.2.1,sv9.2.2.2.2.2.2.2.1,AIo⟩
     exact MG6 _ _ svm HG Bg hr
   · obtain rfl:dm=281:=by rw[hdm,decide_eq_false hj];rfl
     refine AIi fun K10 k10=>?_
     refine AIh ?_
     refine AL sv4 2 [(9,.int .i64 joint),(10,.bool false)]
      ⟨ym r5,Cm r6 (fun _=>CB (by simpa using hj)),AIo⟩ fun a11 w11 g11 CH=>?_
     refine AE ?_
     refine k10 _ _ ?_
     refine Au CH rfl rfl ?_
     refine AIm ?_
     replace Bg:=AC g11 Bg
     replace hr:=hr.kn g11
     replace HG:=AA HG g11
     have svm:Sv 24 [] [(5,_),(4,_),(0,_),(1,_)] a11:=⟨CH.1,CH.2.1,CH.2.2.2.2.1,CH.2.2.2.2.2.1,CH.2.2.2.2.2.2.1,CH.2.2.2.2.2.2.2.1,AIo⟩
     exact MG6 _ _ svm HG Bg hr
 clear Bg
 clear hr
 clear HG
 intro a6 w6 sv6 HG Bg hr
 refine k5 _ _ ?_
 refine AIi fun K12 k12=>?_
 refine AIh ?_
 refine Aa (v:=.slice none 0 0) sv6 r6 fun a13 DI=>?_
 refine AE ?_
 refine k12 _ _ ?_
 refine AIi fun K14 k14=>?_
 refine AIi fun K15 k15=>?_
 refine AIh ?_
 refine AL DI 3 [(11,.slice ao ds.length cap),(12,.int .i64 ((ds.length:Nat))),(13,.int .i64 0)]
   ⟨ym r5,Bk (Tryz.underlying28) rfl rfl trivial (oy rfl rfl) (fun _=>rfl),EI (.inl rfl) rfl trivial (fun _=>rfl),AIo⟩ fun a16 w16 g16 Cj=>?_
 refine AE ?_
 refine k15 _ _ ?_
 refine BB fun Q17 x17 y17 rt17 o17=>?_
 replace Bg:=AC g16 Bg
 replace hr:=hr.kn g16
 replace HG:=AA HG g16
 have ob:=Own.nil w16 5 1
 have Gv:=JK Mu
 have ap_hr_ob:=JL (BO (.slice ao ds.length cap))
 have lo_ob:=ZU w
 refine wp_loop (fun a w'=>∃(i:Nat) (bo:Option Addr) (bc:Nat),(i≤ds.length)∧Sv 24 [] [(13,.int .i64 ((i:Int))),(6,.slice bo (32*i) bc),(11,.slice ao ds.length cap),(12,.int .i64 ((ds.length:Nat))),(5,.int .u64 ((dm:Int))),(4,pt Mu),(0,.int .i64 joint),(1,.slice ao ds.length cap)] a∧w.grownBy w' none∧w'.heap[Mu]?=some (.cells ((bv AS)).toArray 23 (0,0))∧RdD w' (.slice ao ds.length cap) ds∧Own w' 5 1 (.slice bo (32*i) bc) ((32*i)) (bv ((fl ds i)))∧(∀k,BO (.slice bo (32*i) bc) k→k≠Mu)∧(∀k,BO (.slice ao ds.length cap) k→¬BO (.slice bo (32*i) bc) k)∧(∀k,BO (.slice bo (32*i) bc) k→w.heap.size≤k)) (fun a _=>(ds.length-intOf (a.tmps.getD 13 undef)).toNat) ⟨0,none,0,Nat.zero_le _,⟨Cj.1,Cj.2.1,Cj.2.2.2.2.1,Cj.2.2.2.2.2.1,Cj.2.2.1,Cj.2.2.2.1,Cj.2.2.2.2.2.2.1,Cj.2.2.2.2.2.2.2.1,(AK Cj).1,(AK Cj).2.1,AIo⟩,HG,Bg,hr,ob,Gv,ap_hr_ob,lo_ob⟩ fun a18 w18 hI18=>?_
 clear Bg
 clear hr
 clear ob
 clear HG
 obtain⟨i,bo,bc,hin,CS,HG,Bg,hr,ob,Gv,ap_hr_ob,lo_ob⟩:=hI18
 refine AIi fun K19 k19=>?_
 by_cases hi:i<ds.length
 · obtain⟨x,hx_x⟩:∃zx,ds[i]'hi=zx:=⟨_,rfl⟩
   have hfs:=YQ hi hx_x
   refine AIh ?_
   refine AL CS 1 [(14,.bool true)]
     ⟨Hl r7 (fun _=>Ba (by simp;omega)),AIo⟩ fun a20 w20 g20 EL=>?_
   refine AE ?_
   refine k19 _ _ ?_
   refine AIi fun K21 k21=>?_
   refine Ap EL rfl rfl ?_
   refine AIm ?_
   refine k21 _ _ ?_
   refine AIi fun K22 k22=>?_
   refine BB fun Q23 x23 y23 rt23 o23=>?_
   refine AIi fun K24 k24=>?_
   refine AIh ?_
   replace hr:=hr.kn g20
   refine AL EL 2 [(15,pk ((bO ao)) (oO ao+i*32)),(16,AO x.x)]
     ⟨BD rq8 (fun w=>CM Tryz.underlying28 (by kernel_rfl) (hr.1) (by omega) (rfl) w),Bv r6 (fun _ g=>Ae (Bn x.x x.h.1) (by have:=Cz (hr.kn g).1 Fe hi (by decide);rw[hx_x] at this;exact this)),AIo⟩ fun a25 w25 g25 Cx=>?_
   replace Bg:=AC g25 (AC g20 Bg)
   replace hr:=hr.kn g25
   replace ob:=(ob.kn g20).kn g25
   replace HG:=AA (AA HG g20) g25
   refine As (T:=23) (Z:=(bv AS)) Cx rfl rfl rfl (fun a w=>by kernel_rfl) fun a26 w26 AEm MI g26 z26 W8 CW=>?_
   have QH:=Ar Bg MI
   have ABr:=Bq HG MI
   have Uv:=Ax (hr.lt) MI
   have Uw:=Ax (Own.ltS ob) MI
   refine An CW r7 (Bn x.x x.h.1) W8 (F5 x.h) fun w27 g27 h27=>?_
   refine AE ?_
   refine k24 _ _ ?_
   refine AIh ?_
   refine AL CW 2 [(17,.slice bo (32*i) bc),(18,.slice ((some ⟨AEm,0,none⟩)) 32 32)]
     ⟨ym r5,Fp (l:=none) (u:=none) rfl rfl trivial (oy rfl rfl) trivial trivial (Jf AEm 0) (fun _=>rfl),AIo⟩ fun a28 w28 g28 Jg=>?_
   replace Bg:=AC g28 (Ab g27 (AC g26 Bg) (Ne.symm QH))
   replace W8:=AC g28 h27
   replace hr:=((hr.kn g26).offR g27 (AU Uv)).kn g28
   replace ob:=((ob.kn g26).offR g27 (AU Uw)).kn g28
   replace HG:=AA (AD (AA HG g26) g27 ABr) g28
   refine LM DW Jg rfl rfl rfl rfl rfl rfl rfl rfl ob (ABq x.h (Al W8)) (Fj _) (by omega) fun a29 ao29 cap29 w29 owx29 CR CI=>?_
   have QI:=JI CR.2 Gv Bg
   have Ux:=JJ CR.2 ap_hr_ob (hr.lt)
   have ABs:=WV CR.2 lo_ob HG
   replace Bg:=AF CR.1 Bg (fun e=>Gv _ e.symm rfl)
   replace hr:=hr.offR CR.1 (fun k hk e=>ap_hr_ob k hk (e))
   replace HG:=CJ HG CR.1 fun k e=>lo_ob k (e)
   rw[←DG,←hfs] at owx29
   refine Aa (v:=.slice ao29 (32*i+32) cap29) CI r6 fun a30 EQ=>?_
   refine AE ?_
   refine y23 _ _ ?_
   refine k22 _ _ ?_
   refine AIh ?_
   refine AL EQ 1 [(20,.int .i64 (((i+1:Nat):Int)))]
     ⟨Cm r6 (fun _=>C4 (by rw[A1 (by omega) (by omega)];omega)),AIo⟩ fun a31 w31 g31 Gh=>?_
   refine AL (Gh.dl [13]) 1 [(13,.int .i64 (((i+1:Nat):Int)))]
     ⟨ym r5,AIo⟩ fun a32 w32 g32 Bc=>?_
   have ADy:=AA g31 g32
   refine AE ?_
   replace Bg:=AC ADy Bg
   replace hr:=hr.kn ADy
   replace owx29:=owx29.kn ADy
   replace HG:=AA HG ADy
   exact⟨⟨i+1,ao29,cap29,by omega,⟨Bc.1,Bc.2.1,Bc.2.2.1,Bc.2.2.2.2.1,(AK Bc).2.2.2.2.1,(AK Bc).2.2.2.2.2.1,(AK Bc).2.2.2.2.2.2.1,(AK Bc).2.2.2.2.2.2.2.1,(AK (AK Bc)).1,(AK (AK Bc)).2.1,AIo⟩,HG,Bg,hr,owx29,QI,Ux,ABs⟩,by rw[show _=_ from Bc.2.2.1,show _=_ from CS.2.2.1];simp[intOf];omega⟩
 · have hall:=AFx (ds:=ds) (i:=i) (by omega)
   refine AIh ?_
   refine AL CS 1 [(14,.bool false)]
     ⟨Hl r7 (fun _=>Ba (by simp;omega)),AIo⟩ fun a33 w33 g33 JN=>?_
   refine AE ?_
   refine k19 _ _ ?_
   refine AIi fun K34 k34=>?_
   refine Au JN rfl rfl ?_
   refine wp_exit ?_
   repeat refine CD ?_
   refine x17 _ _ ?_
   refine k14 _ _ ?_
   refine AIi fun K35 k35=>?_
   refine AIh ?_
   refine AL JN 2 [(21,.int .u64 ((dm:Int))),(22,.slice bo (32*i) bc)]
     ⟨ym r5,ym r5,AIo⟩ fun a36 w36 g36 FQ=>?_
   have Oo:=AA g33 g36
   replace ob:=ob.kn Oo
   refine BU FQ Tryz.func101 (by kernel_rfl) r6 (O4 (AEl (dom:=dm) hdl rfl (AG8 ds i) (by rw[AFw (by omega)];omega) (AG9 (by omega) (Sl.of_own ob)))) fun a37 v37 w37 hR37 F6=>?_
   obtain⟨rfl,g37⟩:=hR37
   replace Bg:=AC g37 (AC Oo Bg)
   refine An F6 r7 (Bn ((Pr (BitVec.ofNat 64 dm) (fl ds i))) (W7 _ _).1) Bg (F5 (W7 _ _)) fun w38 g38 h38=>?_
   replace ob:=(ob.kn g37).offR g38 (AU Gv)
   replace HG:=AD (AA (AA HG Oo) g37) g38 SR
   replace Bg:=h38
   refine AE ?_
   refine k35 _ _ ?_
   refine AIl ?_
   repeat refine AM ?_
   refine A8 (fn:=Tryz.f55) F6 (EK (p:=4) Tryz.results55 F6 rfl rfl (Bn ((Pr (BitVec.ofNat 64 dm) (fl ds i))) (W7 _ _).1) Bg) ?_
   exact⟨AHx (by rw[hall,hdm];rfl),HG⟩
end Go.Proofs.YtbfjfnbcmojpiaaGreat
