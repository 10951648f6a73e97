import Derived.Test.YtbfjfnbcmojpiaaGreatAlY3
import Derived.Test.YtbfjfnbcmojpiaaGreatAlR1
set_option linter.unusedSimpArgs false
set_option linter.unusedVariables false
set_option maxRecDepth 100000
set_option maxHeartbeats 4000000
namespace Go.Proofs.YtbfjfnbcmojpiaaGreat
open Go.RowKit Go.Shelf
theorem OM {P:Program} {f:Nat} {args:Array Value} {w:World} {v:Value} (h:Calls P f args w fun e w'=>e=.returned v∧w.grownBy w' none):Calls P f args w fun e w'=>∃v',e=.returned v'∧(v'=v∧w.grownBy w' none):=h.mono fun e w' ⟨h1,h2⟩=>⟨v,h1,rfl,h2⟩
section
variable {P:Program} {Q:Exit→Act→World→Prop} {ops:Array Oper} {rest:List Oper} {o:Oper} {a:Act} {w:World} {n:Nat} {D:List Deferred} {K:List (Nat×Value)}
theorem NS (sv:Sv n D K a) (hgd:o.guard=none) {d:Nat} {t e:TypeId} {x:Operand} {u:Value} {cs:List Value} (ho:o.op=.buildSlice t 1 #[(0,x)]) (hd:o.dst=some d) (hdn:decide (d<n)=true) (hx:Me K x=true) (hxv:Mf K x=u)
  (hr:∀W:World,(Instr.buildSlice t 1 #[(0,u)]).run P W=.ok (.slice (some ⟨W.heap.size,0,none⟩) 1 1) (W.alloc (.cells cs.toArray e)))
  (h:∀a' w' b,b=w.heap.size→w.grownBy w' none→w'.heap.size=b+1→w'.heap[b]?=some (.cells cs.toArray e (0,0))→Sv n D ((d,.slice (some ⟨b,0,none⟩) 1 1)::JS d K) a'→wpList P ops Q rest a' w'):wpList P ops Q (o::rest) a w:=by
 refine N7 (w':=w.alloc (.cells cs.toArray e)) sv hgd hd hdn ?_ fun a' sv'=>h a' _ _ rfl (World.grownBy_alloc _ _ _) (by simp) (Ah rfl) sv'
 have e:=sv.ev hx hxv
 simp only[execOp,ho,e,List.map_toArray,List.map_cons,List.map_nil,Sem.run_bind,Sem.run_pure,Result.andThen_ok,hr]
theorem ABb (sv:Sv n D K a) (hgd:o.guard=none) {d:Nat} {t e:TypeId} {x y:Operand} {u v:Value} {cs:List Value} (ho:o.op=.buildSlice t 2 #[(0,x),(1,y)]) (hd:o.dst=some d) (hdn:decide (d<n)=true) (hx:Me K x=true) (hxv:Mf K x=u) (hy:Me K y=true) (hyv:Mf K y=v)
  (hr:∀W:World,(Instr.buildSlice t 2 #[(0,u),(1,v)]).run P W=.ok (.slice (some ⟨W.heap.size,0,none⟩) 2 2) (W.alloc (.cells cs.toArray e)))
  (h:∀a' w' b,b=w.heap.size→w.grownBy w' none→w'.heap.size=b+1→w'.heap[b]?=some (.cells cs.toArray e (0,0))→Sv n D ((d,.slice (some ⟨b,0,none⟩) 2 2)::JS d K) a'→wpList P ops Q rest a' w'):wpList P ops Q (o::rest) a w:=by
 refine N7 (w':=w.alloc (.cells cs.toArray e)) sv hgd hd hdn ?_ fun a' sv'=>h a' _ _ rfl (World.grownBy_alloc _ _ _) (by simp) (Ah rfl) sv'
 have e1:=sv.ev hx hxv
 have e2:=sv.ev hy hyv
 simp only[execOp,ho,e1,e2,List.map_toArray,List.map_cons,List.map_nil,Sem.run_bind,Sem.run_pure,Result.andThen_ok,hr]
end
section
variable {Q:Exit→Act→World→Prop} {ops:Array Oper} {rest:List Oper} {o:Oper} {a:Act} {w:World} {n:Nat} {D:List Deferred} {K:List (Nat×Value)}
theorem AG7 (m:Nat):madeCells (Value.int .u8 0).cells (m*1)=(bv (zs m)).toArray:=by
 apply Array.ext'
 rw[Qr (z:=.int .u8 0) (sz:=1) rfl (by decide)]
 induction m with
 | zero=>rfl
 | succ m ih=>rw[List.replicate_succ,List.flatMap_cons,ih];rfl
theorem ABc {m:Nat} (sv:Sv n D K a) (hgd:o.guard=none) {d:Nat} {x:Operand} (ho:o.op=.makeSlice 29 x x) (hd:o.dst=some d) (hdn:decide (d<n)=true) (hx:Me K x=true) (hxv:Mf K x=.int .i64 (m:Int)) (hm:m≤1000000)
  (h:∀a' w' b,b=w.heap.size→w.grownBy w' none→w'.heap.size=b+1→w'.heap[b]?=some (.cells (bv (zs m)).toArray 5 (0,0))→Sv n D ((d,.slice (some ⟨b,0,none⟩) m m)::JS d K) a'→wpList Tryz.prog ops Q rest a' w'):wpList Tryz.prog ops Q (o::rest) a w:=by
 refine N7 (w':=w.alloc (.cells (bv (zs m)).toArray 5)) sv hgd hd hdn ?_ fun a' sv'=>h a' _ _ rfl (World.grownBy_alloc _ _ _) (by simp) (Ah rfl) sv'
 have e:=sv.ev hx hxv
 obtain⟨i,hi,hz,hs,hby⟩:=D0.inf
 have hb:=D0.bnd
 have hbytes:(i.bytes:Int)*(m:Int)≤281474976710656:=by rw[hby];omega
 have hr:=run_make (P:=Tryz.prog) w 29 5 i (.int .u8 0) D0.und hi hz .i64 .i64 (m:Int) (m:Int) (by omega) (by omega) hbytes (by omega)
 rw[hs,Int.toNat_natCast,AG7] at hr
 simp only[execOp,ho,e,Sem.run_bind,Sem.run_pure,Result.andThen_ok,hr]
theorem ABd {B n:Nat} {xs:List Value} {t:TypeId} (h:w.heap[B]?=some (.cells xs.toArray t (0,0))) (hl:xs.length=n) (hn:n≤1000000):Own w t 1 (.slice (some ⟨B,0,none⟩) n n) n xs:=by
 subst hl
 refine⟨by rw[Nat.mul_one],.inr ⟨B,xs.length,_,rfl,Nat.zero_le _,h,Nat.le_refl _,by unfold maxLen;omega,by simp,?_⟩⟩
 rw[Nat.mul_one,List.take_of_length_le (by simp)]
end
theorem AJC (n:Nat):(zs n).length=n:=List.length_replicate
theorem Vf (w:World):CallsD Tryz.prog 138 #[] .returning w fun e u' w'=>e=.returned (.tuple #[])∧u'=.returning∧w'=w:=by
 refine callsD_of_wpS Tryz.func138 rfl fun c₀ cs hu=>?_
 apply wpS_region
 simp[wpOpsS,go_sem,recoverD,hu,Tryz.ntmps138]
 cases c₀
 simp_all [bodyPostS,results,Tryz.results138]
theorem Vg (w:World):CallsD Tryz.prog 98 #[] .returning w fun e u' w'=>e=.returned (.tuple #[])∧u'=.returning∧w'=w:=by
 refine callsD_of_wpS Tryz.func98 rfl fun c₀ cs hu=>?_
 apply wpS_region
 simp[wpOpsS,go_sem,recoverD,hu,Tryz.ntmps98]
 cases c₀
 simp_all [bodyPostS,results,Tryz.results98]
theorem RP (p q:Value) (w:World):CallsD Tryz.prog 139 #[p,q] .returning w fun e u' w'=>e=.returned (.tuple #[])∧u'=.returning∧w'=w:=by
 refine callsD_of_wpS Tryz.func139 rfl fun c₀ cs hu=>?_
 apply wpS_seq
 apply wpS_region
 simp[wpOpsS,go_sem,recoverD,hu,Tryz.ntmps139,Exit.thenS]
 refine wpS_cond (t:=false) (by simp[Act.eval,Array.replicate]) ?_
 simp only[Bool.false_eq_true,if_false]
 refine wpS_of_wp (AL3 ?_)
 cases c₀
 simp_all [bodyPostS,results,Tryz.results139]
theorem Uh {P:Program} {f:Nat} {args:Array Value} {w:World} {xs:List Nat} (h:Calls P f args w fun e w'=>NwR w w' xs e):Calls P f args w fun e w'=>∃v,e=.returned v∧(Own w' 5 1 v xs.length (bv xs)∧Fresh w w' v):=
 h.mono fun e w' ⟨v,h1,h2,ao,cap,h3,h4,h5⟩=>⟨v,h1,h3▸h4,⟨by simpa [My,Value.ownBlock] using h2,fun k hk=>.inr (h5 k (h3▸hk))⟩⟩
theorem AG8 {w:World} {B:Nat} {t:TypeId} {a:Int} (hb:w.heap[B]?=some (.cells [.int .i64 a].toArray t (0,0))) (h:QQ a):Calls Tryz.prog 132 #[.slice none 0 0,.slice (some ⟨B,0,none⟩) 1 1] w fun e w'=>∃v,e=.returned v∧(Own w' 5 1 v (enc a).length (bv (enc a))∧Fresh w w' v):=by
 have:=UK My (.slice (some ⟨B,0,none⟩) 1 1) [] [a] w (Own.nil _ _ _) (Zg hb ⟨rfl,by decide⟩) (.inr (by simp[My,Value.ownBlock])) (fun n hn=>by simp at hn;subst hn;exact h) (by simp)
 simpa using this
theorem AH7 {w:World} {v:Value} {ys:List Nat} (h:Sl w 1 v ys.length (bv ys)) (hm:0<ys.length) (hl:ys.length≤3000000):Calls Tryz.prog 99 #[.slice none 0 0,v] w fun e w'=>∃v,e=.returned v∧(Own w' 5 1 v ys.length (bv ys)∧Fresh w w' v):=by
 have:=W8 My v [] ys w (Sl.nil w 1) h hm (by simp;omega)
 simpa using this
theorem ABe (a:Int):0<(enc a).length:=by
 unfold enc
 by_cases h:zig a<128
 · rw[GZ h];simp
 · rw[Jh h];simp
theorem AE2 (x:V):0<(Bq x).length:=by
 unfold Bq Sr
 rw[List.length_append]
 have:=ABe x.clean.kind
 omega
theorem AKK (a:Int) (W:World):(Instr.buildSlice 74 1 #[(0,.int .i64 a)]).run Tryz.prog W=.ok (.slice (some ⟨W.heap.size,0,none⟩) 1 1) (W.alloc (.cells [.int .i64 a].toArray 2)):=by kernel_rfl
theorem AKL (ao bo:Option Addr) (n m c d:Nat) (W:World):(Instr.buildSlice 151 2 #[(0,.slice ao n c),(1,.slice bo m d)]).run Tryz.prog W=.ok (.slice (some ⟨W.heap.size,0,none⟩) 2 2) (W.alloc (.cells [.slice ao n c,.slice bo m d].toArray 29)):=by kernel_rfl
theorem AG9 {w:World} (x:V):Calls Tryz.prog 100 #[.slice none 0 0,CH x] w fun e w'=>∃v,e=.returned v∧(Own w' 5 1 v (Bq x).length (bv (Bq x))∧Fresh w w' v):=by
 have:=ADi My x [] w (Own.nil _ _ _) (by simp)
 rw[List.nil_append] at this
 exact this
theorem RQ (n:Int) (hn:QQ n) (w:World) :
  Calls Tryz.prog 103 #[.slice none 0 0,.int .i64 n] w fun e w'=>NwR w w' (enc n) e:=by
 have hl:=FB hn.1 hn.2
 refine Dm Tryz.func103 rfl Tryz.ntmps103 rfl fun a0 sv0=>?_
 have HG:=World.grownBy.refl w none
 replace sv0:Sv 10 [] [(0,.slice none 0 0),(1,.int .i64 n)] a0:=sv0
 refine ALz fun K1 k1=>?_
 refine ALy ?_
 refine AY (v:=.slice none 0 0) sv0 r6 fun a2 sv2=>?_
 refine AE ?_
 refine k1 _ _ ?_
 refine ALz fun K3 k3=>?_
 refine ALy ?_
 refine Ef sv2 rfl (dd:={ target:=.fn (.func 138) #[],args:=#[] }) rfl (by simp[execOp,resolve,Deferred.ofValue];try rfl) fun a4 sv4=>?_
 refine AE ?_
 refine k3 _ _ ?_
 refine ALz fun K5 k5=>?_
 refine ALy ?_
 refine AJ sv4 2 [(5,.slice none 0 0),(6,.int .i64 n)]
  ⟨ym r5,ym r5,AL5⟩ fun a6 w6 g6 sv6=>?_
 refine NS (cs:=[.int .i64 n]) (e:=2) sv6 rfl rfl rfl rfl rfl rfl (AKK n) fun a7 w7 ALt AK0 g7 z7 AKM sv7=>?_
 refine Bh sv7 Tryz.func132 (by kernel_rfl) r6 (AG8 AKM hn) fun a8 v8 w8 hR8 sv8=>?_
 obtain⟨ao8,cap8,rfl,_⟩:=(Sl.of_own hR8.1).shape
 obtain⟨ow8,fr8⟩:=hR8
 replace fr8:=D1 fr8
 have g8:=fr8.1
 replace fr8:=fr8.2
 replace HG:=AA (AA (AA HG g6) g7) g8
 refine Bh sv8 Tryz.func99 (by kernel_rfl) r6 (AH7 (Sl.of_own ow8) (ABe n) (by omega)) fun a9 v9 w9 hR9 sv9=>?_
 obtain⟨ao9,cap9,rfl,_⟩:=(Sl.of_own hR9.1).shape
 obtain⟨ow9,fr9⟩:=hR9
 replace fr9:=D1 fr9
 have g9:=fr9.1
 replace fr9:=fr9.2
 have AAb:=KP HG fr9
 replace HG:=AA HG g9
 refine AY (v:=.slice ao9 ((enc n)).length cap9) sv9 r6 fun a10 Cb=>?_
 have Cc:Sv _ _ [_] _:=Cb.dl [9,8,7,5,6,0,1]
 refine AE ?_
 refine k5 _ _ ?_
 refine AL2 ?_
 repeat refine AL ?_
 refine BK (fn:=Tryz.f103) Cc (BC (p:=4) Tryz.results103 Cc rfl rfl) (Bn Tryz.func138 (by kernel_rfl) rfl _ _) (Vf _) ?_
 exact⟨_,rfl,HG,_,_,rfl,ow9,AAb⟩
theorem AAc (x:V) (w:World) :
  Calls Tryz.prog 53 #[.slice none 0 0,CH x] w fun e w'=>NwR w w' (Bq x) e:=by
 have hl:=IE x
 refine Dm Tryz.func53 rfl Tryz.ntmps53 rfl fun a0 sv0=>?_
 have HG:=World.grownBy.refl w none
 replace sv0:Sv 9 [] [(0,.slice none 0 0),(1,CH x)] a0:=sv0
 refine ALz fun K1 k1=>?_
 refine ALy ?_
 refine Bj sv0 r6 (En x) fun a2 w2 Jy I0 g2 z2 Ad sv2=>?_
 refine AY (v:=.slice none 0 0) sv2 r6 fun a3 sv3=>?_
 refine AE ?_
 refine k1 _ _ ?_
 refine ALz fun K4 k4=>?_
 refine ALy ?_
 refine Ef sv3 rfl (dd:={ target:=.fn (.func 98) #[],args:=#[] }) rfl (by simp[execOp,resolve,Deferred.ofValue];try rfl) fun a5 sv5=>?_
 refine AE ?_
 refine k4 _ _ ?_
 refine ALz fun K6 k6=>?_
 refine ALy ?_
 refine AJ sv5 2 [(5,.slice none 0 0),(6,CH x)]
  ⟨ym r5,yl r6 (En x) Ad,AL5⟩ fun a7 w7 g7 sv7=>?_
 refine Bh sv7 Tryz.func100 (by kernel_rfl) r6 (AG9 x) fun a8 v8 w8 hR8 sv8=>?_
 obtain⟨ao8,cap8,rfl,_⟩:=(Sl.of_own hR8.1).shape
 obtain⟨ow8,fr8⟩:=hR8
 replace fr8:=D1 fr8
 have g8:=fr8.1
 replace fr8:=fr8.2
 replace HG:=AA (AA (AA HG g2) g7) g8
 refine Bh sv8 Tryz.func99 (by kernel_rfl) r6 (AH7 (Sl.of_own ow8) (AE2 x) (by omega)) fun a9 v9 w9 hR9 sv9=>?_
 obtain⟨ao9,cap9,rfl,_⟩:=(Sl.of_own hR9.1).shape
 obtain⟨ow9,fr9⟩:=hR9
 replace fr9:=D1 fr9
 have g9:=fr9.1
 replace fr9:=fr9.2
 have AAb:=KP HG fr9
 replace HG:=AA HG g9
 refine AY (v:=.slice ao9 ((Bq x)).length cap9) sv9 r6 fun a10 Cb=>?_
 have Cc:Sv _ _ [_,_] _:=Cb.dl [8,7,5,6,3,0]
 refine AE ?_
 refine k6 _ _ ?_
 refine AL2 ?_
 repeat refine AL ?_
 refine BK (fn:=Tryz.f53) Cc (BC (p:=4) Tryz.results53 Cc rfl rfl) (Bn Tryz.func98 (by kernel_rfl) rfl _ _) (Vg _) ?_
 exact⟨_,rfl,HG,_,_,rfl,ow9,AAb⟩
def AE3 (c:List Nat) (n:Nat):List Nat:=sq (Ga (BitVec.ofNat 64 284) c) n
theorem ABf (c:List Nat) (n:Nat):(AE3 c n).length=n:=MW _ _
theorem AJD (c:List Nat) (n:Nat):By (AE3 c n):=fun x hx=>ADm _ _ x hx
theorem J4 (b c:List Nat):(Ja b c).length=b.length:=NO (by rw[MW];omega)
theorem RU {b:List Nat} (c:List Nat) (h:By b):By (Ja b c):=ABW h fun x hx=>ADm _ _ x hx
theorem AE4 {w:World} {dom:Nat} (hd:dom<1000) {c:Int} (hc:c=(dom:Int)) {l:List Nat} {s:Value} (hb:By l) (hl:l.length≤1000000) (h:Sl w 1 s l.length (bv l)):Calls Tryz.prog 136 #[.int .u64 c,s] w fun e w'=>e=.returned (KW (Ga (BitVec.ofNat 64 dom) l))∧w.grownBy w' none:=by
 have e:c=wi (BitVec.ofNat 64 dom):=by rw[hc,←Km,IntKind.wrap_u64];omega
 rw[e]
 exact Ou _ l hb (by omega) s w h
theorem AJh {w:World} {dom:Nat} (hd:dom<1000) {c:Int} (hc:c=(dom:Int)) {l:List Nat} {s:Value} (hb:By l) (hl:l.length≤1000000) (h:Sl w 1 s l.length (bv l)):Calls Tryz.prog 80 #[.int .u64 c,s] w fun e w'=>e=.returned (KW (Ga (BitVec.ofNat 64 dom) l))∧w.grownBy w' none:=by
 have e:c=wi (BitVec.ofNat 64 dom):=by rw[hc,←Km,IntKind.wrap_u64];omega
 rw[e]
 exact M2 _ l hb (by omega) s w h
theorem AH8 {w:World} {dom:Nat} (hd:dom<1000) {c:Int} (hc:c=(dom:Int)) {l:List Nat} {s:Value} (hb:By l) (hl:l.length≤1000000) (h:Sl w 1 s l.length (bv l)):Calls Tryz.prog 101 #[.int .u64 c,s] w fun e w'=>e=.returned (AP (PN (BitVec.ofNat 64 dom) l))∧w.grownBy w' none:=by
 have e:c=wi (BitVec.ofNat 64 dom):=by rw[hc,←Km,IntKind.wrap_u64];omega
 rw[e]
 exact XJ _ l hb (by omega) s w h
theorem AJE {w:World} {dom:Nat} (hd:dom<1000) {c:Int} (hc:c=(dom:Int)) {l:List Nat} {s:Value} (hb:By l) (hl:l.length≤1000000) (h:Sl w 1 s l.length (bv l)):Calls Tryz.prog 33 #[.int .u64 c,s] w fun e w'=>e=.returned (AP (PN (BitVec.ofNat 64 dom) l))∧w.grownBy w' none:=by
 have e:c=wi (BitVec.ofNat 64 dom):=by rw[hc,←Km,IntKind.wrap_u64];omega
 rw[e]
 exact UM _ l hb (by omega) s w h
theorem AE5 {w:World} {dom:Nat} (hd:dom<1000) {c:Int} (hc:c=(dom:Int)) {k l:List Nat} {s:Value} (hk:Dg k) (hb:By l) (hl:l.length≤1000000) (h:Sl w 1 s l.length (bv l)):Calls Tryz.prog 66 #[.int .u64 c,AP k,s] w fun e w'=>e=.returned (AP (M4 (BitVec.ofNat 64 dom) k l))∧w.grownBy w' none:=by
 have e:c=wi (BitVec.ofNat 64 dom):=by rw[hc,←Km,IntKind.wrap_u64];omega
 rw[e]
 exact MX _ k l hk.1 hk.2 hb (by omega) s w h
theorem AHA {w:World} {d:List Nat} (hd:Dg d):Calls Tryz.prog 34 #[AP d] w fun e w'=>∃v,e=.returned v∧(Own w' 5 1 v d.length (bv d)∧Fresh w w' v):=by
 rw[hd.1]
 exact QT d hd.1 w
theorem AKN {w:World} {s:St} {n D:Nat} {T:TypeId} (hn:n≤1000000) (hD:w.heap[D]?=some (.cells (bv (zs n)).toArray T (0,0))):Calls Tryz.prog 135 #[KW s,.slice (some ⟨D,0,none⟩) n n] w fun e w'=>∃v,e=.returned v∧(v=.tuple #[]∧w.grownBy w' (some D)∧w'.heap[D]?=some (.cells (bv (sq s n)).toArray T (0,0))):=
 (M3 s n (by omega) D T w hD).mono fun e w' ⟨h1,h2,h3⟩=>⟨_,h1,rfl,h2,h3⟩
theorem Yb {w:World} {x y:List Nat} {s t:Value} {B:Nat} (hs:Sl w 1 s x.length (bv x)) (ht:Sl w 1 t y.length (bv y)) (hB:w.heap[B]?=some (.cells [s,t].toArray 29 (0,0))) (hx:x.length≤1000000) (hy:y.length≤1000000) :
  Calls Tryz.prog 102 #[.slice (some ⟨B,0,none⟩) 2 2] w fun e w'=>∃v,e=.returned v∧(Own w' 5 1 v (x++y).length (bv (x++y))∧Fresh w w' v):=by
 rw[List.length_append]
 exact Ov x y (by omega) (by omega) s t w hs ht B hB
theorem AJF {w w':World} {xs:List Nat} {n cap:Nat} {ao:Option Addr} (hl:xs.length=n) (HG:w.grownBy w' none) (ho:Own w' 5 1 (.slice ao n cap) n (bv xs)) (lo:∀k,Bk (.slice ao n cap) k→w.heap.size≤k) {v:Value} (hv:v=.slice ao n cap):NwR w w' xs (.returned v):=by
 subst hl hv
 exact⟨_,rfl,HG,_,_,rfl,ho,lo⟩
theorem AE6 {x y:List Nat} (hx:By x) (hy:By y):By (x++y):=fun b hb=>(List.mem_append.1 hb).elim (hx b) (hy b)
theorem Hm (a:Int) (b:List Nat):Dg (tgC a b):=⟨Gp _ _,Nu _ _⟩
theorem EX (c:List Nat) (a:Int) (b:List Nat):Dg (Wq c a b):=⟨Gp _ _,Nu _ _⟩
theorem ON (q:Bool) (ks:List (List Nat)):Dg (Wp q ks):=⟨Gp _ _,Nu _ _⟩
theorem AE7 {w:World} {b:Nat} {k:List Nat} (hk:Dg k) (h:w.rangeAt b 0 (bv k)):Sl w 1 (.slice (some ⟨b,0,none⟩) 32 32) k.length (bv k):=by
 rw[hk.1]
 refine⟨by rw[AI,hk.1],_,_,rfl,Nat.le_refl _,by unfold maxLen;omega,fun h=>(by cases h),fun ad had=>?_⟩
 obtain rfl:=Option.some.inj had
 exact⟨fun _=>rfl,fun j u hu=>by simpa using h j u hu⟩
theorem Yc (q:List Nat) (hq:Dg q) (n:Nat) (hn:n≤4096) (w:World) :
  Calls Tryz.prog 105 #[.int .u64 284,AP q,.int .i64 ((n:Int))] w fun e w'=>∃v,e=.returned (.tuple #[v,.int .i64 0])∧w.grownBy w' none∧(Sp.row w.heap.size 5 1 n (bv (AE3 q n))).on w' v:=by
 refine Dm Tryz.func105 rfl Tryz.ntmps105 rfl fun a0 sv0=>?_
 have HG:=World.grownBy.refl w none
 replace sv0:Sv 24 [] [(0,.int .u64 284),(1,AP q),(2,.int .i64 ((n:Int)))] a0:=sv0
 refine ALz fun K1 k1=>?_
 refine ALy ?_
 refine Bj sv0 r6 (B6 q hq.1) fun a2 w2 N9 NF g2 z2 Bz sv2=>?_
 replace HG:=AA HG g2
 refine Ar (T:=29) (Z:=[.slice none 0 0]) sv2 rfl rfl rfl (fun a w=>by kernel_rfl) fun a3 w3 AKO QF g3 z3 IZ sv3=>?_
 have Vh:=Bt HG QF
 replace HG:=AA HG g3
 refine Ar (T:=38) (Z:=[.int .i64 0]) sv3 rfl rfl rfl (fun a w=>by kernel_rfl) fun a4 w4 ALH ABg g4 z4 PC sv4=>?_
 have NT:=An IZ ABg
 have AHB:=Bt HG ABg
 refine AE ?_
 refine k1 _ _ ?_
 refine ALz fun K5 k5=>?_
 refine ALy ?_
 refine Fl sv4 rfl rfl rfl rfl rfl rfl fun a6 sv6=>?_
 refine Ef sv6 rfl (dd:={ target:=.fn (.func 139) #[pt AKO,pt ALH],args:=#[] }) rfl (by have e1:=sv6.ev (x:=.tmp 9) rfl rfl;simp[execOp,resolve,Deferred.ofValue,e1];try rfl) fun a7 sv7=>?_
 refine AE ?_
 refine k5 _ _ ?_
 refine ALz fun K8 k8=>?_
 refine ALz fun K9 k9=>?_
 refine ALy ?_
 refine AJ sv7 6 [(10,.int .i64 ((n:Int))),(11,.bool false),(12,.bool false),(13,.int .i64 ((n:Int))),(14,.bool false),(15,.bool false)]
  ⟨ym r5,Cz r6 (fun _=>Bo (decide_eq_false (by omega))),ym r5,Az rq8,BJ rq9 (fun _=>DI (decide_eq_false (by omega))),A2 rq9,AL5⟩ fun a10 w10 g10 Cb=>?_
 refine AE ?_
 refine k9 _ _ ?_
 refine A1 Cb rfl rfl ?_
 refine AL3 ?_
 refine k8 _ _ ?_
 refine ALz fun K11 k11=>?_
 refine ALy ?_
 refine AJ Cb 1 [(16,.int .i64 ((n:Int)))]
  ⟨ym r5,AL5⟩ fun a12 w12 g12 DL=>?_
 have AHC:=AA g10 g12
 replace IZ:=AC AHC (AC g4 IZ)
 replace PC:=AC AHC PC
 replace HG:=AA (AA HG g4) AHC
 refine ABc (m:=n) DL rfl rfl rfl rfl rfl rfl (by omega) fun a13 w13 RV OO g13 z13 NU Dy=>?_
 have LP:=An IZ OO
 have LQ:=An PC OO
 have Ui:=Bt HG OO
 refine AY (v:=.slice ((some ⟨RV,0,none⟩)) n n) Dy r6 fun a14 Da=>?_
 refine AE ?_
 refine k11 _ _ ?_
 refine ALz fun K15 k15=>?_
 refine ALy ?_
 refine AJ Da 2 [(18,.int .u64 284),(19,.slice ((some ⟨N9,0,none⟩)) 32 32)]
  ⟨ym r5,Hb (l:=none) (u:=none) rfl rfl trivial (oy rfl rfl) trivial trivial (LD N9 0) (fun _=>rfl),AL5⟩ fun a16 w16 g16 DJ=>?_
 replace Bz:=AC g16 (AC g13 (AC AHC (AC g4 (AC g3 Bz))))
 refine Bh DJ Tryz.func136 (by kernel_rfl) r6 (OM (AE4 (dom:=284) (by decide) rfl hq.2 (by rw[hq.1];decide) (AE7 hq (Ac Bz)))) fun a17 v17 w17 hR17 FY=>?_
 obtain⟨rfl,g17⟩:=hR17
 have CZ:Sv _ _ [_,_,_,_,_,_,_,_,_,_,_,_,_,_,_] _:=FY.dl [18,19,4,0]
 refine AJ CZ 1 [(21,.slice ((some ⟨RV,0,none⟩)) n n)]
  ⟨ym r5,AL5⟩ fun a19 w19 g19 EQ=>?_
 replace NU:=AC g19 (AC g17 (AC g16 NU))
 refine Bh EQ Tryz.func135 (by kernel_rfl) r6 (AKN (n:=n) (by omega) NU) fun a20 v20 w20 hR20 Eu=>?_
 obtain⟨rfl,g20,h20⟩:=hR20
 replace IZ:=AX g20 (AC g19 (AC g17 (AC g16 (AC g13 IZ)))) (Ne.symm LP)
 refine AE ?_
 refine k15 _ _ ?_
 refine ALz fun K21 k21=>?_
 refine ALy ?_
 refine AJ Eu 1 [(23,.slice ((some ⟨RV,0,none⟩)) n n)]
  ⟨ym r5,AL5⟩ fun a22 w22 g22 Ct=>?_
 refine Ao Ct r7 (Ho (.slice ((some ⟨RV,0,none⟩)) n n) rfl) (AC g22 IZ) rfl fun w23 g23 h23=>?_
 replace PC:=Aj g22 g23 (AX g20 (AC g19 (AC g17 (AC g16 (AC g13 PC)))) (Ne.symm LQ)) NT
 refine Ao Ct r7 (EH 0) PC rfl fun w24 g24 h24=>?_
 replace IZ:=AX g24 h23 (Ne.symm NT)
 replace NU:=AX g24 (Aj g22 g23 h20 LP) LQ
 replace HG:=AD (AD (AA (AD (AA (AA (AA (AA HG g13) g16) g17) g19) g20 Ui) g22) g23 Vh) g24 AHB
 replace PC:=h24
 refine AE ?_
 refine k21 _ _ ?_
 refine AL2 ?_
 repeat refine AL ?_
 have ho:=ABd (n:=n) NU (by rw[AI];exact ABf q n) (by omega)
 refine BK (fn:=Tryz.f105) Ct (Ba (p:=6) (q:=7) Tryz.results105 Ct rfl rfl rfl rfl (Ho (.slice ((some ⟨RV,0,none⟩)) n n) rfl) (EH 0) IZ PC) (Bn Tryz.func139 (by kernel_rfl) rfl _ _) (RP _ _ _) ?_
 exact⟨_,rfl,HG,_,_,rfl,ho,fun k hk=>(Option.some.inj hk)▸Ui⟩
theorem AKP {w:World} {k:List Nat} (hk:Dg k) {n:Nat} (hn:n≤4096):Calls Tryz.prog 105 #[.int .u64 284,AP k,.int .i64 (n:Int)] w fun e w'=>∃v,e=.returned v∧(∃ao cap,v=.tuple #[.slice ao n cap,.int .i64 0]∧w.grownBy w' none∧Own w' 5 1 (.slice ao n cap) n (bv (AE3 k n))∧∀b,Bk (.slice ao n cap) b→w.heap.size≤b):=
 (Yc k hk n hn w).mono fun e w' ⟨v,h1,h2,ao,cap,h3,h4,h5⟩=>⟨_,h1,ao,cap,by rw[h3],h2,h4,h5⟩
theorem AKQ {P:Program} {f:Nat} {args:Array Value} {w w1:World} {u:Value} {n:Nat} {xs:List Value} (h:Calls P f args w1 fun e w'=>e=.returned u∧w.grownBy w' none∧Own w' 5 1 u n xs):Calls P f args w1 fun e w'=>∃v,e=.returned v∧(v=u∧w.grownBy w' none∧Own w' 5 1 u n xs):=h.mono fun e w' ⟨h1,h2,h3⟩=>⟨_,h1,rfl,h2,h3⟩
theorem J5 (x:List Nat) (bx:By x) (lx:x.length≤4096) (ao:Option Addr) (cap:Nat) (c:List Nat) (hc:Dg c) (w:World) (hx:SlB w 1 (.slice ao x.length cap) x.length (bv x)) :
  Calls Tryz.prog 57 #[.slice ao x.length cap,AP c] w fun e w'=>NwR w w' (Ja x c) e:=by
 refine BZ Tryz.func57 rfl Tryz.ntmps57 rfl fun a0 sv0=>?_
 have HG:=World.grownBy.refl w none
 replace sv0:Sv 20 [] [(0,.slice ao x.length cap),(1,AP c)] a0:=sv0
 refine ALz fun K1 k1=>?_
 refine ALy ?_
 refine Bj sv0 r6 (B6 c hc.1) fun a2 w2 Jy I0 g2 z2 Ad sv2=>?_
 refine AY (v:=.slice none 0 0) sv2 r6 fun a3 sv3=>?_
 refine AE ?_
 refine k1 _ _ ?_
 refine ALz fun K4 k4=>?_
 refine ALy ?_
 refine AJ sv3 3 [(8,AP c),(9,.slice ao x.length cap),(10,.int .i64 ((x.length:Nat)))]
  ⟨yl r6 (B6 c hc.1) Ad,ym r5,Bv (Tryz.underlying29) rfl rfl trivial (oy rfl rfl) (fun _=>rfl),AL5⟩ fun a5 w5 g5 sv5=>?_
 refine Bh sv5 Tryz.func105 (by kernel_rfl) r6 (AKP hc (n:=x.length) lx) fun a6 v6 w6 hR6 sv6=>?_
 obtain⟨ao6,cap6,rfl,g6,hs,fs⟩:=hR6
 have sv7:Sv _ _ [_,_,_,_] _:=sv6.dl [8,9,10,3]
 refine AJ sv7 3 [(7,.tuple #[.slice ao6 x.length cap6,.int .i64 0]),(12,.slice ao6 x.length cap6),(13,.int .i64 0)]
  ⟨ym r5,BF rq4 (fun _ _ h=>⟨_,_,h,rfl,rfl⟩),BF rq4 (fun _ _ h=>⟨_,_,h,rfl,rfl⟩),AL5⟩ fun a8 w8 g8 sv8=>?_
 refine AY (v:=.slice ao6 x.length cap6) sv8 r6 fun a9 sv9=>?_
 refine AY (v:=.int .i64 0) sv9 r6 fun a10 Cb=>?_
 have Cc:Sv _ _ [_,_,_,_] _:=Cb.dl [6,7,12,13,11]
 refine AE ?_
 refine k4 _ _ ?_
 refine ALz fun K12 k12=>?_
 refine ALy ?_
 refine AJ Cc 2 [(14,.slice ao x.length cap),(15,.int .i64 ((x.length:Nat)))]
  ⟨ym r5,Bv (Tryz.underlying29) rfl rfl trivial (oy rfl rfl) (fun _=>rfl),AL5⟩ fun a13 w13 g13 Dy=>?_
 have AHD:=AA g8 g13
 replace Ad:=AC AHD (AC g6 (AC g5 Ad))
 replace hx:=(((hx.kn g2).kn g5).kn g6).kn AHD
 replace hs:=hs.kn AHD
 replace HG:=AA (AA (AA (AA HG g2) g5) g6) AHD
 refine ABc (m:=x.length) Dy rfl rfl rfl rfl rfl rfl (by omega) fun a14 w14 RX Lv g14 z14 QG Da=>?_
 have RY:=An Ad Lv
 have ACy:=Bt HG Lv
 have Vi:=Au (hx.lt) Lv
 have Vj:=Au (Own.ltS hs) Lv
 refine AJ Da 2 [(17,.slice ao x.length cap),(18,.slice ao6 x.length cap6)]
  ⟨ym r5,ym r5,AL5⟩ fun a15 w15 g15 Ms=>?_
 replace QG:=AC g15 QG
 replace hx:=(hx.kn g14).kn g15
 replace hs:=(hs.kn g14).kn g15
 replace HG:=AA (AA HG g14) g15
 have om:=ABd (n:=x.length) QG (by rw[AI,AJC]) (by omega)
 have AJG:∀k,Bk (.slice ((some ⟨RX,0,none⟩)) x.length x.length) k→k≠Jy:=fun k hk e=>RY ((Option.some.inj hk).trans e)
 have ap_hx_om:∀k,Bk (.slice ao x.length cap) k→¬Bk (.slice ((some ⟨RX,0,none⟩)) x.length x.length) k:=fun k hk e=>Vi k hk (Option.some.inj e).symm
 have ap_hs_om:∀k,Bk (.slice ao6 x.length cap6) k→¬Bk (.slice ((some ⟨RX,0,none⟩)) x.length x.length) k:=fun k hk e=>Vj k hk (Option.some.inj e).symm
 have lo_om:∀k,Bk (.slice ((some ⟨RX,0,none⟩)) x.length x.length) k→w.heap.size≤k:=fun k hk=>(Option.some.inj hk)▸ACy
 clear QG
 rw[NP] at om
 have hs2:=(Own.sb hs)
 refine Bh Ms Tryz.func106 (by kernel_rfl) r6 (AKQ (ACw x (AE3 c x.length) (zs x.length) bx (AJD c _) x.length (by omega) rfl x.length (ABf c _) (Nat.le_refl _) _ _ _ _ _ _ w _ HG om hx hs2 lo_om ap_hx_om ap_hs_om)) fun a16 v16 w16 hR16 DJ=>?_
 obtain⟨rfl,G,oo⟩:=hR16
 refine AY (v:=.slice ((some ⟨RX,0,none⟩)) x.length x.length) DJ r6 fun a17 FY=>?_
 have CZ:Sv _ _ [_,_,_] _:=FY.dl [19,17,18,16,14,15,5]
 refine AE ?_
 refine k12 _ _ ?_
 refine AL2 ?_
 repeat refine AL ?_
 refine BI (fn:=Tryz.f57) CZ (BC (p:=4) Tryz.results57 CZ rfl rfl) ?_
 exact AJF (J4 x c) G oo lo_om rfl
theorem JJ (a:Int) (ha:QQ a) (x:List Nat) (bx:By x) (lx:x.length≤100000) (ao:Option Addr) (cap:Nat) (w:World) (hx:SlB w 1 (.slice ao x.length cap) x.length (bv x)) :
  Calls Tryz.prog 54 #[.int .i64 a,.slice ao x.length cap] w fun e w'=>e=.returned (AP (tgC a x))∧w.grownBy w' none:=by
 have hle:=FB ha.1 ha.2
 refine BZ Tryz.func54 rfl Tryz.ntmps54 rfl fun a0 sv0=>?_
 have HG:=World.grownBy.refl w none
 replace sv0:Sv 11 [] [(0,.int .i64 a),(1,.slice ao x.length cap)] a0:=sv0
 refine ALz fun K1 k1=>?_
 refine ALy ?_
 refine Ar (T:=23) (Z:=(bv AR)) sv0 rfl rfl rfl (fun a w=>by kernel_rfl) fun a2 w2 N9 NF g2 z2 Bz sv2=>?_
 have Vk:=Bt HG NF
 refine AE ?_
 refine k1 _ _ ?_
 refine ALz fun K3 k3=>?_
 refine ALy ?_
 refine AJ sv2 1 [(5,.int .i64 a)]
  ⟨ym r5,AL5⟩ fun a4 w4 g4 sv4=>?_
 refine Bh sv4 Tryz.func103 (by kernel_rfl) r6 (Uh (RQ a ha _)) fun a5 v5 w5 hR5 sv5=>?_
 obtain⟨ao5,cap5,rfl,_⟩:=(Sl.of_own hR5.1).shape
 obtain⟨ow5,fr5⟩:=hR5
 replace fr5:=D1 fr5
 have g5:=fr5.1
 replace fr5:=fr5.2
 refine AJ sv5 1 [(7,.slice ao x.length cap)]
  ⟨ym r5,AL5⟩ fun a6 w6 g6 sv6=>?_
 refine ABb (cs:=[.slice ao5 ((enc a)).length cap5,.slice ao x.length cap]) (e:=29) sv6 rfl rfl rfl rfl rfl rfl rfl rfl (AKL _ _ _ _ _ _) fun a7 w7 ALu AK1 g7 z7 AKR sv7=>?_
 replace hx:=((((hx.kn g2).kn g4).kn g5).kn g6).kn g7
 replace ow5:=(ow5.kn g6).kn g7
 refine Bh sv7 Tryz.func102 (by kernel_rfl) r6 (Yb (Sl.of_own ow5) hx.1 AKR (by omega) (by omega)) fun a8 v8 w8 hR8 sv8=>?_
 obtain⟨ao8,cap8,rfl,_⟩:=(Sl.of_own hR8.1).shape
 obtain⟨ow8,fr8⟩:=hR8
 replace fr8:=D1 fr8
 have g8:=fr8.1
 replace fr8:=fr8.2
 refine Bh sv8 Tryz.func101 (by kernel_rfl) r6 (OM (AH8 (dom:=280) (by decide) rfl (AE6 (QR a) bx) (by rw[List.length_append];omega) (Sl.of_own ow8))) fun a9 v9 w9 hR9 sv9=>?_
 obtain⟨rfl,g9⟩:=hR9
 replace Bz:=AC g9 (AC g8 (AC g7 (AC g6 (AC g5 (AC g4 Bz)))))
 refine Ao sv9 r7 (B6 ((tgC a x)) (Hm a x).1) Bz (GR (Hm a x)) fun w10 g10 h10=>?_
 replace HG:=AD (AA (AA (AA (AA (AA (AA (AA HG g2) g4) g5) g6) g7) g8) g9) g10 Vk
 replace Bz:=h10
 have Cc:Sv _ _ [_] _:=sv9.dl [10,9,8,7,6,5,0,1]
 refine AE ?_
 refine k3 _ _ ?_
 refine AL2 ?_
 repeat refine AL ?_
 refine BI (fn:=Tryz.f54) Cc (E2 (p:=4) Tryz.results54 Cc rfl rfl (B6 ((tgC a x)) (Hm a x).1) Bz) ?_
 exact⟨rfl,HG⟩
theorem Gv (c:List Nat) (hc:Dg c) (a:Int) (ha:QQ a) (x:List Nat) (bx:By x) (lx:x.length≤100000) (ao:Option Addr) (cap:Nat) (w:World) (hx:SlB w 1 (.slice ao x.length cap) x.length (bv x)) :
  Calls Tryz.prog 58 #[AP c,.int .i64 a,.slice ao x.length cap] w fun e w'=>e=.returned (AP (Wq c a x))∧w.grownBy w' none:=by
 have hle:=FB ha.1 ha.2
 refine BZ Tryz.func58 rfl Tryz.ntmps58 rfl fun a0 sv0=>?_
 have HG:=World.grownBy.refl w none
 replace sv0:Sv 14 [] [(0,AP c),(1,.int .i64 a),(2,.slice ao x.length cap)] a0:=sv0
 refine ALz fun K1 k1=>?_
 refine ALy ?_
 refine Bj sv0 r6 (B6 c hc.1) fun a2 w2 Jy I0 g2 z2 Ad sv2=>?_
 replace HG:=AA HG g2
 refine Ar (T:=23) (Z:=(bv AR)) sv2 rfl rfl rfl (fun a w=>by kernel_rfl) fun a3 w3 AKO QF g3 z3 IZ sv3=>?_
 have Vl:=An Ad QF
 have Vh:=Bt HG QF
 refine AE ?_
 refine k1 _ _ ?_
 refine ALz fun K4 k4=>?_
 have gd5:=CR w3
 replace Ad:=AC gd5 (AC g3 Ad)
 refine wp_region_noPanic ?_
 refine MI (fun w'=>w'.heap[Jy]?=some (.cells (bv c).toArray 23 (0,0))∧True) [0,1,3] [2,4,5,6,7] (by kernel_rfl) (by kernel_rfl) (fun _ _ d _ _ h=>by cases d<;>exact h) rfl (by kernel_rfl) ⟨Ad,AL5⟩ ?_
 simp only[List.filterMap_cons,List.filterMap_nil,List.getElem?_toArray,List.getElem?_cons_succ,List.getElem?_cons_zero]
 refine AG0 sv3 rfl rfl rfl rfl ⟨rfl,rfl⟩ (fun w hS=>Ab (B6 c hc.1) (Ac hS.1)) fun a6 sv6=>?_
 refine AH5 (v:=.int .i64 a) w3.drew sv6 rfl (by kernel_rfl) (QE 1 8 (.inl rfl) rfl rfl trivial (fun _ _ h=>h)) fun a7 sv7=>?_
 refine AH5 (v:=.slice ao x.length cap) w3.drew sv7 rfl (by kernel_rfl) (QE 2 10 (.inl rfl) rfl rfl trivial (fun _ _ h=>h)) fun a8 sv8=>?_
 change wpList _ _ _ _ _ _
 refine Bh sv8 Tryz.func103 (by kernel_rfl) r6 (Uh (RQ a ha _)) fun a9 v9 w9 hR9 sv9=>?_
 obtain⟨ao9,cap9,rfl,_⟩:=(Sl.of_own hR9.1).shape
 obtain⟨ow9,fr9⟩:=hR9
 replace fr9:=D1 fr9
 have g9:=fr9.1
 replace fr9:=fr9.2
 replace Ad:=AC g9 Ad
 refine AE ⟨⟨Ad,AL5⟩,?_⟩
 change wpList _ _ _ _ _ _
 refine ABb (cs:=[.slice ao9 ((enc a)).length cap9,.slice ao x.length cap]) (e:=29) sv9 rfl rfl rfl rfl rfl rfl rfl rfl (AKL _ _ _ _ _ _) fun a10 w10 ALI AJi g10 z10 AHE Cb=>?_
 replace Ad:=AC g10 Ad
 replace hx:=((((hx.kn g2).kn g3).kn gd5).kn g9).kn g10
 replace ow9:=ow9.kn g10
 refine AE ⟨⟨Ad,AL5⟩,?_⟩
 change wpList _ _ _ _ _ _
 refine Bh Cb Tryz.func102 (by kernel_rfl) r6 (Yb (Sl.of_own ow9) hx.1 AHE (by omega) (by omega)) fun a11 v11 w11 hR11 Cc=>?_
 obtain⟨ao11,cap11,rfl,_⟩:=(Sl.of_own hR11.1).shape
 obtain⟨ow11,fr11⟩:=hR11
 replace fr11:=D1 fr11
 have g11:=fr11.1
 replace fr11:=fr11.2
 replace Ad:=AC g11 Ad
 refine AE ⟨⟨Ad,AL5⟩,?_⟩
 change wpList _ _ _ _ _ _
 refine Bh Cc Tryz.func66 (by kernel_rfl) r6 (OM (AE5 (dom:=285) (by decide) rfl hc (AE6 (QR a) bx) (by rw[List.length_append];omega) (Sl.of_own ow11))) fun a12 v12 w12 hR12 DL=>?_
 obtain⟨rfl,g12⟩:=hR12
 replace Ad:=AC g12 Ad
 replace IZ:=AC g12 (AC g11 (AC g10 (AC g9 (AC gd5 IZ))))
 refine AE ⟨⟨Ad,AL5⟩,?_⟩
 change wpList _ _ _ _ _ _
 refine Ao DL r7 (B6 ((Wq c a x)) (EX c a x).1) IZ (GR (EX c a x)) fun w13 g13 h13=>?_
 replace Ad:=AX g13 Ad (Ne.symm Vl)
 replace HG:=AD (AA (AA (AA (AA (AA (AA HG g3) gd5) g9) g10) g11) g12) g13 Vh
 replace IZ:=h13
 refine AE ⟨⟨Ad,AL5⟩,?_⟩
 refine NoPanic.normal ?_
 have Da:Sv _ _ [_,_] _:=DL.dl [13,12,11,9,10,8,7,3,1,2]
 refine k4 _ _ ?_
 refine AL2 ?_
 repeat refine AL ?_
 refine BI (fn:=Tryz.f58) Da (E2 (p:=6) Tryz.results58 Da rfl rfl (B6 ((Wq c a x)) (EX c a x).1) IZ) ?_
 exact⟨rfl,HG⟩
def B9 (a:Int) (os:Value) (j:Int) (ws bs:Value) (tg:List Nat):Value:=.agg ([[.int .i64 a],[os],[.int .i64 j],[ws],[bs],bv tg].flatten).toArray
theorem FL {x y:List Nat} (hx:Dg x) (hy:Dg y) {a j b k:Int} {os ws bs os' ws' bs':Value}:([[.int .i64 a],[os],[.int .i64 j],[ws],[bs],bv x].flatten).length=([[.int .i64 b],[os'],[.int .i64 k],[ws'],[bs'],bv y].flatten).length:=by simp[AI,hx.1,hy.1]
theorem EJ (a j:Int) {tg:List Nat} (ht:Dg tg) (os ws bs:Value) (h1:os.oneCell'=true) (h2:ws.oneCell'=true) (h3:bs.oneCell'=true):TY Tryz.prog 31 ([[.int .i64 a],[os],[.int .i64 j],[ws],[bs],bv tg].flatten) (B9 a os j ws bs tg):=by
 refine TY.agg Tryz.underlying31 rfl ?_ ?_
 · rw[show([[.int .i64 a],[os],[.int .i64 j],[ws],[bs],bv tg].flatten).length=37 by simp[AI,ht.1]]
   kernel_rfl
 · intro c hc
   simp only[List.flatten_cons,List.flatten_nil,List.append_nil,List.mem_append,List.mem_singleton] at hc
   rcases hc with rfl|rfl|rfl|rfl|rfl|hc
   · rfl
   · exact h1
   · rfl
   · exact h2
   · exact h3
   · exact Hs _ _ hc
theorem AHF (w:World):(Instr.build 31 #[]).run Tryz.prog w=.ok (B9 0 (.slice none 0 0) 0 (.slice none 0 0) (.slice none 0 0) AR) w:=by kernel_rfl
theorem ALJ (a:Int) (ao:Option Addr) (n c:Nat) (j:Int) (w:World):(Instr.build 31 #[(0,.int .i64 a),(1,.slice ao n c),(2,.int .i64 j)]).run Tryz.prog w=.ok (B9 a (.slice ao n c) j (.slice none 0 0) (.slice none 0 0) AR) w:=by kernel_rfl
theorem E8 (x:Int):TY Tryz.prog 3 [.int .i64 x] (.int .i64 x):=TY.one' Tryz.underlying3 rfl (by kernel_rfl) rfl
def fl (ds:List DD) (i:Nat):List Nat:=(ds.take i).flatMap DD.x
theorem ABh {ds:List DD} {i:Nat} {x:DD} (hi:i<ds.length) (hx:ds[i]=x):fl ds (i+1)=fl ds i++x.x:=by
 unfold fl
 rw[List.take_add_one,List.getElem?_eq_getElem hi,hx,List.flatMap_append]
 simp
theorem Vm (d:BitVec 64) (l:List Nat):Dg (PN d l):=⟨Gp _ _,Nu _ _⟩
theorem AJH {ds:List DD}:∀{i:Nat},i≤ds.length→(fl ds i).length=32*i
 | 0,_=>rfl
 | i+1,h=>by rw[ABh (i:=i) (by omega) rfl,List.length_append,AJH (by omega),(ds[i]).h.1];omega
theorem AKS (ds:List DD) (i:Nat):By (fl ds i):=fun b hb=>by
 obtain⟨d,_,hd⟩:=List.mem_flatMap.1 hb
 exact d.h.2 b hd
theorem AJI {ds:List DD} {i:Nat} (h:ds.length≤i):fl ds i=(ds.map DD.x).flatten:=by
 unfold fl
 rw[List.take_of_length_le h,List.flatMap_def]
theorem AE8 {w:World} {b:Nat} {k:List Nat} (hk:Dg k) (h:w.rangeAt b 0 (bv k)):Sl w 1 (.slice (some ⟨b,0,none⟩) 32 32) 32 (bv k):=by
 have:=AE7 hk h
 rwa [hk.1] at this
theorem AKT {w:World} {v:Value} {ds:List DD} {i:Nat} (hi:i≤ds.length) (h:Sl w 1 v (32*i) (bv (fl ds i))):Sl w 1 v (fl ds i).length (bv (fl ds i)):=by rw[AJH hi];exact h
theorem AHG (ds:List DD):(ds.flatMap LM).all Value.oneCell'=true:=by
 rw[List.all_eq_true]
 intro v hv
 obtain⟨d,_,hd⟩:=List.mem_flatMap.1 hv
 exact Hs _ _ hd
theorem ALK {a b:List Nat} (h:a=b):Ending.returned (AP a)=Ending.returned (AP b):=by rw[h]
theorem D8 (w:World):CallsD Tryz.prog 69 #[] .returning w fun e u' w'=>e=.returned (.tuple #[])∧u'=.returning∧w'=w:=by
 refine callsD_of_wpS Tryz.func69 rfl fun c₀ cs hu=>?_
 apply wpS_region
 simp[wpOpsS,go_sem,recoverD,hu,Tryz.ntmps69]
 cases c₀
 simp_all [bodyPostS,results,Tryz.results69]
theorem ACz (joint:Int) (ds:List DD) (ao:Option Addr) (cap:Nat) (w:World) (hr:RdD w (.slice ao ds.length cap) ds) (hl:ds.length≤1000) :
   Calls Tryz.prog 55 #[.int .i64 joint,.slice ao ds.length cap] w fun e w'=>e=.returned (AP (Wp (decide (joint=1)) (ds.map DD.x)))∧w.grownBy w' none:=by
 obtain⟨dm,hdm⟩:∃dm:Nat,dm=if decide (joint=1)=true then 282 else 281:=⟨_,rfl⟩
 have hdl:dm<1000:=by rw[hdm];split<;>decide
 refine BZ Tryz.func55 rfl Tryz.ntmps55 rfl fun a0 sv0=>?_
 have HG:=World.grownBy.refl w none
 replace sv0:Sv 24 [] [(0,.int .i64 joint),(1,.slice ao ds.length cap)] a0:=sv0
 refine ALz fun K1 k1=>?_
 refine ALy ?_
 refine Ar (T:=23) (Z:=(bv AR)) sv0 rfl rfl rfl (fun a w=>by kernel_rfl) fun a2 w2 N9 NF g2 z2 Bz sv2=>?_
 have Vk:=Bt HG NF
 replace hr:=hr.kn g2
 replace HG:=AA HG g2
 refine AE ?_
 refine k1 _ _ ?_
 refine ALz fun K3 k3=>?_
 refine ALy ?_
 refine AY (v:=.int .u64 281) sv2 r6 fun a4 sv4=>?_
 refine AE ?_
 refine k3 _ _ ?_
 refine ALz fun K5 k5=>?_
 suffices MG6:∀(a':Act) (w':World),Sv 24 [] [(5,.int .u64 ((dm:Int))),(4,pt N9),(0,.int .i64 joint),(1,.slice ao ds.length cap)] a'→w.grownBy w' none→w'.heap[N9]?=some (.cells ((bv AR)).toArray 23 (0,0))→(RdD w' (.slice ao ds.length cap) ds)→K5 a' w' by
   by_cases hj:joint=1
   · obtain rfl:dm=282:=by rw[hdm,decide_eq_true hj];rfl
     refine ALz fun K7 k7=>?_
     refine ALy ?_
     refine AJ sv4 2 [(9,.int .i64 joint),(10,.bool true)]
      ⟨ym r5,Cz r6 (fun _=>CV (by simpa using hj)),AL5⟩ fun a8 w8 g8 sv8=>?_
     refine AE ?_
     refine k7 _ _ ?_
     refine Aw sv8 rfl rfl ?_
     refine ALy ?_
     refine AY (v:=.int .u64 282) sv8 r6 fun a9 sv9=>?_
     refine AE ?_
     replace Bz:=AC g8 Bz
     replace hr:=hr.kn g8
     replace HG:=AA HG g8
     have svm:Sv 24 [] [(5,_),(4,_),(0,_),(1,_)] a9:=⟨sv9.1,sv9.2.1,sv9.2.2.1,sv9.2.2.2.2.2.1,sv9.2.2.2.2.2.2.1,sv9.2.2.2.2.2.2.2.1,AL5⟩
     exact MG6 _ _ svm HG Bz hr
   · obtain rfl:dm=281:=by rw[hdm,decide_eq_false hj];rfl
     refine ALz fun K10 k10=>?_
     refine ALy ?_
     refine AJ sv4 2 [(9,.int .i64 joint),(10,.bool false)]
      ⟨ym r5,Cz r6 (fun _=>CV (by simpa using hj)),AL5⟩ fun a11 w11 g11 Cc=>?_
     refine AE ?_
     refine k10 _ _ ?_
     refine A1 Cc rfl rfl ?_
     refine AL3 ?_
     replace Bz:=AC g11 Bz
     replace hr:=hr.kn g11
     replace HG:=AA HG g11
     have svm:Sv 24 [] [(5,_),(4,_),(0,_),(1,_)] a11:=⟨Cc.1,Cc.2.1,Cc.2.2.2.2.1,Cc.2.2.2.2.2.1,Cc.2.2.2.2.2.2.1,Cc.2.2.2.2.2.2.2.1,AL5⟩
     exact MG6 _ _ svm HG Bz hr
 clear Bz
 clear hr
 clear HG
 intro a6 w6 sv6 HG Bz hr
 refine k5 _ _ ?_
 refine ALz fun K12 k12=>?_
 refine ALy ?_
 refine AY (v:=.slice none 0 0) sv6 r6 fun a13 Dy=>?_
 refine AE ?_
 refine k12 _ _ ?_
 refine ALz fun K14 k14=>?_
 refine ALz fun K15 k15=>?_
 refine ALy ?_
 refine AJ Dy 3 [(11,.slice ao ds.length cap),(12,.int .i64 ((ds.length:Nat))),(13,.int .i64 0)]
   ⟨ym r5,Bv (Tryz.underlying28) rfl rfl trivial (oy rfl rfl) (fun _=>rfl),E0 (.inl rfl) rfl trivial (fun _=>rfl),AL5⟩ fun a16 w16 g16 DJ=>?_
 refine AE ?_
 refine k15 _ _ ?_
 refine BM fun Q17 x17 y17 rt17 o17=>?_
 replace Bz:=AC g16 Bz
 replace hr:=hr.kn g16
 replace HG:=AA HG g16
 have ob:=Own.nil w16 5 1
 have Ia:=KZ N9
 have ap_hr_ob:=Kg (Bk (.slice ao ds.length cap))
 have lo_ob:=ACa w
 refine wp_loop (fun a w'=>∃(i:Nat) (bo:Option Addr) (bc:Nat),(i≤ds.length)∧Sv 24 [] [(13,.int .i64 ((i:Int))),(6,.slice bo (32*i) bc),(11,.slice ao ds.length cap),(12,.int .i64 ((ds.length:Nat))),(5,.int .u64 ((dm:Int))),(4,pt N9),(0,.int .i64 joint),(1,.slice ao ds.length cap)] a∧w.grownBy w' none∧w'.heap[N9]?=some (.cells ((bv AR)).toArray 23 (0,0))∧RdD w' (.slice ao ds.length cap) ds∧Own w' 5 1 (.slice bo (32*i) bc) ((32*i)) (bv ((fl ds i)))∧(∀k,Bk (.slice bo (32*i) bc) k→k≠N9)∧(∀k,Bk (.slice ao ds.length cap) k→¬Bk (.slice bo (32*i) bc) k)∧(∀k,Bk (.slice bo (32*i) bc) k→w.heap.size≤k)) (fun a _=>(ds.length-intOf (a.tmps.getD 13 undef)).toNat) ⟨0,none,0,Nat.zero_le _,⟨DJ.1,DJ.2.1,DJ.2.2.2.2.1,DJ.2.2.2.2.2.1,DJ.2.2.1,DJ.2.2.2.1,DJ.2.2.2.2.2.2.1,DJ.2.2.2.2.2.2.2.1,(AG DJ).1,(AG DJ).2.1,AL5⟩,HG,Bz,hr,ob,Ia,ap_hr_ob,lo_ob⟩ fun a18 w18 hI18=>?_
 clear Bz
 clear hr
 clear ob
 clear HG
 obtain⟨i,bo,bc,hin,CZ,HG,Bz,hr,ob,Ia,ap_hr_ob,lo_ob⟩:=hI18
 refine ALz fun K19 k19=>?_
 by_cases hi:i<ds.length
 · obtain⟨x,hx_x⟩:∃zx,ds[i]'hi=zx:=⟨_,rfl⟩
   have hfs:=ABh hi hx_x
   refine ALy ?_
   refine AJ CZ 1 [(14,.bool true)]
     ⟨Il r7 (fun _=>Bo (by simp;omega)),AL5⟩ fun a20 w20 g20 Eu=>?_
   refine AE ?_
   refine k19 _ _ ?_
   refine ALz fun K21 k21=>?_
   refine Aw Eu rfl rfl ?_
   refine AL3 ?_
   refine k21 _ _ ?_
   refine ALz fun K22 k22=>?_
   refine BM fun Q23 x23 y23 rt23 o23=>?_
   refine ALz fun K24 k24=>?_
   refine ALy ?_
   replace hr:=hr.kn g20
   refine AJ Eu 2 [(15,pk ((bO ao)) (oO ao+i*32)),(16,AP x.x)]
     ⟨BA rq8 (fun w=>CU Tryz.underlying28 (by kernel_rfl) (hr.1) (by omega) (rfl) w),Bu r6 (fun _ g=>Ab (B6 x.x x.h.1) (by have:=DU (hr.kn g).1 GF hi (by decide);rw[hx_x] at this;exact this)),AL5⟩ fun a25 w25 g25 DV=>?_
   replace Bz:=AC g25 (AC g20 Bz)
   replace hr:=hr.kn g25
   replace ob:=(ob.kn g20).kn g25
   replace HG:=AA (AA HG g20) g25
   refine Ar (T:=23) (Z:=(bv AR)) DV rfl rfl rfl (fun a w=>by kernel_rfl) fun a26 w26 AH9 NW g26 z26 AAd Cr=>?_
   have TI:=An Bz NW
   have AE9:=Bt HG NW
   have Yd:=Au (hr.lt) NW
   have Ye:=Au (Own.ltS ob) NW
   refine Ao Cr r7 (B6 x.x x.h.1) AAd (GR x.h) fun w27 g27 h27=>?_
   refine AE ?_
   refine k24 _ _ ?_
   refine ALy ?_
   refine AJ Cr 2 [(17,.slice bo (32*i) bc),(18,.slice ((some ⟨AH9,0,none⟩)) 32 32)]
     ⟨ym r5,Hb (l:=none) (u:=none) rfl rfl trivial (oy rfl rfl) trivial trivial (LD AH9 0) (fun _=>rfl),AL5⟩ fun a28 w28 g28 Js=>?_
   replace Bz:=AC g28 (AX g27 (AC g26 Bz) (Ne.symm TI))
   replace AAd:=AC g28 h27
   replace hr:=((hr.kn g26).offR g27 (AU Yd)).kn g28
   replace ob:=((ob.kn g26).offR g27 (AU Ye)).kn g28
   replace HG:=AA (AD (AA HG g26) g27 AE9) g28
   refine Mg D0 Js rfl rfl rfl rfl rfl rfl rfl rfl ob (AE8 x.h (Ac AAd)) (Gz _) (by omega) fun a29 ao29 cap29 w29 owx29 Cj Cf=>?_
   have TL:=KX Cj.2 Ia Bz
   have Yf:=KY Cj.2 ap_hr_ob (hr.lt)
   have AFA:=Zz Cj.2 lo_ob HG
   replace Bz:=AF Cj.1 Bz (fun e=>Ia _ e.symm rfl)
   replace hr:=hr.offR Cj.1 (fun k hk e=>ap_hr_ob k hk (e))
   replace HG:=Bi HG Cj.1 fun k e=>lo_ob k (e)
   rw[←Dl,←hfs] at owx29
   refine AY (v:=.slice ao29 (32*i+32) cap29) Cf r6 fun a30 E4=>?_
   refine AE ?_
   refine y23 _ _ ?_
   refine k22 _ _ ?_
   refine ALy ?_
   refine AJ E4 1 [(20,.int .i64 (((i+1:Nat):Int)))]
     ⟨Cz r6 (fun _=>Dk (by rw[BG (by omega) (by omega)];omega)),AL5⟩ fun a31 w31 g31 He=>?_
   refine AJ (He.dl [13]) 1 [(13,.int .i64 (((i+1:Nat):Int)))]
     ⟨ym r5,AL5⟩ fun a32 w32 g32 Cl=>?_
   have AHH:=AA g31 g32
   refine AE ?_
   replace Bz:=AC AHH Bz
   replace hr:=hr.kn AHH
   replace owx29:=owx29.kn AHH
   replace HG:=AA HG AHH
   exact⟨⟨i+1,ao29,cap29,by omega,⟨Cl.1,Cl.2.1,Cl.2.2.1,Cl.2.2.2.2.1,(AG Cl).2.2.2.2.1,(AG Cl).2.2.2.2.2.1,(AG Cl).2.2.2.2.2.2.1,(AG Cl).2.2.2.2.2.2.2.1,(AG (AG Cl)).1,(AG (AG Cl)).2.1,AL5⟩,HG,Bz,hr,owx29,TL,Yf,AFA⟩,by rw[show _=_ from Cl.2.2.1,show _=_ from CZ.2.2.1];simp[intOf];omega⟩
 · have hall:=AJI (ds:=ds) (i:=i) (by omega)
   refine ALy ?_
   refine AJ CZ 1 [(14,.bool false)]
     ⟨Il r7 (fun _=>Bo (by simp;omega)),AL5⟩ fun a33 w33 g33 JU=>?_
   refine AE ?_
   refine k19 _ _ ?_
   refine ALz fun K34 k34=>?_
   refine A1 JU rfl rfl ?_
   refine wp_exit ?_
   repeat refine CY ?_
   refine x17 _ _ ?_
   refine k14 _ _ ?_
   refine ALz fun K35 k35=>?_
   refine ALy ?_
   refine AJ JU 2 [(21,.int .u64 ((dm:Int))),(22,.slice bo (32*i) bc)]
     ⟨ym r5,ym r5,AL5⟩ fun a36 w36 g36 Fw=>?_
   have Qx:=AA g33 g36
   replace ob:=ob.kn Qx
   refine Bh Fw Tryz.func101 (by kernel_rfl) r6 (OM (AH8 (dom:=dm) hdl rfl (AKS ds i) (by rw[AJH (by omega)];omega) (AKT (by omega) (Sl.of_own ob)))) fun a37 v37 w37 hR37 IR=>?_
   obtain⟨rfl,g37⟩:=hR37
   replace Bz:=AC g37 (AC Qx Bz)
   refine Ao IR r7 (B6 ((PN (BitVec.ofNat 64 dm) (fl ds i))) (Vm _ _).1) Bz (GR (Vm _ _)) fun w38 g38 h38=>?_
   replace ob:=(ob.kn g37).offR g38 (AU Ia)
   replace HG:=AD (AA (AA HG Qx) g37) g38 Vk
   replace Bz:=h38
   refine AE ?_
   refine k35 _ _ ?_
   refine AL2 ?_
   repeat refine AL ?_
   refine BI (fn:=Tryz.f55) IR (E2 (p:=4) Tryz.results55 IR rfl rfl (B6 ((PN (BitVec.ofNat 64 dm) (fl ds i))) (Vm _ _).1) Bz) ?_
   exact⟨ALK (by rw[hall,hdm];rfl),HG⟩
end Go.Proofs.YtbfjfnbcmojpiaaGreat
