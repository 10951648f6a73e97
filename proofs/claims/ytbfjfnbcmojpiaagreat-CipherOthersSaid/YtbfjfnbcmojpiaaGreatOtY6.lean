import Derived.Test.YtbfjfnbcmojpiaaGreatOtY3
import Derived.Test.YtbfjfnbcmojpiaaGreatOtR1
set_option linter.unusedSimpArgs false
set_option linter.unusedVariables false
set_option maxRecDepth 100000
set_option maxHeartbeats 4000000
namespace Go.Proofs.YtbfjfnbcmojpiaaGreat
open Go.RowKit Go.Shelf
theorem Rb {P:Program} {f:Nat} {args:Array Value} {w:World} {v:Value} (h:Calls P f args w fun e w'=>e=.returned v∧w.grownBy w' none):Calls P f args w fun e w'=>∃v',e=.returned v'∧(v'=v∧w.grownBy w' none):=h.mono fun e w' ⟨h1,h2⟩=>⟨v,h1,rfl,h2⟩
section
variable {P:Program} {Q:Exit→Act→World→Prop} {ops:Array Oper} {rest:List Oper} {o:Oper} {a:Act} {w:World} {n:Nat} {D:List Deferred} {K:List (Nat×Value)}
theorem Nh (sv:Sv n D K a) (hgd:o.guard=none) {d:Nat} {t e:TypeId} {x:Operand} {u:Value} {cs:List Value} (ho:o.op=.buildSlice t 1 #[(0,x)]) (hd:o.dst=some d) (hdn:decide (d<n)=true) (hx:Mv K x=true) (hxv:Mw K x=u)
  (hr:∀W:World,(Instr.buildSlice t 1 #[(0,u)]).run P W=.ok (.slice (some ⟨W.heap.size,0,none⟩) 1 1) (W.alloc (.cells cs.toArray e)))
  (h:∀a' w' b,b=w.heap.size→w.grownBy w' none→w'.heap.size=b+1→w'.heap[b]?=some (.cells cs.toArray e (0,0))→Sv n D ((d,.slice (some ⟨b,0,none⟩) 1 1)::Jo d K) a'→wpList P ops Q rest a' w'):wpList P ops Q (o::rest) a w:=by
 refine Oa (w':=w.alloc (.cells cs.toArray e)) sv hgd hd hdn ?_ fun a' sv'=>h a' _ _ rfl (World.grownBy_alloc _ _ _) (by simp) (Ag rfl) sv'
 have e:=sv.ev hx hxv
 simp only[execOp,ho,e,List.map_toArray,List.map_cons,List.map_nil,Sem.run_bind,Sem.run_pure,Result.andThen_ok,hr]
theorem ABN (sv:Sv n D K a) (hgd:o.guard=none) {d:Nat} {t e:TypeId} {x y:Operand} {u v:Value} {cs:List Value} (ho:o.op=.buildSlice t 2 #[(0,x),(1,y)]) (hd:o.dst=some d) (hdn:decide (d<n)=true) (hx:Mv K x=true) (hxv:Mw K x=u) (hy:Mv K y=true) (hyv:Mw K y=v)
  (hr:∀W:World,(Instr.buildSlice t 2 #[(0,u),(1,v)]).run P W=.ok (.slice (some ⟨W.heap.size,0,none⟩) 2 2) (W.alloc (.cells cs.toArray e)))
  (h:∀a' w' b,b=w.heap.size→w.grownBy w' none→w'.heap.size=b+1→w'.heap[b]?=some (.cells cs.toArray e (0,0))→Sv n D ((d,.slice (some ⟨b,0,none⟩) 2 2)::Jo d K) a'→wpList P ops Q rest a' w'):wpList P ops Q (o::rest) a w:=by
 refine Oa (w':=w.alloc (.cells cs.toArray e)) sv hgd hd hdn ?_ fun a' sv'=>h a' _ _ rfl (World.grownBy_alloc _ _ _) (by simp) (Ag rfl) sv'
 have e1:=sv.ev hx hxv
 have e2:=sv.ev hy hyv
 simp only[execOp,ho,e1,e2,List.map_toArray,List.map_cons,List.map_nil,Sem.run_bind,Sem.run_pure,Result.andThen_ok,hr]
end
section
variable {Q:Exit→Act→World→Prop} {ops:Array Oper} {rest:List Oper} {o:Oper} {a:Act} {w:World} {n:Nat} {D:List Deferred} {K:List (Nat×Value)}
theorem AGt (m:Nat):madeCells (Value.int .u8 0).cells (m*1)=(bv (zs m)).toArray:=by
 apply Array.ext'
 rw[Q2 (z:=.int .u8 0) (sz:=1) rfl (by decide)]
 induction m with
 | zero=>rfl
 | succ m ih=>rw[List.replicate_succ,List.flatMap_cons,ih];rfl
theorem ABO {m:Nat} (sv:Sv n D K a) (hgd:o.guard=none) {d:Nat} {x:Operand} (ho:o.op=.makeSlice 29 x x) (hd:o.dst=some d) (hdn:decide (d<n)=true) (hx:Mv K x=true) (hxv:Mw K x=.int .i64 (m:Int)) (hm:m≤1000000)
  (h:∀a' w' b,b=w.heap.size→w.grownBy w' none→w'.heap.size=b+1→w'.heap[b]?=some (.cells (bv (zs m)).toArray 5 (0,0))→Sv n D ((d,.slice (some ⟨b,0,none⟩) m m)::Jo d K) a'→wpList Tryz.prog ops Q rest a' w'):wpList Tryz.prog ops Q (o::rest) a w:=by
 refine Oa (w':=w.alloc (.cells (bv (zs m)).toArray 5)) sv hgd hd hdn ?_ fun a' sv'=>h a' _ _ rfl (World.grownBy_alloc _ _ _) (by simp) (Ag rfl) sv'
 have e:=sv.ev hx hxv
 obtain⟨i,hi,hz,hs,hby⟩:=EA.inf
 have hb:=EA.bnd
 have hbytes:(i.bytes:Int)*(m:Int)≤281474976710656:=by rw[hby];omega
 have hr:=run_make (P:=Tryz.prog) w 29 5 i (.int .u8 0) EA.und hi hz .i64 .i64 (m:Int) (m:Int) (by omega) (by omega) hbytes (by omega)
 rw[hs,Int.toNat_natCast,AGt] at hr
 simp only[execOp,ho,e,Sem.run_bind,Sem.run_pure,Result.andThen_ok,hr]
theorem ABP {B n:Nat} {xs:List Value} {t:TypeId} (h:w.heap[B]?=some (.cells xs.toArray t (0,0))) (hl:xs.length=n) (hn:n≤1000000):Own w t 1 (.slice (some ⟨B,0,none⟩) n n) n xs:=by
 subst hl
 refine⟨by rw[Nat.mul_one],.inr ⟨B,xs.length,_,rfl,Nat.zero_le _,h,Nat.le_refl _,by unfold maxLen;omega,by simp,?_⟩⟩
 rw[Nat.mul_one,List.take_of_length_le (by simp)]
end
theorem AIs (n:Nat):(zs n).length=n:=List.length_replicate
theorem VC (w:World):CallsD Tryz.prog 138 #[] .returning w fun e u' w'=>e=.returned (.tuple #[])∧u'=.returning∧w'=w:=by
 refine callsD_of_wpS Tryz.func138 rfl fun c₀ cs hu=>?_
 apply wpS_region
 simp[wpOpsS,go_sem,recoverD,hu,Tryz.ntmps138]
 cases c₀
 simp_all [bodyPostS,results,Tryz.results138]
theorem VF (w:World):CallsD Tryz.prog 98 #[] .returning w fun e u' w'=>e=.returned (.tuple #[])∧u'=.returning∧w'=w:=by
 refine callsD_of_wpS Tryz.func98 rfl fun c₀ cs hu=>?_
 apply wpS_region
 simp[wpOpsS,go_sem,recoverD,hu,Tryz.ntmps98]
 cases c₀
 simp_all [bodyPostS,results,Tryz.results98]
theorem Rc (p q:Value) (w:World):CallsD Tryz.prog 139 #[p,q] .returning w fun e u' w'=>e=.returned (.tuple #[])∧u'=.returning∧w'=w:=by
 refine callsD_of_wpS Tryz.func139 rfl fun c₀ cs hu=>?_
 apply wpS_seq
 apply wpS_region
 simp[wpOpsS,go_sem,recoverD,hu,Tryz.ntmps139,Exit.thenS]
 refine wpS_cond (t:=false) (by simp[Act.eval,Array.replicate]) ?_
 simp only[Bool.false_eq_true,if_false]
 refine wpS_of_wp (ALp ?_)
 cases c₀
 simp_all [bodyPostS,results,Tryz.results139]
theorem UK {P:Program} {f:Nat} {args:Array Value} {w:World} {xs:List Nat} (h:Calls P f args w fun e w'=>NwR w w' xs e):Calls P f args w fun e w'=>∃v,e=.returned v∧(Own w' 5 1 v xs.length (bv xs)∧Fresh w w' v):=
 h.mono fun e w' ⟨v,h1,h2,ao,cap,h3,h4,h5⟩=>⟨v,h1,h3▸h4,⟨by simpa [NB,Value.ownBlock] using h2,fun k hk=>.inr (h5 k (h3▸hk))⟩⟩
theorem AGu {w:World} {B:Nat} {t:TypeId} {a:Int} (hb:w.heap[B]?=some (.cells [.int .i64 a].toArray t (0,0))) (h:Qa a):Calls Tryz.prog 132 #[.slice none 0 0,.slice (some ⟨B,0,none⟩) 1 1] w fun e w'=>∃v,e=.returned v∧(Own w' 5 1 v (enc a).length (bv (enc a))∧Fresh w w' v):=by
 have:=Tv NB (.slice (some ⟨B,0,none⟩) 1 1) [] [a] w (Own.nil _ _ _) (ZQ hb ⟨rfl,by decide⟩) (.inr (by simp[NB,Value.ownBlock])) (fun n hn=>by simp at hn;subst hn;exact h) (by simp)
 simpa using this
theorem AHl {w:World} {v:Value} {ys:List Nat} (h:Sl w 1 v ys.length (bv ys)) (hm:0<ys.length) (hl:ys.length≤3000000):Calls Tryz.prog 99 #[.slice none 0 0,v] w fun e w'=>∃v,e=.returned v∧(Own w' 5 1 v ys.length (bv ys)∧Fresh w w' v):=by
 have:=Wl NB v [] ys w (Sl.nil w 1) h hm (by simp;omega)
 simpa using this
theorem ABQ (a:Int):0<(enc a).length:=by
 unfold enc
 by_cases h:zig a<128
 · rw[Gb h];simp
 · rw[J2 h];simp
theorem AEt (x:V):0<(Bt x).length:=by
 unfold Bt Sc
 rw[List.length_append]
 have:=ABQ x.clean.kind
 omega
theorem AJ5 (a:Int) (W:World):(Instr.buildSlice 74 1 #[(0,.int .i64 a)]).run Tryz.prog W=.ok (.slice (some ⟨W.heap.size,0,none⟩) 1 1) (W.alloc (.cells [.int .i64 a].toArray 2)):=by kernel_rfl
theorem AJ6 (ao bo:Option Addr) (n m c d:Nat) (W:World):(Instr.buildSlice 151 2 #[(0,.slice ao n c),(1,.slice bo m d)]).run Tryz.prog W=.ok (.slice (some ⟨W.heap.size,0,none⟩) 2 2) (W.alloc (.cells [.slice ao n c,.slice bo m d].toArray 29)):=by kernel_rfl
theorem AGv {w:World} (x:V):Calls Tryz.prog 100 #[.slice none 0 0,CE x] w fun e w'=>∃v,e=.returned v∧(Own w' 5 1 v (Bt x).length (bv (Bt x))∧Fresh w w' v):=by
 have:=ADV NB x [] w (Own.nil _ _ _) (by simp)
 rw[List.nil_append] at this
 exact this
theorem Rd (n:Int) (hn:Qa n) (w:World) :
  Calls Tryz.prog 103 #[.slice none 0 0,.int .i64 n] w fun e w'=>NwR w w' (enc n) e:=by
 have hl:=FB hn.1 hn.2
 refine Dn Tryz.func103 rfl Tryz.ntmps103 rfl fun a0 sv0=>?_
 have HG:=World.grownBy.refl w none
 replace sv0:Sv 10 [] [(0,.slice none 0 0),(1,.int .i64 n)] a0:=sv0
 refine ALl fun K1 k1=>?_
 refine ALk ?_
 refine Aa (v:=.slice none 0 0) sv0 r6 fun a2 sv2=>?_
 refine AE ?_
 refine k1 _ _ ?_
 refine ALl fun K3 k3=>?_
 refine ALk ?_
 refine Ei sv2 rfl (dd:={ target:=.fn (.func 138) #[],args:=#[] }) rfl (by simp[execOp,resolve,Deferred.ofValue];try rfl) fun a4 sv4=>?_
 refine AE ?_
 refine k3 _ _ ?_
 refine ALl fun K5 k5=>?_
 refine ALk ?_
 refine AK sv4 2 [(5,.slice none 0 0),(6,.int .i64 n)]
  ⟨ym r5,ym r5,ALr⟩ fun a6 w6 g6 sv6=>?_
 refine Nh (cs:=[.int .i64 n]) (e:=2) sv6 rfl rfl rfl rfl rfl rfl (AJ5 n) fun a7 w7 ALf AKm g7 z7 AJ7 sv7=>?_
 refine Bo sv7 Tryz.func132 (by kernel_rfl) r6 (AGu AJ7 hn) fun a8 v8 w8 hR8 sv8=>?_
 obtain⟨ao8,cap8,rfl,_⟩:=(Sl.of_own hR8.1).shape
 obtain⟨ow8,fr8⟩:=hR8
 replace fr8:=Ef fr8
 have g8:=fr8.1
 replace fr8:=fr8.2
 replace HG:=AA (AA (AA HG g6) g7) g8
 refine Bo sv8 Tryz.func99 (by kernel_rfl) r6 (AHl (Sl.of_own ow8) (ABQ n) (by omega)) fun a9 v9 w9 hR9 sv9=>?_
 obtain⟨ao9,cap9,rfl,_⟩:=(Sl.of_own hR9.1).shape
 obtain⟨ow9,fr9⟩:=hR9
 replace fr9:=Ef fr9
 have g9:=fr9.1
 replace fr9:=fr9.2
 have AAP:=Jp HG fr9
 replace HG:=AA HG g9
 refine Aa (v:=.slice ao9 ((enc n)).length cap9) sv9 r6 fun a10 Cj=>?_
 have CY:Sv _ _ [_] _:=Cj.dl [9,8,7,5,6,0,1]
 refine AE ?_
 refine k5 _ _ ?_
 refine ALo ?_
 repeat refine AM ?_
 refine BK (fn:=Tryz.f103) CY (BT (p:=4) Tryz.results103 CY rfl rfl) (Bp Tryz.func138 (by kernel_rfl) rfl _ _) (VC _) ?_
 exact⟨_,rfl,HG,_,_,rfl,ow9,AAP⟩
theorem AAQ (x:V) (w:World) :
  Calls Tryz.prog 53 #[.slice none 0 0,CE x] w fun e w'=>NwR w w' (Bt x) e:=by
 have hl:=IT x
 refine Dn Tryz.func53 rfl Tryz.ntmps53 rfl fun a0 sv0=>?_
 have HG:=World.grownBy.refl w none
 replace sv0:Sv 9 [] [(0,.slice none 0 0),(1,CE x)] a0:=sv0
 refine ALl fun K1 k1=>?_
 refine ALk ?_
 refine Bm sv0 r6 (EP x) fun a2 w2 Hh JL g2 z2 AZ sv2=>?_
 refine Aa (v:=.slice none 0 0) sv2 r6 fun a3 sv3=>?_
 refine AE ?_
 refine k1 _ _ ?_
 refine ALl fun K4 k4=>?_
 refine ALk ?_
 refine Ei sv3 rfl (dd:={ target:=.fn (.func 98) #[],args:=#[] }) rfl (by simp[execOp,resolve,Deferred.ofValue];try rfl) fun a5 sv5=>?_
 refine AE ?_
 refine k4 _ _ ?_
 refine ALl fun K6 k6=>?_
 refine ALk ?_
 refine AK sv5 2 [(5,.slice none 0 0),(6,CE x)]
  ⟨ym r5,yl r6 (EP x) AZ,ALr⟩ fun a7 w7 g7 sv7=>?_
 refine Bo sv7 Tryz.func100 (by kernel_rfl) r6 (AGv x) fun a8 v8 w8 hR8 sv8=>?_
 obtain⟨ao8,cap8,rfl,_⟩:=(Sl.of_own hR8.1).shape
 obtain⟨ow8,fr8⟩:=hR8
 replace fr8:=Ef fr8
 have g8:=fr8.1
 replace fr8:=fr8.2
 replace HG:=AA (AA (AA HG g2) g7) g8
 refine Bo sv8 Tryz.func99 (by kernel_rfl) r6 (AHl (Sl.of_own ow8) (AEt x) (by omega)) fun a9 v9 w9 hR9 sv9=>?_
 obtain⟨ao9,cap9,rfl,_⟩:=(Sl.of_own hR9.1).shape
 obtain⟨ow9,fr9⟩:=hR9
 replace fr9:=Ef fr9
 have g9:=fr9.1
 replace fr9:=fr9.2
 have AAP:=Jp HG fr9
 replace HG:=AA HG g9
 refine Aa (v:=.slice ao9 ((Bt x)).length cap9) sv9 r6 fun a10 Cj=>?_
 have CY:Sv _ _ [_,_] _:=Cj.dl [8,7,5,6,3,0]
 refine AE ?_
 refine k6 _ _ ?_
 refine ALo ?_
 repeat refine AM ?_
 refine BK (fn:=Tryz.f53) CY (BT (p:=4) Tryz.results53 CY rfl rfl) (Bp Tryz.func98 (by kernel_rfl) rfl _ _) (VF _) ?_
 exact⟨_,rfl,HG,_,_,rfl,ow9,AAP⟩
section
variable {w w':World} {v:Value} {n:Nat} {xs:List Value}
end
def AEu (c:List Nat) (n:Nat):List Nat:=sq (Hm (BitVec.ofNat 64 284) c) n
theorem ABR (c:List Nat) (n:Nat):(AEu c n).length=n:=Mn _ _
theorem AIt (c:List Nat) (n:Nat):By (AEu c n):=fun x hx=>ADZ _ _ x hx
theorem KQ (b c:List Nat):(Jb b c).length=b.length:=Nc (by rw[Mn];omega)
theorem Re {b:List Nat} (c:List Nat) (h:By b):By (Jb b c):=ABH h fun x hx=>ADZ _ _ x hx
theorem AEv {w:World} {dom:Nat} (hd:dom<1000) {c:Int} (hc:c=(dom:Int)) {l:List Nat} {s:Value} (hb:By l) (hl:l.length≤1000000) (h:Sl w 1 s l.length (bv l)):Calls Tryz.prog 136 #[.int .u64 c,s] w fun e w'=>e=.returned (Ky (Hm (BitVec.ofNat 64 dom) l))∧w.grownBy w' none:=by
 have e:c=wi (BitVec.ofNat 64 dom):=by rw[hc,←OA,IntKind.wrap_u64];omega
 rw[e]
 exact PB _ l hb (by omega) s w h
theorem AHm {w:World} {dom:Nat} (hd:dom<1000) {c:Int} (hc:c=(dom:Int)) {l:List Nat} {s:Value} (hb:By l) (hl:l.length≤1000000) (h:Sl w 1 s l.length (bv l)):Calls Tryz.prog 101 #[.int .u64 c,s] w fun e w'=>e=.returned (AR (Sf (BitVec.ofNat 64 dom) l))∧w.grownBy w' none:=by
 have e:c=wi (BitVec.ofNat 64 dom):=by rw[hc,←OA,IntKind.wrap_u64];omega
 rw[e]
 exact Wv _ l hb (by omega) s w h
theorem AEw {w:World} {dom:Nat} (hd:dom<1000) {c:Int} (hc:c=(dom:Int)) {k l:List Nat} {s:Value} (hk:Dg k) (hb:By l) (hl:l.length≤1000000) (h:Sl w 1 s l.length (bv l)):Calls Tryz.prog 66 #[.int .u64 c,AR k,s] w fun e w'=>e=.returned (AR (NH (BitVec.ofNat 64 dom) k l))∧w.grownBy w' none:=by
 have e:c=wi (BitVec.ofNat 64 dom):=by rw[hc,←OA,IntKind.wrap_u64];omega
 rw[e]
 exact Mo _ k l hk.1 hk.2 hb (by omega) s w h
theorem AJ8 {w:World} {s:St} {n D:Nat} {T:TypeId} (hn:n≤1000000) (hD:w.heap[D]?=some (.cells (bv (zs n)).toArray T (0,0))):Calls Tryz.prog 135 #[Ky s,.slice (some ⟨D,0,none⟩) n n] w fun e w'=>∃v,e=.returned v∧(v=.tuple #[]∧w.grownBy w' (some D)∧w'.heap[D]?=some (.cells (bv (sq s n)).toArray T (0,0))):=
 (NG s n (by omega) D T w hD).mono fun e w' ⟨h1,h2,h3⟩=>⟨_,h1,rfl,h2,h3⟩
theorem X7 {w:World} {x y:List Nat} {s t:Value} {B:Nat} (hs:Sl w 1 s x.length (bv x)) (ht:Sl w 1 t y.length (bv y)) (hB:w.heap[B]?=some (.cells [s,t].toArray 29 (0,0))) (hx:x.length≤1000000) (hy:y.length≤1000000) :
  Calls Tryz.prog 102 #[.slice (some ⟨B,0,none⟩) 2 2] w fun e w'=>∃v,e=.returned v∧(Own w' 5 1 v (x++y).length (bv (x++y))∧Fresh w w' v):=by
 rw[List.length_append]
 exact PC x y (by omega) (by omega) s t w hs ht B hB
theorem AIu {w w':World} {xs:List Nat} {n cap:Nat} {ao:Option Addr} (hl:xs.length=n) (HG:w.grownBy w' none) (ho:Own w' 5 1 (.slice ao n cap) n (bv xs)) (lo:∀k,Bi (.slice ao n cap) k→w.heap.size≤k) {v:Value} (hv:v=.slice ao n cap):NwR w w' xs (.returned v):=by
 subst hl hv
 exact⟨_,rfl,HG,_,_,rfl,ho,lo⟩
theorem AEx {x y:List Nat} (hx:By x) (hy:By y):By (x++y):=fun b hb=>(List.mem_append.1 hb).elim (hx b) (hy b)
theorem Hr (a:Int) (b:List Nat):Dg (tgC a b):=⟨Gs _ _,OB _ _⟩
theorem EY (c:List Nat) (a:Int) (b:List Nat):Dg (U6 c a b):=⟨Gs _ _,OB _ _⟩
theorem M4 (q:Bool) (ks:List (List Nat)):Dg (U5 q ks):=⟨Gs _ _,OB _ _⟩
theorem AEy {w:World} {b:Nat} {k:List Nat} (hk:Dg k) (h:w.rangeAt b 0 (bv k)):Sl w 1 (.slice (some ⟨b,0,none⟩) 32 32) k.length (bv k):=by
 rw[hk.1]
 refine⟨by rw[AI,hk.1],_,_,rfl,Nat.le_refl _,by unfold maxLen;omega,fun h=>(by cases h),fun ad had=>?_⟩
 obtain rfl:=Option.some.inj had
 exact⟨fun _=>rfl,fun j u hu=>by simpa using h j u hu⟩
theorem X9 (q:List Nat) (hq:Dg q) (n:Nat) (hn:n≤4096) (w:World) :
  Calls Tryz.prog 105 #[.int .u64 284,AR q,.int .i64 ((n:Int))] w fun e w'=>∃v,e=.returned (.tuple #[v,.int .i64 0])∧w.grownBy w' none∧(Sp.row w.heap.size 5 1 n (bv (AEu q n))).on w' v:=by
 refine Dn Tryz.func105 rfl Tryz.ntmps105 rfl fun a0 sv0=>?_
 have HG:=World.grownBy.refl w none
 replace sv0:Sv 24 [] [(0,.int .u64 284),(1,AR q),(2,.int .i64 ((n:Int)))] a0:=sv0
 refine ALl fun K1 k1=>?_
 refine ALk ?_
 refine Bm sv0 r6 (CB q hq.1) fun a2 w2 Od NW g2 z2 B8 sv2=>?_
 replace HG:=AA HG g2
 refine Ax (T:=29) (Z:=[.slice none 0 0]) sv2 rfl rfl rfl (fun a w=>by kernel_rfl) fun a3 w3 AJ9 QM g3 z3 Io sv3=>?_
 have VG:=B7 HG QM
 replace HG:=AA HG g3
 refine Ax (T:=38) (Z:=[.int .i64 0]) sv3 rfl rfl rfl (fun a w=>by kernel_rfl) fun a4 w4 AK2 ABS g4 z4 PO sv4=>?_
 have Ni:=Au Io ABS
 have AGw:=B7 HG ABS
 refine AE ?_
 refine k1 _ _ ?_
 refine ALl fun K5 k5=>?_
 refine ALk ?_
 refine E2 sv4 rfl rfl rfl rfl rfl rfl fun a6 sv6=>?_
 refine Ei sv6 rfl (dd:={ target:=.fn (.func 139) #[pt AJ9,pt AK2],args:=#[] }) rfl (by have e1:=sv6.ev (x:=.tmp 9) rfl rfl;simp[execOp,resolve,Deferred.ofValue,e1];try rfl) fun a7 sv7=>?_
 refine AE ?_
 refine k5 _ _ ?_
 refine ALl fun K8 k8=>?_
 refine ALl fun K9 k9=>?_
 refine ALk ?_
 refine AK sv7 6 [(10,.int .i64 ((n:Int))),(11,.bool false),(12,.bool false),(13,.int .i64 ((n:Int))),(14,.bool false),(15,.bool false)]
  ⟨ym r5,Cq r6 (fun _=>Bk (decide_eq_false (by omega))),ym r5,A1 rq8,BZ rq9 (fun _=>DJ (decide_eq_false (by omega))),BC rq9,ALr⟩ fun a10 w10 g10 Cj=>?_
 refine AE ?_
 refine k9 _ _ ?_
 refine Av Cj rfl rfl ?_
 refine ALp ?_
 refine k8 _ _ ?_
 refine ALl fun K11 k11=>?_
 refine ALk ?_
 refine AK Cj 1 [(16,.int .i64 ((n:Int)))]
  ⟨ym r5,ALr⟩ fun a12 w12 g12 Df=>?_
 have AGx:=AA g10 g12
 replace Io:=AC AGx (AC g4 Io)
 replace PO:=AC AGx PO
 replace HG:=AA (AA HG g4) AGx
 refine ABO (m:=n) Df rfl rfl rfl rfl rfl rfl (by omega) fun a13 w13 Rf Om g13 z13 Nj Dh=>?_
 have Li:=Au Io Om
 have Lj:=Au PO Om
 have UL:=B7 HG Om
 refine Aa (v:=.slice ((some ⟨Rf,0,none⟩)) n n) Dh r6 fun a14 Dl=>?_
 refine AE ?_
 refine k11 _ _ ?_
 refine ALl fun K15 k15=>?_
 refine ALk ?_
 refine AK Dl 2 [(18,.int .u64 284),(19,.slice ((some ⟨Od,0,none⟩)) 32 32)]
  ⟨ym r5,He (l:=none) (u:=none) rfl rfl trivial (oy rfl rfl) trivial trivial (LS Od 0) (fun _=>rfl),ALr⟩ fun a16 w16 g16 Cp=>?_
 replace B8:=AC g16 (AC g13 (AC AGx (AC g4 (AC g3 B8))))
 refine Bo Cp Tryz.func136 (by kernel_rfl) r6 (Rb (AEv (dom:=284) (by decide) rfl hq.2 (by rw[hq.1];decide) (AEy hq (Ai B8)))) fun a17 v17 w17 hR17 Gh=>?_
 obtain⟨rfl,g17⟩:=hR17
 have Ca:Sv _ _ [_,_,_,_,_,_,_,_,_,_,_,_,_,_,_] _:=Gh.dl [18,19,4,0]
 refine AK Ca 1 [(21,.slice ((some ⟨Rf,0,none⟩)) n n)]
  ⟨ym r5,ALr⟩ fun a19 w19 g19 Er=>?_
 replace Nj:=AC g19 (AC g17 (AC g16 Nj))
 refine Bo Er Tryz.func135 (by kernel_rfl) r6 (AJ8 (n:=n) (by omega) Nj) fun a20 v20 w20 hR20 E5=>?_
 obtain⟨rfl,g20,h20⟩:=hR20
 replace Io:=AX g20 (AC g19 (AC g17 (AC g16 (AC g13 Io)))) (Ne.symm Li)
 refine AE ?_
 refine k15 _ _ ?_
 refine ALl fun K21 k21=>?_
 refine ALk ?_
 refine AK E5 1 [(23,.slice ((some ⟨Rf,0,none⟩)) n n)]
  ⟨ym r5,ALr⟩ fun a22 w22 g22 Cv=>?_
 refine Ap Cv r7 (Hu (.slice ((some ⟨Rf,0,none⟩)) n n) rfl) (AC g22 Io) rfl fun w23 g23 h23=>?_
 replace PO:=Ah g22 g23 (AX g20 (AC g19 (AC g17 (AC g16 (AC g13 PO)))) (Ne.symm Lj)) Ni
 refine Ap Cv r7 (Dy 0) PO rfl fun w24 g24 h24=>?_
 replace Io:=AX g24 h23 (Ne.symm Ni)
 replace Nj:=AX g24 (Ah g22 g23 h20 Li) Lj
 replace HG:=AD (AD (AA (AD (AA (AA (AA (AA HG g13) g16) g17) g19) g20 UL) g22) g23 VG) g24 AGw
 replace PO:=h24
 refine AE ?_
 refine k21 _ _ ?_
 refine ALo ?_
 repeat refine AM ?_
 have ho:=ABP (n:=n) Nj (by rw[AI];exact ABR q n) (by omega)
 refine BK (fn:=Tryz.f105) Cv (BU (p:=6) (q:=7) Tryz.results105 Cv rfl rfl rfl rfl (Hu (.slice ((some ⟨Rf,0,none⟩)) n n) rfl) (Dy 0) Io PO) (Bp Tryz.func139 (by kernel_rfl) rfl _ _) (Rc _ _ _) ?_
 exact⟨_,rfl,HG,_,_,rfl,ho,fun k hk=>(Option.some.inj hk)▸UL⟩
theorem AKA {w:World} {k:List Nat} (hk:Dg k) {n:Nat} (hn:n≤4096):Calls Tryz.prog 105 #[.int .u64 284,AR k,.int .i64 (n:Int)] w fun e w'=>∃v,e=.returned v∧(∃ao cap,v=.tuple #[.slice ao n cap,.int .i64 0]∧w.grownBy w' none∧Own w' 5 1 (.slice ao n cap) n (bv (AEu k n))∧∀b,Bi (.slice ao n cap) b→w.heap.size≤b):=
 (X9 k hk n hn w).mono fun e w' ⟨v,h1,h2,ao,cap,h3,h4,h5⟩=>⟨_,h1,ao,cap,by rw[h3],h2,h4,h5⟩
theorem AKB {P:Program} {f:Nat} {args:Array Value} {w w1:World} {u:Value} {n:Nat} {xs:List Value} (h:Calls P f args w1 fun e w'=>e=.returned u∧w.grownBy w' none∧Own w' 5 1 u n xs):Calls P f args w1 fun e w'=>∃v,e=.returned v∧(v=u∧w.grownBy w' none∧Own w' 5 1 u n xs):=h.mono fun e w' ⟨h1,h2,h3⟩=>⟨_,h1,rfl,h2,h3⟩
theorem KR (x:List Nat) (bx:By x) (lx:x.length≤4096) (ao:Option Addr) (cap:Nat) (c:List Nat) (hc:Dg c) (w:World) (hx:SlB w 1 (.slice ao x.length cap) x.length (bv x)) :
  Calls Tryz.prog 57 #[.slice ao x.length cap,AR c] w fun e w'=>NwR w w' (Jb x c) e:=by
 refine Be Tryz.func57 rfl Tryz.ntmps57 rfl fun a0 sv0=>?_
 have HG:=World.grownBy.refl w none
 replace sv0:Sv 20 [] [(0,.slice ao x.length cap),(1,AR c)] a0:=sv0
 refine ALl fun K1 k1=>?_
 refine ALk ?_
 refine Bm sv0 r6 (CB c hc.1) fun a2 w2 Hh JL g2 z2 AZ sv2=>?_
 refine Aa (v:=.slice none 0 0) sv2 r6 fun a3 sv3=>?_
 refine AE ?_
 refine k1 _ _ ?_
 refine ALl fun K4 k4=>?_
 refine ALk ?_
 refine AK sv3 3 [(8,AR c),(9,.slice ao x.length cap),(10,.int .i64 ((x.length:Nat)))]
  ⟨yl r6 (CB c hc.1) AZ,ym r5,Bv (Tryz.underlying29) rfl rfl trivial (oy rfl rfl) (fun _=>rfl),ALr⟩ fun a5 w5 g5 sv5=>?_
 refine Bo sv5 Tryz.func105 (by kernel_rfl) r6 (AKA hc (n:=x.length) lx) fun a6 v6 w6 hR6 sv6=>?_
 obtain⟨ao6,cap6,rfl,g6,hs,fs⟩:=hR6
 have sv7:Sv _ _ [_,_,_,_] _:=sv6.dl [8,9,10,3]
 refine AK sv7 3 [(7,.tuple #[.slice ao6 x.length cap6,.int .i64 0]),(12,.slice ao6 x.length cap6),(13,.int .i64 0)]
  ⟨ym r5,BE rq4 (fun _ _ h=>⟨_,_,h,rfl,rfl⟩),BE rq4 (fun _ _ h=>⟨_,_,h,rfl,rfl⟩),ALr⟩ fun a8 w8 g8 sv8=>?_
 refine Aa (v:=.slice ao6 x.length cap6) sv8 r6 fun a9 sv9=>?_
 refine Aa (v:=.int .i64 0) sv9 r6 fun a10 Cj=>?_
 have CY:Sv _ _ [_,_,_,_] _:=Cj.dl [6,7,12,13,11]
 refine AE ?_
 refine k4 _ _ ?_
 refine ALl fun K12 k12=>?_
 refine ALk ?_
 refine AK CY 2 [(14,.slice ao x.length cap),(15,.int .i64 ((x.length:Nat)))]
  ⟨ym r5,Bv (Tryz.underlying29) rfl rfl trivial (oy rfl rfl) (fun _=>rfl),ALr⟩ fun a13 w13 g13 Dh=>?_
 have AGy:=AA g8 g13
 replace AZ:=AC AGy (AC g6 (AC g5 AZ))
 replace hx:=(((hx.kn g2).kn g5).kn g6).kn AGy
 replace hs:=hs.kn AGy
 replace HG:=AA (AA (AA (AA HG g2) g5) g6) AGy
 refine ABO (m:=x.length) Dh rfl rfl rfl rfl rfl rfl (by omega) fun a14 w14 Rg MH g14 z14 QN Dl=>?_
 have Rh:=Au AZ MH
 have ACo:=B7 HG MH
 have VJ:=A2 (hx.lt) MH
 have VL:=A2 (Own.ltS hs) MH
 refine AK Dl 2 [(17,.slice ao x.length cap),(18,.slice ao6 x.length cap6)]
  ⟨ym r5,ym r5,ALr⟩ fun a15 w15 g15 Pq=>?_
 replace QN:=AC g15 QN
 replace hx:=(hx.kn g14).kn g15
 replace hs:=(hs.kn g14).kn g15
 replace HG:=AA (AA HG g14) g15
 have om:=ABP (n:=x.length) QN (by rw[AI,AIs]) (by omega)
 have AIv:∀k,Bi (.slice ((some ⟨Rg,0,none⟩)) x.length x.length) k→k≠Hh:=fun k hk e=>Rh ((Option.some.inj hk).trans e)
 have ap_hx_om:∀k,Bi (.slice ao x.length cap) k→¬Bi (.slice ((some ⟨Rg,0,none⟩)) x.length x.length) k:=fun k hk e=>VJ k hk (Option.some.inj e).symm
 have ap_hs_om:∀k,Bi (.slice ao6 x.length cap6) k→¬Bi (.slice ((some ⟨Rg,0,none⟩)) x.length x.length) k:=fun k hk e=>VL k hk (Option.some.inj e).symm
 have lo_om:∀k,Bi (.slice ((some ⟨Rg,0,none⟩)) x.length x.length) k→w.heap.size≤k:=fun k hk=>(Option.some.inj hk)▸ACo
 clear QN
 rw[Nf] at om
 have hs2:=(Own.sb hs)
 refine Bo Pq Tryz.func106 (by kernel_rfl) r6 (AKB (ACm x (AEu c x.length) (zs x.length) bx (AIt c _) x.length (by omega) rfl x.length (ABR c _) (Nat.le_refl _) _ _ _ _ _ _ w _ HG om hx hs2 lo_om ap_hx_om ap_hs_om)) fun a16 v16 w16 hR16 Cp=>?_
 obtain⟨rfl,G,oo⟩:=hR16
 refine Aa (v:=.slice ((some ⟨Rg,0,none⟩)) x.length x.length) Cp r6 fun a17 Gh=>?_
 have Ca:Sv _ _ [_,_,_] _:=Gh.dl [19,17,18,16,14,15,5]
 refine AE ?_
 refine k12 _ _ ?_
 refine ALo ?_
 repeat refine AM ?_
 refine BQ (fn:=Tryz.f57) Ca (BT (p:=4) Tryz.results57 Ca rfl rfl) ?_
 exact AIu (KQ x c) G oo lo_om rfl
theorem Jc (a:Int) (ha:Qa a) (x:List Nat) (bx:By x) (lx:x.length≤100000) (ao:Option Addr) (cap:Nat) (w:World) (hx:SlB w 1 (.slice ao x.length cap) x.length (bv x)) :
  Calls Tryz.prog 54 #[.int .i64 a,.slice ao x.length cap] w fun e w'=>e=.returned (AR (tgC a x))∧w.grownBy w' none:=by
 have hle:=FB ha.1 ha.2
 refine Be Tryz.func54 rfl Tryz.ntmps54 rfl fun a0 sv0=>?_
 have HG:=World.grownBy.refl w none
 replace sv0:Sv 11 [] [(0,.int .i64 a),(1,.slice ao x.length cap)] a0:=sv0
 refine ALl fun K1 k1=>?_
 refine ALk ?_
 refine Ax (T:=23) (Z:=(bv AS)) sv0 rfl rfl rfl (fun a w=>by kernel_rfl) fun a2 w2 Od NW g2 z2 B8 sv2=>?_
 have VM:=B7 HG NW
 refine AE ?_
 refine k1 _ _ ?_
 refine ALl fun K3 k3=>?_
 refine ALk ?_
 refine AK sv2 1 [(5,.int .i64 a)]
  ⟨ym r5,ALr⟩ fun a4 w4 g4 sv4=>?_
 refine Bo sv4 Tryz.func103 (by kernel_rfl) r6 (UK (Rd a ha _)) fun a5 v5 w5 hR5 sv5=>?_
 obtain⟨ao5,cap5,rfl,_⟩:=(Sl.of_own hR5.1).shape
 obtain⟨ow5,fr5⟩:=hR5
 replace fr5:=Ef fr5
 have g5:=fr5.1
 replace fr5:=fr5.2
 refine AK sv5 1 [(7,.slice ao x.length cap)]
  ⟨ym r5,ALr⟩ fun a6 w6 g6 sv6=>?_
 refine ABN (cs:=[.slice ao5 ((enc a)).length cap5,.slice ao x.length cap]) (e:=29) sv6 rfl rfl rfl rfl rfl rfl rfl rfl (AJ6 _ _ _ _ _ _) fun a7 w7 ALg AKn g7 z7 AKC sv7=>?_
 replace hx:=((((hx.kn g2).kn g4).kn g5).kn g6).kn g7
 replace ow5:=(ow5.kn g6).kn g7
 refine Bo sv7 Tryz.func102 (by kernel_rfl) r6 (X7 (Sl.of_own ow5) hx.1 AKC (by omega) (by omega)) fun a8 v8 w8 hR8 sv8=>?_
 obtain⟨ao8,cap8,rfl,_⟩:=(Sl.of_own hR8.1).shape
 obtain⟨ow8,fr8⟩:=hR8
 replace fr8:=Ef fr8
 have g8:=fr8.1
 replace fr8:=fr8.2
 refine Bo sv8 Tryz.func101 (by kernel_rfl) r6 (Rb (AHm (dom:=280) (by decide) rfl (AEx (Qb a) bx) (by rw[List.length_append];omega) (Sl.of_own ow8))) fun a9 v9 w9 hR9 sv9=>?_
 obtain⟨rfl,g9⟩:=hR9
 replace B8:=AC g9 (AC g8 (AC g7 (AC g6 (AC g5 (AC g4 B8)))))
 refine Ap sv9 r7 (CB ((tgC a x)) (Hr a x).1) B8 (Hq (Hr a x)) fun w10 g10 h10=>?_
 replace HG:=AD (AA (AA (AA (AA (AA (AA (AA HG g2) g4) g5) g6) g7) g8) g9) g10 VM
 replace B8:=h10
 have CY:Sv _ _ [_] _:=sv9.dl [10,9,8,7,6,5,0,1]
 refine AE ?_
 refine k3 _ _ ?_
 refine ALo ?_
 repeat refine AM ?_
 refine BQ (fn:=Tryz.f54) CY (E4 (p:=4) Tryz.results54 CY rfl rfl (CB ((tgC a x)) (Hr a x).1) B8) ?_
 exact⟨rfl,HG⟩
theorem HH (c:List Nat) (hc:Dg c) (a:Int) (ha:Qa a) (x:List Nat) (bx:By x) (lx:x.length≤100000) (ao:Option Addr) (cap:Nat) (w:World) (hx:SlB w 1 (.slice ao x.length cap) x.length (bv x)) :
  Calls Tryz.prog 58 #[AR c,.int .i64 a,.slice ao x.length cap] w fun e w'=>e=.returned (AR (U6 c a x))∧w.grownBy w' none:=by
 have hle:=FB ha.1 ha.2
 refine Be Tryz.func58 rfl Tryz.ntmps58 rfl fun a0 sv0=>?_
 have HG:=World.grownBy.refl w none
 replace sv0:Sv 14 [] [(0,AR c),(1,.int .i64 a),(2,.slice ao x.length cap)] a0:=sv0
 refine ALl fun K1 k1=>?_
 refine ALk ?_
 refine Bm sv0 r6 (CB c hc.1) fun a2 w2 Hh JL g2 z2 AZ sv2=>?_
 replace HG:=AA HG g2
 refine Ax (T:=23) (Z:=(bv AS)) sv2 rfl rfl rfl (fun a w=>by kernel_rfl) fun a3 w3 AJ9 QM g3 z3 Io sv3=>?_
 have VN:=Au AZ QM
 have VG:=B7 HG QM
 refine AE ?_
 refine k1 _ _ ?_
 refine ALl fun K4 k4=>?_
 have gd5:=CP w3
 replace AZ:=AC gd5 (AC g3 AZ)
 refine wp_region_noPanic ?_
 refine Ma (fun w'=>w'.heap[Hh]?=some (.cells (bv c).toArray 23 (0,0))∧True) [0,1,3] [2,4,5,6,7] (by kernel_rfl) (by kernel_rfl) (fun _ _ d _ _ h=>by cases d<;>exact h) rfl (by kernel_rfl) ⟨AZ,ALr⟩ ?_
 simp only[List.filterMap_cons,List.filterMap_nil,List.getElem?_toArray,List.getElem?_cons_succ,List.getElem?_cons_zero]
 refine AGm sv3 rfl rfl rfl rfl ⟨rfl,rfl⟩ (fun w hS=>Ae (CB c hc.1) (Ai hS.1)) fun a6 sv6=>?_
 refine AHk (v:=.int .i64 a) w3.drew sv6 rfl (by kernel_rfl) (QK 1 8 (.inl rfl) rfl rfl trivial (fun _ _ h=>h)) fun a7 sv7=>?_
 refine AHk (v:=.slice ao x.length cap) w3.drew sv7 rfl (by kernel_rfl) (QK 2 10 (.inl rfl) rfl rfl trivial (fun _ _ h=>h)) fun a8 sv8=>?_
 change wpList _ _ _ _ _ _
 refine Bo sv8 Tryz.func103 (by kernel_rfl) r6 (UK (Rd a ha _)) fun a9 v9 w9 hR9 sv9=>?_
 obtain⟨ao9,cap9,rfl,_⟩:=(Sl.of_own hR9.1).shape
 obtain⟨ow9,fr9⟩:=hR9
 replace fr9:=Ef fr9
 have g9:=fr9.1
 replace fr9:=fr9.2
 replace AZ:=AC g9 AZ
 refine AE ⟨⟨AZ,ALr⟩,?_⟩
 change wpList _ _ _ _ _ _
 refine ABN (cs:=[.slice ao9 ((enc a)).length cap9,.slice ao x.length cap]) (e:=29) sv9 rfl rfl rfl rfl rfl rfl rfl rfl (AJ6 _ _ _ _ _ _) fun a10 w10 AK3 AJP g10 z10 AGz Cj=>?_
 replace AZ:=AC g10 AZ
 replace hx:=((((hx.kn g2).kn g3).kn gd5).kn g9).kn g10
 replace ow9:=ow9.kn g10
 refine AE ⟨⟨AZ,ALr⟩,?_⟩
 change wpList _ _ _ _ _ _
 refine Bo Cj Tryz.func102 (by kernel_rfl) r6 (X7 (Sl.of_own ow9) hx.1 AGz (by omega) (by omega)) fun a11 v11 w11 hR11 CY=>?_
 obtain⟨ao11,cap11,rfl,_⟩:=(Sl.of_own hR11.1).shape
 obtain⟨ow11,fr11⟩:=hR11
 replace fr11:=Ef fr11
 have g11:=fr11.1
 replace fr11:=fr11.2
 replace AZ:=AC g11 AZ
 refine AE ⟨⟨AZ,ALr⟩,?_⟩
 change wpList _ _ _ _ _ _
 refine Bo CY Tryz.func66 (by kernel_rfl) r6 (Rb (AEw (dom:=285) (by decide) rfl hc (AEx (Qb a) bx) (by rw[List.length_append];omega) (Sl.of_own ow11))) fun a12 v12 w12 hR12 Df=>?_
 obtain⟨rfl,g12⟩:=hR12
 replace AZ:=AC g12 AZ
 replace Io:=AC g12 (AC g11 (AC g10 (AC g9 (AC gd5 Io))))
 refine AE ⟨⟨AZ,ALr⟩,?_⟩
 change wpList _ _ _ _ _ _
 refine Ap Df r7 (CB ((U6 c a x)) (EY c a x).1) Io (Hq (EY c a x)) fun w13 g13 h13=>?_
 replace AZ:=AX g13 AZ (Ne.symm VN)
 replace HG:=AD (AA (AA (AA (AA (AA (AA HG g3) gd5) g9) g10) g11) g12) g13 VG
 replace Io:=h13
 refine AE ⟨⟨AZ,ALr⟩,?_⟩
 refine NoPanic.normal ?_
 have Dl:Sv _ _ [_,_] _:=Df.dl [13,12,11,9,10,8,7,3,1,2]
 refine k4 _ _ ?_
 refine ALo ?_
 repeat refine AM ?_
 refine BQ (fn:=Tryz.f58) Dl (E4 (p:=6) Tryz.results58 Dl rfl rfl (CB ((U6 c a x)) (EY c a x).1) Io) ?_
 exact⟨rfl,HG⟩
def Ce (a:Int) (os:Value) (j:Int) (ws bs:Value) (tg:List Nat):Value:=.agg ([[.int .i64 a],[os],[.int .i64 j],[ws],[bs],bv tg].flatten).toArray
theorem Fg {x y:List Nat} (hx:Dg x) (hy:Dg y) {a j b k:Int} {os ws bs os' ws' bs':Value}:([[.int .i64 a],[os],[.int .i64 j],[ws],[bs],bv x].flatten).length=([[.int .i64 b],[os'],[.int .i64 k],[ws'],[bs'],bv y].flatten).length:=by simp[AI,hx.1,hy.1]
theorem FL (a j:Int) {tg:List Nat} (ht:Dg tg) (os ws bs:Value) (h1:os.oneCell'=true) (h2:ws.oneCell'=true) (h3:bs.oneCell'=true):TY Tryz.prog 31 ([[.int .i64 a],[os],[.int .i64 j],[ws],[bs],bv tg].flatten) (Ce a os j ws bs tg):=by
 refine TY.agg Tryz.underlying31 rfl ?_ ?_
 · rw[show([[.int .i64 a],[os],[.int .i64 j],[ws],[bs],bv tg].flatten).length=37 by simp[AI,ht.1]]
   kernel_rfl
 · intro c hc
   simp only[List.flatten_cons,List.flatten_nil,List.append_nil,List.mem_append,List.mem_singleton] at hc
   rcases hc with rfl|rfl|rfl|rfl|rfl|hc
   · rfl
   · exact h1
   · rfl
   · exact h2
   · exact h3
   · exact H0 _ _ hc
theorem AG0 (w:World):(Instr.build 31 #[]).run Tryz.prog w=.ok (Ce 0 (.slice none 0 0) 0 (.slice none 0 0) (.slice none 0 0) AS) w:=by kernel_rfl
theorem AK4 (a:Int) (ao:Option Addr) (n c:Nat) (j:Int) (w:World):(Instr.build 31 #[(0,.int .i64 a),(1,.slice ao n c),(2,.int .i64 j)]).run Tryz.prog w=.ok (Ce a (.slice ao n c) j (.slice none 0 0) (.slice none 0 0) AS) w:=by kernel_rfl
theorem Eu (x:Int):TY Tryz.prog 3 [.int .i64 x] (.int .i64 x):=TY.one' Tryz.underlying3 rfl (by kernel_rfl) rfl
def fl (ds:List DD) (i:Nat):List Nat:=(ds.take i).flatMap DD.x
theorem ABT {ds:List DD} {i:Nat} {x:DD} (hi:i<ds.length) (hx:ds[i]=x):fl ds (i+1)=fl ds i++x.x:=by
 unfold fl
 rw[List.take_add_one,List.getElem?_eq_getElem hi,hx,List.flatMap_append]
 simp
theorem AAR (d:BitVec 64) (l:List Nat):Dg (Sf d l):=⟨Gs _ _,OB _ _⟩
theorem AIw {ds:List DD}:∀{i:Nat},i≤ds.length→(fl ds i).length=32*i
 | 0,_=>rfl
 | i+1,h=>by rw[ABT (i:=i) (by omega) rfl,List.length_append,AIw (by omega),(ds[i]).h.1];omega
theorem AKD (ds:List DD) (i:Nat):By (fl ds i):=fun b hb=>by
 obtain⟨d,_,hd⟩:=List.mem_flatMap.1 hb
 exact d.h.2 b hd
theorem AIx {ds:List DD} {i:Nat} (h:ds.length≤i):fl ds i=(ds.map DD.x).flatten:=by
 unfold fl
 rw[List.take_of_length_le h,List.flatMap_def]
theorem AEz {w:World} {b:Nat} {k:List Nat} (hk:Dg k) (h:w.rangeAt b 0 (bv k)):Sl w 1 (.slice (some ⟨b,0,none⟩) 32 32) 32 (bv k):=by
 have:=AEy hk h
 rwa [hk.1] at this
theorem AKE {w:World} {v:Value} {ds:List DD} {i:Nat} (hi:i≤ds.length) (h:Sl w 1 v (32*i) (bv (fl ds i))):Sl w 1 v (fl ds i).length (bv (fl ds i)):=by rw[AIw hi];exact h
theorem AG1 (ds:List DD):(ds.flatMap Lf).all Value.oneCell'=true:=by
 rw[List.all_eq_true]
 intro v hv
 obtain⟨d,_,hd⟩:=List.mem_flatMap.1 hv
 exact H0 _ _ hd
theorem AK5 {a b:List Nat} (h:a=b):Ending.returned (AR a)=Ending.returned (AR b):=by rw[h]
theorem EF (w:World):CallsD Tryz.prog 69 #[] .returning w fun e u' w'=>e=.returned (.tuple #[])∧u'=.returning∧w'=w:=by
 refine callsD_of_wpS Tryz.func69 rfl fun c₀ cs hu=>?_
 apply wpS_region
 simp[wpOpsS,go_sem,recoverD,hu,Tryz.ntmps69]
 cases c₀
 simp_all [bodyPostS,results,Tryz.results69]
theorem ACp (joint:Int) (ds:List DD) (ao:Option Addr) (cap:Nat) (w:World) (hr:RdD w (.slice ao ds.length cap) ds) (hl:ds.length≤1000) :
   Calls Tryz.prog 55 #[.int .i64 joint,.slice ao ds.length cap] w fun e w'=>e=.returned (AR (U5 (decide (joint=1)) (ds.map DD.x)))∧w.grownBy w' none:=by
 obtain⟨dm,hdm⟩:∃dm:Nat,dm=if decide (joint=1)=true then 282 else 281:=⟨_,rfl⟩
 have hdl:dm<1000:=by rw[hdm];split<;>decide
 refine Be Tryz.func55 rfl Tryz.ntmps55 rfl fun a0 sv0=>?_
 have HG:=World.grownBy.refl w none
 replace sv0:Sv 24 [] [(0,.int .i64 joint),(1,.slice ao ds.length cap)] a0:=sv0
 refine ALl fun K1 k1=>?_
 refine ALk ?_
 refine Ax (T:=23) (Z:=(bv AS)) sv0 rfl rfl rfl (fun a w=>by kernel_rfl) fun a2 w2 Od NW g2 z2 B8 sv2=>?_
 have VM:=B7 HG NW
 replace hr:=hr.kn g2
 replace HG:=AA HG g2
 refine AE ?_
 refine k1 _ _ ?_
 refine ALl fun K3 k3=>?_
 refine ALk ?_
 refine Aa (v:=.int .u64 281) sv2 r6 fun a4 sv4=>?_
 refine AE ?_
 refine k3 _ _ ?_
 refine ALl fun K5 k5=>?_
 suffices MG6:∀(a':Act) (w':World),Sv 24 [] [(5,.int .u64 ((dm:Int))),(4,pt Od),(0,.int .i64 joint),(1,.slice ao ds.length cap)] a'→w.grownBy w' none→w'.heap[Od]?=some (.cells ((bv AS)).toArray 23 (0,0))→(RdD w' (.slice ao ds.length cap) ds)→K5 a' w' by
   by_cases hj:joint=1
   · obtain rfl:dm=282:=by rw[hdm,decide_eq_true hj];rfl
     refine ALl fun K7 k7=>?_
     refine ALk ?_
     refine AK sv4 2 [(9,.int .i64 joint),(10,.bool true)]
      ⟨ym r5,Cq r6 (fun _=>CQ (by simpa using hj)),ALr⟩ fun a8 w8 g8 sv8=>?_
     refine AE ?_
     refine k7 _ _ ?_
     refine Ar sv8 rfl rfl ?_
     refine ALk ?_
     refine Aa (v:=.int .u64 282) sv8 r6 fun a9 sv9=>?_
     refine AE ?_
     replace B8:=AC g8 B8
     replace hr:=hr.kn g8
     replace HG:=AA HG g8
     have svm:Sv 24 [] [(5,_),(4,_),(0,_),(1,_)] a9:=⟨sv9.1,sv9.2.1,sv9.2.2.1,sv9.2.2.2.2.2.1,sv9.2.2.2.2.2.2.1,sv9.2.2.2.2.2.2.2.1,ALr⟩
     exact MG6 _ _ svm HG B8 hr
   · obtain rfl:dm=281:=by rw[hdm,decide_eq_false hj];rfl
     refine ALl fun K10 k10=>?_
     refine ALk ?_
     refine AK sv4 2 [(9,.int .i64 joint),(10,.bool false)]
      ⟨ym r5,Cq r6 (fun _=>CQ (by simpa using hj)),ALr⟩ fun a11 w11 g11 CY=>?_
     refine AE ?_
     refine k10 _ _ ?_
     refine Av CY rfl rfl ?_
     refine ALp ?_
     replace B8:=AC g11 B8
     replace hr:=hr.kn g11
     replace HG:=AA HG g11
     have svm:Sv 24 [] [(5,_),(4,_),(0,_),(1,_)] a11:=⟨CY.1,CY.2.1,CY.2.2.2.2.1,CY.2.2.2.2.2.1,CY.2.2.2.2.2.2.1,CY.2.2.2.2.2.2.2.1,ALr⟩
     exact MG6 _ _ svm HG B8 hr
 clear B8
 clear hr
 clear HG
 intro a6 w6 sv6 HG B8 hr
 refine k5 _ _ ?_
 refine ALl fun K12 k12=>?_
 refine ALk ?_
 refine Aa (v:=.slice none 0 0) sv6 r6 fun a13 Dh=>?_
 refine AE ?_
 refine k12 _ _ ?_
 refine ALl fun K14 k14=>?_
 refine ALl fun K15 k15=>?_
 refine ALk ?_
 refine AK Dh 3 [(11,.slice ao ds.length cap),(12,.int .i64 ((ds.length:Nat))),(13,.int .i64 0)]
   ⟨ym r5,Bv (Tryz.underlying28) rfl rfl trivial (oy rfl rfl) (fun _=>rfl),E3 (.inl rfl) rfl trivial (fun _=>rfl),ALr⟩ fun a16 w16 g16 Cp=>?_
 refine AE ?_
 refine k15 _ _ ?_
 refine BF fun Q17 x17 y17 rt17 o17=>?_
 replace B8:=AC g16 B8
 replace hr:=hr.kn g16
 replace HG:=AA HG g16
 have ob:=Own.nil w16 5 1
 have Ip:=Kq Od
 have ap_hr_ob:=Kr (Bi (.slice ao ds.length cap))
 have lo_ob:=ACO w
 refine wp_loop (fun a w'=>∃(i:Nat) (bo:Option Addr) (bc:Nat),(i≤ds.length)∧Sv 24 [] [(13,.int .i64 ((i:Int))),(6,.slice bo (32*i) bc),(11,.slice ao ds.length cap),(12,.int .i64 ((ds.length:Nat))),(5,.int .u64 ((dm:Int))),(4,pt Od),(0,.int .i64 joint),(1,.slice ao ds.length cap)] a∧w.grownBy w' none∧w'.heap[Od]?=some (.cells ((bv AS)).toArray 23 (0,0))∧RdD w' (.slice ao ds.length cap) ds∧Own w' 5 1 (.slice bo (32*i) bc) ((32*i)) (bv ((fl ds i)))∧(∀k,Bi (.slice bo (32*i) bc) k→k≠Od)∧(∀k,Bi (.slice ao ds.length cap) k→¬Bi (.slice bo (32*i) bc) k)∧(∀k,Bi (.slice bo (32*i) bc) k→w.heap.size≤k)) (fun a _=>(ds.length-intOf (a.tmps.getD 13 undef)).toNat) ⟨0,none,0,Nat.zero_le _,⟨Cp.1,Cp.2.1,Cp.2.2.2.2.1,Cp.2.2.2.2.2.1,Cp.2.2.1,Cp.2.2.2.1,Cp.2.2.2.2.2.2.1,Cp.2.2.2.2.2.2.2.1,(AH Cp).1,(AH Cp).2.1,ALr⟩,HG,B8,hr,ob,Ip,ap_hr_ob,lo_ob⟩ fun a18 w18 hI18=>?_
 clear B8
 clear hr
 clear ob
 clear HG
 obtain⟨i,bo,bc,hin,Ca,HG,B8,hr,ob,Ip,ap_hr_ob,lo_ob⟩:=hI18
 refine ALl fun K19 k19=>?_
 by_cases hi:i<ds.length
 · obtain⟨x,hx_x⟩:∃zx,ds[i]'hi=zx:=⟨_,rfl⟩
   have hfs:=ABT hi hx_x
   refine ALk ?_
   refine AK Ca 1 [(14,.bool true)]
     ⟨Ho r7 (fun _=>Bk (by simp;omega)),ALr⟩ fun a20 w20 g20 E5=>?_
   refine AE ?_
   refine k19 _ _ ?_
   refine ALl fun K21 k21=>?_
   refine Ar E5 rfl rfl ?_
   refine ALp ?_
   refine k21 _ _ ?_
   refine ALl fun K22 k22=>?_
   refine BF fun Q23 x23 y23 rt23 o23=>?_
   refine ALl fun K24 k24=>?_
   refine ALk ?_
   replace hr:=hr.kn g20
   refine AK E5 2 [(15,pk ((bO ao)) (oO ao+i*32)),(16,AR x.x)]
     ⟨BJ rq8 (fun w=>CW Tryz.underlying28 (by kernel_rfl) (hr.1) (by omega) (rfl) w),CD r6 (fun _ g=>Ae (CB x.x x.h.1) (by have:=DS (hr.kn g).1 G0 hi (by decide);rw[hx_x] at this;exact this)),ALr⟩ fun a25 w25 g25 DM=>?_
   replace B8:=AC g25 (AC g20 B8)
   replace hr:=hr.kn g25
   replace ob:=(ob.kn g20).kn g25
   replace HG:=AA (AA HG g20) g25
   refine Ax (T:=23) (Z:=(bv AS)) DM rfl rfl rfl (fun a w=>by kernel_rfl) fun a26 w26 AHn Nk g26 z26 AAS Co=>?_
   have S6:=Au B8 Nk
   have AE0:=B7 HG Nk
   have YL:=A2 (hr.lt) Nk
   have YN:=A2 (Own.ltS ob) Nk
   refine Ap Co r7 (CB x.x x.h.1) AAS (Hq x.h) fun w27 g27 h27=>?_
   refine AE ?_
   refine k24 _ _ ?_
   refine ALk ?_
   refine AK Co 2 [(17,.slice bo (32*i) bc),(18,.slice ((some ⟨AHn,0,none⟩)) 32 32)]
     ⟨ym r5,He (l:=none) (u:=none) rfl rfl trivial (oy rfl rfl) trivial trivial (LS AHn 0) (fun _=>rfl),ALr⟩ fun a28 w28 g28 LU=>?_
   replace B8:=AC g28 (AX g27 (AC g26 B8) (Ne.symm S6))
   replace AAS:=AC g28 h27
   replace hr:=((hr.kn g26).offR g27 (AU YL)).kn g28
   replace ob:=((ob.kn g26).offR g27 (AU YN)).kn g28
   replace HG:=AA (AD (AA HG g26) g27 AE0) g28
   refine Mx EA LU rfl rfl rfl rfl rfl rfl rfl rfl ob (AEz x.h (Ai AAS)) (Ha _) (by omega) fun a29 ao29 cap29 w29 owx29 Cl Cc=>?_
   have S7:=Ko Cl.2 Ip B8
   have YO:=Kp Cl.2 ap_hr_ob (hr.lt)
   have AE1:=Zm Cl.2 lo_ob HG
   replace B8:=AF Cl.1 B8 (fun e=>Ip _ e.symm rfl)
   replace hr:=hr.offR Cl.1 (fun k hk e=>ap_hr_ob k hk (e))
   replace HG:=Bh HG Cl.1 fun k e=>lo_ob k (e)
   rw[←Dm,←hfs] at owx29
   refine Aa (v:=.slice ao29 (32*i+32) cap29) Cc r6 fun a30 Es=>?_
   refine AE ?_
   refine y23 _ _ ?_
   refine k22 _ _ ?_
   refine ALk ?_
   refine AK Es 1 [(20,.int .i64 (((i+1:Nat):Int)))]
     ⟨Cq r6 (fun _=>DK (by rw[BA (by omega) (by omega)];omega)),ALr⟩ fun a31 w31 g31 GO=>?_
   refine AK (GO.dl [13]) 1 [(13,.int .i64 (((i+1:Nat):Int)))]
     ⟨ym r5,ALr⟩ fun a32 w32 g32 Ck=>?_
   have AG2:=AA g31 g32
   refine AE ?_
   replace B8:=AC AG2 B8
   replace hr:=hr.kn AG2
   replace owx29:=owx29.kn AG2
   replace HG:=AA HG AG2
   exact⟨⟨i+1,ao29,cap29,by omega,⟨Ck.1,Ck.2.1,Ck.2.2.1,Ck.2.2.2.2.1,(AH Ck).2.2.2.2.1,(AH Ck).2.2.2.2.2.1,(AH Ck).2.2.2.2.2.2.1,(AH Ck).2.2.2.2.2.2.2.1,(AH (AH Ck)).1,(AH (AH Ck)).2.1,ALr⟩,HG,B8,hr,owx29,S7,YO,AE1⟩,by rw[show _=_ from Ck.2.2.1,show _=_ from Ca.2.2.1];simp[intOf];omega⟩
 · have hall:=AIx (ds:=ds) (i:=i) (by omega)
   refine ALk ?_
   refine AK Ca 1 [(14,.bool false)]
     ⟨Ho r7 (fun _=>Bk (by simp;omega)),ALr⟩ fun a33 w33 g33 Ku=>?_
   refine AE ?_
   refine k19 _ _ ?_
   refine ALl fun K34 k34=>?_
   refine Av Ku rfl rfl ?_
   refine wp_exit ?_
   repeat refine CJ ?_
   refine x17 _ _ ?_
   refine k14 _ _ ?_
   refine ALl fun K35 k35=>?_
   refine ALk ?_
   refine AK Ku 2 [(21,.int .u64 ((dm:Int))),(22,.slice bo (32*i) bc)]
     ⟨ym r5,ym r5,ALr⟩ fun a36 w36 g36 FS=>?_
   have RE:=AA g33 g36
   replace ob:=ob.kn RE
   refine Bo FS Tryz.func101 (by kernel_rfl) r6 (Rb (AHm (dom:=dm) hdl rfl (AKD ds i) (by rw[AIw (by omega)];omega) (AKE (by omega) (Sl.of_own ob)))) fun a37 v37 w37 hR37 IG=>?_
   obtain⟨rfl,g37⟩:=hR37
   replace B8:=AC g37 (AC RE B8)
   refine Ap IG r7 (CB ((Sf (BitVec.ofNat 64 dm) (fl ds i))) (AAR _ _).1) B8 (Hq (AAR _ _)) fun w38 g38 h38=>?_
   replace ob:=(ob.kn g37).offR g38 (AU Ip)
   replace HG:=AD (AA (AA HG RE) g37) g38 VM
   replace B8:=h38
   refine AE ?_
   refine k35 _ _ ?_
   refine ALo ?_
   repeat refine AM ?_
   refine BQ (fn:=Tryz.f55) IG (E4 (p:=4) Tryz.results55 IG rfl rfl (CB ((Sf (BitVec.ofNat 64 dm) (fl ds i))) (AAR _ _).1) B8) ?_
   exact⟨AK5 (by rw[hall,hdm];rfl),HG⟩
end Go.Proofs.YtbfjfnbcmojpiaaGreat
