import Derived.Test.YtbfjfnbcmojpiaaGreatSeY3
import Derived.Test.YtbfjfnbcmojpiaaGreatSeR1
set_option linter.unusedSimpArgs false
set_option linter.unusedVariables false
set_option maxRecDepth 100000
set_option maxHeartbeats 4000000
namespace Go.Proofs.YtbfjfnbcmojpiaaGreat
open Go.RowKit Go.Shelf
theorem Jq {P:Program} {f:Nat} {args:Array Value} {w:World} {v:Value} (h:Calls P f args w fun e w'=>e=.returned v∧w.grownBy w' none):Calls P f args w fun e w'=>∃v',e=.returned v'∧(v'=v∧w.grownBy w' none):=h.mono fun e w' ⟨h1,h2⟩=>⟨v,h1,rfl,h2⟩
section
variable {P:Program} {Q:Exit→Act→World→Prop} {ops:Array Oper} {rest:List Oper} {o:Oper} {a:Act} {w:World} {n:Nat} {D:List Deferred} {K:List (Nat×Value)}
theorem U7 (sv:Sv n D K a) (hgd:o.guard=none) {d:Nat} {t e:TypeId} (ho:o.op=.buildSlice t 0 #[]) (hd:o.dst=some d) (hdn:decide (d<n)=true)
  (hr:∀W:World,(Instr.buildSlice t 0 #[]).run P W=.ok (.slice (some ⟨W.heap.size,0,none⟩) 0 0) (W.alloc (.cells #[] e)))
  (h:∀a' w' b,b=w.heap.size→w.grownBy w' none→w'.heap.size=b+1→w'.heap[b]?=some (.cells #[] e (0,0))→Sv n D ((d,.slice (some ⟨b,0,none⟩) 0 0)::JU d K) a'→wpList P ops Q rest a' w'):wpList P ops Q (o::rest) a w:=by
 refine Mi (w':=w.alloc (.cells #[] e)) sv hgd hd hdn ?_ fun a' sv'=>h a' _ _ rfl (World.grownBy_alloc _ _ _) (by simp) (Aj rfl) sv'
 simp only[execOp,ho,List.map_toArray,List.map_nil,Sem.run_bind,Sem.run_pure,Result.andThen_ok,hr]
theorem Qc {B:Nat} {t:TypeId} {sz:Nat} (h:w.heap[B]?=some (.cells #[] t (0,0))):Own w t sz (.slice (some ⟨B,0,none⟩) 0 0) 0 []:=
 ⟨by simp,.inr ⟨B,0,_,rfl,Nat.zero_le _,h,Nat.le_refl _,Nat.zero_le _,by simp,by simp⟩⟩
theorem KQ (sv:Sv n D K a) (hgd:o.guard=none) {d:Nat} {t e:TypeId} {x:Operand} {u:Value} {cs:List Value} (ho:o.op=.buildSlice t 1 #[(0,x)]) (hd:o.dst=some d) (hdn:decide (d<n)=true) (hx:Mg K x=true) (hxv:Mh K x=u)
  (hr:∀W:World,(Instr.buildSlice t 1 #[(0,u)]).run P W=.ok (.slice (some ⟨W.heap.size,0,none⟩) 1 1) (W.alloc (.cells cs.toArray e)))
  (h:∀a' w' b,b=w.heap.size→w.grownBy w' none→w'.heap.size=b+1→w'.heap[b]?=some (.cells cs.toArray e (0,0))→Sv n D ((d,.slice (some ⟨b,0,none⟩) 1 1)::JU d K) a'→wpList P ops Q rest a' w'):wpList P ops Q (o::rest) a w:=by
 refine Mi (w':=w.alloc (.cells cs.toArray e)) sv hgd hd hdn ?_ fun a' sv'=>h a' _ _ rfl (World.grownBy_alloc _ _ _) (by simp) (Aj rfl) sv'
 have e:=sv.ev hx hxv
 simp only[execOp,ho,e,List.map_toArray,List.map_cons,List.map_nil,Sem.run_bind,Sem.run_pure,Result.andThen_ok,hr]
theorem ABX (sv:Sv n D K a) (hgd:o.guard=none) {d:Nat} {t e:TypeId} {x y:Operand} {u v:Value} {cs:List Value} (ho:o.op=.buildSlice t 2 #[(0,x),(1,y)]) (hd:o.dst=some d) (hdn:decide (d<n)=true) (hx:Mg K x=true) (hxv:Mh K x=u) (hy:Mg K y=true) (hyv:Mh K y=v)
  (hr:∀W:World,(Instr.buildSlice t 2 #[(0,u),(1,v)]).run P W=.ok (.slice (some ⟨W.heap.size,0,none⟩) 2 2) (W.alloc (.cells cs.toArray e)))
  (h:∀a' w' b,b=w.heap.size→w.grownBy w' none→w'.heap.size=b+1→w'.heap[b]?=some (.cells cs.toArray e (0,0))→Sv n D ((d,.slice (some ⟨b,0,none⟩) 2 2)::JU d K) a'→wpList P ops Q rest a' w'):wpList P ops Q (o::rest) a w:=by
 refine Mi (w':=w.alloc (.cells cs.toArray e)) sv hgd hd hdn ?_ fun a' sv'=>h a' _ _ rfl (World.grownBy_alloc _ _ _) (by simp) (Aj rfl) sv'
 have e1:=sv.ev hx hxv
 have e2:=sv.ev hy hyv
 simp only[execOp,ho,e1,e2,List.map_toArray,List.map_cons,List.map_nil,Sem.run_bind,Sem.run_pure,Result.andThen_ok,hr]
end
section
variable {Q:Exit→Act→World→Prop} {ops:Array Oper} {rest:List Oper} {o:Oper} {a:Act} {w:World} {n:Nat} {D:List Deferred} {K:List (Nat×Value)}
theorem AGy (m:Nat):madeCells (Value.int .u8 0).cells (m*1)=(bv (zs m)).toArray:=by
 apply Array.ext'
 rw[QG (z:=.int .u8 0) (sz:=1) rfl (by decide)]
 induction m with
 | zero=>rfl
 | succ m ih=>rw[List.replicate_succ,List.flatMap_cons,ih];rfl
theorem ABY {m:Nat} (sv:Sv n D K a) (hgd:o.guard=none) {d:Nat} {x:Operand} (ho:o.op=.makeSlice 29 x x) (hd:o.dst=some d) (hdn:decide (d<n)=true) (hx:Mg K x=true) (hxv:Mh K x=.int .i64 (m:Int)) (hm:m≤1000000)
  (h:∀a' w' b,b=w.heap.size→w.grownBy w' none→w'.heap.size=b+1→w'.heap[b]?=some (.cells (bv (zs m)).toArray 5 (0,0))→Sv n D ((d,.slice (some ⟨b,0,none⟩) m m)::JU d K) a'→wpList Tryz.prog ops Q rest a' w'):wpList Tryz.prog ops Q (o::rest) a w:=by
 refine Mi (w':=w.alloc (.cells (bv (zs m)).toArray 5)) sv hgd hd hdn ?_ fun a' sv'=>h a' _ _ rfl (World.grownBy_alloc _ _ _) (by simp) (Aj rfl) sv'
 have e:=sv.ev hx hxv
 obtain⟨i,hi,hz,hs,hby⟩:=DF.inf
 have hb:=DF.bnd
 have hbytes:(i.bytes:Int)*(m:Int)≤281474976710656:=by rw[hby];omega
 have hr:=run_make (P:=Tryz.prog) w 29 5 i (.int .u8 0) DF.und hi hz .i64 .i64 (m:Int) (m:Int) (by omega) (by omega) hbytes (by omega)
 rw[hs,Int.toNat_natCast,AGy] at hr
 simp only[execOp,ho,e,Sem.run_bind,Sem.run_pure,Result.andThen_ok,hr]
theorem ABZ {B n:Nat} {xs:List Value} {t:TypeId} (h:w.heap[B]?=some (.cells xs.toArray t (0,0))) (hl:xs.length=n) (hn:n≤1000000):Own w t 1 (.slice (some ⟨B,0,none⟩) n n) n xs:=by
 subst hl
 refine⟨by rw[Nat.mul_one],.inr ⟨B,xs.length,_,rfl,Nat.zero_le _,h,Nat.le_refl _,by unfold maxLen;omega,by simp,?_⟩⟩
 rw[Nat.mul_one,List.take_of_length_le (by simp)]
end
theorem AIr (n:Nat):(zs n).length=n:=List.length_replicate
theorem U8 (w:World):CallsD Tryz.prog 138 #[] .returning w fun e u' w'=>e=.returned (.tuple #[])∧u'=.returning∧w'=w:=by
 refine callsD_of_wpS Tryz.func138 rfl fun c₀ cs hu=>?_
 apply wpS_region
 simp[wpOpsS,go_sem,recoverD,hu,Tryz.ntmps138]
 cases c₀
 simp_all [bodyPostS,results,Tryz.results138]
theorem U9 (w:World):CallsD Tryz.prog 98 #[] .returning w fun e u' w'=>e=.returned (.tuple #[])∧u'=.returning∧w'=w:=by
 refine callsD_of_wpS Tryz.func98 rfl fun c₀ cs hu=>?_
 apply wpS_region
 simp[wpOpsS,go_sem,recoverD,hu,Tryz.ntmps98]
 cases c₀
 simp_all [bodyPostS,results,Tryz.results98]
theorem Qd (p q:Value) (w:World):CallsD Tryz.prog 139 #[p,q] .returning w fun e u' w'=>e=.returned (.tuple #[])∧u'=.returning∧w'=w:=by
 refine callsD_of_wpS Tryz.func139 rfl fun c₀ cs hu=>?_
 apply wpS_seq
 apply wpS_region
 simp[wpOpsS,go_sem,recoverD,hu,Tryz.ntmps139,Exit.thenS]
 refine wpS_cond (t:=false) (by simp[Act.eval,Array.replicate]) ?_
 simp only[Bool.false_eq_true,if_false]
 refine wpS_of_wp (ALe ?_)
 cases c₀
 simp_all [bodyPostS,results,Tryz.results139]
theorem NN {P:Program} {f:Nat} {args:Array Value} {w:World} {xs:List Nat} (h:Calls P f args w fun e w'=>NwR w w' xs e):Calls P f args w fun e w'=>∃v,e=.returned v∧(Own w' 5 1 v xs.length (bv xs)∧Fresh w w' v):=
 h.mono fun e w' ⟨v,h1,h2,ao,cap,h3,h4,h5⟩=>⟨v,h1,h3▸h4,⟨by simpa [Np,Value.ownBlock] using h2,fun k hk=>.inr (h5 k (h3▸hk))⟩⟩
theorem AGz {w:World} {B:Nat} {t:TypeId} {a:Int} (hb:w.heap[B]?=some (.cells [.int .i64 a].toArray t (0,0))) (h:Mw a):Calls Tryz.prog 132 #[.slice none 0 0,.slice (some ⟨B,0,none⟩) 1 1] w fun e w'=>∃v,e=.returned v∧(Own w' 5 1 v (enc a).length (bv (enc a))∧Fresh w w' v):=by
 have:=Td Np (.slice (some ⟨B,0,none⟩) 1 1) [] [a] w (Own.nil _ _ _) (UZ hb ⟨rfl,by decide⟩) (.inr (by simp[Np,Value.ownBlock])) (fun n hn=>by simp at hn;subst hn;exact h) (by simp)
 simpa using this
theorem AHr {w:World} {v:Value} {ys:List Nat} (h:Sl w 1 v ys.length (bv ys)) (hm:0<ys.length) (hl:ys.length≤3000000):Calls Tryz.prog 99 #[.slice none 0 0,v] w fun e w'=>∃v,e=.returned v∧(Own w' 5 1 v ys.length (bv ys)∧Fresh w w' v):=by
 have:=Wo Np v [] ys w (Sl.nil w 1) h hm (by simp;omega)
 simpa using this
theorem ABa (a:Int):0<(enc a).length:=by
 unfold enc
 by_cases h:zig a<128
 · rw[Gm h];simp
 · rw[Jz h];simp
theorem AEs (x:V):0<(BD x).length:=by
 unfold BD Nt
 rw[List.length_append]
 have:=ABa x.clean.kind
 omega
theorem AJx (a:Int) (W:World):(Instr.buildSlice 74 1 #[(0,.int .i64 a)]).run Tryz.prog W=.ok (.slice (some ⟨W.heap.size,0,none⟩) 1 1) (W.alloc (.cells [.int .i64 a].toArray 2)):=by kernel_rfl
theorem AJy (ao bo:Option Addr) (n m c d:Nat) (W:World):(Instr.buildSlice 151 2 #[(0,.slice ao n c),(1,.slice bo m d)]).run Tryz.prog W=.ok (.slice (some ⟨W.heap.size,0,none⟩) 2 2) (W.alloc (.cells [.slice ao n c,.slice bo m d].toArray 29)):=by kernel_rfl
theorem AG0 {w:World} (x:V):Calls Tryz.prog 100 #[.slice none 0 0,Bp x] w fun e w'=>∃v,e=.returned v∧(Own w' 5 1 v (BD x).length (bv (BD x))∧Fresh w w' v):=by
 have:=ADk Np x [] w (Own.nil _ _ _) (by simp)
 rw[List.nil_append] at this
 exact this
theorem Qe (n:Int) (hn:Mw n) (w:World) :
  Calls Tryz.prog 103 #[.slice none 0 0,.int .i64 n] w fun e w'=>NwR w w' (enc n) e:=by
 have hl:=DX hn.1 hn.2
 refine Eu Tryz.func103 rfl Tryz.ntmps103 rfl fun a0 sv0=>?_
 have HG:=World.grownBy.refl w none
 replace sv0:Sv 10 [] [(0,.slice none 0 0),(1,.int .i64 n)] a0:=sv0
 refine ALa fun K1 k1=>?_
 refine ALZ ?_
 refine AX (v:=.slice none 0 0) sv0 r6 fun a2 sv2=>?_
 refine AE ?_
 refine k1 _ _ ?_
 refine ALa fun K3 k3=>?_
 refine ALZ ?_
 refine Fe sv2 rfl (dd:={ target:=.fn (.func 138) #[],args:=#[] }) rfl (by simp[execOp,resolve,Deferred.ofValue];try rfl) fun a4 sv4=>?_
 refine AE ?_
 refine k3 _ _ ?_
 refine ALa fun K5 k5=>?_
 refine ALZ ?_
 refine AH sv4 2 [(5,.slice none 0 0),(6,.int .i64 n)]
  ⟨ym r5,ym r5,ALg⟩ fun a6 w6 g6 sv6=>?_
 refine KQ (cs:=[.int .i64 n]) (e:=2) sv6 rfl rfl rfl rfl rfl rfl (AJx n) fun a7 w7 ALT AKX g7 z7 AJz sv7=>?_
 refine BB sv7 Tryz.func132 (by kernel_rfl) r6 (AGz AJz hn) fun a8 v8 w8 hR8 sv8=>?_
 obtain⟨ao8,cap8,rfl,_⟩:=(Sl.of_own hR8.1).shape
 obtain⟨ow8,fr8⟩:=hR8
 replace fr8:=Cq fr8
 have g8:=fr8.1
 replace fr8:=fr8.2
 replace HG:=AA (AA (AA HG g6) g7) g8
 refine BB sv8 Tryz.func99 (by kernel_rfl) r6 (AHr (Sl.of_own ow8) (ABa n) (by omega)) fun a9 v9 w9 hR9 sv9=>?_
 obtain⟨ao9,cap9,rfl,_⟩:=(Sl.of_own hR9.1).shape
 obtain⟨ow9,fr9⟩:=hR9
 replace fr9:=Cq fr9
 have g9:=fr9.1
 replace fr9:=fr9.2
 have Qf:=Gk HG fr9
 replace HG:=AA HG g9
 refine AX (v:=.slice ao9 ((enc n)).length cap9) sv9 r6 fun a10 Bj=>?_
 have B7:Sv _ _ [_] _:=Bj.dl [9,8,7,5,6,0,1]
 refine AE ?_
 refine k5 _ _ ?_
 refine ALd ?_
 repeat refine AJ ?_
 refine Bi (fn:=Tryz.f103) B7 (A7 (p:=4) Tryz.results103 B7 rfl rfl) (CH Tryz.func138 (by kernel_rfl) rfl _ _) (U8 _) ?_
 exact⟨_,rfl,HG,_,_,rfl,ow9,Qf⟩
theorem AAW (x:V) (w:World) :
  Calls Tryz.prog 53 #[.slice none 0 0,Bp x] w fun e w'=>NwR w w' (BD x) e:=by
 have hl:=Em x
 refine Eu Tryz.func53 rfl Tryz.ntmps53 rfl fun a0 sv0=>?_
 have HG:=World.grownBy.refl w none
 replace sv0:Sv 9 [] [(0,.slice none 0 0),(1,Bp x)] a0:=sv0
 refine ALa fun K1 k1=>?_
 refine ALZ ?_
 refine BZ sv0 r6 (ED x) fun a2 w2 Ml JH g2 z2 Aq sv2=>?_
 refine AX (v:=.slice none 0 0) sv2 r6 fun a3 sv3=>?_
 refine AE ?_
 refine k1 _ _ ?_
 refine ALa fun K4 k4=>?_
 refine ALZ ?_
 refine Fe sv3 rfl (dd:={ target:=.fn (.func 98) #[],args:=#[] }) rfl (by simp[execOp,resolve,Deferred.ofValue];try rfl) fun a5 sv5=>?_
 refine AE ?_
 refine k4 _ _ ?_
 refine ALa fun K6 k6=>?_
 refine ALZ ?_
 refine AH sv5 2 [(5,.slice none 0 0),(6,Bp x)]
  ⟨ym r5,yl r6 (ED x) Aq,ALg⟩ fun a7 w7 g7 sv7=>?_
 refine BB sv7 Tryz.func100 (by kernel_rfl) r6 (AG0 x) fun a8 v8 w8 hR8 sv8=>?_
 obtain⟨ao8,cap8,rfl,_⟩:=(Sl.of_own hR8.1).shape
 obtain⟨ow8,fr8⟩:=hR8
 replace fr8:=Cq fr8
 have g8:=fr8.1
 replace fr8:=fr8.2
 replace HG:=AA (AA (AA HG g2) g7) g8
 refine BB sv8 Tryz.func99 (by kernel_rfl) r6 (AHr (Sl.of_own ow8) (AEs x) (by omega)) fun a9 v9 w9 hR9 sv9=>?_
 obtain⟨ao9,cap9,rfl,_⟩:=(Sl.of_own hR9.1).shape
 obtain⟨ow9,fr9⟩:=hR9
 replace fr9:=Cq fr9
 have g9:=fr9.1
 replace fr9:=fr9.2
 have Qf:=Gk HG fr9
 replace HG:=AA HG g9
 refine AX (v:=.slice ao9 ((BD x)).length cap9) sv9 r6 fun a10 Bj=>?_
 have B7:Sv _ _ [_,_] _:=Bj.dl [8,7,5,6,3,0]
 refine AE ?_
 refine k6 _ _ ?_
 refine ALd ?_
 repeat refine AJ ?_
 refine Bi (fn:=Tryz.f53) B7 (A7 (p:=4) Tryz.results53 B7 rfl rfl) (CH Tryz.func98 (by kernel_rfl) rfl _ _) (U9 _) ?_
 exact⟨_,rfl,HG,_,_,rfl,ow9,Qf⟩
def SlZ (w:World) (v:Value) (n:Nat) (xs:List Value):Prop:=Sl w 1 v n xs
def fpZ (n:Nat) (v:Value) (k:Nat):Prop:=0<n∧BM v k
section
variable {w w':World} {v:Value} {n:Nat} {xs:List Value}
theorem SlZ.kn (h:SlZ w v n xs) (g:w.grownBy w' none):SlZ w' v n xs:=Sl.kn h g
theorem SlZ.lt (h:SlZ w v n xs):∀k,fpZ n v k→k<w.heap.size:=by
 rintro k ⟨h0,hk⟩
 obtain⟨hl,ao,cap,rfl,h1,h2,h3,h4⟩:=h
 cases ao with
 | none=>cases hk
 | some a =>
  obtain rfl:a.block=k:=Option.some.inj hk
  obtain⟨u,hu⟩:∃u,xs[0]?=some u:=⟨_,List.getElem?_eq_getElem (by omega)⟩
  have hb:=(h4 a rfl).2 0 u hu
  have:=ALb hb
  exact this
theorem SlZ.offR (h:SlZ w v n xs) {row:Option Nat} (g:w.grownBy w' row) (hb:∀k,fpZ n v k→row≠some k):SlZ w' v n xs:=by
 rcases Nat.eq_zero_or_pos n with h0|h0
 · subst h0
   obtain⟨hl,ao,cap,e,h1,h2,h3,h4⟩:=h
   obtain rfl:xs=[]:=List.eq_nil_of_length_eq_zero (by omega)
   exact⟨hl,ao,cap,e,h1,h2,h3,fun a ha=>⟨fun h=>absurd h (by omega),fun j u hu=>by simp at hu⟩⟩
 · exact Sl.offR h g fun k hk=>hb k ⟨h0,hk⟩
end
def Xw (c:List Nat) (n:Nat):List Nat:=sq (Gn (BitVec.ofNat 64 284) c) n
theorem VC (c:List Nat) (n:Nat):(Xw c n).length=n:=MZ _ _
theorem AEt (c:List Nat) (n:Nat):By (Xw c n):=fun x hx=>ADo _ _ x hx
theorem KR (b c:List Nat):(Fv b c).length=b.length:=LS (by rw[MZ];omega)
theorem KS {b:List Nat} (c:List Nat) (h:By b):By (Fv b c):=ABR h fun x hx=>ADo _ _ x hx
theorem AEu {w:World} {dom:Nat} (hd:dom<1000) {c:Int} (hc:c=(dom:Int)) {l:List Nat} {s:Value} (hb:By l) (hl:l.length≤1000000) (h:Sl w 1 s l.length (bv l)):Calls Tryz.prog 136 #[.int .u64 c,s] w fun e w'=>e=.returned (Jy (Gn (BitVec.ofNat 64 dom) l))∧w.grownBy w' none:=by
 have e:c=wi (BitVec.ofNat 64 dom):=by rw[hc,←J1,IntKind.wrap_u64];omega
 rw[e]
 exact Oa _ l hb (by omega) s w h
theorem ACv {w:World} {dom:Nat} (hd:dom<1000) {c:Int} (hc:c=(dom:Int)) {l:List Nat} {s:Value} (hb:By l) (hl:l.length≤1000000) (h:Sl w 1 s l.length (bv l)):Calls Tryz.prog 80 #[.int .u64 c,s] w fun e w'=>e=.returned (Jy (Gn (BitVec.ofNat 64 dom) l))∧w.grownBy w' none:=by
 have e:c=wi (BitVec.ofNat 64 dom):=by rw[hc,←J1,IntKind.wrap_u64];omega
 rw[e]
 exact M0 _ l hb (by omega) s w h
theorem AHt {w:World} {dom:Nat} (hd:dom<1000) {c:Int} (hc:c=(dom:Int)) {l:List Nat} {s:Value} (hb:By l) (hl:l.length≤1000000) (h:Sl w 1 s l.length (bv l)):Calls Tryz.prog 101 #[.int .u64 c,s] w fun e w'=>e=.returned (AO (OZ (BitVec.ofNat 64 dom) l))∧w.grownBy w' none:=by
 have e:c=wi (BitVec.ofNat 64 dom):=by rw[hc,←J1,IntKind.wrap_u64];omega
 rw[e]
 exact Wy _ l hb (by omega) s w h
theorem AAX {w:World} {dom:Nat} (hd:dom<1000) {c:Int} (hc:c=(dom:Int)) {l:List Nat} {s:Value} (hb:By l) (hl:l.length≤1000000) (h:Sl w 1 s l.length (bv l)):Calls Tryz.prog 33 #[.int .u64 c,s] w fun e w'=>e=.returned (AO (OZ (BitVec.ofNat 64 dom) l))∧w.grownBy w' none:=by
 have e:c=wi (BitVec.ofNat 64 dom):=by rw[hc,←J1,IntKind.wrap_u64];omega
 rw[e]
 exact Tf _ l hb (by omega) s w h
theorem AEv {w:World} {dom:Nat} (hd:dom<1000) {c:Int} (hc:c=(dom:Int)) {k l:List Nat} {s:Value} (hk:Dg k) (hb:By l) (hl:l.length≤1000000) (h:Sl w 1 s l.length (bv l)):Calls Tryz.prog 66 #[.int .u64 c,AO k,s] w fun e w'=>e=.returned (AO (MM (BitVec.ofNat 64 dom) k l))∧w.grownBy w' none:=by
 have e:c=wi (BitVec.ofNat 64 dom):=by rw[hc,←J1,IntKind.wrap_u64];omega
 rw[e]
 exact Ma _ k l hk.1 hk.2 hb (by omega) s w h
theorem ACw {w:World} {dom:Nat} (hd:dom<1000) {c:Int} (hc:c=(dom:Int)) {k l:List Nat} {s:Value} (hk:Dg k) (hb:By l) (hl:l.length≤1000000) (h:Sl w 1 s l.length (bv l)):Calls Tryz.prog 35 #[.int .u64 c,AO k,s] w fun e w'=>e=.returned (AO (MM (BitVec.ofNat 64 dom) k l))∧w.grownBy w' none:=by
 have e:c=wi (BitVec.ofNat 64 dom):=by rw[hc,←J1,IntKind.wrap_u64];omega
 rw[e]
 exact Kx _ k l hk.1 hk.2 hb (by omega) s w h
theorem AG1 {w:World} {d:List Nat} (hd:Dg d):Calls Tryz.prog 34 #[AO d] w fun e w'=>∃v,e=.returned v∧(Own w' 5 1 v d.length (bv d)∧Fresh w w' v):=by
 rw[hd.1]
 exact Mb d hd.1 w
theorem AJ0 {w:World} {s:St} {n D:Nat} {T:TypeId} (hn:n≤1000000) (hD:w.heap[D]?=some (.cells (bv (zs n)).toArray T (0,0))):Calls Tryz.prog 135 #[Jy s,.slice (some ⟨D,0,none⟩) n n] w fun e w'=>∃v,e=.returned v∧(v=.tuple #[]∧w.grownBy w' (some D)∧w'.heap[D]?=some (.cells (bv (sq s n)).toArray T (0,0))):=
 (M1 s n (by omega) D T w hD).mono fun e w' ⟨h1,h2,h3⟩=>⟨_,h1,rfl,h2,h3⟩
theorem AIs {w:World} {s:St} {n:Nat} (hn:n≤1000000):Calls Tryz.prog 79 #[Jy s,.int .i64 (n:Int)] w fun e w'=>∃v,e=.returned v∧(SlZ w' v n (bv (sq s n))∧w.grownBy w' none∧∀k,fpZ n v k→w.heap.size≤k):=
 (ML s n (by omega) w).mono fun e w' ⟨v,h1,h2,h3,h4⟩=>⟨v,h1,h2,h3,fun k hk=>h4 k hk.2⟩
theorem Xx {w:World} {x y:List Nat} {s t:Value} {B:Nat} (hs:Sl w 1 s x.length (bv x)) (ht:Sl w 1 t y.length (bv y)) (hB:w.heap[B]?=some (.cells [s,t].toArray 29 (0,0))) (hx:x.length≤1000000) (hy:y.length≤1000000) :
  Calls Tryz.prog 102 #[.slice (some ⟨B,0,none⟩) 2 2] w fun e w'=>∃v,e=.returned v∧(Own w' 5 1 v (x++y).length (bv (x++y))∧Fresh w w' v):=by
 rw[List.length_append]
 exact Ob x y (by omega) (by omega) s t w hs ht B hB
theorem AEw {w w':World} {xs:List Nat} {n cap:Nat} {ao:Option Addr} (hl:xs.length=n) (HG:w.grownBy w' none) (ho:Own w' 5 1 (.slice ao n cap) n (bv xs)) (lo:∀k,BM (.slice ao n cap) k→w.heap.size≤k) {v:Value} (hv:v=.slice ao n cap):NwR w w' xs (.returned v):=by
 subst hl hv
 exact⟨_,rfl,HG,_,_,rfl,ho,lo⟩
theorem AEx {x y:List Nat} {i a b:Nat} (ha:x[i]?=some a) (hb:y[i]?=some b):bv ((Hy x y).take i)++[.int .u8 ((a ^^^ b:Nat):Int)]=bv ((Hy x y).take (i+1)):=by
 have h:(Hy x y)[i]?=some (a ^^^ b):=by unfold Hy;rw[List.getElem?_zipWith,ha,hb]
 rw[List.take_add_one,h]
 simp[bv]
theorem AKl (a:Int) (W:World):(Instr.buildSlice 29 1 #[(0,.int .u8 a)]).run Tryz.prog W=.ok (.slice (some ⟨W.heap.size,0,none⟩) 1 1) (W.alloc (.cells [.int .u8 a].toArray 5)):=by kernel_rfl
theorem AEy {w:World} {v:Value} {a b:List Nat} (h:Sl w 1 v (a.length+b.length) (bv (a++b))):Sl w 1 v (a++b).length (bv (a++b)):=by rw[List.length_append];exact h
theorem VF {x y:List Nat} (hx:By x) (hy:By y):By (x++y):=fun b hb=>(List.mem_append.1 hb).elim (hx b) (hy b)
theorem Dr (a:Int) (b:List Nat):Dg (Wf a b):=⟨Hd _ _,Nu _ _⟩
theorem CV (c:List Nat) (a:Int) (b:List Nat):Dg (QZ c a b):=⟨Hd _ _,Nu _ _⟩
theorem OE (q:Bool) (ks:List (List Nat)):Dg (Tx q ks):=⟨Hd _ _,Nu _ _⟩
theorem AEz {w:World} {b:Nat} {k:List Nat} (hk:Dg k) (h:w.rangeAt b 0 (bv k)):Sl w 1 (.slice (some ⟨b,0,none⟩) 32 32) k.length (bv k):=by
 rw[hk.1]
 refine⟨by rw[AL,hk.1],_,_,rfl,Nat.le_refl _,by unfold maxLen;omega,fun h=>(by cases h),fun ad had=>?_⟩
 obtain rfl:=Option.some.inj had
 exact⟨fun _=>rfl,fun j u hu=>by simpa using h j u hu⟩
theorem Xy (q:List Nat) (hq:Dg q) (n:Nat) (hn:n≤4096) (w:World) :
  Calls Tryz.prog 105 #[.int .u64 284,AO q,.int .i64 ((n:Int))] w fun e w'=>∃v,e=.returned (.tuple #[v,.int .i64 0])∧w.grownBy w' none∧(Sp.row w.heap.size 5 1 n (bv (Xw q n))).on w' v:=by
 refine Eu Tryz.func105 rfl Tryz.ntmps105 rfl fun a0 sv0=>?_
 have HG:=World.grownBy.refl w none
 replace sv0:Sv 24 [] [(0,.int .u64 284),(1,AO q),(2,.int .i64 ((n:Int)))] a0:=sv0
 refine ALa fun K1 k1=>?_
 refine ALZ ?_
 refine BZ sv0 r6 (BV q hq.1) fun a2 w2 Jj He g2 z2 BC sv2=>?_
 replace HG:=AA HG g2
 refine Az (T:=29) (Z:=[.slice none 0 0]) sv2 rfl rfl rfl (fun a w=>by kernel_rfl) fun a3 w3 AIt KT g3 z3 EV sv3=>?_
 have NO:=Bk HG KT
 replace HG:=AA HG g3
 refine Az (T:=38) (Z:=[.int .i64 0]) sv3 rfl rfl rfl (fun a w=>by kernel_rfl) fun a4 w4 Mp Hg g4 z4 JI sv4=>?_
 have NP:=Ax EV Hg
 have NQ:=Bk HG Hg
 refine AE ?_
 refine k1 _ _ ?_
 refine ALa fun K5 k5=>?_
 refine ALZ ?_
 refine Ht sv4 rfl rfl rfl rfl rfl rfl fun a6 sv6=>?_
 refine Fe sv6 rfl (dd:={ target:=.fn (.func 139) #[pt AIt,pt Mp],args:=#[] }) rfl (by have e1:=sv6.ev (x:=.tmp 9) rfl rfl;simp[execOp,resolve,Deferred.ofValue,e1];try rfl) fun a7 sv7=>?_
 refine AE ?_
 refine k5 _ _ ?_
 refine ALa fun K8 k8=>?_
 refine ALa fun K9 k9=>?_
 refine ALZ ?_
 refine AH sv7 6 [(10,.int .i64 ((n:Int))),(11,.bool false),(12,.bool false),(13,.int .i64 ((n:Int))),(14,.bool false),(15,.bool false)]
  ⟨ym r5,Cm r6 (fun _=>BE (decide_eq_false (by omega))),ym r5,Aa rq8,Ap rq9 (fun _=>C4 (decide_eq_false (by omega))),Ag rq9,ALg⟩ fun a10 w10 g10 Bj=>?_
 refine AE ?_
 refine k9 _ _ ?_
 refine A1 Bj rfl rfl ?_
 refine ALe ?_
 refine k8 _ _ ?_
 refine ALa fun K11 k11=>?_
 refine ALZ ?_
 refine AH Bj 1 [(16,.int .i64 ((n:Int)))]
  ⟨ym r5,ALg⟩ fun a12 w12 g12 Cx=>?_
 have AG2:=AA g10 g12
 replace EV:=AC AG2 (AC g4 EV)
 replace JI:=AC AG2 JI
 replace HG:=AA (AA HG g4) AG2
 refine ABY (m:=n) Cx rfl rfl rfl rfl rfl rfl (by omega) fun a13 w13 Qg OF g13 z13 NS Cl=>?_
 have LY:=Ax EV OF
 have LZ:=Ax JI OF
 have Tz:=Bk HG OF
 refine AX (v:=.slice ((some ⟨Qg,0,none⟩)) n n) Cl r6 fun a14 DQ=>?_
 refine AE ?_
 refine k11 _ _ ?_
 refine ALa fun K15 k15=>?_
 refine ALZ ?_
 refine AH DQ 2 [(18,.int .u64 284),(19,.slice ((some ⟨Jj,0,none⟩)) 32 32)]
  ⟨ym r5,Hs (l:=none) (u:=none) rfl rfl trivial (oy rfl rfl) trivial trivial (LL Jj 0) (fun _=>rfl),ALg⟩ fun a16 w16 g16 Ch=>?_
 replace BC:=AC g16 (AC g13 (AC AG2 (AC g4 (AC g3 BC))))
 refine BB Ch Tryz.func136 (by kernel_rfl) r6 (Jq (AEu (dom:=284) (by decide) rfl hq.2 (by rw[hq.1];decide) (AEz hq (Am BC)))) fun a17 v17 w17 hR17 Dq=>?_
 obtain⟨rfl,g17⟩:=hR17
 have CD:Sv _ _ [_,_,_,_,_,_,_,_,_,_,_,_,_,_,_] _:=Dq.dl [18,19,4,0]
 refine AH CD 1 [(21,.slice ((some ⟨Qg,0,none⟩)) n n)]
  ⟨ym r5,ALg⟩ fun a19 w19 g19 Cs=>?_
 replace NS:=AC g19 (AC g17 (AC g16 NS))
 refine BB Cs Tryz.func135 (by kernel_rfl) r6 (AJ0 (n:=n) (by omega) NS) fun a20 v20 w20 hR20 DR=>?_
 obtain⟨rfl,g20,h20⟩:=hR20
 replace EV:=Ac g20 (AC g19 (AC g17 (AC g16 (AC g13 EV)))) (Ne.symm LY)
 refine AE ?_
 refine k15 _ _ ?_
 refine ALa fun K21 k21=>?_
 refine ALZ ?_
 refine AH DR 1 [(23,.slice ((some ⟨Qg,0,none⟩)) n n)]
  ⟨ym r5,ALg⟩ fun a22 w22 g22 Bl=>?_
 refine As Bl r7 (E8 (.slice ((some ⟨Qg,0,none⟩)) n n) rfl) (AC g22 EV) rfl fun w23 g23 h23=>?_
 replace JI:=Af g22 g23 (Ac g20 (AC g19 (AC g17 (AC g16 (AC g13 JI)))) (Ne.symm LZ)) NP
 refine As Bl r7 (GI 0) JI rfl fun w24 g24 h24=>?_
 replace EV:=Ac g24 h23 (Ne.symm NP)
 replace NS:=Ac g24 (Af g22 g23 h20 LY) LZ
 replace HG:=AD (AD (AA (AD (AA (AA (AA (AA HG g13) g16) g17) g19) g20 Tz) g22) g23 NO) g24 NQ
 replace JI:=h24
 refine AE ?_
 refine k21 _ _ ?_
 refine ALd ?_
 repeat refine AJ ?_
 have ho:=ABZ (n:=n) NS (by rw[AL];exact VC q n) (by omega)
 refine Bi (fn:=Tryz.f105) Bl (B6 (p:=6) (q:=7) Tryz.results105 Bl rfl rfl rfl rfl (E8 (.slice ((some ⟨Qg,0,none⟩)) n n) rfl) (GI 0) EV JI) (CH Tryz.func139 (by kernel_rfl) rfl _ _) (Qd _ _ _) ?_
 exact⟨_,rfl,HG,_,_,rfl,ho,fun k hk=>(Option.some.inj hk)▸Tz⟩
theorem VG (q:List Nat) (hq:Dg q) (n:Nat) (hn:n≤4096) (w:World) :
  Calls Tryz.prog 92 #[.int .u64 284,AO q,.int .i64 ((n:Int))] w fun e w'=>∃v,e=.returned (.tuple #[v,.int .i64 0])∧w.grownBy w' none∧SlZ w' v n (bv (Xw q n))∧∀k,fpZ n v k→w.heap.size≤k:=by
 refine BF Tryz.func92 rfl Tryz.ntmps92 rfl fun a0 sv0=>?_
 have HG:=World.grownBy.refl w none
 replace sv0:Sv 20 [] [(0,.int .u64 284),(1,AO q),(2,.int .i64 ((n:Int)))] a0:=sv0
 refine ALa fun K1 k1=>?_
 refine ALZ ?_
 refine BZ sv0 r6 (BV q hq.1) fun a2 w2 Jj He g2 z2 BC sv2=>?_
 refine AX (v:=.slice none 0 0) sv2 r6 fun a3 sv3=>?_
 refine AX (v:=.int .i64 0) sv3 r6 fun a4 sv4=>?_
 refine AE ?_
 refine k1 _ _ ?_
 refine ALa fun K5 k5=>?_
 refine ALa fun K6 k6=>?_
 refine ALZ ?_
 refine AH sv4 6 [(8,.int .i64 ((n:Int))),(9,.bool false),(10,.bool false),(11,.int .i64 ((n:Int))),(12,.bool false),(13,.bool false)]
  ⟨ym r5,Cm r6 (fun _=>BE (decide_eq_false (by omega))),ym r5,Aa rq8,Ap rq9 (fun _=>C4 (decide_eq_false (by omega))),Ag rq9,ALg⟩ fun a7 w7 g7 sv7=>?_
 refine AE ?_
 refine k6 _ _ ?_
 refine A1 sv7 rfl rfl ?_
 refine ALe ?_
 refine k5 _ _ ?_
 refine ALa fun K8 k8=>?_
 refine ALZ ?_
 refine AH sv7 2 [(14,.int .u64 284),(15,AO q)]
  ⟨ym r5,yl r6 (BV q hq.1) (AC g7 BC),ALg⟩ fun a9 w9 g9 sv9=>?_
 have gc9:=AA g7 g9
 refine BB sv9 Tryz.func34 (by kernel_rfl) r6 (AG1 hq) fun a10 v10 w10 hR10 Bj=>?_
 obtain⟨ao10,cap10,rfl,_⟩:=(Sl.of_own hR10.1).shape
 obtain⟨ow10,fr10⟩:=hR10
 replace fr10:=Cq fr10
 have g10:=fr10.1
 replace fr10:=fr10.2
 refine BB Bj Tryz.func80 (by kernel_rfl) r6 (Jq (ACv (dom:=284) (by decide) rfl hq.2 (by rw[hq.1];decide) (Sl.of_own ow10))) fun a11 v11 w11 hR11 B7=>?_
 obtain⟨rfl,g11⟩:=hR11
 have Cx:Sv _ _ [_,_,_,_,_,_,_,_,_,_,_] _:=B7.dl [16,14,15,4,0]
 refine AH Cx 1 [(18,.int .i64 ((n:Int)))]
  ⟨ym r5,ALg⟩ fun a13 w13 g13 Cl=>?_
 replace HG:=AA (AA (AA (AA (AA HG g2) gc9) g10) g11) g13
 refine BB Cl Tryz.func79 (by kernel_rfl) r6 (AIs (n:=n) (by omega)) fun a14 v14 w14 hR14 DQ=>?_
 obtain⟨hz,g14,fz⟩:=hR14
 have lo_hz:=Gk HG fz
 replace HG:=AA HG g14
 refine AX (v:=v14) DQ r6 fun a15 Gh=>?_
 refine AX (v:=.int .i64 0) Gh r6 fun a16 Ch=>?_
 refine AE ?_
 refine k8 _ _ ?_
 refine ALd ?_
 repeat refine AJ ?_
 refine Ar (fn:=Tryz.f92) Ch (NC (p:=6) (q:=7) Tryz.results92 Ch rfl rfl rfl rfl) ?_
 exact⟨_,rfl,HG,hz,lo_hz⟩
theorem AJ1 {w:World} {k:List Nat} (hk:Dg k) {n:Nat} (hn:n≤4096):Calls Tryz.prog 105 #[.int .u64 284,AO k,.int .i64 (n:Int)] w fun e w'=>∃v,e=.returned v∧(∃ao cap,v=.tuple #[.slice ao n cap,.int .i64 0]∧w.grownBy w' none∧Own w' 5 1 (.slice ao n cap) n (bv (Xw k n))∧∀b,BM (.slice ao n cap) b→w.heap.size≤b):=
 (Xy k hk n hn w).mono fun e w' ⟨v,h1,h2,ao,cap,h3,h4,h5⟩=>⟨_,h1,ao,cap,by rw[h3],h2,h4,h5⟩
theorem AJ2 {P:Program} {f:Nat} {args:Array Value} {w w1:World} {u:Value} {n:Nat} {xs:List Value} (h:Calls P f args w1 fun e w'=>e=.returned u∧w.grownBy w' none∧Own w' 5 1 u n xs):Calls P f args w1 fun e w'=>∃v,e=.returned v∧(v=u∧w.grownBy w' none∧Own w' 5 1 u n xs):=h.mono fun e w' ⟨h1,h2,h3⟩=>⟨_,h1,rfl,h2,h3⟩
theorem KU (x:List Nat) (bx:By x) (lx:x.length≤4096) (ao:Option Addr) (cap:Nat) (c:List Nat) (hc:Dg c) (w:World) (hx:SlB w 1 (.slice ao x.length cap) x.length (bv x)) :
  Calls Tryz.prog 57 #[.slice ao x.length cap,AO c] w fun e w'=>NwR w w' (Fv x c) e:=by
 refine BF Tryz.func57 rfl Tryz.ntmps57 rfl fun a0 sv0=>?_
 have HG:=World.grownBy.refl w none
 replace sv0:Sv 20 [] [(0,.slice ao x.length cap),(1,AO c)] a0:=sv0
 refine ALa fun K1 k1=>?_
 refine ALZ ?_
 refine BZ sv0 r6 (BV c hc.1) fun a2 w2 Ml JH g2 z2 Aq sv2=>?_
 refine AX (v:=.slice none 0 0) sv2 r6 fun a3 sv3=>?_
 refine AE ?_
 refine k1 _ _ ?_
 refine ALa fun K4 k4=>?_
 refine ALZ ?_
 refine AH sv3 3 [(8,AO c),(9,.slice ao x.length cap),(10,.int .i64 ((x.length:Nat)))]
  ⟨yl r6 (BV c hc.1) Aq,ym r5,BI (Tryz.underlying29) rfl rfl trivial (oy rfl rfl) (fun _=>rfl),ALg⟩ fun a5 w5 g5 sv5=>?_
 refine BB sv5 Tryz.func105 (by kernel_rfl) r6 (AJ1 hc (n:=x.length) lx) fun a6 v6 w6 hR6 sv6=>?_
 obtain⟨ao6,cap6,rfl,g6,hs,fs⟩:=hR6
 have sv7:Sv _ _ [_,_,_,_] _:=sv6.dl [8,9,10,3]
 refine AH sv7 3 [(7,.tuple #[.slice ao6 x.length cap6,.int .i64 0]),(12,.slice ao6 x.length cap6),(13,.int .i64 0)]
  ⟨ym r5,BX rq4 (fun _ _ h=>⟨_,_,h,rfl,rfl⟩),BX rq4 (fun _ _ h=>⟨_,_,h,rfl,rfl⟩),ALg⟩ fun a8 w8 g8 sv8=>?_
 refine AX (v:=.slice ao6 x.length cap6) sv8 r6 fun a9 sv9=>?_
 refine AX (v:=.int .i64 0) sv9 r6 fun a10 Bj=>?_
 have B7:Sv _ _ [_,_,_,_] _:=Bj.dl [6,7,12,13,11]
 refine AE ?_
 refine k4 _ _ ?_
 refine ALa fun K12 k12=>?_
 refine ALZ ?_
 refine AH B7 2 [(14,.slice ao x.length cap),(15,.int .i64 ((x.length:Nat)))]
  ⟨ym r5,BI (Tryz.underlying29) rfl rfl trivial (oy rfl rfl) (fun _=>rfl),ALg⟩ fun a13 w13 g13 Cl=>?_
 have Xz:=AA g8 g13
 replace Aq:=AC Xz (AC g6 (AC g5 Aq))
 replace hx:=(((hx.kn g2).kn g5).kn g6).kn Xz
 replace hs:=hs.kn Xz
 replace HG:=AA (AA (AA (AA HG g2) g5) g6) Xz
 refine ABY (m:=x.length) Cl rfl rfl rfl rfl rfl rfl (by omega) fun a14 w14 Qh Lz g14 z14 Ph DQ=>?_
 have Qi:=Ax Aq Lz
 have ACx:=Bk HG Lz
 have VJ:=Ay (hx.lt) Lz
 have VL:=Ay (Own.ltS hs) Lz
 refine AH DQ 2 [(17,.slice ao x.length cap),(18,.slice ao6 x.length cap6)]
  ⟨ym r5,ym r5,ALg⟩ fun a15 w15 g15 Gh=>?_
 replace Ph:=AC g15 Ph
 replace hx:=(hx.kn g14).kn g15
 replace hs:=(hs.kn g14).kn g15
 replace HG:=AA (AA HG g14) g15
 have om:=ABZ (n:=x.length) Ph (by rw[AL,AIr]) (by omega)
 have AIu:∀k,BM (.slice ((some ⟨Qh,0,none⟩)) x.length x.length) k→k≠Ml:=fun k hk e=>Qi ((Option.some.inj hk).trans e)
 have ap_hx_om:∀k,BM (.slice ao x.length cap) k→¬BM (.slice ((some ⟨Qh,0,none⟩)) x.length x.length) k:=fun k hk e=>VJ k hk (Option.some.inj e).symm
 have ap_hs_om:∀k,BM (.slice ao6 x.length cap6) k→¬BM (.slice ((some ⟨Qh,0,none⟩)) x.length x.length) k:=fun k hk e=>VL k hk (Option.some.inj e).symm
 have lo_om:∀k,BM (.slice ((some ⟨Qh,0,none⟩)) x.length x.length) k→w.heap.size≤k:=fun k hk=>(Option.some.inj hk)▸ACx
 clear Ph
 rw[NJ] at om
 have hs2:=(Own.sb hs)
 refine BB Gh Tryz.func106 (by kernel_rfl) r6 (AJ2 (ACr x (Xw c x.length) (zs x.length) bx (AEt c _) x.length (by omega) rfl x.length (VC c _) (Nat.le_refl _) _ _ _ _ _ _ w _ HG om hx hs2 lo_om ap_hx_om ap_hs_om)) fun a16 v16 w16 hR16 Ch=>?_
 obtain⟨rfl,G,oo⟩:=hR16
 refine AX (v:=.slice ((some ⟨Qh,0,none⟩)) x.length x.length) Ch r6 fun a17 Dq=>?_
 have CD:Sv _ _ [_,_,_] _:=Dq.dl [19,17,18,16,14,15,5]
 refine AE ?_
 refine k12 _ _ ?_
 refine ALd ?_
 repeat refine AJ ?_
 refine Ar (fn:=Tryz.f57) CD (A7 (p:=4) Tryz.results57 CD rfl rfl) ?_
 exact AEw (KR x c) G oo lo_om rfl
theorem ACy (x y:List Nat) (hbx:By x) (hby:By y) (hn63:x.length≤1000000) (m:Nat) (hym:y.length=m) (hny:x.length≤m) (ao bo:Option Addr) (ac bc:Nat) (w:World) (hx:SlB w 1 (.slice ao x.length ac) x.length (bv x)) (hy:SlZ w (.slice bo m bc) m (bv y)) :
   Calls Tryz.prog 93 #[.slice ao x.length ac,.slice bo m bc] w fun e w'=>NwR w w' (Hy x y) e:=by
 refine BF Tryz.func93 rfl Tryz.ntmps93 rfl fun a0 sv0=>?_
 have HG:=World.grownBy.refl w none
 replace sv0:Sv 27 [] [(0,.slice ao x.length ac),(1,.slice bo m bc)] a0:=sv0
 refine ALa fun K1 k1=>?_
 refine ALZ ?_
 refine AX (v:=.slice none 0 0) sv0 r6 fun a2 sv2=>?_
 refine AE ?_
 refine k1 _ _ ?_
 refine ALa fun K3 k3=>?_
 refine ALZ ?_
 refine U7 (e:=5) sv2 rfl rfl rfl rfl (fun W=>by kernel_rfl) fun a4 w4 Mp Hg g4 z4 JI sv4=>?_
 have NQ:=Bk HG Hg
 have AAY:=Ay (hx.lt) Hg
 have AAZ:=Ay (SlZ.lt hy) Hg
 replace hx:=hx.kn g4
 replace hy:=SlZ.kn hy g4
 replace HG:=AA HG g4
 have ob:=Qc (sz:=1) JI
 have ap_hx_ob:∀k,BM (.slice ao x.length ac) k→¬BM (.slice ((some ⟨Mp,0,none⟩)) 0 0) k:=fun k hk e=>AAY k hk (Option.some.inj e).symm
 have ap_hy_ob:∀k,fpZ m (.slice bo m bc) k→¬BM (.slice ((some ⟨Mp,0,none⟩)) 0 0) k:=fun k hk e=>AAZ k hk (Option.some.inj e).symm
 have lo_ob:∀k,BM (.slice ((some ⟨Mp,0,none⟩)) 0 0) k→w.heap.size≤k:=fun k hk=>(Option.some.inj hk)▸NQ
 clear JI
 refine AX (v:=.slice ((some ⟨Mp,0,none⟩)) 0 0) sv4 r6 fun a5 sv5=>?_
 refine AE ?_
 refine k3 _ _ ?_
 refine ALa fun K6 k6=>?_
 refine ALa fun K7 k7=>?_
 refine ALZ ?_
 refine AX (v:=.int .i64 0) sv5 r6 fun a8 sv8=>?_
 refine AE ?_
 refine k7 _ _ ?_
 refine A8 fun Q9 x9 y9 rt9 o9=>?_
 refine wp_loop (fun a w'=>∃(i:Nat) (co:Option Addr) (cc:Nat),(i≤x.length)∧Sv 27 [] [(6,.int .i64 ((i:Int))),(5,.slice co i cc),(7,.slice ((some ⟨Mp,0,none⟩)) 0 0),(4,.slice none 0 0),(0,.slice ao x.length ac),(1,.slice bo m bc)] a∧w.grownBy w' none∧SlB w' 1 (.slice ao x.length ac) x.length (bv x)∧SlZ w' (.slice bo m bc) m (bv y)∧Own w' 5 1 (.slice co i cc) i (bv (((Hy x y).take i)))∧(∀k,BM (.slice ao x.length ac) k→¬BM (.slice co i cc) k)∧(∀k,fpZ m (.slice bo m bc) k→¬BM (.slice co i cc) k)∧(∀k,BM (.slice co i cc) k→w.heap.size≤k)) (fun a _=>(x.length-intOf (a.tmps.getD 6 undef)).toNat) ⟨0,(some ⟨Mp,0,none⟩),0,Nat.zero_le _,⟨sv8.1,sv8.2.1,sv8.2.2.1,sv8.2.2.2.1,sv8.2.2.2.2.1,sv8.2.2.2.2.2.1,sv8.2.2.2.2.2.2.1,sv8.2.2.2.2.2.2.2.1,ALg⟩,HG,hx,hy,ob,ap_hx_ob,ap_hy_ob,lo_ob⟩ fun a10 w10 hI10=>?_
 clear hx
 clear hy
 clear ob
 clear HG
 obtain⟨i,co,cc,hin,Bj,HG,hx,hy,ob,ap_hx_ob,ap_hy_ob,lo_ob⟩:=hI10
 refine ALa fun K11 k11=>?_
 refine ALa fun K12 k12=>?_
 by_cases hi:i<x.length
 · have hiy:i<y.length:=by omega
   have hiz:i<m:=by omega
   obtain⟨xa,hx_xa⟩:∃zx,x[i]'hi=zx:=⟨_,rfl⟩
   obtain⟨xb,hx_xb⟩:∃zx,y[i]'hiy=zx:=⟨_,rfl⟩
   have hxa:x[i]?=some xa:=by rw[←hx_xa];exact List.getElem?_eq_getElem _
   have hxb:y[i]?=some xb:=by rw[←hx_xb];exact List.getElem?_eq_getElem _
   have ba:xa<256:=hbx _ (List.mem_of_getElem? hxa)
   have bb:xb<256:=hby _ (List.mem_of_getElem? hxb)
   refine ALZ ?_
   refine AH Bj 4 [(8,.int .i64 ((i:Int))),(9,.slice ao x.length ac),(10,.int .i64 ((x.length:Nat))),(11,.bool true)]
    ⟨ym r5,ym r5,BI (Tryz.underlying29) rfl rfl trivial (oy rfl rfl) (fun _=>rfl),GC r7 (fun _=>BE (by simp;omega)),ALg⟩ fun a13 w13 g13 Cl=>?_
   refine AE ?_
   refine k12 _ _ ?_
   refine Av Cl rfl rfl ?_
   refine ALe ?_
   refine k11 _ _ ?_
   refine ALa fun K14 k14=>?_
   refine A8 fun Q15 x15 y15 rt15 o15=>?_
   have gd16:=Cn w13
   replace hx:=(hx.kn g13).kn gd16
   replace hy:=SlZ.kn (SlZ.kn hy g13) gd16
   refine wp_region_noPanic ?_
   refine JR (fun w'=>w'.rangeAt (bO ao) (oO ao+i*1) ([.int .u8 ((xa:Int))])∧w'.rangeAt (bO bo) (oO bo+i*1) ([.int .u8 ((xb:Int))])∧True) [0,1,2,3,4,5,6,7,8,9] [10,11,12] (by kernel_rfl) (by kernel_rfl) (fun _ _ d _ _ h=>by cases d<;>exact h) rfl (by kernel_rfl) ⟨(by have:=Fh hx.1 hi;rw[hx_xa] at this;exact this),(by have:=Fh hy hiy;rw[hx_xb] at this;exact this),ALg⟩ ?_
   simp only[List.filterMap_cons,List.filterMap_nil,List.getElem?_toArray,List.getElem?_cons_succ,List.getElem?_cons_zero]
   refine Kj (v:=.slice co i cc) w13.drew Cl rfl (by kernel_rfl) (GR 5 14 (.inl rfl) rfl rfl trivial (fun _ _ h=>h)) fun a17 Dq=>?_
   refine Kj (v:=.slice ao x.length ac) w13.drew Dq rfl (by kernel_rfl) (GR 0 15 (.inl rfl) rfl rfl trivial (fun _ _ h=>h)) fun a18 CD=>?_
   refine Kj (v:=.int .i64 ((i:Int))) w13.drew CD rfl (by kernel_rfl) (GR 6 16 (.inl rfl) rfl rfl trivial (fun _ _ h=>h)) fun a19 Cs=>?_
   refine Kj (v:=pk ((bO ao)) (oO ao+i*1)) w13.drew Cs rfl (by kernel_rfl) (XW rfl rfl trivial (oy rfl rfl) (oy rfl rfl) (fun w=>B8 Tryz.underlying29 (by kernel_rfl) (hx.1) (by omega) (rfl) w) (fun _=>rfl)) fun a20 DR=>?_
   refine Pd DR rfl rfl rfl rfl ⟨rfl,rfl⟩ (fun w hS=>Ab (tyB ((xa:Int))) hS.1) fun a21 Di=>?_
   refine Kj (v:=.slice bo m bc) w13.drew Di rfl (by kernel_rfl) (GR 1 19 (.inl rfl) rfl rfl trivial (fun _ _ h=>h)) fun a22 Bl=>?_
   refine Kj (v:=.int .i64 ((i:Int))) w13.drew Bl rfl (by kernel_rfl) (GR 6 20 (.inl rfl) rfl rfl trivial (fun _ _ h=>h)) fun a23 CS=>?_
   refine Kj (v:=pk ((bO bo)) (oO bo+i*1)) w13.drew CS rfl (by kernel_rfl) (XW rfl rfl trivial (oy rfl rfl) (oy rfl rfl) (fun w=>B8 Tryz.underlying29 (by kernel_rfl) (hy) (by omega) (rfl) w) (fun _=>rfl)) fun a24 ER=>?_
   refine Pd ER rfl rfl rfl rfl ⟨rfl,rfl⟩ (fun w hS=>Ab (tyB ((xb:Int))) hS.2.1) fun a25 Co=>?_
   refine Kj (v:=.int .u8 (((xa ^^^ xb:Nat):Int))) w13.drew Co rfl (by kernel_rfl) (AId rfl rfl trivial (oy rfl rfl) (oy rfl rfl) (fun _=>Pf ba bb) (fun _=>rfl)) fun a26 Cp=>?_
   have GF:Sv _ _ [_,_,_,_,_,_,_,_,_,_,_,_] _:=Cp.dl [22,21,20,19,18,17,16,15]
   change wpList _ _ _ _ _ _
   refine KQ (cs:=[.int .u8 ((xa ^^^ xb:Nat):Int)]) (e:=5) GF rfl rfl rfl rfl rfl rfl (AKl _) fun a28 w28 AKm AJL g28 z28 AG3 Dp=>?_
   replace hx:=hx.kn g28
   replace hy:=SlZ.kn hy g28
   replace ob:=((ob.kn g13).kn gd16).kn g28
   replace HG:=AA (AA (AA HG g13) gd16) g28
   refine AE ⟨⟨(by have:=Fh hx.1 hi;rw[hx_xa] at this;exact this),(by have:=Fh hy hiy;rw[hx_xb] at this;exact this),ALg⟩,?_⟩
   change wpList _ _ _ _ _ _
   refine GV DF Dp rfl rfl rfl rfl rfl rfl rfl rfl ob (UZ AG3 ⟨rfl,by decide⟩) rfl (by omega) fun a29 ao29 cap29 w29 owx29 Bh CU=>?_
   have X5:=Fo Bh.2 ap_hx_ob (hx.lt)
   have X7:=Fo Bh.2 ap_hy_ob (SlZ.lt hy)
   have Qj:=Oz Bh.2 lo_ob HG
   replace hx:=hx.offR Bh.1 (fun k hk e=>ap_hx_ob k hk (e))
   replace hy:=SlZ.offR hy Bh.1 (fun k hk e=>ap_hy_ob k hk (e))
   replace HG:=Br HG Bh.1 fun k e=>lo_ob k (e)
   rw[AEx hxa hxb] at owx29
   refine AE ⟨⟨(by have:=Fh hx.1 hi;rw[hx_xa] at this;exact this),(by have:=Fh hy hiy;rw[hx_xb] at this;exact this),ALg⟩,?_⟩
   change wpList _ _ _ _ _ _
   refine AX (v:=.slice ao29 (i+1) cap29) CU r6 fun a30 Ds=>?_
   refine AE ⟨⟨(by have:=Fh hx.1 hi;rw[hx_xa] at this;exact this),(by have:=Fh hy hiy;rw[hx_xb] at this;exact this),ALg⟩,?_⟩
   refine NoPanic.normal ?_
   have Hv:Sv _ _ [_,_,_,_,_,_,_,_,_,_] _:=Ds.dl [25,24,23,14]
   refine y15 _ _ ?_
   refine k14 _ _ ?_
   refine ALZ ?_
   refine AH Hv 2 [(12,.int .i64 ((i:Int))),(13,.int .i64 (((i+1:Nat):Int)))]
    ⟨ym r5,Cm r6 (fun _=>DB (by rw[BG (by omega) (by omega)];omega)),ALg⟩ fun a32 w32 g32 Ci=>?_
   refine AX (v:=.int .i64 (((i+1:Nat):Int))) Ci r6 fun a33 Fb=>?_
   refine AE ?_
   replace hx:=hx.kn g32
   replace hy:=SlZ.kn hy g32
   replace owx29:=owx29.kn g32
   replace HG:=AA HG g32
   exact⟨⟨i+1,ao29,cap29,by omega,⟨Fb.1,Fb.2.1,Fb.2.2.1,Fb.2.2.2.2.2.1,(AG Fb).2.2.1,(AG Fb).2.2.2.1,(AG Fb).2.2.2.2.1,(AG Fb).2.2.2.2.2.1,ALg⟩,HG,hx,hy,owx29,X5,X7,Qj⟩,by rw[show _=_ from Fb.2.2.1,show _=_ from Bj.2.2.1];simp[intOf];omega⟩
 · have hll:=LS (a:=x) (b:=y) (by omega)
   rw[List.take_of_length_le (by omega)] at ob
   refine ALZ ?_
   refine AH Bj 4 [(8,.int .i64 ((i:Int))),(9,.slice ao x.length ac),(10,.int .i64 ((x.length:Nat))),(11,.bool false)]
    ⟨ym r5,ym r5,BI (Tryz.underlying29) rfl rfl trivial (oy rfl rfl) (fun _=>rfl),GC r7 (fun _=>BE (by simp;omega)),ALg⟩ fun a34 w34 g34 Hw=>?_
   refine AE ?_
   refine k12 _ _ ?_
   refine A1 Hw rfl rfl ?_
   refine wp_exit ?_
   repeat refine Bo ?_
   refine x9 _ _ ?_
   refine k6 _ _ ?_
   refine ALa fun K35 k35=>?_
   refine ALZ ?_
   refine AH Hw 1 [(26,.slice co i cc)]
    ⟨ym r5,ALg⟩ fun a36 w36 g36 FG=>?_
   have NE:=AA g34 g36
   refine AX (v:=.slice co i cc) FG r6 fun a37 Gx=>?_
   refine AE ?_
   refine k35 _ _ ?_
   replace ob:=ob.kn NE
   replace HG:=AA HG NE
   refine ALd ?_
   repeat refine AJ ?_
   refine Ar (fn:=Tryz.f93) Gx (A7 (p:=4) Tryz.results93 Gx rfl rfl) ?_
   exact AEw (by omega) HG ob lo_ob rfl
theorem AIv {w:World} {k:List Nat} (hk:Dg k) {n:Nat} (hn:n≤4096):Calls Tryz.prog 92 #[.int .u64 284,AO k,.int .i64 (n:Int)] w fun e w'=>∃v,e=.returned v∧(∃ao cap,v=.tuple #[.slice ao n cap,.int .i64 0]∧w.grownBy w' none∧SlZ w' (.slice ao n cap) n (bv (Xw k n))∧∀b,fpZ n (.slice ao n cap) b→w.heap.size≤b):=
 (VG k hk n hn w).mono fun e w' ⟨v,h1,h2,h3,h4⟩=>by
  obtain⟨ao,cap,rfl,_⟩:=Sl.shape h3
  exact⟨_,h1,ao,cap,rfl,h2,h3,h4⟩
theorem Qk (x:List Nat) (bx:By x) (lx:x.length≤4096) (ao:Option Addr) (cap:Nat) (c:List Nat) (hc:Dg c) (w:World) (hx:SlB w 1 (.slice ao x.length cap) x.length (bv x)) :
  Calls Tryz.prog 47 #[AO c,.slice ao x.length cap] w fun e w'=>NwR w w' (Fv x c) e:=by
 refine BF Tryz.func47 rfl Tryz.ntmps47 rfl fun a0 sv0=>?_
 have HG:=World.grownBy.refl w none
 replace sv0:Sv 17 [] [(0,AO c),(1,.slice ao x.length cap)] a0:=sv0
 refine ALa fun K1 k1=>?_
 refine ALZ ?_
 refine BZ sv0 r6 (BV c hc.1) fun a2 w2 CO DP g2 z2 AK sv2=>?_
 refine AX (v:=.slice none 0 0) sv2 r6 fun a3 sv3=>?_
 refine AE ?_
 refine k1 _ _ ?_
 refine ALa fun K4 k4=>?_
 refine ALZ ?_
 refine AH sv3 3 [(8,AO c),(9,.slice ao x.length cap),(10,.int .i64 ((x.length:Nat)))]
  ⟨yl r6 (BV c hc.1) AK,ym r5,BI (Tryz.underlying29) rfl rfl trivial (oy rfl rfl) (fun _=>rfl),ALg⟩ fun a5 w5 g5 sv5=>?_
 refine BB sv5 Tryz.func92 (by kernel_rfl) r6 (AIv hc (n:=x.length) lx) fun a6 v6 w6 hR6 sv6=>?_
 obtain⟨ao6,cap6,rfl,g6,hz,fz⟩:=hR6
 have sv7:Sv _ _ [_,_,_,_] _:=sv6.dl [8,9,10,2]
 refine AH sv7 3 [(7,.tuple #[.slice ao6 x.length cap6,.int .i64 0]),(12,.slice ao6 x.length cap6),(13,.int .i64 0)]
  ⟨ym r5,BX rq4 (fun _ _ h=>⟨_,_,h,rfl,rfl⟩),BX rq4 (fun _ _ h=>⟨_,_,h,rfl,rfl⟩),ALg⟩ fun a8 w8 g8 sv8=>?_
 refine AX (v:=.slice ao6 x.length cap6) sv8 r6 fun a9 sv9=>?_
 refine AX (v:=.int .i64 0) sv9 r6 fun a10 Bj=>?_
 have B7:Sv _ _ [_,_,_,_] _:=Bj.dl [6,7,12,13,11]
 refine AE ?_
 refine k4 _ _ ?_
 refine ALa fun K12 k12=>?_
 refine ALZ ?_
 refine AH B7 2 [(14,.slice ao x.length cap),(15,.slice ao6 x.length cap6)]
  ⟨ym r5,ym r5,ALg⟩ fun a13 w13 g13 Cl=>?_
 have Xz:=AA g8 g13
 replace hx:=(((hx.kn g2).kn g5).kn g6).kn Xz
 replace hz:=SlZ.kn hz Xz
 replace HG:=AA (AA (AA (AA HG g2) g5) g6) Xz
 refine BB Cl Tryz.func93 (by kernel_rfl) r6 (NN (ACy x (Xw c x.length) bx (AEt c _) (by omega) x.length (VC c _) (Nat.le_refl _) _ _ _ _ _ hx hz)) fun a14 v14 w14 hR14 DQ=>?_
 obtain⟨ao14,cap14,rfl,_⟩:=(Sl.of_own hR14.1).shape
 obtain⟨ow14,fr14⟩:=hR14
 replace fr14:=Cq fr14
 have g14:=fr14.1
 replace fr14:=fr14.2
 have AIw:∀k,fpZ x.length (.slice ao6 x.length cap6) k→¬BM (.slice ao14 ((Fv x c)).length cap14) k:=fun k hzr hk=>absurd (SlZ.lt hz k hzr) (Nat.not_lt.2 (fr14 k hk))
 have AG4:=Gk HG fr14
 replace HG:=AA HG g14
 refine AX (v:=.slice ao14 ((Fv x c)).length cap14) DQ r6 fun a15 Gh=>?_
 have Ch:Sv _ _ [_,_,_] _:=Gh.dl [16,14,15,5]
 refine AE ?_
 refine k12 _ _ ?_
 refine ALd ?_
 repeat refine AJ ?_
 refine Ar (fn:=Tryz.f47) Ch (A7 (p:=4) Tryz.results47 Ch rfl rfl) ?_
 exact⟨_,rfl,HG,_,_,rfl,ow14,AG4⟩
theorem JY (a:Int) (ha:Mw a) (x:List Nat) (bx:By x) (lx:x.length≤100000) (ao:Option Addr) (cap:Nat) (w:World) (hx:SlB w 1 (.slice ao x.length cap) x.length (bv x)) :
  Calls Tryz.prog 54 #[.int .i64 a,.slice ao x.length cap] w fun e w'=>e=.returned (AO (Wf a x))∧w.grownBy w' none:=by
 have hle:=DX ha.1 ha.2
 refine BF Tryz.func54 rfl Tryz.ntmps54 rfl fun a0 sv0=>?_
 have HG:=World.grownBy.refl w none
 replace sv0:Sv 11 [] [(0,.int .i64 a),(1,.slice ao x.length cap)] a0:=sv0
 refine ALa fun K1 k1=>?_
 refine ALZ ?_
 refine Az (T:=23) (Z:=(bv AM)) sv0 rfl rfl rfl (fun a w=>by kernel_rfl) fun a2 w2 Jj He g2 z2 BC sv2=>?_
 have JJ:=Bk HG He
 refine AE ?_
 refine k1 _ _ ?_
 refine ALa fun K3 k3=>?_
 refine ALZ ?_
 refine AH sv2 1 [(5,.int .i64 a)]
  ⟨ym r5,ALg⟩ fun a4 w4 g4 sv4=>?_
 refine BB sv4 Tryz.func103 (by kernel_rfl) r6 (NN (Qe a ha _)) fun a5 v5 w5 hR5 sv5=>?_
 obtain⟨ao5,cap5,rfl,_⟩:=(Sl.of_own hR5.1).shape
 obtain⟨ow5,fr5⟩:=hR5
 replace fr5:=Cq fr5
 have g5:=fr5.1
 replace fr5:=fr5.2
 refine AH sv5 1 [(7,.slice ao x.length cap)]
  ⟨ym r5,ALg⟩ fun a6 w6 g6 sv6=>?_
 refine ABX (cs:=[.slice ao5 ((enc a)).length cap5,.slice ao x.length cap]) (e:=29) sv6 rfl rfl rfl rfl rfl rfl rfl rfl (AJy _ _ _ _ _ _) fun a7 w7 ALU AKY g7 z7 AJ3 sv7=>?_
 replace hx:=((((hx.kn g2).kn g4).kn g5).kn g6).kn g7
 replace ow5:=(ow5.kn g6).kn g7
 refine BB sv7 Tryz.func102 (by kernel_rfl) r6 (Xx (Sl.of_own ow5) hx.1 AJ3 (by omega) (by omega)) fun a8 v8 w8 hR8 sv8=>?_
 obtain⟨ao8,cap8,rfl,_⟩:=(Sl.of_own hR8.1).shape
 obtain⟨ow8,fr8⟩:=hR8
 replace fr8:=Cq fr8
 have g8:=fr8.1
 replace fr8:=fr8.2
 refine BB sv8 Tryz.func101 (by kernel_rfl) r6 (Jq (AHt (dom:=280) (by decide) rfl (VF (MY a) bx) (by rw[List.length_append];omega) (Sl.of_own ow8))) fun a9 v9 w9 hR9 sv9=>?_
 obtain⟨rfl,g9⟩:=hR9
 replace BC:=AC g9 (AC g8 (AC g7 (AC g6 (AC g5 (AC g4 BC)))))
 refine As sv9 r7 (BV ((Wf a x)) (Dr a x).1) BC (En (Dr a x)) fun w10 g10 h10=>?_
 replace HG:=AD (AA (AA (AA (AA (AA (AA (AA HG g2) g4) g5) g6) g7) g8) g9) g10 JJ
 replace BC:=h10
 have B7:Sv _ _ [_] _:=sv9.dl [10,9,8,7,6,5,0,1]
 refine AE ?_
 refine k3 _ _ ?_
 refine ALd ?_
 repeat refine AJ ?_
 refine Ar (fn:=Tryz.f54) B7 (Dc (p:=4) Tryz.results54 B7 rfl rfl (BV ((Wf a x)) (Dr a x).1) BC) ?_
 exact⟨rfl,HG⟩
theorem Hh (c:List Nat) (hc:Dg c) (a:Int) (ha:Mw a) (x:List Nat) (bx:By x) (lx:x.length≤100000) (ao:Option Addr) (cap:Nat) (w:World) (hx:SlB w 1 (.slice ao x.length cap) x.length (bv x)) :
  Calls Tryz.prog 58 #[AO c,.int .i64 a,.slice ao x.length cap] w fun e w'=>e=.returned (AO (QZ c a x))∧w.grownBy w' none:=by
 have hle:=DX ha.1 ha.2
 refine BF Tryz.func58 rfl Tryz.ntmps58 rfl fun a0 sv0=>?_
 have HG:=World.grownBy.refl w none
 replace sv0:Sv 14 [] [(0,AO c),(1,.int .i64 a),(2,.slice ao x.length cap)] a0:=sv0
 refine ALa fun K1 k1=>?_
 refine ALZ ?_
 refine BZ sv0 r6 (BV c hc.1) fun a2 w2 Ml JH g2 z2 Aq sv2=>?_
 replace HG:=AA HG g2
 refine Az (T:=23) (Z:=(bv AM)) sv2 rfl rfl rfl (fun a w=>by kernel_rfl) fun a3 w3 AIt KT g3 z3 EV sv3=>?_
 have KV:=Ax Aq KT
 have NO:=Bk HG KT
 refine AE ?_
 refine k1 _ _ ?_
 refine ALa fun K4 k4=>?_
 have gd5:=Cn w3
 replace Aq:=AC gd5 (AC g3 Aq)
 refine wp_region_noPanic ?_
 refine JR (fun w'=>w'.heap[Ml]?=some (.cells (bv c).toArray 23 (0,0))∧True) [0,1,3] [2,4,5,6,7] (by kernel_rfl) (by kernel_rfl) (fun _ _ d _ _ h=>by cases d<;>exact h) rfl (by kernel_rfl) ⟨Aq,ALg⟩ ?_
 simp only[List.filterMap_cons,List.filterMap_nil,List.getElem?_toArray,List.getElem?_cons_succ,List.getElem?_cons_zero]
 refine Pd sv3 rfl rfl rfl rfl ⟨rfl,rfl⟩ (fun w hS=>Ab (BV c hc.1) (Am hS.1)) fun a6 sv6=>?_
 refine Kj (v:=.int .i64 a) w3.drew sv6 rfl (by kernel_rfl) (GR 1 8 (.inl rfl) rfl rfl trivial (fun _ _ h=>h)) fun a7 sv7=>?_
 refine Kj (v:=.slice ao x.length cap) w3.drew sv7 rfl (by kernel_rfl) (GR 2 10 (.inl rfl) rfl rfl trivial (fun _ _ h=>h)) fun a8 sv8=>?_
 change wpList _ _ _ _ _ _
 refine BB sv8 Tryz.func103 (by kernel_rfl) r6 (NN (Qe a ha _)) fun a9 v9 w9 hR9 sv9=>?_
 obtain⟨ao9,cap9,rfl,_⟩:=(Sl.of_own hR9.1).shape
 obtain⟨ow9,fr9⟩:=hR9
 replace fr9:=Cq fr9
 have g9:=fr9.1
 replace fr9:=fr9.2
 replace Aq:=AC g9 Aq
 refine AE ⟨⟨Aq,ALg⟩,?_⟩
 change wpList _ _ _ _ _ _
 refine ABX (cs:=[.slice ao9 ((enc a)).length cap9,.slice ao x.length cap]) (e:=29) sv9 rfl rfl rfl rfl rfl rfl rfl rfl (AJy _ _ _ _ _ _) fun a10 w10 AKn AJM g10 z10 AG5 Bj=>?_
 replace Aq:=AC g10 Aq
 replace hx:=((((hx.kn g2).kn g3).kn gd5).kn g9).kn g10
 replace ow9:=ow9.kn g10
 refine AE ⟨⟨Aq,ALg⟩,?_⟩
 change wpList _ _ _ _ _ _
 refine BB Bj Tryz.func102 (by kernel_rfl) r6 (Xx (Sl.of_own ow9) hx.1 AG5 (by omega) (by omega)) fun a11 v11 w11 hR11 B7=>?_
 obtain⟨ao11,cap11,rfl,_⟩:=(Sl.of_own hR11.1).shape
 obtain⟨ow11,fr11⟩:=hR11
 replace fr11:=Cq fr11
 have g11:=fr11.1
 replace fr11:=fr11.2
 replace Aq:=AC g11 Aq
 refine AE ⟨⟨Aq,ALg⟩,?_⟩
 change wpList _ _ _ _ _ _
 refine BB B7 Tryz.func66 (by kernel_rfl) r6 (Jq (AEv (dom:=285) (by decide) rfl hc (VF (MY a) bx) (by rw[List.length_append];omega) (Sl.of_own ow11))) fun a12 v12 w12 hR12 Cx=>?_
 obtain⟨rfl,g12⟩:=hR12
 replace Aq:=AC g12 Aq
 replace EV:=AC g12 (AC g11 (AC g10 (AC g9 (AC gd5 EV))))
 refine AE ⟨⟨Aq,ALg⟩,?_⟩
 change wpList _ _ _ _ _ _
 refine As Cx r7 (BV ((QZ c a x)) (CV c a x).1) EV (En (CV c a x)) fun w13 g13 h13=>?_
 replace Aq:=Ac g13 Aq (Ne.symm KV)
 replace HG:=AD (AA (AA (AA (AA (AA (AA HG g3) gd5) g9) g10) g11) g12) g13 NO
 replace EV:=h13
 refine AE ⟨⟨Aq,ALg⟩,?_⟩
 refine NoPanic.normal ?_
 have DQ:Sv _ _ [_,_] _:=Cx.dl [13,12,11,9,10,8,7,3,1,2]
 refine k4 _ _ ?_
 refine ALd ?_
 repeat refine AJ ?_
 refine Ar (fn:=Tryz.f58) DQ (Dc (p:=6) Tryz.results58 DQ rfl rfl (BV ((QZ c a x)) (CV c a x).1) EV) ?_
 exact⟨rfl,HG⟩
theorem AAa (a:Int) (ha:Mw a) (x:List Nat) (bx:By x) (lx:x.length≤100000) (ao:Option Addr) (cap:Nat) (w:World) (hx:SlB w 1 (.slice ao x.length cap) x.length (bv x)) :
  Calls Tryz.prog 44 #[.int .i64 a,.slice ao x.length cap] w fun e w'=>e=.returned (AO (Wf a x))∧w.grownBy w' none:=by
 have hle:=DX ha.1 ha.2
 refine BF Tryz.func44 rfl Tryz.ntmps44 rfl fun a0 sv0=>?_
 have HG:=World.grownBy.refl w none
 replace sv0:Sv 10 [] [(0,.int .i64 a),(1,.slice ao x.length cap)] a0:=sv0
 refine ALa fun K1 k1=>?_
 refine ALZ ?_
 refine Az (T:=23) (Z:=(bv AM)) sv0 rfl rfl rfl (fun a w=>by kernel_rfl) fun a2 w2 Jj He g2 z2 BC sv2=>?_
 have JJ:=Bk HG He
 refine AE ?_
 refine k1 _ _ ?_
 refine ALa fun K3 k3=>?_
 refine ALZ ?_
 refine AH sv2 1 [(5,.int .i64 a)]
  ⟨ym r5,ALg⟩ fun a4 w4 g4 sv4=>?_
 replace BC:=AC g4 BC
 replace HG:=AA (AA HG g2) g4
 refine BB sv4 Tryz.func90 (by kernel_rfl) r6 (E6 a _ ha.1 ha.2) fun a5 v5 w5 hR5 sv5=>?_
 obtain⟨ao5,cap5,rfl,_⟩:=(Sl.of_own hR5.1).shape
 obtain⟨ow5,fr5⟩:=hR5
 replace fr5:=Cq fr5
 have g5:=fr5.1
 replace fr5:=fr5.2
 have X9:=Ca fr5 BC
 have AIx:=Gk HG fr5
 refine AH sv5 1 [(7,.slice ao x.length cap)]
  ⟨ym r5,ALg⟩ fun a6 w6 g6 sv6=>?_
 replace hx:=(((hx.kn g2).kn g4).kn g5).kn g6
 replace ow5:=ow5.kn g6
 refine GV DF sv6 rfl rfl rfl rfl rfl rfl rfl rfl ow5 (hx.1) (Dj _) (by omega) fun a7 ao7 cap7 w7 owx7 Bh sv7=>?_
 replace BC:=AF Bh.1 (AC g6 (AC g5 BC)) (fun e=>X9 _ e.symm rfl)
 replace HG:=Br (AA (AA HG g5) g6) Bh.1 fun k e=>AIx k (e)
 rw[←Ck] at owx7
 refine BB sv7 Tryz.func33 (by kernel_rfl) r6 (Jq (AAX (dom:=280) (by decide) rfl (VF (MY a) bx) (by rw[List.length_append];omega) (AEy (Sl.of_own owx7)))) fun a8 v8 w8 hR8 sv8=>?_
 obtain⟨rfl,g8⟩:=hR8
 replace BC:=AC g8 BC
 refine As sv8 r7 (BV ((Wf a x)) (Dr a x).1) BC (En (Dr a x)) fun w9 g9 h9=>?_
 replace HG:=AD (AA HG g8) g9 JJ
 replace BC:=h9
 have Bj:Sv _ _ [_] _:=sv8.dl [9,8,7,6,5,0,1]
 refine AE ?_
 refine k3 _ _ ?_
 refine ALd ?_
 repeat refine AJ ?_
 refine Ar (fn:=Tryz.f44) Bj (Dc (p:=4) Tryz.results44 Bj rfl rfl (BV ((Wf a x)) (Dr a x).1) BC) ?_
 exact⟨rfl,HG⟩
theorem YJ (c:List Nat) (hc:Dg c) (a:Int) (ha:Mw a) (x:List Nat) (bx:By x) (lx:x.length≤100000) (ao:Option Addr) (cap:Nat) (w:World) (hx:SlB w 1 (.slice ao x.length cap) x.length (bv x)) :
  Calls Tryz.prog 48 #[AO c,.int .i64 a,.slice ao x.length cap] w fun e w'=>e=.returned (AO (QZ c a x))∧w.grownBy w' none:=by
 have hle:=DX ha.1 ha.2
 refine BF Tryz.func48 rfl Tryz.ntmps48 rfl fun a0 sv0=>?_
 have HG:=World.grownBy.refl w none
 replace sv0:Sv 13 [] [(0,AO c),(1,.int .i64 a),(2,.slice ao x.length cap)] a0:=sv0
 refine ALa fun K1 k1=>?_
 refine ALZ ?_
 refine BZ sv0 r6 (BV c hc.1) fun a2 w2 Ml JH g2 z2 Aq sv2=>?_
 replace HG:=AA HG g2
 refine Az (T:=23) (Z:=(bv AM)) sv2 rfl rfl rfl (fun a w=>by kernel_rfl) fun a3 w3 AIt KT g3 z3 EV sv3=>?_
 have KV:=Ax Aq KT
 have NO:=Bk HG KT
 refine AE ?_
 refine k1 _ _ ?_
 refine ALa fun K4 k4=>?_
 have gd5:=Cn w3
 replace Aq:=AC gd5 (AC g3 Aq)
 replace EV:=AC gd5 EV
 replace HG:=AA (AA HG g3) gd5
 refine wp_region_noPanic ?_
 refine JR (fun w'=>w'.heap[Ml]?=some (.cells (bv c).toArray 23 (0,0))∧True) [0,1,3] [2,4,5,6] (by kernel_rfl) (by kernel_rfl) (fun _ _ d _ _ h=>by cases d<;>exact h) rfl (by kernel_rfl) ⟨Aq,ALg⟩ ?_
 simp only[List.filterMap_cons,List.filterMap_nil,List.getElem?_toArray,List.getElem?_cons_succ,List.getElem?_cons_zero]
 refine Pd sv3 rfl rfl rfl rfl ⟨rfl,rfl⟩ (fun w hS=>Ab (BV c hc.1) (Am hS.1)) fun a6 sv6=>?_
 refine Kj (v:=.int .i64 a) w3.drew sv6 rfl (by kernel_rfl) (GR 1 8 (.inl rfl) rfl rfl trivial (fun _ _ h=>h)) fun a7 sv7=>?_
 refine Kj (v:=.slice ao x.length cap) w3.drew sv7 rfl (by kernel_rfl) (GR 2 10 (.inl rfl) rfl rfl trivial (fun _ _ h=>h)) fun a8 sv8=>?_
 change wpList _ _ _ _ _ _
 refine BB sv8 Tryz.func90 (by kernel_rfl) r6 (E6 a _ ha.1 ha.2) fun a9 v9 w9 hR9 sv9=>?_
 obtain⟨ao9,cap9,rfl,_⟩:=(Sl.of_own hR9.1).shape
 obtain⟨ow9,fr9⟩:=hR9
 replace fr9:=Cq fr9
 have g9:=fr9.1
 replace fr9:=fr9.2
 have YK:=Ca fr9 Aq
 have YL:=Ca fr9 EV
 have Qf:=Gk HG fr9
 replace Aq:=AC g9 Aq
 replace hx:=(((hx.kn g2).kn g3).kn gd5).kn g9
 refine AE ⟨⟨Aq,ALg⟩,?_⟩
 change wpList _ _ _ _ _ _
 refine GV DF sv9 rfl rfl rfl rfl rfl rfl rfl rfl ow9 (hx.1) (Dj _) (by omega) fun a10 ao10 cap10 w10 owx10 Bh Bj=>?_
 replace Aq:=AF Bh.1 Aq (fun e=>YK _ e.symm rfl)
 replace EV:=AF Bh.1 (AC g9 EV) (fun e=>YL _ e.symm rfl)
 replace HG:=Br (AA HG g9) Bh.1 fun k e=>Qf k (e)
 rw[←Ck] at owx10
 refine AE ⟨⟨Aq,ALg⟩,?_⟩
 change wpList _ _ _ _ _ _
 refine BB Bj Tryz.func35 (by kernel_rfl) r6 (Jq (ACw (dom:=285) (by decide) rfl hc (VF (MY a) bx) (by rw[List.length_append];omega) (AEy (Sl.of_own owx10)))) fun a11 v11 w11 hR11 B7=>?_
 obtain⟨rfl,g11⟩:=hR11
 replace Aq:=AC g11 Aq
 replace EV:=AC g11 EV
 refine AE ⟨⟨Aq,ALg⟩,?_⟩
 change wpList _ _ _ _ _ _
 refine As B7 r7 (BV ((QZ c a x)) (CV c a x).1) EV (En (CV c a x)) fun w12 g12 h12=>?_
 replace Aq:=Ac g12 Aq (Ne.symm KV)
 replace HG:=AD (AA HG g11) g12 NO
 replace EV:=h12
 refine AE ⟨⟨Aq,ALg⟩,?_⟩
 refine NoPanic.normal ?_
 have Cl:Sv _ _ [_,_] _:=B7.dl [12,11,9,10,8,7,3,1,2]
 refine k4 _ _ ?_
 refine ALd ?_
 repeat refine AJ ?_
 refine Ar (fn:=Tryz.f48) Cl (Dc (p:=6) Tryz.results48 Cl rfl rfl (BV ((QZ c a x)) (CV c a x).1) EV) ?_
 exact⟨rfl,HG⟩
end Go.Proofs.YtbfjfnbcmojpiaaGreat
