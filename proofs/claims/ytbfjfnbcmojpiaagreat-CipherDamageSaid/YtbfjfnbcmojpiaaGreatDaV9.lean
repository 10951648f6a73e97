import Derived.Test.YtbfjfnbcmojpiaaGreatDaV6
import Derived.Test.YtbfjfnbcmojpiaaGreatDaSG
import Derived.Laws.MakeOwn
import Derived.Lib.LazyBuf
set_option linter.unusedSimpArgs false
set_option linter.unusedVariables false
set_option maxRecDepth 100000
set_option maxHeartbeats 4000000
namespace Go.Proofs.YtbfjfnbcmojpiaaGreat
open Go.RowKit
def Sp.made (B:Nat) (e:TypeId) (sz n:Nat) (xs:List Value):Sp:=⟨fun w v=>∃A,v=.slice (some ⟨A,0,none⟩) n n∧Own w e sz (.slice (some ⟨A,0,none⟩) n n) n xs∧B≤A,fun _ _ _ hg ⟨A,h1,h2,h3⟩=>⟨A,h1,h2.kn hg,h3⟩⟩
section
variable {P:Program} {ops:Array Oper} {L:Nat→Sp} {n:Nat} {w0:World} {o:Oper}
theorem SL {z:Value} {sz:Nat} (hz:z.cells.size=sz) (hp:0<sz) (m:Nat):(madeCells z.cells (m*sz)).toList=(List.replicate m ()).flatMap fun _=>z.cells.toList:=by
 refine List.ext_getElem? fun i=>?_
 have hl:((List.replicate m ()).flatMap fun _=>z.cells.toList).length=m*sz:=by rw[JG (sz:=sz) (fun _=>by simpa using hz)];simp
 by_cases hi:i<m*sz
 · have h1:i/sz<m:=(Nat.div_lt_iff_lt_mul hp).2 hi
   have h2:i%sz<sz:=Nat.mod_lt _ hp
   have e1:(madeCells z.cells (m*sz)).toList[i]?=some z.cells[i%sz]!:=by rw[←hz] at hi ⊢;simp[madeCells,hi]
   have e2:((List.replicate m ()).flatMap fun _=>z.cells.toList)[i]?=some (z.cells[i%sz]'(by omega)):=by
    have hsp:=Mo (c:=fun _=>z.cells.toList) (L:=List.replicate m ()) (j:=i/sz) (by simpa using h1)
    rw[hsp,List.getElem?_append_right (by rw[JG (sz:=sz) (fun _=>by simpa using hz),List.length_take,List.length_replicate,Nat.min_eq_left (Nat.le_of_lt h1)];exact Nat.div_mul_le_self i sz),JG (sz:=sz) (fun _=>by simpa using hz),List.length_take,List.length_replicate,Nat.min_eq_left (Nat.le_of_lt h1)]
    have e3:i-i/sz*sz=i%sz:=by have:=Nat.div_add_mod i sz;rw[Nat.mul_comm] at this;omega
    rw[e3,List.getElem?_append_left (by simpa [hz] using h2),Array.getElem?_toList,Array.getElem?_eq_getElem (by omega)]
   rw[e1,e2,getElem!_pos z.cells _ (by omega)]
 · rw[List.getElem?_eq_none (by simp[madeCells];omega),List.getElem?_eq_none (by omega)]
theorem AJY {t e:TypeId} {z:Value} {size bytes d B m:Nat} {x:Operand} {xs:List Value} (E:ET P t e z size bytes) (ho:o.op=.makeSlice t x x) (hd:o.dst=some d) (hg:GX ops L n o.guard) (hB:B≤w0.heap.size)
  (hx:OpX L n x (.int .i64 (m:Int))) (hm:m≤1000000) (hxs:xs=(List.replicate m ()).flatMap fun _=>z.cells.toList)
  (h:∀w v,(Sp.made B e size m xs).on w v→(L d).on w v):OX P ops L n w0 o:=by
 intro a w hw hl hs
 unfold OpSays
 rw[if_pos (hg.wanted hl hs)]
 have e1:=hx.eval (o:=o) (a:=a) (w:=w) (by simp[ho,Op.operands]) hl
 obtain⟨i,hi,hz,rfl,hby⟩:=E.inf
 have hb:=E.bnd
 have hbytes:(i.bytes:Int)*(m:Int)≤281474976710656:=by
  have h1:i.bytes*m≤128*1000000:=Nat.mul_le_mul (by omega) hm
  have h2:((i.bytes*m:Nat):Int)≤((128*1000000:Nat):Int):=by omega
  rw[Int.natCast_mul] at h2
  omega
 have hr:=run_make (P:=P) w t e i z E.und hi hz .i64 .i64 (m:Int) (m:Int) (by omega) (by omega) hbytes (by omega)
 have hrr:(execOp a.eval o).run P w=.ok (.value (.slice (some ⟨w.heap.size,0,none⟩) m m)) (w.alloc (.cells (madeCells z.cells (m*i.size)) e)):=by
  simp only[execOp,ho,e1,Sem.run_bind,Sem.run_pure,Result.andThen_ok,hr,Int.toNat_natCast]
 rw[hrr]
 refine⟨World.grownBy_alloc _ _ _,Da hd (h _ _ ⟨_,rfl,?_,Nat.le_trans hB hw.size⟩)⟩
 have hcl:(madeCells z.cells (m*i.size)).size=m*i.size:=size_madeCells _ _
 refine⟨by rw[hxs,←SL E.zsz E.pos,Array.length_toList,hcl],.inr ⟨w.heap.size,m,_,rfl,Nat.zero_le _,Ak rfl,Nat.le_refl _,by unfold maxLen;omega,hcl,?_⟩⟩
 rw[hxs,←SL E.zsz E.pos,List.take_of_length_le (by rw[Array.length_toList,hcl];exact Nat.le_refl _)]
theorem XK {t e:TypeId} (ht:P.underlying t=some (.slice e)) {x y:Operand} {ao:Option Addr} {l c:Nat} {r:Bool} (hr:ao.isNone=r) {w:World}:(do eqGuard .eql t x y (.slice ao l c) (.slice none 0 0);binOp .eql t (.slice ao l c) (.slice none 0 0):Sem Value).run P w=.ok (.bool r) w:=by
 subst hr
 have:=run_eql_slice_nil (P:=P) w t e ao l c ht
 simp[eqGuard,this]
end
def SM:VK:=⟨AR,AU,none,0,[]⟩
theorem AMR (m:Nat):((List.replicate m ()).flatMap fun _=>zK.cells.toList)=(List.replicate m SM).flatMap Ar:=by
 induction m with
 | zero=>rfl
 | succ m ih=>rw[List.replicate_succ,List.replicate_succ,List.flatMap_cons,List.flatMap_cons,ih];rfl
theorem KsR.rep (w:World) (m:Nat):KsR w (List.replicate m SM):=fun k hk=>by
 obtain⟨_,rfl⟩:=List.mem_replicate.1 hk
 exact RdT.nil w
theorem Mq (m b:Nat):¬Eb (List.replicate m SM) b:=by
 rintro ⟨k,hk,h⟩
 obtain⟨_,rfl⟩:=List.mem_replicate.1 hk
 simp[OZ,VK.s,SM,Value.ownBlock] at h
theorem KsR.set {w:World} {ms:List VK} (h:KsR w ms) {x:VK} (hx:RdT w x.s x.l) (i:Nat):KsR w (ms.set i x):=fun k hk=>(List.mem_or_eq_of_mem_set hk).elim (h k) fun e=>e▸hx
theorem LY {ms:List VK} {x:VK} {i b:Nat} (h:Eb (ms.set i x) b):Eb ms b∨OZ x.s b:=by
 obtain⟨k,hk,hb⟩:=h
 exact(List.mem_or_eq_of_mem_set hk).elim (fun h=>.inl ⟨k,h,hb⟩) fun e=>.inr (e▸hb)
def KsT (w:World) (ms:List VK):Prop:=KsR w ms∧∀k,Eb ms k→TagB w k
section
variable {w w':World} {ms:List VK}
theorem KsT.kn (h:KsT w ms) (g:w.grownBy w' none):KsT w' ms:=⟨h.1.kn g,fun k hk=>(h.2 k hk).keep g (by simp)⟩
theorem KsT.offR (h:KsT w ms) {row:Option Nat} (g:w.grownBy w' row) (hb:∀k,Eb ms k→row≠some k):KsT w' ms:=⟨h.1.offR g hb,fun k hk=>(h.2 k hk).keep g (hb k hk)⟩
theorem KsT.lt (h:KsT w ms):∀k,Eb ms k→k<w.heap.size:=h.1.lt
theorem KsT.rep (w:World) (m:Nat):KsT w (List.replicate m SM):=⟨KsR.rep w m,fun k hk=>(Mq m k hk).elim⟩
theorem KsT.set (h:KsT w ms) {x:VK} (hx:RdTg w x.s x.l) (i:Nat):KsT w (ms.set i x):=⟨h.1.set hx.1 i,fun k hk=>(LY hk).elim (h.2 k) (hx.2 k)⟩
end
def Sp.ck (B:Nat) (o:List Nat) (l:List Nd):Sp:=⟨fun w v=>∃x:VK,v=JH x∧x.o=o∧x.l=l∧RdTg w x.s x.l∧∀k,OZ x.s k→B≤k,fun _ _ _ hg ⟨x,h1,h2,h3,h4,h5⟩=>⟨x,h1,h2,h3,h4.kn hg,h5⟩⟩
section
variable {ops:Array Oper} {L:Nat→Sp} {n:Nat} {w0:World} {o:Oper}
theorem AMS {B:Nat} {l:List Nd} {w:World} {u:Value} (h:(Sp.cl B l).on w u):∃v,(Instr.build 56 #[(0,u)]).run Tryz.prog w=.ok v w∧(Sp.ct B l).on w v:=by
 obtain⟨ao,cap,rfl,h2,h3⟩:=h
 exact⟨_,ANQ ao _ cap w,ao,cap,rfl,h2,h3⟩
theorem AHL {B:Nat} {l:List Nd} {x:List Nat} (hx:Dg x) {w:World} {u t:Value} (hu:u=AQ x) (h:(Sp.ct B l).on w t):∃v,(Instr.build 58 #[(0,u),(1,t)]).run Tryz.prog w=.ok v w∧(Sp.ck B x l).on w v:=by
 obtain⟨ao,cap,rfl,h2,h3⟩:=h
 subst hu
 exact⟨_,bK2 (k:=⟨x,hx,ao,cap,l⟩) w,⟨x,hx,ao,cap,l⟩,rfl,rfl,rfl,h2,h3⟩
end
theorem AMT (x:VK) (w:World):(Instr.buildSlice 34 1 #[(0,JH x)]).run Tryz.prog w=.ok (.slice (some ⟨w.heap.size,0,none⟩) 1 1) (w.alloc (.cells (Ar x).toArray 58)):=by
 obtain⟨o,ho,ao,cap,l⟩:=x
 obtain⟨x0,x1,x2,x3,x4,x5,x6,x7,x8,x9,x10,x11,x12,x13,x14,x15,x16,x17,x18,x19,x20,x21,x22,x23,x24,x25,x26,x27,x28,x29,x30,x31,rfl⟩:=Jq _ ho.1
 kernel_rfl
theorem AJZ {ks ms:List VK} {i:Nat} {x y:VK} (hl:ms.length=ks.length) (hi:i<ks.length) (hx:ks[i]=x) (ho:y.o=x.o) (hll:y.l=x.l) (h:∀j,j<i→(ms.map VK.p)[j]?=(ks.map VK.p)[j]?):∀j,j<i+1→((ms.set i y).map VK.p)[j]?=(ks.map VK.p)[j]?:=by
 intro j hj
 rw[List.getElem?_map,List.getElem?_set]
 by_cases e:i=j
 · subst e
   rw[if_pos rfl,if_pos (by omega),List.getElem?_map,List.getElem?_eq_getElem hi,hx]
   simp[VK.p,ho,hll]
 · rw[if_neg e,←List.getElem?_map]
   exact h j (by omega)
theorem ALT {ks ms:List VK} {i:Nat} (hl:ms.length=ks.length) (hi:¬i<ks.length) (h:∀j,j<i→(ms.map VK.p)[j]?=(ks.map VK.p)[j]?):ms.map VK.p=ks.map VK.p:=by
 refine List.ext_getElem? fun j=>?_
 by_cases hj:j<ks.length
 · exact h j (by omega)
 · rw[List.getElem?_eq_none (by simpa [hl] using hj),List.getElem?_eq_none (by simpa using hj)]
end Go.Proofs.YtbfjfnbcmojpiaaGreat
namespace Go.Proofs.YtbfjfnbcmojpiaaGreat
open Go.RowKit Go.Shelf
theorem AC4 (l:List Nd):(IU l).all Value.oneCell'=true:=Zs l
theorem AC5 {w:World} {ao:Option Addr} {n cap j:Nat} {ks:List VK} {x:VK} (h:Sl w 33 (.slice ao n cap) n (ks.flatMap Ar)) (hj:j<ks.length) (hx:ks[j]=x):w.rangeAt (bO ao) (oO ao+j*33) (Ar x):=hx▸CW h EB hj (by decide)
theorem NT {w:World} {ao:Option Addr} {n cap j:Nat} {ks:List VK} {x:VK} (h:Sl w 33 (.slice ao n cap) n (ks.flatMap Ar)) (hj:j<ks.length) (hx:ks[j]=x):w.rangeAt (bO ao) (oO ao+j*33) (bv x.o):=
 Po (o:=oO ao+j*33) (k:=0) (A:=[]) (B:=bv x.o) (C:=[x.s]) (AC5 h hj hx) rfl
theorem AFj  (w:World) :
  Calls Tryz.prog 114 #[.slice none 0 0] w fun e w'=>e=.returned (.slice none 0 0)∧w.grownBy w' none:=by
 refine BV Tryz.func114 rfl Tryz.ntmps114 rfl fun a0 sv0=>?_
 have HG:=World.grownBy.refl w none
 replace sv0:Sv 8 [] [(0,.slice none 0 0)] a0:=sv0
 refine AOQ fun K1 k1=>?_
 refine AOP ?_
 refine AS (v:=.slice none 0 0) sv0 r6 fun a2 sv2=>?_
 refine AD ?_
 refine k1 _ _ ?_
 refine AOQ fun K3 k3=>?_
 refine AOQ fun K4 k4=>?_
 refine AOP ?_
 refine AH sv2 2 [(3,.slice none 0 0),(4,.bool true)]
  ⟨ym r5,Ce r6 (fun _=>XK Tryz.underlying54 rfl),AOW⟩ fun a5 w5 g5 sv5=>?_
 refine AD ?_
 refine k4 _ _ ?_
 refine Am sv5 rfl rfl ?_
 refine AOQ fun K6 k6=>?_
 refine AOP ?_
 refine AS (v:=.slice none 0 0) sv5 r6 fun a7 sv7=>?_
 refine AD ?_
 refine k6 _ _ ?_
 replace HG:=AA HG g5
 refine AOT ?_
 repeat refine AM ?_
 refine Ap (fn:=Tryz.f114) sv7 (BK (p:=2) Tryz.results114 sv7 rfl rfl) ?_
 exact⟨rfl,HG⟩
theorem AC6 (l:List Nd) (ad:Addr) (cap:Nat) (w:World) (h:RdT w (.slice ((some ad)) l.length cap) l) :
  Calls Tryz.prog 114 #[.slice ((some ad)) l.length cap] w fun e w'=>∃ao cap,e=.returned (.slice ao l.length cap)∧RdTg w' (.slice ao l.length cap) l∧(∀k,OZ (.slice ao l.length cap) k→w.heap.size≤k)∧w.grownBy w' none:=by
 refine BV Tryz.func114 rfl Tryz.ntmps114 rfl fun a0 sv0=>?_
 have HG:=World.grownBy.refl w none
 replace sv0:Sv 8 [] [(0,.slice ((some ad)) l.length cap)] a0:=sv0
 refine AOQ fun K1 k1=>?_
 refine AOP ?_
 refine AS (v:=.slice none 0 0) sv0 r6 fun a2 sv2=>?_
 refine AD ?_
 refine k1 _ _ ?_
 refine AOQ fun K3 k3=>?_
 refine AOQ fun K4 k4=>?_
 refine AOP ?_
 refine AH sv2 2 [(3,.slice ((some ad)) l.length cap),(4,.bool false)]
  ⟨ym r5,Ce r6 (fun _=>XK Tryz.underlying54 rfl),AOW⟩ fun a5 w5 g5 sv5=>?_
 refine AD ?_
 refine k4 _ _ ?_
 refine Au sv5 rfl rfl ?_
 refine AOU ?_
 refine k3 _ _ ?_
 refine AOQ fun K6 k6=>?_
 refine AOP ?_
 replace h:=h.kn g5
 replace HG:=AA HG g5
 refine JX (sv5.st w5) 3 [(5,Sp.lit0 w5.heap.size 132),(6,Sp.is (.slice ((some ad)) l.length cap)),(7,Sp.row w5.heap.size 132 34 l.length (IU l))] rfl (by kernel_rfl) (by kernel_rfl) (by kernel_rfl)
  ⟨XN (t:=0) rfl trivial (Nat.le_refl _) (fun a w=>by kernel_rfl) (fun _ _ h=>h),ym r5,XO (news:=IU l) ALC rfl rfl trivial rfl (fun _ _ h=>h) (oy rfl rfl) (fun _ g=>(h.kn g).1) (AC4 l) h.2.2.2 (Nat.le_refl _) (fun _ _ h=>h),AOW⟩ fun a7 w7 g7 st7=>?_
 obtain⟨hn7,hd7,e7_5,e7_6,e7_7,e7_3,e7_4,e7_2,e7_0,-⟩:=st7
 obtain⟨ao8,cap8,e7_7q,ow8,fr8⟩:=e7_7
 have AC7:=IM HG fr8
 replace h:=h.kn g7
 replace HG:=AA HG g7
 have sv7:Sv 8 [] [(3,_),(4,_),(2,_),(0,_),(7,_)] a7:=⟨hn7,hd7,e7_3,e7_4,e7_2,e7_0,e7_7q,AOW⟩
 refine AS (v:=.slice ao8 l.length cap8) sv7 r6 fun a9 sv9=>?_
 refine AD ?_
 refine k6 _ _ ?_
 refine AOT ?_
 repeat refine AM ?_
 refine Ap (fn:=Tryz.f114) sv9 (BK (p:=2) Tryz.results114 sv9 rfl rfl) ?_
 exact⟨_,_,rfl,⟨⟨Sl.of_own ow8,h.2.1,fun k hk=>Own.lt ow8 k hk.1,h.2.2.2⟩,Tag.of ow8⟩,fun k hk=>AC7 k hk.1,HG⟩
theorem AC8 {l:List Nd} {s:Value} {w:World} (h:RdT w s l):Calls Tryz.prog 114 #[s] w fun e w'=>∃ao cap,e=.returned (.slice ao l.length cap)∧RdTg w' (.slice ao l.length cap) l∧(∀k,OZ (.slice ao l.length cap) k→w.heap.size≤k)∧w.grownBy w' none:=by
 obtain⟨ao,cap,rfl⟩:=h.shape
 cases ao with
 | some ad=>exact AC6 l ad cap w h
 | none =>
  have h0:l.length=0∧cap=0:=by
   obtain⟨⟨_,ao',cap',e,h1,_,h3,_⟩,_⟩:=h
   simp only[Value.slice.injEq,true_and] at e
   obtain⟨rfl,rfl⟩:=e
   have:=h3 rfl
   omega
  obtain⟨h1,rfl⟩:=h0
  obtain rfl:l=[]:=List.eq_nil_of_length_eq_zero h1
  exact(AFj w).mono fun e w' ⟨h1,h2⟩=>⟨none,0,h1,⟨h.kn h2,fun k hk=>(Wn k hk).elim⟩,fun k hk=>(Wn k hk).elim,h2⟩
theorem AHc {w0:World} {l:List Nd} {s:Value} (h:RdT w0 s l):∀W,w0.grownBy W none→Calls Tryz.prog 114 #[s] W fun e W'=>∃v,e=.returned v∧W.grownBy W' none∧(Sp.cl w0.heap.size l).on W' v:=fun W g =>
 (AC8 (h.kn g)).mono fun e W' ⟨ao,cap,h1,h2,h3,h4⟩=>⟨_,h1,h4,ao,cap,rfl,h2,fun k hk=>Nat.le_trans g.size (h3 k hk)⟩
theorem AAT (ks:List VK) (ao:Option Addr) (cap:Nat) (sa po:List Nat) (hsa:Dg sa) (hpo:Dg po) (w:World) (hr:RdK w (.slice ao ks.length cap) ks) (h64:ks.length≤64) :
   Calls Tryz.prog 72 #[Ay sa po (.slice ao ks.length cap)] w fun e w'=>∃A ms,e=.returned (Ay sa po (.slice (some ⟨A,0,none⟩) ks.length ks.length))∧ms.map VK.p=ks.map VK.p∧Own w' 58 33 (.slice (some ⟨A,0,none⟩) ks.length ks.length) ks.length (ms.flatMap Ar)∧KsT w' ms∧w.heap.size≤A∧(∀k,Eb ms k→w.heap.size≤k∧k≠A)∧w.grownBy w' none:=by
 refine BV Tryz.func72 rfl Tryz.ntmps72 rfl fun a0 sv0=>?_
 have HG:=World.grownBy.refl w none
 replace sv0:Sv 33 [] [(0,Ay sa po (.slice ao ks.length cap))] a0:=sv0
 refine AOQ fun K1 k1=>?_
 refine AOP ?_
 refine Bi sv0 r6 (B6 hsa hpo (.slice ao ks.length cap) rfl) fun a2 w2 B8 Gx g2 z2 Ac sv2=>?_
 have AJi:=Bq HG Gx
 replace HG:=AA HG g2
 refine A9 (T:=36) (Z:=([bv AR,bv AR,[.slice none 0 0]].flatten)) sv2 rfl rfl rfl (fun a w=>by kernel_rfl) fun a3 w3 Pt Kh g3 z3 Cy sv3=>?_
 have XW:=Ao Ac Kh
 have L9:=Bq HG Kh
 replace Ac:=AC g3 Ac
 replace hr:=(hr.kn g2).kn g3
 replace HG:=AA HG g3
 refine AD ?_
 refine k1 _ _ ?_
 refine AOQ fun K4 k4=>?_
 refine AOP ?_
 refine JX (sv3.st w3) 4 [(6,Sp.is (pk B8 64)),(7,Sp.is (.slice ao ks.length cap)),(8,Sp.is (.int .i64 ((ks.length:Nat)))),(9,Sp.made w3.heap.size 58 33 ks.length ((List.replicate ks.length SM).flatMap Ar))] rfl (by kernel_rfl) (by kernel_rfl) (by kernel_rfl)
   ⟨yf r6 (fun _=>by kernel_rfl),yp (i:=2) r6 (FP (.slice ao ks.length cap) rfl) Ac rfl (by simp[AO,Af,hsa.1,hpo.1]),BJ (Tryz.underlying34) rfl rfl trivial (oy rfl rfl) (fun _=>rfl),AJY (m:=ks.length) (xs:=(List.replicate ks.length SM).flatMap Ar) AAR rfl rfl trivial (Nat.le_refl _) (oy rfl rfl) (by omega) (AMR _).symm (fun _ _ h=>h),AOW⟩ fun a5 w5 g5 st5=>?_
 obtain⟨hn5,hd5,e5_6,e5_7,e5_8,e5_9,e5_2,e5_1,e5_0,-⟩:=st5
 obtain⟨A,e5_9q,ow,geA⟩:=e5_9
 have frA:∀k,BC (.slice ((some ⟨A,0,none⟩)) ks.length ks.length) k→w3.heap.size≤k:=fun k hk=>(Option.some.inj hk)▸geA
 have J0:=Cj frA Ac
 have J1:=Cj frA Cy
 have ap_hr_ow:=AHK (hr.lt) frA
 have lo_ow:=IM HG frA
 replace Ac:=AC g5 Ac
 have sv5:Sv 33 [] [(2,_),(1,_),(0,_),(9,_)] a5:=⟨hn5,hd5,e5_2,e5_1,e5_0,e5_9q,AOW⟩
 refine AS (v:=.slice ((some ⟨A,0,none⟩)) ks.length ks.length) sv5 r6 fun a6 sv6=>?_
 refine AD ?_
 refine k4 _ _ ?_
 refine AOQ fun K7 k7=>?_
 refine AOQ fun K8 k8=>?_
 refine AOP ?_
 refine AH sv6 4 [(10,pk B8 64),(11,.slice ao ks.length cap),(12,.int .i64 ((ks.length:Nat))),(13,.int .i64 0)]
   ⟨yf r6 (fun _=>by kernel_rfl),yp (i:=2) r6 (FP (.slice ao ks.length cap) rfl) Ac rfl (by simp[AO,Af,hsa.1,hpo.1]),BJ (Tryz.underlying34) rfl rfl trivial (oy rfl rfl) (fun _=>rfl),Fw (.inl rfl) rfl trivial (fun _=>rfl),AOW⟩ fun a9 w9 g9 sv9=>?_
 refine AD ?_
 refine k8 _ _ ?_
 refine BH fun Q10 x10 y10 r10 o10=>?_
 replace Ac:=AC g9 Ac
 replace Cy:=AC g9 (AC g5 Cy)
 replace hr:=(hr.kn g5).kn g9
 replace ow:=ow.kn g9
 replace HG:=AA (AA HG g5) g9
 have kr:=KsT.rep w9 ks.length
 have MF:∀k,Eb (List.replicate ks.length SM) k→k≠B8:=fun k hk=>(Mq _ _ hk).elim
 have MG:∀k,Eb (List.replicate ks.length SM) k→k≠Pt:=fun k hk=>(Mq _ _ hk).elim
 have ap_kr_ow:∀k,Eb (List.replicate ks.length SM) k→¬BC (.slice ((some ⟨A,0,none⟩)) ks.length ks.length) k:=fun k hk=>(Mq _ _ hk).elim
 refine wp_loop (fun a w'=>∃(i:Nat) (ms:List VK),(i≤ks.length)∧(ms.length=ks.length)∧(∀j,j<i→(ms.map VK.p)[j]?=(ks.map VK.p)[j]?)∧(∀k,Eb ms k→w.heap.size≤k)∧Sv 33 [] [(13,.int .i64 ((i:Int))),(10,pk B8 64),(11,.slice ao ks.length cap),(12,.int .i64 ((ks.length:Nat))),(3,.slice ((some ⟨A,0,none⟩)) ks.length ks.length),(2,pt Pt),(1,pt B8),(0,Ay sa po (.slice ao ks.length cap)),(9,.slice ((some ⟨A,0,none⟩)) ks.length ks.length)] a∧w.grownBy w' none∧w'.heap[B8]?=some (.cells ([bv sa,bv po,[.slice ao ks.length cap]].flatten).toArray 36 (0,0))∧w'.heap[Pt]?=some (.cells (([bv AR,bv AR,[.slice none 0 0]].flatten)).toArray 36 (0,0))∧RdK w' (.slice ao ks.length cap) ks∧Own w' 58 33 (.slice ((some ⟨A,0,none⟩)) ks.length ks.length) ks.length (ms.flatMap Ar)∧KsT w' ms∧(∀k,BC (.slice ((some ⟨A,0,none⟩)) ks.length ks.length) k→k≠B8)∧(∀k,BC (.slice ((some ⟨A,0,none⟩)) ks.length ks.length) k→k≠Pt)∧(∀k,KO (.slice ao ks.length cap) ks k→¬BC (.slice ((some ⟨A,0,none⟩)) ks.length ks.length) k)∧(∀k,Eb ms k→¬BC (.slice ((some ⟨A,0,none⟩)) ks.length ks.length) k)∧(∀k,BC (.slice ((some ⟨A,0,none⟩)) ks.length ks.length) k→w.heap.size≤k)∧(∀k,Eb ms k→k≠B8)∧(∀k,Eb ms k→k≠Pt)) (fun a _=>(ks.length-intOf (a.tmps.getD 13 undef)).toNat) ⟨0,List.replicate ks.length SM,Nat.zero_le _,by simp,fun j hj=>by omega,fun k hk=>(Mq _ _ hk).elim,⟨sv9.1,sv9.2.1,sv9.2.2.2.2.2.1,sv9.2.2.1,sv9.2.2.2.1,sv9.2.2.2.2.1,sv9.2.2.2.2.2.2.1,sv9.2.2.2.2.2.2.2.1,(AG sv9).1,(AG sv9).2.1,(AG sv9).2.2.1,AOW⟩,HG,Ac,Cy,hr,ow,kr,J0,J1,ap_hr_ow,ap_kr_ow,lo_ow,MF,MG⟩ fun a11 w11 hI11=>?_
 clear Ac
 clear Cy
 clear hr
 clear ow
 clear kr
 clear HG
 obtain⟨i,ms,hin,hms,hp,hfr,CQ,HG,Ac,Cy,hr,ow,kr,J0,J1,ap_hr_ow,ap_kr_ow,lo_ow,MF,MG⟩:=hI11
 refine AOQ fun K12 k12=>?_
 by_cases hi:i<ks.length
 · obtain⟨x,hx_x⟩:∃x,ks[i]'hi=x:=⟨_,rfl⟩
   have him:i<ms.length:=by omega
   obtain⟨z,hx_z⟩:∃x,ms[i]'him=x:=⟨_,rfl⟩
   refine AOP ?_
   refine AH CQ 1 [(14,.bool true)]
    ⟨Fg r7 (fun _=>BR (decide_eq_true (by omega))),AOW⟩ fun a13 w13 g13 Cx=>?_
   refine AD ?_
   refine k12 _ _ ?_
   refine AOQ fun K14 k14=>?_
   refine Am Cx rfl rfl ?_
   refine AOU ?_
   refine k14 _ _ ?_
   refine AOQ fun K15 k15=>?_
   refine BH fun Q16 x16 y16 r16 o16=>?_
   refine AOQ fun K17 k17=>?_
   refine AOP ?_
   replace hr:=hr.kn g13
   refine AH Cx 3 [(15,.int .i64 ((i:Int))),(16,pk ((bO ao)) (oO ao+i*33)),(17,JH x)]
    ⟨ym r5,BD rq8 (fun w=>CF Tryz.underlying34 (by kernel_rfl) (hr.1.1) (by omega) (rfl) w),Bj r6 (fun _ g=>Ad (XP x) (RdK.keyX (hr.kn g) rfl hi hx_x)),AOW⟩ fun a18 w18 g18 CY=>?_
   replace Ac:=AC g18 (AC g13 Ac)
   replace Cy:=AC g18 (AC g13 Cy)
   replace hr:=hr.kn g18
   replace ow:=(ow.kn g13).kn g18
   replace kr:=(kr.kn g13).kn g18
   replace HG:=AA (AA HG g13) g18
   refine A9 (T:=58) (Z:=([bv AR,[.slice none 0 0]].flatten)) CY rfl rfl rfl (fun a w=>by kernel_rfl) fun a19 w19 AES Lc g19 z19 SY Dq=>?_
   have Ud:=Ao Ac Lc
   have Ue:=Ao Cy Lc
   have AHd:=Bq HG Lc
   have AAU:=Aw (hr.lt) Lc
   have AAV:=Aw (Own.ltS ow) Lc
   have QV:=Aw (kr.lt) Lc
   refine AS (v:=.int .i64 ((i:Int))) Dq r6 fun a20 Du=>?_
   refine Aq Du r7 (XP x) SY (by first|rfl|simp[Ar,AO,Af,x.ho.1]) fun w21 g21 h21=>?_
   replace Ac:=Aa g21 (AC g19 Ac) (Ne.symm Ud)
   replace Cy:=Aa g21 (AC g19 Cy) (Ne.symm Ue)
   replace hr:=(hr.kn g19).offR g21 (AP AAU)
   replace ow:=(ow.kn g19).offR g21 (AP AAV)
   replace HG:=AE (AA HG g19) g21 AHd
   replace SY:=h21
   refine AD ?_
   refine k17 _ _ ?_
   refine DP (Du.st w21) (by kernel_rfl) 11 [(18,Sp.is (.slice ((some ⟨A,0,none⟩)) ks.length ks.length)),(19,Sp.is (.int .i64 ((i:Int)))),(20,Sp.is (pt AES)),(21,Sp.is (AQ x.o)),(22,Sp.is (pk AES 32)),(23,Sp.is (pk AES 32)),(24,Sp.is (VK.s x)),(25,Sp.cl w21.heap.size x.l),(26,Sp.ct w21.heap.size x.l),(27,Sp.ck w21.heap.size x.o x.l),(28,Sp.is (pk ((bO ((some ⟨A,0,none⟩)))) (oO ((some ⟨A,0,none⟩))+i*33)))] rfl (by kernel_rfl) (by kernel_rfl) (by kernel_rfl) [] (by kernel_rfl)
    ⟨ym r5,ym r5,yf r6 (fun _=>by kernel_rfl),yp (i:=0) r6 (Bb x.o x.ho.1) SY rfl rfl,yf r6 (fun _=>by kernel_rfl),yf r6 (fun _=>by kernel_rfl),yp (i:=1) r6 (ANL (VK.s x) rfl) SY rfl (by simp[AO,Af,x.ho.1]),Ag [VK.s x] Tryz.func114 (by kernel_rfl) rq4 ⟨(oy rfl rfl),AOW⟩ (AHc (hr.kt hi hx_x)),NQ rfl rfl trivial rfl (fun W _ av h=>match av,h with|[u],⟨h1,_⟩=>AMS h1),NQ rfl rfl trivial rfl (fun W _ av h=>match av,h with|[u,t],⟨h1,h2,_⟩=>AHL x.ho h1 h2),BD rq8 (fun w=>CF Tryz.underlying34 (by kernel_rfl) (Sl.of_own ow) (by omega) (rfl) w),AOW⟩ trivial
    [] (by kernel_rfl) trivial ⟨.inl rfl,.inl rfl,.inl rfl,.inl rfl,.inl rfl,.inl rfl,.inl rfl,.inl rfl,.inl rfl,.inl rfl,.inl rfl,AOW⟩ (by kernel_rfl) fun a22 w22 g22 st22 nd22=>?_
   obtain⟨hn22,hd22,e22_18,e22_19,e22_20,e22_21,e22_22,e22_23,e22_24,e22_25,e22_26,e22_27,e22_28,e22_4,e22_5,e22_15,e22_16,e22_17,e22_14,e22_13,e22_10,e22_11,e22_12,e22_3,e22_2,e22_1,e22_0,e22_9,-⟩:=st22
   obtain⟨y,e22_27q,hyo,hyl,rt,frB⟩:=e22_27
   have HG0:=HG
   have AC9:=Cj frB Ac
   have ADA:=Cj frB Cy
   have AAW:=Cj frB SY
   have ap_rt_ow:=ANP (Own.ltS ow) frB
   replace ow:=ow.kn g22
   have B7:Sv 33 [] [(4,_),(5,_),(15,_),(16,_),(17,_),(14,_),(13,_),(10,_),(11,_),(12,_),(3,_),(2,_),(1,_),(0,_),(9,_),(27,_),(28,_)] a22:=⟨hn22,hd22,e22_4,e22_5,e22_15,e22_16,e22_17,e22_14,e22_13,e22_10,e22_11,e22_12,e22_3,e22_2,e22_1,e22_0,e22_9,e22_27q,e22_28,AOW⟩
   refine Jt (c:=Ar) (el:=y) B7 rfl rfl rfl rfl rfl rfl rfl (XP y) ow EB (by decide) (by first|omega|(simp only[List.length_set];omega)) rfl fun w23 g23 h23=>?_
   replace Ac:=AF g23 (AC g22 Ac) (fun e=>J0 _ (CX (j:=i) ow (by omega) rfl) (Option.some.inj e).symm)
   replace Cy:=AF g23 (AC g22 Cy) (fun e=>J1 _ (CX (j:=i) ow (by omega) rfl) (Option.some.inj e).symm)
   replace hr:=(hr.kn g22).offR g23 (fun k hk e=>ap_hr_ow k hk (CX (j:=i) ow (by omega) e))
   replace kr:=(((kr.kn g19).offR g21 (AP QV)).kn g22).offR g23 (fun k hk e=>ap_kr_ow k hk (CX (j:=i) ow (by omega) e))
   replace rt:=rt.offR g23 (fun k hk e=>ap_rt_ow k hk (CX (j:=i) ow (by omega) e))
   replace HG:=Bu (AA HG g22) g23 fun k e=>lo_ow k (CX (j:=i) ow (by omega) e)
   refine AD ?_
   have kr2:=KsT.set kr (x:=y) rt i
   have AAX:∀k,Eb (ms.set i y) k→k≠B8:=fun k hk=>(LY hk).elim (MF k) (AC9 k)
   have AAY:∀k,Eb (ms.set i y) k→k≠Pt:=fun k hk=>(LY hk).elim (MG k) (ADA k)
   have AJj:∀k,Eb (ms.set i y) k→k≠AES:=fun k hk=>(LY hk).elim (QV k) (AAW k)
   have ap_kr2_ow:∀k,Eb (ms.set i y) k→¬BC (.slice ((some ⟨A,0,none⟩)) ks.length ks.length) k:=fun k hk=>(LY hk).elim (ap_kr_ow k) (ap_rt_ow k)
   refine y16 _ _ ?_
   refine k15 _ _ ?_
   refine AOP ?_
   refine AH B7 1 [(29,.int .i64 (((i+1:Nat):Int)))]
    ⟨Ce r6 (fun _=>Dd (by rw[BT (by omega) (by omega)];omega)),AOW⟩ fun a24 w24 g24 EN=>?_
   refine AH (EN.dl [13]) 1 [(13,.int .i64 (((i+1:Nat):Int)))]
    ⟨ym r5,AOW⟩ fun a25 w25 g25 DR=>?_
   have JJ:=AA g24 g25
   refine AD ?_
   replace Ac:=AC JJ Ac
   replace Cy:=AC JJ Cy
   replace hr:=hr.kn JJ
   replace ow:=h23.kn JJ
   replace kr2:=kr2.kn JJ
   replace HG:=AA HG JJ
   exact⟨⟨i+1,ms.set i y,by omega,by rw[List.length_set];exact hms,AJZ hms hi hx_x hyo hyl hp,fun k hk=>(LY hk).elim (hfr k) fun h=>Nat.le_trans HG0.size (frB k h),⟨DR.1,DR.2.1,DR.2.2.1,(AG DR).2.2.1,(AG DR).2.2.2.1,(AG DR).2.2.2.2.1,(AG DR).2.2.2.2.2.1,(AG DR).2.2.2.2.2.2.1,(AG DR).2.2.2.2.2.2.2.1,(AG (AG DR)).1,(AG (AG DR)).2.1,AOW⟩,HG,Ac,Cy,hr,ow,kr2,J0,J1,ap_hr_ow,ap_kr2_ow,lo_ow,AAX,AAY⟩,by rw[show _=_ from DR.2.2.1,show _=_ from CQ.2.2.1];simp[intOf];omega⟩
 · have hall:=ALT hms hi hp
   refine AOP ?_
   refine AH CQ 1 [(14,.bool false)]
    ⟨Fg r7 (fun _=>BR (decide_eq_false (by omega))),AOW⟩ fun a26 w26 g26 DH=>?_
   refine AD ?_
   refine k12 _ _ ?_
   refine AOQ fun K27 k27=>?_
   refine Au DH rfl rfl ?_
   refine wp_exit ?_
   repeat refine CA ?_
   refine x10 _ _ ?_
   refine k7 _ _ ?_
   refine AOQ fun K28 k28=>?_
   refine AOP ?_
   refine AH DH 2 [(30,.slice ((some ⟨A,0,none⟩)) ks.length ks.length),(31,pk B8 64)]
    ⟨ym r5,yf r6 (fun _=>by kernel_rfl),AOW⟩ fun a29 w29 g29 Ck=>?_
   have La:=AA g26 g29
   refine IL (L:=[bv sa,bv po,[.slice ao ks.length cap]]) (i:=2) Ck r7 (FP (.slice ((some ⟨A,0,none⟩)) ks.length ks.length) rfl) (AC La Ac) rfl (by simp[AO,Af,hsa.1,hpo.1]) rfl fun w30 g30 h30=>?_
   replace Cy:=Ab La g30 Cy XW
   replace Ac:=h30
   refine AD ?_
   refine k28 _ _ ?_
   refine AOQ fun K31 k31=>?_
   refine AOP ?_
   refine AH Ck 1 [(32,Ay sa po (.slice ((some ⟨A,0,none⟩)) ks.length ks.length))]
    ⟨yl r6 (B6 hsa hpo (.slice ((some ⟨A,0,none⟩)) ks.length ks.length) rfl) Ac,AOW⟩ fun a32 w32 g32 Cu=>?_
   refine Aq Cu r7 (B6 hsa hpo (.slice ((some ⟨A,0,none⟩)) ks.length ks.length) rfl) (AC g32 Cy) (by first|rfl|simp[Ar,AO,Af,hsa.1,hpo.1]) fun w33 g33 h33=>?_
   replace ow:=(((ow.kn La).offR g30 (AP J0)).kn g32).offR g33 (AP J1)
   replace kr:=(((kr.kn La).offR g30 (AP MF)).kn g32).offR g33 (AP MG)
   replace HG:=AE (AA (AE (AA HG La) g30 AJi) g32) g33 L9
   replace Cy:=h33
   refine AD ?_
   refine k31 _ _ ?_
   refine AOT ?_
   repeat refine AM ?_
   refine Ap (fn:=Tryz.f72) Cu (EE (p:=2) Tryz.results72 Cu rfl rfl (B6 hsa hpo (.slice ((some ⟨A,0,none⟩)) ks.length ks.length) rfl) Cy) ?_
   exact⟨A,ms,rfl,hall,ow,kr,lo_ow _ rfl,fun k hk=>⟨hfr k hk,fun e=>ap_kr_ow k hk (e▸rfl)⟩,HG⟩
def TagV (w:World) (k:Nat):Prop:=TagB w k∨∃c fr,w.heap[k]?=some (.cells c 58 fr)
theorem TagV.keep {w w':World} {k:Nat} (h:TagV w k) {row:Option Nat} (g:w.grownBy w' row) (hb:row≠some k):TagV w' k:=h.imp (·.keep g hb) fun⟨c,fr,h1⟩=>⟨c,fr,AF g h1 fun e=>hb e.symm⟩
def VRes (w w':World) (r:VV×Int) (fp:Nat→Prop) (e:Ending):Prop:=∃ao cap ks,e=.returned (.tuple #[Ay r.1.2.1 r.1.2.2 (.slice ao ks.length cap),.int .i64 r.2])∧ks.map VK.p=r.1.1∧RdK w' (.slice ao ks.length cap) ks∧(∀k,KO (.slice ao ks.length cap) ks k→fp k∨TagV w' k)∧w.grownBy w' none
theorem VRes.zero {w w':World} {r:VV×Int} {fp:Nat→Prop} {c:Int} (hr:r=(AHe,c)) (h:w.grownBy w' none):VRes w w' r fp (.returned (.tuple #[Ay AR AR (.slice none 0 0),.int .i64 c])):=by
 subst hr
 exact⟨none,0,[],rfl,rfl,RdK.nil w',fun k hk=>(Ov k hk).elim,h⟩
theorem VRes.mk2 {w w':World} {r:VV×Int} {fp:Nat→Prop} {P:List VP} {sa po:List Nat} {c:Int} {ao:Option Addr} {n cap:Nat} {ks:List VK} (hr:r=((P,sa,po),c)) (hp:ks.map VK.p=P) (ho:Own w' 58 33 (.slice ao n cap) n (ks.flatMap Ar)) (hk:KsR w' ks) (h2:∀k,Eb ks k→fp k∨TagB w' k)
  (h:w.grownBy w' none):VRes w w' r fp (.returned (.tuple #[Ay sa po (.slice ao n cap),.int .i64 c])):=by
 obtain rfl:=Own.rdk ho
 subst hr
 exact⟨ao,cap,ks,rfl,hp,⟨ho.sb,hk⟩,fun k hk=>hk.elim (fun h=>.inr (.inr (Own.block ho h))) (fun h=>(h2 k h).imp id .inl),h⟩
theorem VRes.mk {w w':World} {r:VV×Int} {fp:Nat→Prop} {P:List VP} {sa po:List Nat} {c:Int} {ao:Option Addr} {n cap:Nat} {ks:List VK} (hr:r=((P,sa,po),c)) (hp:ks.map VK.p=P) (ho:Own w' 58 33 (.slice ao n cap) n (ks.flatMap Ar)) (hk:KsT w' ks)
 (h:w.grownBy w' none):VRes w w' r fp (.returned (.tuple #[Ay sa po (.slice ao n cap),.int .i64 c])):=VRes.mk2 hr hp ho hk.1 (fun k hk'=>.inr (hk.2 k hk')) h
theorem VRes.same {w w':World} {r:VV×Int} {fp:Nat→Prop} {P:List VP} {sa po:List Nat} {c:Int} {ao:Option Addr} {cap:Nat} {ks:List VK} (hr:r=((P,sa,po),c)) (hp:ks.map VK.p=P) (ho:RdK w' (.slice ao ks.length cap) ks)
  (h1:∀k,KO (.slice ao ks.length cap) ks k→fp k) (h:w.grownBy w' none):VRes w w' r fp (.returned (.tuple #[Ay sa po (.slice ao ks.length cap),.int .i64 c])):=by
 subst hr
 exact⟨ao,cap,ks,rfl,hp,ho,fun k hk=>.inl (h1 k hk),h⟩
def Sp.cln (B:Nat) (sa po:List Nat) (n:Nat) (P:List VP):Sp:=⟨fun w v=>∃(A:Nat) (ms:List VK),v=Ay sa po (.slice (some ⟨A,0,none⟩) n n)∧ms.map VK.p=P∧Own w 58 33 (.slice (some ⟨A,0,none⟩) n n) n (ms.flatMap Ar)∧KsT w ms∧B≤A∧∀k,Eb ms k→B≤k∧k≠A,
 fun _ _ _ hg ⟨A,ms,h1,h2,h3,h4,h5,h6⟩=>⟨A,ms,h1,h2,h3.kn hg,h4.kn hg,h5,h6⟩⟩
theorem AFk {w0:World} {ks:List VK} {ao:Option Addr} {cap:Nat} {sa po:List Nat} (hsa:Dg sa) (hpo:Dg po) (hr:RdK w0 (.slice ao ks.length cap) ks) (h64:ks.length≤64):∀W,w0.grownBy W none→Calls Tryz.prog 72 #[Ay sa po (.slice ao ks.length cap)] W fun e W'=>∃v,e=.returned v∧W.grownBy W' none∧(Sp.cln w0.heap.size sa po ks.length (ks.map VK.p)).on W' v:=fun W g =>
 (AAT ks ao cap sa po hsa hpo W (hr.kn g) h64).mono fun e W' ⟨A,ms,h1,h2,h3,h4,h5,h6,h7⟩=>⟨_,h1,h7,A,ms,rfl,h2,h3,h4,Nat.le_trans g.size h5,fun k hk=>⟨Nat.le_trans g.size (h6 k hk).1,(h6 k hk).2⟩⟩
theorem KsT.ins {w:World} {ms:List VK} (h:KsT w ms) {x:VK} (hx:RdTg w x.s x.l) (i:Nat):KsT w (ms.take i++x::ms.drop i):=by
 have hh:∀k,k∈ms.take i++x::ms.drop i→k∈ms∨k=x:=fun k hk=>by
  rcases List.mem_append.1 hk with hk|hk
  · exact .inl (List.mem_of_mem_take hk)
  · rcases List.mem_cons.1 hk with rfl|hk
    · exact .inr rfl
    · exact .inl (List.mem_of_mem_drop hk)
 exact⟨fun k hk=>(hh k hk).elim (h.1 k) fun e=>e▸hx.1,fun b ⟨k,hk,hb⟩=>(hh k hk).elim (fun h1=>h.2 b ⟨k,h1,hb⟩) fun e=>hx.2 b (e▸hb)⟩
def Sp.insr (B n:Nat) (ks:List VK):Sp:=⟨fun w v=>∃ao cap,v=.slice ao n cap∧Own w 58 33 (.slice ao n cap) n (ks.flatMap Ar)∧∀k,BC (.slice ao n cap) k→B≤k,fun _ _ _ hg ⟨ao,cap,h1,h2,h3⟩=>⟨ao,cap,h1,h2.kn hg,h3⟩⟩
theorem ALa {w0:World} {ms:List VK} {x:VK} {i A V n:Nat} (hn:n=ms.length) (hown:Own w0 58 33 (.slice (some ⟨A,0,none⟩) n n) n (ms.flatMap Ar)) (hv:w0.heap[V]?=some (.cells (Ar x).toArray 58 (0,0))) (hi:i≤n) (h64:n≤64) :
  ∀W,w0.grownBy W none→Calls Tryz.prog 83 #[.slice (some ⟨A,0,none⟩) n n,.int .i64 (i:Int),.slice (some ⟨V,0,none⟩) 1 1] W fun e W'=>∃v,e=.returned v∧W.grownBy W' none∧(Sp.insr w0.heap.size (n+1) (ms.take i++x::ms.drop i)).on W' v:=fun W g=>by
 subst hn
 exact(AAS ms x i A V W (hown.kn g) (AF g hv (by simp)) hi (by omega)).mono fun e W' ⟨v,h1,h2,h3,h4⟩=>by
  obtain⟨ao,cap,rfl,_⟩:=(Sl.of_own h2).shape
  exact⟨_,h1,h3,ao,cap,rfl,h2,fun k hk=>Nat.le_trans g.size (h4 k hk)⟩
theorem AJk {ms:List VK} {P:List VP} {o:List Nat} {T:List Nd} {x:VK} {i:Nat} (h:ms.map VK.p=P) (hi:pos P o=i) (ho:x.o=o) (hl:x.l=T):(ms.take i++x::ms.drop i).map VK.p=OE P o T:=by
 unfold OE
 rw[hi,List.map_append,List.map_cons,List.map_take,List.map_drop,h]
 simp[VK.p,ho,hl]
theorem AAZ {w:World} {ks ms:List VK} {A n:Nat} {sa po o:List Nat} (hsa:Dg sa) (hpo:Dg po) (ho:Dg o) (hm:ms.map VK.p=ks.map VK.p) (ow:Own w 58 33 (.slice (some ⟨A,0,none⟩) n n) n (ms.flatMap Ar)) (kr:KsR w ms) (hv:Co (ks.map VK.p)=true) {b:Bool} (hb:Ly (ks.map VK.p) o=b) {i:Nat} (hi:pos (ks.map VK.p) o=i) :
  Calls Tryz.prog 71 #[Ay sa po (.slice (some ⟨A,0,none⟩) n n),AQ o] w fun e w'=>e=.returned (.tuple #[.int .i64 (i:Int),.bool b])∧w.grownBy w' none:=by
 obtain rfl:=Own.rdk ow
 rw[←hm] at hv hb hi
 exact AC2 hsa hpo ho ⟨ow.sb,kr⟩ hv hb hi
theorem AHf (ks:List VK) (ao:Option Addr) (cap:Nat) (sa po:List Nat) (hsa:Dg sa) (hpo:Dg po) (o:List Nat) (ho:Dg o) (T:List Nd) (hT:tree (kd 275 po) []=T) (w:World) (hr:RdK w (.slice ao ks.length cap) ks) :
   Calls Tryz.prog 36 #[Ay sa po (.slice ao ks.length cap),AQ o] w fun e w'=>VRes w w' (Nj (ks.map VK.p,sa,po) o T (kd 276 po)) (fun _=>False) e:=by
 have hTl:0<T.length:=by rw[←hT,Mm];exact Nat.zero_lt_one
 refine FY Tryz.func36 rfl Tryz.ntmps36 rfl fun a0 sv0=>?_
 have HG:=World.grownBy.refl w none
 replace sv0:Sv 47 [] [(0,Ay sa po (.slice ao ks.length cap)),(1,AQ o)] a0:=sv0
 refine AOQ fun K1 k1=>?_
 refine AOP ?_
 refine Bi sv0 r6 (B6 hsa hpo (.slice ao ks.length cap) rfl) fun a2 w2 Cp Dt g2 z2 AJ sv2=>?_
 have GD:=Bq HG Dt
 refine Bi sv2 r6 (Bb o ho.1) fun a3 w3 Bn Fh g3 z3 AI sv3=>?_
 have Hx:=Ao AJ Fh
 replace AJ:=AC g3 AJ
 replace hr:=(hr.kn g2).kn g3
 replace HG:=AA (AA HG g2) g3
 refine A9 (T:=36) (Z:=([bv AR,bv AR,[.slice none 0 0]].flatten)) sv3 rfl rfl rfl (fun a w=>by kernel_rfl) fun a4 w4 Ev Bl g4 z4 AL sv4=>?_
 have A3:=Ao AJ Bl
 have A7:=Ao AI Bl
 have Bm:=Bq HG Bl
 have Bd:=Aw (hr.lt) Bl
 replace AJ:=AC g4 AJ
 replace AI:=AC g4 AI
 replace hr:=hr.kn g4
 replace HG:=AA HG g4
 refine A9 (T:=38) (Z:=[.int .i64 0]) sv4 rfl rfl rfl (fun a w=>by kernel_rfl) fun a5 w5 AAa Fi g5 z5 BO sv5=>?_
 have DB:=Ao AJ Fi
 have De:=Ao AI Fi
 have Be:=Ao AL Fi
 have GF:=Bq HG Fi
 have Fy:=Aw (hr.lt) Fi
 replace AJ:=AC g5 AJ
 replace AI:=AC g5 AI
 replace AL:=AC g5 AL
 replace hr:=hr.kn g5
 replace HG:=AA HG g5
 refine AD ?_
 refine k1 _ _ ?_
 refine AOQ fun K6 k6=>?_
 refine AOP ?_
 refine I5 sv5 rfl rfl rfl rfl rfl rfl fun a7 sv7=>?_
 refine Gh sv7 rfl (dd:={ target:=.fn (.func 81) #[pt Ev,pt AAa],args:=#[] }) rfl (by have e1:=sv7.ev (x:=.tmp 9) rfl rfl;simp[execOp,resolve,Deferred.ofValue,e1];try rfl) fun a8 sv8=>?_
 refine AD ?_
 refine k6 _ _ ?_
 refine AOQ fun K9 k9=>?_
 refine AOQ fun K10 k10=>?_
 cases hv:Co (ks.map VK.p)
 · refine AOP ?_
   refine AH sv8 3 [(10,Ay sa po (.slice ao ks.length cap)),(11,.bool false),(12,.bool true)]
     ⟨yl r6 (B6 hsa hpo (.slice ao ks.length cap) rfl) AJ,Ag [Ay sa po (.slice ao ks.length cap)] Tryz.func51 (by kernel_rfl) rq4 ⟨(oy rfl rfl),AOW⟩ (A1 fun W g=>Mt hsa hpo (hr.kn g) hv),C7 r6 (fun _=>Bf),AOW⟩ fun a11 w11 g11 CQ=>?_
   refine AD ?_
   refine k10 _ _ ?_
   refine Am CQ rfl rfl ?_
   refine AOQ fun K12 k12=>?_
   refine AOP ?_
   replace AJ:=AC g11 AJ
   replace AI:=AC g11 AI
   replace AL:=AC g11 AL
   replace BO:=AC g11 BO
   refine AH CQ 1 [(13,Ay AR AR (.slice none 0 0))]
     ⟨BG (vs:=[]) rfl rfl trivial trivial (fun _=>bV0 _) (fun _=>rfl),AOW⟩ fun a13 w13 g13 Cx=>?_
   refine Aq Cx r7 (B6 AU AU (.slice none 0 0) rfl) (AC g13 AL) (by first|rfl|simp[Ar,AO,Af,AU.1,AU.1]) fun w14 g14 h14=>?_
   replace BO:=Ab g13 g14 BO Be
   refine Aq Cx r7 (Gc 1) BO rfl fun w15 g15 h15=>?_
   replace AJ:=Aa g15 (Ab g13 g14 AJ (Ne.symm A3)) (Ne.symm DB)
   replace AI:=Aa g15 (Ab g13 g14 AI (Ne.symm A7)) (Ne.symm De)
   replace AL:=Aa g15 h14 (Ne.symm Be)
   replace hr:=(((hr.kn g11).kn g13).offR g14 (AP Bd)).offR g15 (AP Fy)
   replace HG:=AE (AE (AA (AA HG g11) g13) g14 Bm) g15 GF
   replace BO:=h15
   refine AD ?_
   refine k12 _ _ ?_
   refine AOT ?_
   repeat refine AM ?_
   refine Bz (fn:=Tryz.f36) Cx (CR (p:=4) (q:=5) Tryz.results36 Cx rfl rfl rfl rfl (B6 AU AU (.slice none 0 0) rfl) (Gc 1) AL BO) (Ch Tryz.func81 (by kernel_rfl) rfl _ _) (Hw _ _ _) ?_
   exact VRes.zero (by unfold Nj;rw[if_neg (by rw[hv];simp)]) HG
 · obtain⟨i,hi⟩:∃i,pos (ks.map VK.p) o=i:=⟨_,rfl⟩
   have h64:ks.length≤64:=by have:=(Fx.1 hv).1;simpa using this
   have hin:i≤ks.length:=by rw[←hi];simpa using R5 (ks.map VK.p) o
   refine AOP ?_
   refine AH sv8 3 [(10,Ay sa po (.slice ao ks.length cap)),(11,.bool true),(12,.bool false)]
     ⟨yl r6 (B6 hsa hpo (.slice ao ks.length cap) rfl) AJ,Ag [Ay sa po (.slice ao ks.length cap)] Tryz.func51 (by kernel_rfl) rq4 ⟨(oy rfl rfl),AOW⟩ (A1 fun W g=>Mt hsa hpo (hr.kn g) hv),C7 r6 (fun _=>Bf),AOW⟩ fun a16 w16 g16 DG=>?_
   refine AD ?_
   refine k10 _ _ ?_
   refine Au DG rfl rfl ?_
   refine AOU ?_
   refine k9 _ _ ?_
   refine AOQ fun K17 k17=>?_
   refine AOP ?_
   replace AJ:=AC g16 AJ
   replace AL:=AC g16 AL
   replace BO:=AC g16 BO
   replace hr:=hr.kn g16
   refine JX (DG.st w16) 2 [(14,Sp.is (Ay sa po (.slice ao ks.length cap))),(15,Sp.cln w16.heap.size sa po ks.length (ks.map VK.p))] rfl (by kernel_rfl) (by kernel_rfl) (by kernel_rfl)
     ⟨yl r6 (B6 hsa hpo (.slice ao ks.length cap) rfl) AJ,Ag [Ay sa po (.slice ao ks.length cap)] Tryz.func72 (by kernel_rfl) rq4 ⟨(oy rfl rfl),AOW⟩ (AFk hsa hpo hr h64),AOW⟩ fun a18 w18 g18 st18=>?_
   obtain⟨hn18,hd18,e18_14,e18_15,e18_10,e18_11,e18_12,e18_9,e18_5,e18_4,e18_3,e18_2,e18_0,e18_1,-⟩:=st18
   obtain⟨A,ms,e18_15q,hmp,ow,kr,frA,frK⟩:=e18_15
   have fr_ow:∀k,BC (.slice ((some ⟨A,0,none⟩)) ks.length ks.length) k→w16.heap.size≤k:=fun k hk=>(Option.some.inj hk)▸frA
   have fr_kr:∀k,Eb ms k→w16.heap.size≤k:=fun k hk=>(frK k hk).1
   have ap_kr_ow:∀k,Eb ms k→¬BC (.slice ((some ⟨A,0,none⟩)) ks.length ks.length) k:=fun k hk e=>(frK k hk).2 (Option.some.inj e).symm
   have Ia:=Cj fr_ow AJ
   have Ib:=Cj fr_ow AL
   have OJ:=Cj fr_ow BO
   have Ha:=Cj fr_kr AJ
   have E8:=Cj fr_kr AL
   have OK:=Cj fr_kr BO
   replace AJ:=AC g18 AJ
   have CY:Sv 47 [{ target:=.fn (.func 81) #[pt Ev,pt AAa],args:=#[] }] [(10,_),(11,_),(12,_),(9,_),(5,_),(4,_),(3,_),(2,_),(0,_),(1,_),(15,_)] a18:=⟨hn18,hd18,e18_10,e18_11,e18_12,e18_9,e18_5,e18_4,e18_3,e18_2,e18_0,e18_1,e18_15q,AOW⟩
   refine Aq CY r7 (B6 hsa hpo (.slice ((some ⟨A,0,none⟩)) ks.length ks.length) rfl) AJ (by first|rfl|simp[Ar,AO,Af,hsa.1,hpo.1,hsa.1,hpo.1]) fun w19 g19 h19=>?_
   replace AI:=Aa g19 (AC g18 (AC g16 AI)) Hx
   replace AL:=Aa g19 (AC g18 AL) A3
   replace BO:=Aa g19 (AC g18 BO) DB
   replace ow:=ow.offR g19 (AP Ia)
   replace kr:=kr.offR g19 (AP Ha)
   replace HG:=AE (AA (AA HG g16) g18) g19 GD
   replace AJ:=h19
   refine AD ?_
   refine k17 _ _ ?_
   refine AOQ fun K20 k20=>?_
   have hml:ks.length=ms.length:=Own.rdk ow
   cases hf:Ly (ks.map VK.p) o
   · refine AOP ?_
     refine AH CY 6 [(17,Ay sa po (.slice ((some ⟨A,0,none⟩)) ks.length ks.length)),(18,AQ o),(19,.tuple #[.int .i64 ((i:Int)),.bool false]),(16,.tuple #[.int .i64 ((i:Int)),.bool false]),(20,.int .i64 ((i:Int))),(21,.bool false)]
       ⟨yl r6 (B6 hsa hpo (.slice ((some ⟨A,0,none⟩)) ks.length ks.length) rfl) AJ,yl r6 (Bb o ho.1) AI,Ag [Ay sa po (.slice ((some ⟨A,0,none⟩)) ks.length ks.length),AQ o] Tryz.func71 (by kernel_rfl) rq4 ⟨(oy rfl rfl),(oy rfl rfl),AOW⟩ (A1 fun W g=>AAZ hsa hpo ho hmp (ow.kn g) (kr.1.kn g) hv hf hi),ym r5,Bh rq4 (fun _ _ h=>⟨_,_,h,rfl,rfl⟩),Bh rq4 (fun _ _ h=>⟨_,_,h,rfl,rfl⟩),AOW⟩ fun a21 w21 g21 Dl=>?_
     refine AS (v:=.int .i64 ((i:Int))) Dl r6 fun a22 B7=>?_
     refine AS (v:=.bool false) B7 r6 fun a23 Cc=>?_
     have EN:Sv _ _ [_,_,_,_,_,_,_,_,_,_,_,_,_] _:=Cc.dl [17,18,19,16,20,21]
     refine AD ?_
     refine k20 _ _ ?_
     refine AOQ fun K25 k25=>?_
     refine AOQ fun K26 k26=>?_
     refine AOP ?_
     refine AH EN 1 [(22,.bool false)]
       ⟨ym r5,AOW⟩ fun a27 w27 g27 HU=>?_
     have Uf:=AA g21 g27
     refine AD ?_
     refine k26 _ _ ?_
     refine Au HU rfl rfl ?_
     refine AOU ?_
     refine k25 _ _ ?_
     refine AOQ fun K28 k28=>?_
     refine AOQ fun K29 k29=>?_
     replace AJ:=AC Uf AJ
     replace AI:=AC Uf AI
     replace AL:=AC Uf AL
     replace BO:=AC Uf BO
     replace ow:=ow.kn Uf
     replace kr:=kr.kn Uf
     replace HG:=AA HG Uf
     by_cases hfull:64≤ks.length
     · refine AOP ?_
       refine AH HU 4 [(24,pk Cp 64),(25,.slice ((some ⟨A,0,none⟩)) ks.length ks.length),(26,.int .i64 ((ks.length:Nat))),(27,.bool true)]
        ⟨yf r6 (fun _=>by kernel_rfl),yp (i:=2) r6 (FP (.slice ((some ⟨A,0,none⟩)) ks.length ks.length) rfl) AJ rfl (by simp[AO,Af,hsa.1,hpo.1]),BJ (Tryz.underlying34) rfl rfl trivial (oy rfl rfl) (fun _=>rfl),Ce r6 (fun _=>Dp (decide_eq_true (by omega))),AOW⟩ fun a30 w30 g30 EF=>?_
       refine AD ?_
       refine k29 _ _ ?_
       refine Am EF rfl rfl ?_
       refine AOQ fun K31 k31=>?_
       refine AOP ?_
       replace AJ:=AC g30 AJ
       replace AI:=AC g30 AI
       replace AL:=AC g30 AL
       replace BO:=AC g30 BO
       refine AH EF 1 [(28,Ay AR AR (.slice none 0 0))]
        ⟨BG (vs:=[]) rfl rfl trivial trivial (fun _=>bV0 _) (fun _=>rfl),AOW⟩ fun a32 w32 g32 Cu=>?_
       refine Aq Cu r7 (B6 AU AU (.slice none 0 0) rfl) (AC g32 AL) (by first|rfl|simp[Ar,AO,Af,AU.1,AU.1]) fun w33 g33 h33=>?_
       replace BO:=Ab g32 g33 BO Be
       refine Aq Cu r7 (Gc 8) BO rfl fun w34 g34 h34=>?_
       replace AJ:=Aa g34 (Ab g32 g33 AJ (Ne.symm A3)) (Ne.symm DB)
       replace AI:=Aa g34 (Ab g32 g33 AI (Ne.symm A7)) (Ne.symm De)
       replace AL:=Aa g34 h33 (Ne.symm Be)
       replace ow:=(((ow.kn g30).kn g32).offR g33 (AP Ib)).offR g34 (AP OJ)
       replace kr:=(((kr.kn g30).kn g32).offR g33 (AP E8)).offR g34 (AP OK)
       replace HG:=AE (AE (AA (AA HG g30) g32) g33 Bm) g34 GF
       replace BO:=h34
       refine AD ?_
       refine k31 _ _ ?_
       refine AOT ?_
       repeat refine AM ?_
       refine Bz (fn:=Tryz.f36) Cu (CR (p:=4) (q:=5) Tryz.results36 Cu rfl rfl rfl rfl (B6 AU AU (.slice none 0 0) rfl) (Gc 8) AL BO) (Ch Tryz.func81 (by kernel_rfl) rfl _ _) (Hw _ _ _) ?_
       exact VRes.zero (by unfold Nj;rw[if_pos hv,if_neg (by rw[hf];simp),if_pos (by simpa using hfull)]) HG
     · refine AOP ?_
       refine AH HU 4 [(24,pk Cp 64),(25,.slice ((some ⟨A,0,none⟩)) ks.length ks.length),(26,.int .i64 ((ks.length:Nat))),(27,.bool false)]
        ⟨yf r6 (fun _=>by kernel_rfl),yp (i:=2) r6 (FP (.slice ((some ⟨A,0,none⟩)) ks.length ks.length) rfl) AJ rfl (by simp[AO,Af,hsa.1,hpo.1]),BJ (Tryz.underlying34) rfl rfl trivial (oy rfl rfl) (fun _=>rfl),Ce r6 (fun _=>Dp (decide_eq_false (by omega))),AOW⟩ fun a35 w35 g35 Kw=>?_
       refine AD ?_
       refine k29 _ _ ?_
       refine Au Kw rfl rfl ?_
       refine AOU ?_
       refine k28 _ _ ?_
       refine AOQ fun K36 k36=>?_
       replace AJ:=AC g35 AJ
       replace AI:=AC g35 AI
       replace AL:=AC g35 AL
       replace BO:=AC g35 BO
       replace ow:=ow.kn g35
       replace kr:=kr.kn g35
       replace HG:=AA HG g35
       refine DP (Kw.st w35) (by kernel_rfl) 7 [(29,Sp.is (AQ o)),(30,Sp.is (pk Cp 32)),(31,Sp.is (AQ po)),(32,Sp.is (AQ ((kd 275 po)))),(33,Sp.ct w35.heap.size T),(34,Sp.ck w35.heap.size o T),(8,Sp.new w35.heap.size (([bv AR,[.slice none 0 0]].flatten)) 58)] rfl (by kernel_rfl) (by kernel_rfl) (by kernel_rfl) [] (by kernel_rfl)
        ⟨yl r6 (Bb o ho.1) AI,yf r6 (fun _=>by kernel_rfl),yp (i:=1) r6 (Bb po hpo.1) AJ rfl (by simp[AO,Af,hsa.1,hpo.1]),Ag [.int .u64 275,AQ po,.slice none 0 0] Tryz.func66 (by kernel_rfl) rq4 ⟨rfl,(oy rfl rfl),rfl,AOW⟩ (A1 fun W g=>Ox (n:=275) (by decide) rfl hpo W),Ag [AQ ((kd 275 po))] Tryz.func82 (by kernel_rfl) rq4 ⟨(oy rfl rfl),AOW⟩ (AJa (Bp _ _) hT),NQ rfl rfl trivial rfl (fun W _ av h=>match av,h with|[u,t],⟨h1,h2,_⟩=>AHL ho h1 h2),Ju rfl trivial (Nat.le_refl _) (fun a w=>by kernel_rfl) (fun _ _ h=>h),AOW⟩ trivial
        [8] (by kernel_rfl) ⟨Sp.new_lt,AOW⟩ ⟨.inl rfl,.inl rfl,.inl rfl,.inl rfl,.inl rfl,.inl rfl,.inr ⟨rfl,(([bv AR,[.slice none 0 0]].flatten)).toArray,58,fun a w=>by kernel_rfl⟩,AOW⟩ (by kernel_rfl) fun a37 w37 g37 st37 nd37=>?_
       obtain⟨hn37,hd37,e37_29,e37_30,e37_31,e37_32,e37_33,e37_34,e37_8,e37_24,e37_25,e37_26,e37_27,e37_22,e37_7,e37_6,e37_10,e37_11,e37_12,e37_9,e37_5,e37_4,e37_3,e37_2,e37_0,e37_1,e37_15,-⟩:=st37
       obtain⟨y,e37_34q,hyo,hyl,rt,frB⟩:=e37_34
       obtain⟨AMY,e37_8q,J2,SZ⟩:=e37_8
       have Ug:=Fu AJ J2
       have Uh:=Fu AI J2
       have Ui:=Fu AL J2
       have Uj:=Fu BO J2
       have AHg:=QR HG J2
       have AAb:=GO (Own.ltS ow) J2
       have AAc:=GO (kr.lt) J2
       have MH:=Cj frB AJ
       have J3:=Cj frB AL
       have ADB:=Cj frB BO
       have AAd:=rt.2.ap SZ (by decide)
       have Gi:Sv 47 [{ target:=.fn (.func 81) #[pt Ev,pt AAa],args:=#[] }] [(24,_),(25,_),(26,_),(27,_),(22,_),(7,_),(6,_),(10,_),(11,_),(12,_),(9,_),(5,_),(4,_),(3,_),(2,_),(0,_),(1,_),(15,_),(34,_),(8,_)] a37:=⟨hn37,hd37,e37_24,e37_25,e37_26,e37_27,e37_22,e37_7,e37_6,e37_10,e37_11,e37_12,e37_9,e37_5,e37_4,e37_3,e37_2,e37_0,e37_1,e37_15,e37_34q,e37_8q,AOW⟩
       refine Aq Gi r7 (XP y) SZ (by first|rfl|simp[Ar,AO,Af,y.ho.1]) fun w38 g38 h38=>?_
       replace AJ:=Aa g38 (AC g37 AJ) (Ne.symm Ug)
       replace AI:=Aa g38 (AC g37 AI) (Ne.symm Uh)
       replace AL:=Aa g38 (AC g37 AL) (Ne.symm Ui)
       replace BO:=Aa g38 (AC g37 BO) (Ne.symm Uj)
       replace HG:=AE (AA HG g37) g38 AHg
       replace SZ:=h38
       refine AD ?_
       refine k36 _ _ ?_
       refine AOQ fun K39 k39=>?_
       refine AOP ?_
       refine JX (Gi.st w38) 5 [(35,Sp.is (pk Cp 64)),(36,Sp.is (.slice ((some ⟨A,0,none⟩)) ks.length ks.length)),(37,Sp.is (.int .i64 ((i:Int)))),(38,Sp.is (JH y)),(39,Sp.lit1 w38.heap.size 58 (Ar y))] rfl (by kernel_rfl) (by kernel_rfl) (by kernel_rfl)
        ⟨yf r6 (fun _=>by kernel_rfl),yp (i:=2) r6 (FP (.slice ((some ⟨A,0,none⟩)) ks.length ks.length) rfl) AJ rfl (by simp[AO,Af,hsa.1,hpo.1]),ym r5,yl r6 (XP y) SZ,Ot rfl rfl trivial (Nat.le_refl _) rfl (fun W hw v h=>match v,h with|_,⟨rfl,_⟩=>⟨Ar y,AMT y W,fun w' _ hh=>⟨_,rfl,hw.size,hh⟩⟩),AOW⟩ fun a40 w40 g40 st40=>?_
       obtain⟨hn40,hd40,e40_35,e40_36,e40_37,e40_38,e40_39,e40_24,e40_25,e40_26,e40_27,e40_22,e40_7,e40_6,e40_10,e40_11,e40_12,e40_9,e40_5,e40_4,e40_3,e40_2,e40_0,e40_1,e40_15,e40_34,e40_8,-⟩:=st40
       obtain⟨V,e40_39q,geV,HV⟩:=e40_39
       have Pu:V≠Cp:=Nat.ne_of_gt (Nat.lt_of_lt_of_le (Array.getElem?_eq_some_iff.1 AJ).1 geV)
       have AFl:V≠Bn:=Nat.ne_of_gt (Nat.lt_of_lt_of_le (Array.getElem?_eq_some_iff.1 AI).1 geV)
       have WW:V≠Ev:=Nat.ne_of_gt (Nat.lt_of_lt_of_le (Array.getElem?_eq_some_iff.1 AL).1 geV)
       have AFm:V≠AAa:=Nat.ne_of_gt (Nat.lt_of_lt_of_le (Array.getElem?_eq_some_iff.1 BO).1 geV)
       have ALb:V≠AMY:=Nat.ne_of_gt (Nat.lt_of_lt_of_le (Array.getElem?_eq_some_iff.1 SZ).1 geV)
       have lo_V:w.heap.size≤V:=Nat.le_trans HG.size geV
       replace AJ:=AC g40 AJ
       replace AL:=AC g40 AL
       replace BO:=AC g40 BO
       replace ow:=((ow.kn g37).offR g38 (AP AAb)).kn g40
       have I7:Sv 47 [{ target:=.fn (.func 81) #[pt Ev,pt AAa],args:=#[] }] [(24,_),(25,_),(26,_),(27,_),(22,_),(7,_),(6,_),(10,_),(11,_),(12,_),(9,_),(5,_),(4,_),(3,_),(2,_),(0,_),(1,_),(15,_),(34,_),(8,_),(36,_),(37,_),(39,_)] a40:=⟨hn40,hd40,e40_24,e40_25,e40_26,e40_27,e40_22,e40_7,e40_6,e40_10,e40_11,e40_12,e40_9,e40_5,e40_4,e40_3,e40_2,e40_0,e40_1,e40_15,e40_34,e40_8,e40_36,e40_37,e40_39q,AOW⟩
       refine JX (I7.st w40) 2 [(40,Sp.insr w40.heap.size (ks.length+1) (ms.take i++y::ms.drop i)),(41,Sp.is (pk Cp 64))] rfl (by kernel_rfl) (by kernel_rfl) (by kernel_rfl)
        ⟨Ag [.slice ((some ⟨A,0,none⟩)) ks.length ks.length,.int .i64 ((i:Int)),.slice ((some ⟨V,0,none⟩)) 1 1] Tryz.func83 (by kernel_rfl) rq4 ⟨(oy rfl rfl),(oy rfl rfl),(oy rfl rfl),AOW⟩ (ALa hml ow HV hin h64),yf r6 (fun _=>by kernel_rfl),AOW⟩ fun a41 w41 g41 st41=>?_
       obtain⟨hn41,hd41,e41_40,e41_41,e41_24,e41_25,e41_26,e41_27,e41_22,e41_7,e41_6,e41_10,e41_11,e41_12,e41_9,e41_5,e41_4,e41_3,e41_2,e41_0,e41_1,e41_15,e41_34,e41_8,e41_36,e41_37,e41_39,-⟩:=st41
       obtain⟨ai,ci,e41_40q,oi,fri⟩:=e41_40
       have Sa:=Cj fri AJ
       have ADC:=Cj fri AL
       have ADD:=Cj fri BO
       replace AJ:=AC g41 AJ
       have Eu:Sv 47 [{ target:=.fn (.func 81) #[pt Ev,pt AAa],args:=#[] }] [(24,_),(25,_),(26,_),(27,_),(22,_),(7,_),(6,_),(10,_),(11,_),(12,_),(9,_),(5,_),(4,_),(3,_),(2,_),(0,_),(1,_),(15,_),(34,_),(8,_),(36,_),(37,_),(39,_),(40,_),(41,_)] a41:=⟨hn41,hd41,e41_24,e41_25,e41_26,e41_27,e41_22,e41_7,e41_6,e41_10,e41_11,e41_12,e41_9,e41_5,e41_4,e41_3,e41_2,e41_0,e41_1,e41_15,e41_34,e41_8,e41_36,e41_37,e41_39,e41_40q,e41_41,AOW⟩
       refine IL (L:=[bv sa,bv po,[.slice ((some ⟨A,0,none⟩)) ks.length ks.length]]) (i:=2) Eu r7 (FP (.slice ai (ks.length+1) ci) rfl) AJ rfl (by simp[AO,Af,hsa.1,hpo.1]) rfl fun w42 g42 h42=>?_
       replace AI:=Aa g42 (AC g41 (AC g40 AI)) Hx
       replace AL:=Aa g42 (AC g41 AL) A3
       replace BO:=Aa g42 (AC g41 BO) DB
       replace HV:=Aa g42 (AC g41 HV) Pu
       replace AJ:=h42
       have IK:Sv _ _ [_,_,_,_,_,_,_,_,_,_,_,_,_,_,_,_,_,_,_] _:=Eu.dl [6,36,37,39,40,41]
       refine AD ?_
       refine k39 _ _ ?_
       refine AOQ fun K44 k44=>?_
       refine AOP ?_
       refine AH IK 4 [(42,pk Cp 32),(43,AQ po),(44,AQ ((kd 276 po))),(45,pk Cp 32)]
        ⟨yf r6 (fun _=>by kernel_rfl),yp (i:=1) r6 (Bb po hpo.1) AJ rfl (by simp[AO,Af,hsa.1,hpo.1]),Ag [.int .u64 276,AQ po,.slice none 0 0] Tryz.func66 (by kernel_rfl) rq4 ⟨rfl,(oy rfl rfl),rfl,AOW⟩ (A1 fun W g=>Ox (n:=276) (by decide) rfl hpo W),yf r6 (fun _=>by kernel_rfl),AOW⟩ fun a45 w45 g45 FT=>?_
       refine IL (L:=[bv sa,bv po,[.slice ai (ks.length+1) ci]]) (i:=1) FT r7 (Bb ((kd 276 po)) (Bp _ _).1) (AC g45 AJ) rfl (by simp[AO,Af,hsa.1,hpo.1]) (QS hpo (Bp _ _)) fun w46 g46 h46=>?_
       replace AL:=Ab g45 g46 AL A3
       replace AJ:=h46
       have Kx:Sv _ _ [_,_,_,_,_,_,_,_,_,_,_,_,_,_,_,_,_,_,_] _:=FT.dl [42,43,44,45]
       refine AD ?_
       refine k44 _ _ ?_
       refine AOQ fun K48 k48=>?_
       refine AOP ?_
       refine AH Kx 1 [(46,Ay sa ((kd 276 po)) (.slice ai (ks.length+1) ci))]
        ⟨yl r6 (B6 hsa (Bp _ _) (.slice ai (ks.length+1) ci) rfl) AJ,AOW⟩ fun a49 w49 g49 ER=>?_
       refine Aq ER r7 (B6 hsa (Bp _ _) (.slice ai (ks.length+1) ci) rfl) (AC g49 AL) (by first|rfl|simp[Ar,AO,Af,hsa.1,(Bp _ _).1]) fun w50 g50 h50=>?_
       replace BO:=Ab g49 g50 (Ab g45 g46 BO DB) Be
       refine Aq ER r7 (Gc 0) BO rfl fun w51 g51 h51=>?_
       replace AJ:=Aa g51 (Ab g49 g50 AJ (Ne.symm A3)) (Ne.symm DB)
       replace AI:=Aa g51 (Ab g49 g50 (Ab g45 g46 AI Hx) (Ne.symm A7)) (Ne.symm De)
       replace AL:=Aa g51 h50 (Ne.symm Be)
       replace HV:=Aa g51 (Ab g49 g50 (Ab g45 g46 HV Pu) WW) AFm
       replace ow:=((((((ow.kn g41).offR g42 (AP Ia)).kn g45).offR g46 (AP Ia)).kn g49).offR g50 (AP Ib)).offR g51 (AP OJ)
       replace kr:=(((((((((kr.kn g37).offR g38 (AP AAc)).kn g40).kn g41).offR g42 (AP Ha)).kn g45).offR g46 (AP Ha)).kn g49).offR g50 (AP E8)).offR g51 (AP OK)
       replace rt:=((((((((rt.offR g38 (AP AAd)).kn g40).kn g41).offR g42 (AP MH)).kn g45).offR g46 (AP MH)).kn g49).offR g50 (AP J3)).offR g51 (AP ADB)
       replace oi:=(((((oi.offR g42 (AP Sa)).kn g45).offR g46 (AP Sa)).kn g49).offR g50 (AP ADC)).offR g51 (AP ADD)
       replace HG:=AE (AE (AA (AE (AA (AE (AA (AA HG g40) g41) g42 GD) g45) g46 GD) g49) g50 Bm) g51 GF
       replace BO:=h51
       refine AD ?_
       refine k48 _ _ ?_
       refine AOT ?_
       repeat refine AM ?_
       refine Bz (fn:=Tryz.f36) ER (CR (p:=4) (q:=5) Tryz.results36 ER rfl rfl rfl rfl (B6 hsa (Bp _ _) (.slice ai (ks.length+1) ci) rfl) (Gc 0) AL BO) (Ch Tryz.func81 (by kernel_rfl) rfl _ _) (Hw _ _ _) ?_
       exact VRes.mk (P:=OE (ks.map VK.p) o T) (by unfold Nj;rw[if_pos hv,if_neg (by rw[hf];simp),if_neg (by simpa using hfull)]) (AJk hmp hi hyo hyl) oi (KsT.ins kr rt i) HG
   · refine AOP ?_
     refine AH CY 6 [(17,Ay sa po (.slice ((some ⟨A,0,none⟩)) ks.length ks.length)),(18,AQ o),(19,.tuple #[.int .i64 ((i:Int)),.bool true]),(16,.tuple #[.int .i64 ((i:Int)),.bool true]),(20,.int .i64 ((i:Int))),(21,.bool true)]
       ⟨yl r6 (B6 hsa hpo (.slice ((some ⟨A,0,none⟩)) ks.length ks.length) rfl) AJ,yl r6 (Bb o ho.1) AI,Ag [Ay sa po (.slice ((some ⟨A,0,none⟩)) ks.length ks.length),AQ o] Tryz.func71 (by kernel_rfl) rq4 ⟨(oy rfl rfl),(oy rfl rfl),AOW⟩ (A1 fun W g=>AAZ hsa hpo ho hmp (ow.kn g) (kr.1.kn g) hv hf hi),ym r5,Bh rq4 (fun _ _ h=>⟨_,_,h,rfl,rfl⟩),Bh rq4 (fun _ _ h=>⟨_,_,h,rfl,rfl⟩),AOW⟩ fun a52 w52 g52 Mw=>?_
     refine AS (v:=.int .i64 ((i:Int))) Mw r6 fun a53 FU=>?_
     refine AS (v:=.bool true) FU r6 fun a54 JL=>?_
     have Uk:Sv _ _ [_,_,_,_,_,_,_,_,_,_,_,_,_] _:=JL.dl [17,18,19,16,20,21]
     refine AD ?_
     refine k20 _ _ ?_
     refine AOQ fun K56 k56=>?_
     refine AOQ fun K57 k57=>?_
     refine AOP ?_
     refine AH Uk 1 [(22,.bool true)]
       ⟨ym r5,AOW⟩ fun a58 w58 g58 OL=>?_
     have AMZ:=AA g52 g58
     refine AD ?_
     refine k57 _ _ ?_
     refine Am OL rfl rfl ?_
     refine AOQ fun K59 k59=>?_
     refine AOP ?_
     refine AH OL 1 [(23,Ay sa po (.slice ((some ⟨A,0,none⟩)) ks.length ks.length))]
       ⟨yl r6 (B6 hsa hpo (.slice ((some ⟨A,0,none⟩)) ks.length ks.length) rfl) (AC AMZ AJ),AOW⟩ fun a60 w60 g60 Qv=>?_
     have Mc:=AA AMZ g60
     refine Aq Qv r7 (B6 hsa hpo (.slice ((some ⟨A,0,none⟩)) ks.length ks.length) rfl) (AC Mc AL) (by first|rfl|simp[Ar,AO,Af,hsa.1,hpo.1]) fun w61 g61 h61=>?_
     replace BO:=Ab Mc g61 BO Be
     refine Aq Qv r7 (Gc 0) BO rfl fun w62 g62 h62=>?_
     replace AL:=Aa g62 h61 (Ne.symm Be)
     replace ow:=((ow.kn Mc).offR g61 (AP Ib)).offR g62 (AP OJ)
     replace kr:=((kr.kn Mc).offR g61 (AP E8)).offR g62 (AP OK)
     replace HG:=AE (AE (AA HG Mc) g61 Bm) g62 GF
     replace BO:=h62
     refine AD ?_
     refine k59 _ _ ?_
     refine AOT ?_
     repeat refine AM ?_
     refine Bz (fn:=Tryz.f36) Qv (CR (p:=4) (q:=5) Tryz.results36 Qv rfl rfl rfl rfl (B6 hsa hpo (.slice ((some ⟨A,0,none⟩)) ks.length ks.length) rfl) (Gc 0) AL BO) (Ch Tryz.func81 (by kernel_rfl) rfl _ _) (Hw _ _ _) ?_
     exact VRes.mk (P:=ks.map VK.p) (by unfold Nj;rw[if_pos hv,if_pos hf]) hmp ow kr HG
end Go.Proofs.YtbfjfnbcmojpiaaGreat
