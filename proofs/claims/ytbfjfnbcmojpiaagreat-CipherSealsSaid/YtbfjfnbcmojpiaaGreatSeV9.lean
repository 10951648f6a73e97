import Derived.Test.YtbfjfnbcmojpiaaGreatSeV6
import Derived.Test.YtbfjfnbcmojpiaaGreatSeSG
import Derived.Laws.MakeOwn
import Derived.Lib.LazyBuf
set_option linter.unusedSimpArgs false
set_option linter.unusedVariables false
set_option maxRecDepth 100000
set_option maxHeartbeats 4000000
namespace Go.Proofs.YtbfjfnbcmojpiaaGreat
open Go.RowKit
def Sp.made (B:Nat) (e:TypeId) (sz n:Nat) (xs:List Value):Sp:=⟨fun w v=>∃A,v=.slice (some ⟨A,0,none⟩) n n∧Own w e sz (.slice (some ⟨A,0,none⟩) n n) n xs∧B≤A,fun _ _ _ hg ⟨A,h1,h2,h3⟩=>⟨A,h1,h2.kn hg,h3⟩⟩
section
variable {P:Program} {ops:Array Oper} {L:Nat→Sp} {n:Nat} {w0:World} {o:Oper}
theorem QG {z:Value} {sz:Nat} (hz:z.cells.size=sz) (hp:0<sz) (m:Nat):(madeCells z.cells (m*sz)).toList=(List.replicate m ()).flatMap fun _=>z.cells.toList:=by
 refine List.ext_getElem? fun i=>?_
 have hl:((List.replicate m ()).flatMap fun _=>z.cells.toList).length=m*sz:=by rw[IB (sz:=sz) (fun _=>by simpa using hz)];simp
 by_cases hi:i<m*sz
 · have h1:i/sz<m:=(Nat.div_lt_iff_lt_mul hp).2 hi
   have h2:i%sz<sz:=Nat.mod_lt _ hp
   have e1:(madeCells z.cells (m*sz)).toList[i]?=some z.cells[i%sz]!:=by rw[←hz] at hi ⊢;simp[madeCells,hi]
   have e2:((List.replicate m ()).flatMap fun _=>z.cells.toList)[i]?=some (z.cells[i%sz]'(by omega)):=by
    have hsp:=LG (c:=fun _=>z.cells.toList) (L:=List.replicate m ()) (j:=i/sz) (by simpa using h1)
    rw[hsp,List.getElem?_append_right (by rw[IB (sz:=sz) (fun _=>by simpa using hz),List.length_take,List.length_replicate,Nat.min_eq_left (Nat.le_of_lt h1)];exact Nat.div_mul_le_self i sz),IB (sz:=sz) (fun _=>by simpa using hz),List.length_take,List.length_replicate,Nat.min_eq_left (Nat.le_of_lt h1)]
    have e3:i-i/sz*sz=i%sz:=by have:=Nat.div_add_mod i sz;rw[Nat.mul_comm] at this;omega
    rw[e3,List.getElem?_append_left (by simpa [hz] using h2),Array.getElem?_toList,Array.getElem?_eq_getElem (by omega)]
   rw[e1,e2,getElem!_pos z.cells _ (by omega)]
 · rw[List.getElem?_eq_none (by simp[madeCells];omega),List.getElem?_eq_none (by omega)]
theorem AGZ {t e:TypeId} {z:Value} {size bytes d B m:Nat} {x:Operand} {xs:List Value} (E:ET P t e z size bytes) (ho:o.op=.makeSlice t x x) (hd:o.dst=some d) (hg:GX ops L n o.guard) (hB:B≤w0.heap.size)
  (hx:OpX L n x (.int .i64 (m:Int))) (hm:m≤1000000) (hxs:xs=(List.replicate m ()).flatMap fun _=>z.cells.toList)
  (h:∀w v,(Sp.made B e size m xs).on w v→(L d).on w v):OX P ops L n w0 o:=by
 intro a w hw hl hs
 unfold OpSays
 rw[if_pos (hg.wanted hl hs)]
 have e1:=hx.eval (o:=o) (a:=a) (w:=w) (by simp[ho,Op.operands]) hl
 obtain⟨i,hi,hz,rfl,hby⟩:=E.inf
 have hb:=E.bnd
 have hbytes:(i.bytes:Int)*(m:Int)≤281474976710656:=by
  have h1:i.bytes*m≤128*1000000:=Nat.mul_le_mul (by omega) hm
  have h2:((i.bytes*m:Nat):Int)≤((128*1000000:Nat):Int):=by omega
  rw[Int.natCast_mul] at h2
  omega
 have hr:=run_make (P:=P) w t e i z E.und hi hz .i64 .i64 (m:Int) (m:Int) (by omega) (by omega) hbytes (by omega)
 have hrr:(execOp a.eval o).run P w=.ok (.value (.slice (some ⟨w.heap.size,0,none⟩) m m)) (w.alloc (.cells (madeCells z.cells (m*i.size)) e)):=by
  simp only[execOp,ho,e1,Sem.run_bind,Sem.run_pure,Result.andThen_ok,hr,Int.toNat_natCast]
 rw[hrr]
 refine⟨World.grownBy_alloc _ _ _,DA hd (h _ _ ⟨_,rfl,?_,Nat.le_trans hB hw.size⟩)⟩
 have hcl:(madeCells z.cells (m*i.size)).size=m*i.size:=size_madeCells _ _
 refine⟨by rw[hxs,←QG E.zsz E.pos,Array.length_toList,hcl],.inr ⟨w.heap.size,m,_,rfl,Nat.zero_le _,Aj rfl,Nat.le_refl _,by unfold maxLen;omega,hcl,?_⟩⟩
 rw[hxs,←QG E.zsz E.pos,List.take_of_length_le (by rw[Array.length_toList,hcl];exact Nat.le_refl _)]
theorem Uk {t e:TypeId} (ht:P.underlying t=some (.slice e)) {x y:Operand} {ao:Option Addr} {l c:Nat} {r:Bool} (hr:ao.isNone=r) {w:World}:(do eqGuard .eql t x y (.slice ao l c) (.slice none 0 0);binOp .eql t (.slice ao l c) (.slice none 0 0):Sem Value).run P w=.ok (.bool r) w:=by
 subst hr
 have:=run_eql_slice_nil (P:=P) w t e ao l c ht
 simp[eqGuard,this]
end
def QH:VK:=⟨AM,AP,none,0,[]⟩
theorem AJg (m:Nat):((List.replicate m ()).flatMap fun _=>zK.cells.toList)=(List.replicate m QH).flatMap Ak:=by
 induction m with
 | zero=>rfl
 | succ m ih=>rw[List.replicate_succ,List.replicate_succ,List.flatMap_cons,List.flatMap_cons,ih];rfl
theorem KsR.rep (w:World) (m:Nat):KsR w (List.replicate m QH):=fun k hk=>by
 obtain⟨_,rfl⟩:=List.mem_replicate.1 hk
 exact RdT.nil w
theorem LH (m b:Nat):¬D5 (List.replicate m QH) b:=by
 rintro ⟨k,hk,h⟩
 obtain⟨_,rfl⟩:=List.mem_replicate.1 hk
 simp[Mv,VK.s,QH,Value.ownBlock] at h
theorem KsR.set {w:World} {ms:List VK} (h:KsR w ms) {x:VK} (hx:RdT w x.s x.l) (i:Nat):KsR w (ms.set i x):=fun k hk=>(List.mem_or_eq_of_mem_set hk).elim (h k) fun e=>e▸hx
theorem Ji {ms:List VK} {x:VK} {i b:Nat} (h:D5 (ms.set i x) b):D5 ms b∨Mv x.s b:=by
 obtain⟨k,hk,hb⟩:=h
 exact(List.mem_or_eq_of_mem_set hk).elim (fun h=>.inl ⟨k,h,hb⟩) fun e=>.inr (e▸hb)
def KsT (w:World) (ms:List VK):Prop:=KsR w ms∧∀k,D5 ms k→TagB w k
section
variable {w w':World} {ms:List VK}
theorem KsT.kn (h:KsT w ms) (g:w.grownBy w' none):KsT w' ms:=⟨h.1.kn g,fun k hk=>(h.2 k hk).keep g (by simp)⟩
theorem KsT.offR (h:KsT w ms) {row:Option Nat} (g:w.grownBy w' row) (hb:∀k,D5 ms k→row≠some k):KsT w' ms:=⟨h.1.offR g hb,fun k hk=>(h.2 k hk).keep g (hb k hk)⟩
theorem KsT.lt (h:KsT w ms):∀k,D5 ms k→k<w.heap.size:=h.1.lt
theorem KsT.rep (w:World) (m:Nat):KsT w (List.replicate m QH):=⟨KsR.rep w m,fun k hk=>(LH m k hk).elim⟩
theorem KsT.set (h:KsT w ms) {x:VK} (hx:RdTg w x.s x.l) (i:Nat):KsT w (ms.set i x):=⟨h.1.set hx.1 i,fun k hk=>(Ji hk).elim (h.2 k) (hx.2 k)⟩
end
def Sp.ck (B:Nat) (o:List Nat) (l:List Nd):Sp:=⟨fun w v=>∃x:VK,v=IE x∧x.o=o∧x.l=l∧RdTg w x.s x.l∧∀k,Mv x.s k→B≤k,fun _ _ _ hg ⟨x,h1,h2,h3,h4,h5⟩=>⟨x,h1,h2,h3,h4.kn hg,h5⟩⟩
section
variable {ops:Array Oper} {L:Nat→Sp} {n:Nat} {w0:World} {o:Oper}
theorem AJh {B:Nat} {l:List Nd} {w:World} {u:Value} (h:(Sp.cl B l).on w u):∃v,(Instr.build 56 #[(0,u)]).run Tryz.prog w=.ok v w∧(Sp.ct B l).on w v:=by
 obtain⟨ao,cap,rfl,h2,h3⟩:=h
 exact⟨_,AKg ao _ cap w,ao,cap,rfl,h2,h3⟩
theorem AEM {B:Nat} {l:List Nd} {x:List Nat} (hx:Dg x) {w:World} {u t:Value} (hu:u=AO x) (h:(Sp.ct B l).on w t):∃v,(Instr.build 58 #[(0,u),(1,t)]).run Tryz.prog w=.ok v w∧(Sp.ck B x l).on w v:=by
 obtain⟨ao,cap,rfl,h2,h3⟩:=h
 subst hu
 exact⟨_,bK2 (k:=⟨x,hx,ao,cap,l⟩) w,⟨x,hx,ao,cap,l⟩,rfl,rfl,rfl,h2,h3⟩
end
theorem AJi (x:VK) (w:World):(Instr.buildSlice 34 1 #[(0,IE x)]).run Tryz.prog w=.ok (.slice (some ⟨w.heap.size,0,none⟩) 1 1) (w.alloc (.cells (Ak x).toArray 58)):=by
 obtain⟨o,ho,ao,cap,l⟩:=x
 obtain⟨x0,x1,x2,x3,x4,x5,x6,x7,x8,x9,x10,x11,x12,x13,x14,x15,x16,x17,x18,x19,x20,x21,x22,x23,x24,x25,x26,x27,x28,x29,x30,x31,rfl⟩:=Ih _ ho.1
 kernel_rfl
theorem AGa {ks ms:List VK} {i:Nat} {x y:VK} (hl:ms.length=ks.length) (hi:i<ks.length) (hx:ks[i]=x) (ho:y.o=x.o) (hll:y.l=x.l) (h:∀j,j<i→(ms.map VK.p)[j]?=(ks.map VK.p)[j]?):∀j,j<i+1→((ms.set i y).map VK.p)[j]?=(ks.map VK.p)[j]?:=by
 intro j hj
 rw[List.getElem?_map,List.getElem?_set]
 by_cases e:i=j
 · subst e
   rw[if_pos rfl,if_pos (by omega),List.getElem?_map,List.getElem?_eq_getElem hi,hx]
   simp[VK.p,ho,hll]
 · rw[if_neg e,←List.getElem?_map]
   exact h j (by omega)
theorem AIb {ks ms:List VK} {i:Nat} (hl:ms.length=ks.length) (hi:¬i<ks.length) (h:∀j,j<i→(ms.map VK.p)[j]?=(ks.map VK.p)[j]?):ms.map VK.p=ks.map VK.p:=by
 refine List.ext_getElem? fun j=>?_
 by_cases hj:j<ks.length
 · exact h j (by omega)
 · rw[List.getElem?_eq_none (by simpa [hl] using hj),List.getElem?_eq_none (by simpa using hj)]
end Go.Proofs.YtbfjfnbcmojpiaaGreat
namespace Go.Proofs.YtbfjfnbcmojpiaaGreat
open Go.RowKit Go.Shelf
theorem Z9 (l:List Nd):(Gq l).all Value.oneCell'=true:=XE l
theorem AAA {w:World} {ao:Option Addr} {n cap j:Nat} {ks:List VK} {x:VK} (h:Sl w 33 (.slice ao n cap) n (ks.flatMap Ak)) (hj:j<ks.length) (hx:ks[j]=x):w.rangeAt (bO ao) (oO ao+j*33) (Ak x):=hx▸CT h DZ hj (by decide)
theorem Lw {w:World} {ao:Option Addr} {n cap j:Nat} {ks:List VK} {x:VK} (h:Sl w 33 (.slice ao n cap) n (ks.flatMap Ak)) (hj:j<ks.length) (hx:ks[j]=x):w.rangeAt (bO ao) (oO ao+j*33) (bv x.o):=
 Nz (o:=oO ao+j*33) (k:=0) (A:=[]) (B:=bv x.o) (C:=[x.s]) (AAA h hj hx) rfl
theorem ACi  (w:World) :
  Calls Tryz.prog 114 #[.slice none 0 0] w fun e w'=>e=.returned (.slice none 0 0)∧w.grownBy w' none:=by
 refine BF Tryz.func114 rfl Tryz.ntmps114 rfl fun a0 sv0=>?_
 have HG:=World.grownBy.refl w none
 replace sv0:Sv 8 [] [(0,.slice none 0 0)] a0:=sv0
 refine ALa fun K1 k1=>?_
 refine ALZ ?_
 refine AX (v:=.slice none 0 0) sv0 r6 fun a2 sv2=>?_
 refine AE ?_
 refine k1 _ _ ?_
 refine ALa fun K3 k3=>?_
 refine ALa fun K4 k4=>?_
 refine ALZ ?_
 refine AH sv2 2 [(3,.slice none 0 0),(4,.bool true)]
  ⟨ym r5,Cm r6 (fun _=>Uk Tryz.underlying54 rfl),ALg⟩ fun a5 w5 g5 sv5=>?_
 refine AE ?_
 refine k4 _ _ ?_
 refine Av sv5 rfl rfl ?_
 refine ALa fun K6 k6=>?_
 refine ALZ ?_
 refine AX (v:=.slice none 0 0) sv5 r6 fun a7 sv7=>?_
 refine AE ?_
 refine k6 _ _ ?_
 replace HG:=AA HG g5
 refine ALd ?_
 repeat refine AJ ?_
 refine Ar (fn:=Tryz.f114) sv7 (A7 (p:=2) Tryz.results114 sv7 rfl rfl) ?_
 exact⟨rfl,HG⟩
theorem AAB (l:List Nd) (ad:Addr) (cap:Nat) (w:World) (h:RdT w (.slice ((some ad)) l.length cap) l) :
  Calls Tryz.prog 114 #[.slice ((some ad)) l.length cap] w fun e w'=>∃ao cap,e=.returned (.slice ao l.length cap)∧RdTg w' (.slice ao l.length cap) l∧(∀k,Mv (.slice ao l.length cap) k→w.heap.size≤k)∧w.grownBy w' none:=by
 refine BF Tryz.func114 rfl Tryz.ntmps114 rfl fun a0 sv0=>?_
 have HG:=World.grownBy.refl w none
 replace sv0:Sv 8 [] [(0,.slice ((some ad)) l.length cap)] a0:=sv0
 refine ALa fun K1 k1=>?_
 refine ALZ ?_
 refine AX (v:=.slice none 0 0) sv0 r6 fun a2 sv2=>?_
 refine AE ?_
 refine k1 _ _ ?_
 refine ALa fun K3 k3=>?_
 refine ALa fun K4 k4=>?_
 refine ALZ ?_
 refine AH sv2 2 [(3,.slice ((some ad)) l.length cap),(4,.bool false)]
  ⟨ym r5,Cm r6 (fun _=>Uk Tryz.underlying54 rfl),ALg⟩ fun a5 w5 g5 sv5=>?_
 refine AE ?_
 refine k4 _ _ ?_
 refine A1 sv5 rfl rfl ?_
 refine ALe ?_
 refine k3 _ _ ?_
 refine ALa fun K6 k6=>?_
 refine ALZ ?_
 replace h:=h.kn g5
 replace HG:=AA HG g5
 refine Fl (sv5.st w5) 3 [(5,Sp.lit0 w5.heap.size 132),(6,Sp.is (.slice ((some ad)) l.length cap)),(7,Sp.row w5.heap.size 132 34 l.length (Gq l))] rfl (by kernel_rfl) (by kernel_rfl) (by kernel_rfl)
  ⟨Uo (t:=0) rfl trivial (Nat.le_refl _) (fun a w=>by kernel_rfl) (fun _ _ h=>h),ym r5,Up (news:=Gq l) AIJ rfl rfl trivial rfl (fun _ _ h=>h) (oy rfl rfl) (fun _ g=>(h.kn g).1) (Z9 l) h.2.2.2 (Nat.le_refl _) (fun _ _ h=>h),ALg⟩ fun a7 w7 g7 st7=>?_
 obtain⟨hn7,hd7,e7_5,e7_6,e7_7,e7_3,e7_4,e7_2,e7_0,-⟩:=st7
 obtain⟨ao8,cap8,e7_7q,ow8,fr8⟩:=e7_7
 have AAC:=Gk HG fr8
 replace h:=h.kn g7
 replace HG:=AA HG g7
 have sv7:Sv 8 [] [(3,_),(4,_),(2,_),(0,_),(7,_)] a7:=⟨hn7,hd7,e7_3,e7_4,e7_2,e7_0,e7_7q,ALg⟩
 refine AX (v:=.slice ao8 l.length cap8) sv7 r6 fun a9 sv9=>?_
 refine AE ?_
 refine k6 _ _ ?_
 refine ALd ?_
 repeat refine AJ ?_
 refine Ar (fn:=Tryz.f114) sv9 (A7 (p:=2) Tryz.results114 sv9 rfl rfl) ?_
 exact⟨_,_,rfl,⟨⟨Sl.of_own ow8,h.2.1,fun k hk=>Own.lt ow8 k hk.1,h.2.2.2⟩,Tag.of ow8⟩,fun k hk=>AAC k hk.1,HG⟩
theorem AAD {l:List Nd} {s:Value} {w:World} (h:RdT w s l):Calls Tryz.prog 114 #[s] w fun e w'=>∃ao cap,e=.returned (.slice ao l.length cap)∧RdTg w' (.slice ao l.length cap) l∧(∀k,Mv (.slice ao l.length cap) k→w.heap.size≤k)∧w.grownBy w' none:=by
 obtain⟨ao,cap,rfl⟩:=h.shape
 cases ao with
 | some ad=>exact AAB l ad cap w h
 | none =>
  have h0:l.length=0∧cap=0:=by
   obtain⟨⟨_,ao',cap',e,h1,_,h3,_⟩,_⟩:=h
   simp only[Value.slice.injEq,true_and] at e
   obtain⟨rfl,rfl⟩:=e
   have:=h3 rfl
   omega
  obtain⟨h1,rfl⟩:=h0
  obtain rfl:l=[]:=List.eq_nil_of_length_eq_zero h1
  exact(ACi w).mono fun e w' ⟨h1,h2⟩=>⟨none,0,h1,⟨h.kn h2,fun k hk=>(UG k hk).elim⟩,fun k hk=>(UG k hk).elim,h2⟩
theorem AEc {w0:World} {l:List Nd} {s:Value} (h:RdT w0 s l):∀W,w0.grownBy W none→Calls Tryz.prog 114 #[s] W fun e W'=>∃v,e=.returned v∧W.grownBy W' none∧(Sp.cl w0.heap.size l).on W' v:=fun W g =>
 (AAD (h.kn g)).mono fun e W' ⟨ao,cap,h1,h2,h3,h4⟩=>⟨_,h1,h4,ao,cap,rfl,h2,fun k hk=>Nat.le_trans g.size (h3 k hk)⟩
theorem Xf (ks:List VK) (ao:Option Addr) (cap:Nat) (sa po:List Nat) (hsa:Dg sa) (hpo:Dg po) (w:World) (hr:RdK w (.slice ao ks.length cap) ks) (h64:ks.length≤64) :
   Calls Tryz.prog 72 #[Aw sa po (.slice ao ks.length cap)] w fun e w'=>∃A ms,e=.returned (Aw sa po (.slice (some ⟨A,0,none⟩) ks.length ks.length))∧ms.map VK.p=ks.map VK.p∧Own w' 58 33 (.slice (some ⟨A,0,none⟩) ks.length ks.length) ks.length (ms.flatMap Ak)∧KsT w' ms∧w.heap.size≤A∧(∀k,D5 ms k→w.heap.size≤k∧k≠A)∧w.grownBy w' none:=by
 refine BF Tryz.func72 rfl Tryz.ntmps72 rfl fun a0 sv0=>?_
 have HG:=World.grownBy.refl w none
 replace sv0:Sv 33 [] [(0,Aw sa po (.slice ao ks.length cap))] a0:=sv0
 refine ALa fun K1 k1=>?_
 refine ALZ ?_
 refine BZ sv0 r6 (Bq hsa hpo (.slice ao ks.length cap) rfl) fun a2 w2 CP GZ g2 z2 Ad sv2=>?_
 have AGj:=Bk HG GZ
 replace HG:=AA HG g2
 refine Az (T:=36) (Z:=([bv AM,bv AM,[.slice none 0 0]].flatten)) sv2 rfl rfl rfl (fun a w=>by kernel_rfl) fun a3 w3 N6 JG g3 z3 CW sv3=>?_
 have Uy:=Ax Ad JG
 have KH:=Bk HG JG
 replace Ad:=AC g3 Ad
 replace hr:=(hr.kn g2).kn g3
 replace HG:=AA HG g3
 refine AE ?_
 refine k1 _ _ ?_
 refine ALa fun K4 k4=>?_
 refine ALZ ?_
 refine Fl (sv3.st w3) 4 [(6,Sp.is (pk CP 64)),(7,Sp.is (.slice ao ks.length cap)),(8,Sp.is (.int .i64 ((ks.length:Nat)))),(9,Sp.made w3.heap.size 58 33 ks.length ((List.replicate ks.length QH).flatMap Ak))] rfl (by kernel_rfl) (by kernel_rfl) (by kernel_rfl)
   ⟨yf r6 (fun _=>by kernel_rfl),yp (i:=2) r6 (Eo (.slice ao ks.length cap) rfl) Ad rfl (by simp[AL,AZ,hsa.1,hpo.1]),BI (Tryz.underlying34) rfl rfl trivial (oy rfl rfl) (fun _=>rfl),AGZ (m:=ks.length) (xs:=(List.replicate ks.length QH).flatMap Ak) Xd rfl rfl trivial (Nat.le_refl _) (oy rfl rfl) (by omega) (AJg _).symm (fun _ _ h=>h),ALg⟩ fun a5 w5 g5 st5=>?_
 obtain⟨hn5,hd5,e5_6,e5_7,e5_8,e5_9,e5_2,e5_1,e5_0,-⟩:=st5
 obtain⟨A,e5_9q,ow,geA⟩:=e5_9
 have frA:∀k,BM (.slice ((some ⟨A,0,none⟩)) ks.length ks.length) k→w3.heap.size≤k:=fun k hk=>(Option.some.inj hk)▸geA
 have Ir:=Ca frA Ad
 have Is:=Ca frA CW
 have ap_hr_ow:=AHl (hr.lt) frA
 have lo_ow:=Gk HG frA
 replace Ad:=AC g5 Ad
 have sv5:Sv 33 [] [(2,_),(1,_),(0,_),(9,_)] a5:=⟨hn5,hd5,e5_2,e5_1,e5_0,e5_9q,ALg⟩
 refine AX (v:=.slice ((some ⟨A,0,none⟩)) ks.length ks.length) sv5 r6 fun a6 sv6=>?_
 refine AE ?_
 refine k4 _ _ ?_
 refine ALa fun K7 k7=>?_
 refine ALa fun K8 k8=>?_
 refine ALZ ?_
 refine AH sv6 4 [(10,pk CP 64),(11,.slice ao ks.length cap),(12,.int .i64 ((ks.length:Nat))),(13,.int .i64 0)]
   ⟨yf r6 (fun _=>by kernel_rfl),yp (i:=2) r6 (Eo (.slice ao ks.length cap) rfl) Ad rfl (by simp[AL,AZ,hsa.1,hpo.1]),BI (Tryz.underlying34) rfl rfl trivial (oy rfl rfl) (fun _=>rfl),FA (.inl rfl) rfl trivial (fun _=>rfl),ALg⟩ fun a9 w9 g9 sv9=>?_
 refine AE ?_
 refine k8 _ _ ?_
 refine A8 fun Q10 x10 y10 r10 o10=>?_
 replace Ad:=AC g9 Ad
 replace CW:=AC g9 (AC g5 CW)
 replace hr:=(hr.kn g5).kn g9
 replace ow:=ow.kn g9
 replace HG:=AA (AA HG g5) g9
 have kr:=KsT.rep w9 ks.length
 have KN:∀k,D5 (List.replicate ks.length QH) k→k≠CP:=fun k hk=>(LH _ _ hk).elim
 have KO:∀k,D5 (List.replicate ks.length QH) k→k≠N6:=fun k hk=>(LH _ _ hk).elim
 have ap_kr_ow:∀k,D5 (List.replicate ks.length QH) k→¬BM (.slice ((some ⟨A,0,none⟩)) ks.length ks.length) k:=fun k hk=>(LH _ _ hk).elim
 refine wp_loop (fun a w'=>∃(i:Nat) (ms:List VK),(i≤ks.length)∧(ms.length=ks.length)∧(∀j,j<i→(ms.map VK.p)[j]?=(ks.map VK.p)[j]?)∧(∀k,D5 ms k→w.heap.size≤k)∧Sv 33 [] [(13,.int .i64 ((i:Int))),(10,pk CP 64),(11,.slice ao ks.length cap),(12,.int .i64 ((ks.length:Nat))),(3,.slice ((some ⟨A,0,none⟩)) ks.length ks.length),(2,pt N6),(1,pt CP),(0,Aw sa po (.slice ao ks.length cap)),(9,.slice ((some ⟨A,0,none⟩)) ks.length ks.length)] a∧w.grownBy w' none∧w'.heap[CP]?=some (.cells ([bv sa,bv po,[.slice ao ks.length cap]].flatten).toArray 36 (0,0))∧w'.heap[N6]?=some (.cells (([bv AM,bv AM,[.slice none 0 0]].flatten)).toArray 36 (0,0))∧RdK w' (.slice ao ks.length cap) ks∧Own w' 58 33 (.slice ((some ⟨A,0,none⟩)) ks.length ks.length) ks.length (ms.flatMap Ak)∧KsT w' ms∧(∀k,BM (.slice ((some ⟨A,0,none⟩)) ks.length ks.length) k→k≠CP)∧(∀k,BM (.slice ((some ⟨A,0,none⟩)) ks.length ks.length) k→k≠N6)∧(∀k,Kv (.slice ao ks.length cap) ks k→¬BM (.slice ((some ⟨A,0,none⟩)) ks.length ks.length) k)∧(∀k,D5 ms k→¬BM (.slice ((some ⟨A,0,none⟩)) ks.length ks.length) k)∧(∀k,BM (.slice ((some ⟨A,0,none⟩)) ks.length ks.length) k→w.heap.size≤k)∧(∀k,D5 ms k→k≠CP)∧(∀k,D5 ms k→k≠N6)) (fun a _=>(ks.length-intOf (a.tmps.getD 13 undef)).toNat) ⟨0,List.replicate ks.length QH,Nat.zero_le _,by simp,fun j hj=>by omega,fun k hk=>(LH _ _ hk).elim,⟨sv9.1,sv9.2.1,sv9.2.2.2.2.2.1,sv9.2.2.1,sv9.2.2.2.1,sv9.2.2.2.2.1,sv9.2.2.2.2.2.2.1,sv9.2.2.2.2.2.2.2.1,(AG sv9).1,(AG sv9).2.1,(AG sv9).2.2.1,ALg⟩,HG,Ad,CW,hr,ow,kr,Ir,Is,ap_hr_ow,ap_kr_ow,lo_ow,KN,KO⟩ fun a11 w11 hI11=>?_
 clear Ad
 clear CW
 clear hr
 clear ow
 clear kr
 clear HG
 obtain⟨i,ms,hin,hms,hp,hfr,B7,HG,Ad,CW,hr,ow,kr,Ir,Is,ap_hr_ow,ap_kr_ow,lo_ow,KN,KO⟩:=hI11
 refine ALa fun K12 k12=>?_
 by_cases hi:i<ks.length
 · obtain⟨x,hx_x⟩:∃x,ks[i]'hi=x:=⟨_,rfl⟩
   have him:i<ms.length:=by omega
   obtain⟨z,hx_z⟩:∃x,ms[i]'him=x:=⟨_,rfl⟩
   refine ALZ ?_
   refine AH B7 1 [(14,.bool true)]
    ⟨GC r7 (fun _=>BE (decide_eq_true (by omega))),ALg⟩ fun a13 w13 g13 Cl=>?_
   refine AE ?_
   refine k12 _ _ ?_
   refine ALa fun K14 k14=>?_
   refine Av Cl rfl rfl ?_
   refine ALe ?_
   refine k14 _ _ ?_
   refine ALa fun K15 k15=>?_
   refine A8 fun Q16 x16 y16 r16 o16=>?_
   refine ALa fun K17 k17=>?_
   refine ALZ ?_
   replace hr:=hr.kn g13
   refine AH Cl 3 [(15,.int .i64 ((i:Int))),(16,pk ((bO ao)) (oO ao+i*33)),(17,IE x)]
    ⟨ym r5,BA rq8 (fun w=>B8 Tryz.underlying34 (by kernel_rfl) (hr.1.1) (by omega) (rfl) w),Bc r6 (fun _ g=>Ab (Uq x) (RdK.keyX (hr.kn g) rfl hi hx_x)),ALg⟩ fun a18 w18 g18 CD=>?_
   replace Ad:=AC g18 (AC g13 Ad)
   replace CW:=AC g18 (AC g13 CW)
   replace hr:=hr.kn g18
   replace ow:=(ow.kn g13).kn g18
   replace kr:=(kr.kn g13).kn g18
   replace HG:=AA (AA HG g13) g18
   refine Az (T:=58) (Z:=([bv AM,[.slice none 0 0]].flatten)) CD rfl rfl rfl (fun a w=>by kernel_rfl) fun a19 w19 ABQ Jo g19 z19 QS Cs=>?_
   have R4:=Ax Ad Jo
   have R5:=Ax CW Jo
   have AEd:=Bk HG Jo
   have Xg:=Ay (hr.lt) Jo
   have Xh:=Ay (Own.ltS ow) Jo
   have Oj:=Ay (kr.lt) Jo
   refine AX (v:=.int .i64 ((i:Int))) Cs r6 fun a20 DR=>?_
   refine As DR r7 (Uq x) QS (by first|rfl|simp[Ak,AL,AZ,x.ho.1]) fun w21 g21 h21=>?_
   replace Ad:=Ac g21 (AC g19 Ad) (Ne.symm R4)
   replace CW:=Ac g21 (AC g19 CW) (Ne.symm R5)
   replace hr:=(hr.kn g19).offR g21 (AR Xg)
   replace ow:=(ow.kn g19).offR g21 (AR Xh)
   replace HG:=AD (AA HG g19) g21 AEd
   replace QS:=h21
   refine AE ?_
   refine k17 _ _ ?_
   refine DM (DR.st w21) (by kernel_rfl) 11 [(18,Sp.is (.slice ((some ⟨A,0,none⟩)) ks.length ks.length)),(19,Sp.is (.int .i64 ((i:Int)))),(20,Sp.is (pt ABQ)),(21,Sp.is (AO x.o)),(22,Sp.is (pk ABQ 32)),(23,Sp.is (pk ABQ 32)),(24,Sp.is (VK.s x)),(25,Sp.cl w21.heap.size x.l),(26,Sp.ct w21.heap.size x.l),(27,Sp.ck w21.heap.size x.o x.l),(28,Sp.is (pk ((bO ((some ⟨A,0,none⟩)))) (oO ((some ⟨A,0,none⟩))+i*33)))] rfl (by kernel_rfl) (by kernel_rfl) (by kernel_rfl) [] (by kernel_rfl)
    ⟨ym r5,ym r5,yf r6 (fun _=>by kernel_rfl),yp (i:=0) r6 (BV x.o x.ho.1) QS rfl rfl,yf r6 (fun _=>by kernel_rfl),yf r6 (fun _=>by kernel_rfl),yp (i:=1) r6 (AKb (VK.s x) rfl) QS rfl (by simp[AL,AZ,x.ho.1]),Ae [VK.s x] Tryz.func114 (by kernel_rfl) rq4 ⟨(oy rfl rfl),ALg⟩ (AEc (hr.kt hi hx_x)),Ls rfl rfl trivial rfl (fun W _ av h=>match av,h with|[u],⟨h1,_⟩=>AJh h1),Ls rfl rfl trivial rfl (fun W _ av h=>match av,h with|[u,t],⟨h1,h2,_⟩=>AEM x.ho h1 h2),BA rq8 (fun w=>B8 Tryz.underlying34 (by kernel_rfl) (Sl.of_own ow) (by omega) (rfl) w),ALg⟩ trivial
    [] (by kernel_rfl) trivial ⟨.inl rfl,.inl rfl,.inl rfl,.inl rfl,.inl rfl,.inl rfl,.inl rfl,.inl rfl,.inl rfl,.inl rfl,.inl rfl,ALg⟩ (by kernel_rfl) fun a22 w22 g22 st22 nd22=>?_
   obtain⟨hn22,hd22,e22_18,e22_19,e22_20,e22_21,e22_22,e22_23,e22_24,e22_25,e22_26,e22_27,e22_28,e22_4,e22_5,e22_15,e22_16,e22_17,e22_14,e22_13,e22_10,e22_11,e22_12,e22_3,e22_2,e22_1,e22_0,e22_9,-⟩:=st22
   obtain⟨y,e22_27q,hyo,hyl,rt,frB⟩:=e22_27
   have HG0:=HG
   have AAE:=Ca frB Ad
   have AAF:=Ca frB CW
   have Xi:=Ca frB QS
   have ap_rt_ow:=AKf (Own.ltS ow) frB
   replace ow:=ow.kn g22
   have Bl:Sv 33 [] [(4,_),(5,_),(15,_),(16,_),(17,_),(14,_),(13,_),(10,_),(11,_),(12,_),(3,_),(2,_),(1,_),(0,_),(9,_),(27,_),(28,_)] a22:=⟨hn22,hd22,e22_4,e22_5,e22_15,e22_16,e22_17,e22_14,e22_13,e22_10,e22_11,e22_12,e22_3,e22_2,e22_1,e22_0,e22_9,e22_27q,e22_28,ALg⟩
   refine J9 (c:=Ak) (el:=y) Bl rfl rfl rfl rfl rfl rfl rfl (Uq y) ow DZ (by decide) (by first|omega|(simp only[List.length_set];omega)) rfl fun w23 g23 h23=>?_
   replace Ad:=AF g23 (AC g22 Ad) (fun e=>Ir _ (Dl (j:=i) ow (by omega) rfl) (Option.some.inj e).symm)
   replace CW:=AF g23 (AC g22 CW) (fun e=>Is _ (Dl (j:=i) ow (by omega) rfl) (Option.some.inj e).symm)
   replace hr:=(hr.kn g22).offR g23 (fun k hk e=>ap_hr_ow k hk (Dl (j:=i) ow (by omega) e))
   replace kr:=(((kr.kn g19).offR g21 (AR Oj)).kn g22).offR g23 (fun k hk e=>ap_kr_ow k hk (Dl (j:=i) ow (by omega) e))
   replace rt:=rt.offR g23 (fun k hk e=>ap_rt_ow k hk (Dl (j:=i) ow (by omega) e))
   replace HG:=Br (AA HG g22) g23 fun k e=>lo_ow k (Dl (j:=i) ow (by omega) e)
   refine AE ?_
   have kr2:=KsT.set kr (x:=y) rt i
   have Xj:∀k,D5 (ms.set i y) k→k≠CP:=fun k hk=>(Ji hk).elim (KN k) (AAE k)
   have Xk:∀k,D5 (ms.set i y) k→k≠N6:=fun k hk=>(Ji hk).elim (KO k) (AAF k)
   have AGk:∀k,D5 (ms.set i y) k→k≠ABQ:=fun k hk=>(Ji hk).elim (Oj k) (Xi k)
   have ap_kr2_ow:∀k,D5 (ms.set i y) k→¬BM (.slice ((some ⟨A,0,none⟩)) ks.length ks.length) k:=fun k hk=>(Ji hk).elim (ap_kr_ow k) (ap_rt_ow k)
   refine y16 _ _ ?_
   refine k15 _ _ ?_
   refine ALZ ?_
   refine AH Bl 1 [(29,.int .i64 (((i+1:Nat):Int)))]
    ⟨Cm r6 (fun _=>DB (by rw[BG (by omega) (by omega)];omega)),ALg⟩ fun a24 w24 g24 ER=>?_
   refine AH (ER.dl [13]) 1 [(13,.int .i64 (((i+1:Nat):Int)))]
    ⟨ym r5,ALg⟩ fun a25 w25 g25 Co=>?_
   have JW:=AA g24 g25
   refine AE ?_
   replace Ad:=AC JW Ad
   replace CW:=AC JW CW
   replace hr:=hr.kn JW
   replace ow:=h23.kn JW
   replace kr2:=kr2.kn JW
   replace HG:=AA HG JW
   exact⟨⟨i+1,ms.set i y,by omega,by rw[List.length_set];exact hms,AGa hms hi hx_x hyo hyl hp,fun k hk=>(Ji hk).elim (hfr k) fun h=>Nat.le_trans HG0.size (frB k h),⟨Co.1,Co.2.1,Co.2.2.1,(AG Co).2.2.1,(AG Co).2.2.2.1,(AG Co).2.2.2.2.1,(AG Co).2.2.2.2.2.1,(AG Co).2.2.2.2.2.2.1,(AG Co).2.2.2.2.2.2.2.1,(AG (AG Co)).1,(AG (AG Co)).2.1,ALg⟩,HG,Ad,CW,hr,ow,kr2,Ir,Is,ap_hr_ow,ap_kr2_ow,lo_ow,Xj,Xk⟩,by rw[show _=_ from Co.2.2.1,show _=_ from B7.2.2.1];simp[intOf];omega⟩
 · have hall:=AIb hms hi hp
   refine ALZ ?_
   refine AH B7 1 [(14,.bool false)]
    ⟨GC r7 (fun _=>BE (decide_eq_false (by omega))),ALg⟩ fun a26 w26 g26 Cp=>?_
   refine AE ?_
   refine k12 _ _ ?_
   refine ALa fun K27 k27=>?_
   refine A1 Cp rfl rfl ?_
   refine wp_exit ?_
   repeat refine Bo ?_
   refine x10 _ _ ?_
   refine k7 _ _ ?_
   refine ALa fun K28 k28=>?_
   refine ALZ ?_
   refine AH Cp 2 [(30,.slice ((some ⟨A,0,none⟩)) ks.length ks.length),(31,pk CP 64)]
    ⟨ym r5,yf r6 (fun _=>by kernel_rfl),ALg⟩ fun a29 w29 g29 CU=>?_
   have Jk:=AA g26 g29
   refine Hq (L:=[bv sa,bv po,[.slice ao ks.length cap]]) (i:=2) CU r7 (Eo (.slice ((some ⟨A,0,none⟩)) ks.length ks.length) rfl) (AC Jk Ad) rfl (by simp[AL,AZ,hsa.1,hpo.1]) rfl fun w30 g30 h30=>?_
   replace CW:=Af Jk g30 CW Uy
   replace Ad:=h30
   refine AE ?_
   refine k28 _ _ ?_
   refine ALa fun K31 k31=>?_
   refine ALZ ?_
   refine AH CU 1 [(32,Aw sa po (.slice ((some ⟨A,0,none⟩)) ks.length ks.length))]
    ⟨yl r6 (Bq hsa hpo (.slice ((some ⟨A,0,none⟩)) ks.length ks.length) rfl) Ad,ALg⟩ fun a32 w32 g32 Ci=>?_
   refine As Ci r7 (Bq hsa hpo (.slice ((some ⟨A,0,none⟩)) ks.length ks.length) rfl) (AC g32 CW) (by first|rfl|simp[Ak,AL,AZ,hsa.1,hpo.1]) fun w33 g33 h33=>?_
   replace ow:=(((ow.kn Jk).offR g30 (AR Ir)).kn g32).offR g33 (AR Is)
   replace kr:=(((kr.kn Jk).offR g30 (AR KN)).kn g32).offR g33 (AR KO)
   replace HG:=AD (AA (AD (AA HG Jk) g30 AGj) g32) g33 KH
   replace CW:=h33
   refine AE ?_
   refine k31 _ _ ?_
   refine ALd ?_
   repeat refine AJ ?_
   refine Ar (fn:=Tryz.f72) Ci (Dc (p:=2) Tryz.results72 Ci rfl rfl (Bq hsa hpo (.slice ((some ⟨A,0,none⟩)) ks.length ks.length) rfl) CW) ?_
   exact⟨A,ms,rfl,hall,ow,kr,lo_ow _ rfl,fun k hk=>⟨hfr k hk,fun e=>ap_kr_ow k hk (e▸rfl)⟩,HG⟩
def TagV (w:World) (k:Nat):Prop:=TagB w k∨∃c fr,w.heap[k]?=some (.cells c 58 fr)
theorem TagV.keep {w w':World} {k:Nat} (h:TagV w k) {row:Option Nat} (g:w.grownBy w' row) (hb:row≠some k):TagV w' k:=h.imp (·.keep g hb) fun⟨c,fr,h1⟩=>⟨c,fr,AF g h1 fun e=>hb e.symm⟩
def VRes (w w':World) (r:VV×Int) (fp:Nat→Prop) (e:Ending):Prop:=∃ao cap ks,e=.returned (.tuple #[Aw r.1.2.1 r.1.2.2 (.slice ao ks.length cap),.int .i64 r.2])∧ks.map VK.p=r.1.1∧RdK w' (.slice ao ks.length cap) ks∧(∀k,Kv (.slice ao ks.length cap) ks k→fp k∨TagV w' k)∧w.grownBy w' none
theorem VRes.zero {w w':World} {r:VV×Int} {fp:Nat→Prop} {c:Int} (hr:r=(AEe,c)) (h:w.grownBy w' none):VRes w w' r fp (.returned (.tuple #[Aw AM AM (.slice none 0 0),.int .i64 c])):=by
 subst hr
 exact⟨none,0,[],rfl,rfl,RdK.nil w',fun k hk=>(ND k hk).elim,h⟩
theorem VRes.mk2 {w w':World} {r:VV×Int} {fp:Nat→Prop} {P:List VP} {sa po:List Nat} {c:Int} {ao:Option Addr} {n cap:Nat} {ks:List VK} (hr:r=((P,sa,po),c)) (hp:ks.map VK.p=P) (ho:Own w' 58 33 (.slice ao n cap) n (ks.flatMap Ak)) (hk:KsR w' ks) (h2:∀k,D5 ks k→fp k∨TagB w' k)
  (h:w.grownBy w' none):VRes w w' r fp (.returned (.tuple #[Aw sa po (.slice ao n cap),.int .i64 c])):=by
 obtain rfl:=Own.rdk ho
 subst hr
 exact⟨ao,cap,ks,rfl,hp,⟨ho.sb,hk⟩,fun k hk=>hk.elim (fun h=>.inr (.inr (Own.block ho h))) (fun h=>(h2 k h).imp id .inl),h⟩
theorem VRes.mk {w w':World} {r:VV×Int} {fp:Nat→Prop} {P:List VP} {sa po:List Nat} {c:Int} {ao:Option Addr} {n cap:Nat} {ks:List VK} (hr:r=((P,sa,po),c)) (hp:ks.map VK.p=P) (ho:Own w' 58 33 (.slice ao n cap) n (ks.flatMap Ak)) (hk:KsT w' ks)
 (h:w.grownBy w' none):VRes w w' r fp (.returned (.tuple #[Aw sa po (.slice ao n cap),.int .i64 c])):=VRes.mk2 hr hp ho hk.1 (fun k hk'=>.inr (hk.2 k hk')) h
theorem VRes.same {w w':World} {r:VV×Int} {fp:Nat→Prop} {P:List VP} {sa po:List Nat} {c:Int} {ao:Option Addr} {cap:Nat} {ks:List VK} (hr:r=((P,sa,po),c)) (hp:ks.map VK.p=P) (ho:RdK w' (.slice ao ks.length cap) ks)
  (h1:∀k,Kv (.slice ao ks.length cap) ks k→fp k) (h:w.grownBy w' none):VRes w w' r fp (.returned (.tuple #[Aw sa po (.slice ao ks.length cap),.int .i64 c])):=by
 subst hr
 exact⟨ao,cap,ks,rfl,hp,ho,fun k hk=>.inl (h1 k hk),h⟩
def Sp.cln (B:Nat) (sa po:List Nat) (n:Nat) (P:List VP):Sp:=⟨fun w v=>∃(A:Nat) (ms:List VK),v=Aw sa po (.slice (some ⟨A,0,none⟩) n n)∧ms.map VK.p=P∧Own w 58 33 (.slice (some ⟨A,0,none⟩) n n) n (ms.flatMap Ak)∧KsT w ms∧B≤A∧∀k,D5 ms k→B≤k∧k≠A,
 fun _ _ _ hg ⟨A,ms,h1,h2,h3,h4,h5,h6⟩=>⟨A,ms,h1,h2,h3.kn hg,h4.kn hg,h5,h6⟩⟩
theorem ACj {w0:World} {ks:List VK} {ao:Option Addr} {cap:Nat} {sa po:List Nat} (hsa:Dg sa) (hpo:Dg po) (hr:RdK w0 (.slice ao ks.length cap) ks) (h64:ks.length≤64):∀W,w0.grownBy W none→Calls Tryz.prog 72 #[Aw sa po (.slice ao ks.length cap)] W fun e W'=>∃v,e=.returned v∧W.grownBy W' none∧(Sp.cln w0.heap.size sa po ks.length (ks.map VK.p)).on W' v:=fun W g =>
 (Xf ks ao cap sa po hsa hpo W (hr.kn g) h64).mono fun e W' ⟨A,ms,h1,h2,h3,h4,h5,h6,h7⟩=>⟨_,h1,h7,A,ms,rfl,h2,h3,h4,Nat.le_trans g.size h5,fun k hk=>⟨Nat.le_trans g.size (h6 k hk).1,(h6 k hk).2⟩⟩
theorem KsT.ins {w:World} {ms:List VK} (h:KsT w ms) {x:VK} (hx:RdTg w x.s x.l) (i:Nat):KsT w (ms.take i++x::ms.drop i):=by
 have hh:∀k,k∈ms.take i++x::ms.drop i→k∈ms∨k=x:=fun k hk=>by
  rcases List.mem_append.1 hk with hk|hk
  · exact .inl (List.mem_of_mem_take hk)
  · rcases List.mem_cons.1 hk with rfl|hk
    · exact .inr rfl
    · exact .inl (List.mem_of_mem_drop hk)
 exact⟨fun k hk=>(hh k hk).elim (h.1 k) fun e=>e▸hx.1,fun b ⟨k,hk,hb⟩=>(hh k hk).elim (fun h1=>h.2 b ⟨k,h1,hb⟩) fun e=>hx.2 b (e▸hb)⟩
def Sp.insr (B n:Nat) (ks:List VK):Sp:=⟨fun w v=>∃ao cap,v=.slice ao n cap∧Own w 58 33 (.slice ao n cap) n (ks.flatMap Ak)∧∀k,BM (.slice ao n cap) k→B≤k,fun _ _ _ hg ⟨ao,cap,h1,h2,h3⟩=>⟨ao,cap,h1,h2.kn hg,h3⟩⟩
theorem AIj {w0:World} {ms:List VK} {x:VK} {i A V n:Nat} (hn:n=ms.length) (hown:Own w0 58 33 (.slice (some ⟨A,0,none⟩) n n) n (ms.flatMap Ak)) (hv:w0.heap[V]?=some (.cells (Ak x).toArray 58 (0,0))) (hi:i≤n) (h64:n≤64) :
  ∀W,w0.grownBy W none→Calls Tryz.prog 83 #[.slice (some ⟨A,0,none⟩) n n,.int .i64 (i:Int),.slice (some ⟨V,0,none⟩) 1 1] W fun e W'=>∃v,e=.returned v∧W.grownBy W' none∧(Sp.insr w0.heap.size (n+1) (ms.take i++x::ms.drop i)).on W' v:=fun W g=>by
 subst hn
 exact(Xe ms x i A V W (hown.kn g) (AF g hv (by simp)) hi (by omega)).mono fun e W' ⟨v,h1,h2,h3,h4⟩=>by
  obtain⟨ao,cap,rfl,_⟩:=(Sl.of_own h2).shape
  exact⟨_,h1,h3,ao,cap,rfl,h2,fun k hk=>Nat.le_trans g.size (h4 k hk)⟩
theorem AGl {ms:List VK} {P:List VP} {o:List Nat} {T:List Nd} {x:VK} {i:Nat} (h:ms.map VK.p=P) (hi:pos P o=i) (ho:x.o=o) (hl:x.l=T):(ms.take i++x::ms.drop i).map VK.p=Me P o T:=by
 unfold Me
 rw[hi,List.map_append,List.map_cons,List.map_take,List.map_drop,h]
 simp[VK.p,ho,hl]
theorem Xl {w:World} {ks ms:List VK} {A n:Nat} {sa po o:List Nat} (hsa:Dg sa) (hpo:Dg po) (ho:Dg o) (hm:ms.map VK.p=ks.map VK.p) (ow:Own w 58 33 (.slice (some ⟨A,0,none⟩) n n) n (ms.flatMap Ak)) (kr:KsR w ms) (hv:CZ (ks.map VK.p)=true) {b:Bool} (hb:J5 (ks.map VK.p) o=b) {i:Nat} (hi:pos (ks.map VK.p) o=i) :
  Calls Tryz.prog 71 #[Aw sa po (.slice (some ⟨A,0,none⟩) n n),AO o] w fun e w'=>e=.returned (.tuple #[.int .i64 (i:Int),.bool b])∧w.grownBy w' none:=by
 obtain rfl:=Own.rdk ow
 rw[←hm] at hv hb hi
 exact Z7 hsa hpo ho ⟨ow.sb,kr⟩ hv hb hi
theorem AEf (ks:List VK) (ao:Option Addr) (cap:Nat) (sa po:List Nat) (hsa:Dg sa) (hpo:Dg po) (o:List Nat) (ho:Dg o) (T:List Nd) (hT:tree (kd 275 po) []=T) (w:World) (hr:RdK w (.slice ao ks.length cap) ks) :
   Calls Tryz.prog 36 #[Aw sa po (.slice ao ks.length cap),AO o] w fun e w'=>VRes w w' (ME (ks.map VK.p,sa,po) o T (kd 276 po)) (fun _=>False) e:=by
 have hTl:0<T.length:=by rw[←hT,LB];exact Nat.zero_lt_one
 refine Eu Tryz.func36 rfl Tryz.ntmps36 rfl fun a0 sv0=>?_
 have HG:=World.grownBy.refl w none
 replace sv0:Sv 47 [] [(0,Aw sa po (.slice ao ks.length cap)),(1,AO o)] a0:=sv0
 refine ALa fun K1 k1=>?_
 refine ALZ ?_
 refine BZ sv0 r6 (Bq hsa hpo (.slice ao ks.length cap) rfl) fun a2 w2 CO DP g2 z2 AK sv2=>?_
 have FP:=Bk HG DP
 refine BZ sv2 r6 (BV o ho.1) fun a3 w3 CG E2 g3 z3 AN sv3=>?_
 have Ga:=Ax AK E2
 replace AK:=AC g3 AK
 replace hr:=(hr.kn g2).kn g3
 replace HG:=AA (AA HG g2) g3
 refine Az (T:=36) (Z:=([bv AM,bv AM,[.slice none 0 0]].flatten)) sv3 rfl rfl rfl (fun a w=>by kernel_rfl) fun a4 w4 Fp CB g4 z4 AU sv4=>?_
 have BT:=Ax AK CB
 have Bf:=Ax AN CB
 have CL:=Bk HG CB
 have CI:=Ay (hr.lt) CB
 replace AK:=AC g4 AK
 replace AN:=AC g4 AN
 replace hr:=hr.kn g4
 replace HG:=AA HG g4
 refine Az (T:=38) (Z:=[.int .i64 0]) sv4 rfl rfl rfl (fun a w=>by kernel_rfl) fun a5 w5 Xm E3 g5 z5 A9 sv5=>?_
 have Cj:=Ax AK E3
 have C6:=Ax AN E3
 have BO:=Ax AU E3
 have FQ:=Bk HG E3
 have FI:=Ay (hr.lt) E3
 replace AK:=AC g5 AK
 replace AN:=AC g5 AN
 replace AU:=AC g5 AU
 replace hr:=hr.kn g5
 replace HG:=AA HG g5
 refine AE ?_
 refine k1 _ _ ?_
 refine ALa fun K6 k6=>?_
 refine ALZ ?_
 refine Ht sv5 rfl rfl rfl rfl rfl rfl fun a7 sv7=>?_
 refine Fe sv7 rfl (dd:={ target:=.fn (.func 81) #[pt Fp,pt Xm],args:=#[] }) rfl (by have e1:=sv7.ev (x:=.tmp 9) rfl rfl;simp[execOp,resolve,Deferred.ofValue,e1];try rfl) fun a8 sv8=>?_
 refine AE ?_
 refine k6 _ _ ?_
 refine ALa fun K9 k9=>?_
 refine ALa fun K10 k10=>?_
 cases hv:CZ (ks.map VK.p)
 · refine ALZ ?_
   refine AH sv8 3 [(10,Aw sa po (.slice ao ks.length cap)),(11,.bool false),(12,.bool true)]
     ⟨yl r6 (Bq hsa hpo (.slice ao ks.length cap) rfl) AK,Ae [Aw sa po (.slice ao ks.length cap)] Tryz.func51 (by kernel_rfl) rq4 ⟨(oy rfl rfl),ALg⟩ (Au fun W g=>LN hsa hpo (hr.kn g) hv),Cr r6 (fun _=>Ba),ALg⟩ fun a11 w11 g11 B7=>?_
   refine AE ?_
   refine k10 _ _ ?_
   refine Av B7 rfl rfl ?_
   refine ALa fun K12 k12=>?_
   refine ALZ ?_
   replace AK:=AC g11 AK
   replace AN:=AC g11 AN
   replace AU:=AC g11 AU
   replace A9:=AC g11 A9
   refine AH B7 1 [(13,Aw AM AM (.slice none 0 0))]
     ⟨BR (vs:=[]) rfl rfl trivial trivial (fun _=>bV0 _) (fun _=>rfl),ALg⟩ fun a13 w13 g13 Cl=>?_
   refine As Cl r7 (Bq AP AP (.slice none 0 0) rfl) (AC g13 AU) (by first|rfl|simp[Ak,AL,AZ,AP.1,AP.1]) fun w14 g14 h14=>?_
   replace A9:=Af g13 g14 A9 BO
   refine As Cl r7 (GI 1) A9 rfl fun w15 g15 h15=>?_
   replace AK:=Ac g15 (Af g13 g14 AK (Ne.symm BT)) (Ne.symm Cj)
   replace AN:=Ac g15 (Af g13 g14 AN (Ne.symm Bf)) (Ne.symm C6)
   replace AU:=Ac g15 h14 (Ne.symm BO)
   replace hr:=(((hr.kn g11).kn g13).offR g14 (AR CI)).offR g15 (AR FI)
   replace HG:=AD (AD (AA (AA HG g11) g13) g14 CL) g15 FQ
   replace A9:=h15
   refine AE ?_
   refine k12 _ _ ?_
   refine ALd ?_
   repeat refine AJ ?_
   refine Bi (fn:=Tryz.f36) Cl (B6 (p:=4) (q:=5) Tryz.results36 Cl rfl rfl rfl rfl (Bq AP AP (.slice none 0 0) rfl) (GI 1) AU A9) (CH Tryz.func81 (by kernel_rfl) rfl _ _) (GY _ _ _) ?_
   exact VRes.zero (by unfold ME;rw[if_neg (by rw[hv];simp)]) HG
 · obtain⟨i,hi⟩:∃i,pos (ks.map VK.p) o=i:=⟨_,rfl⟩
   have h64:ks.length≤64:=by have:=(FH.1 hv).1;simpa using this
   have hin:i≤ks.length:=by rw[←hi];simpa using QA (ks.map VK.p) o
   refine ALZ ?_
   refine AH sv8 3 [(10,Aw sa po (.slice ao ks.length cap)),(11,.bool true),(12,.bool false)]
     ⟨yl r6 (Bq hsa hpo (.slice ao ks.length cap) rfl) AK,Ae [Aw sa po (.slice ao ks.length cap)] Tryz.func51 (by kernel_rfl) rq4 ⟨(oy rfl rfl),ALg⟩ (Au fun W g=>LN hsa hpo (hr.kn g) hv),Cr r6 (fun _=>Ba),ALg⟩ fun a16 w16 g16 Ch=>?_
   refine AE ?_
   refine k10 _ _ ?_
   refine A1 Ch rfl rfl ?_
   refine ALe ?_
   refine k9 _ _ ?_
   refine ALa fun K17 k17=>?_
   refine ALZ ?_
   replace AK:=AC g16 AK
   replace AU:=AC g16 AU
   replace A9:=AC g16 A9
   replace hr:=hr.kn g16
   refine Fl (Ch.st w16) 2 [(14,Sp.is (Aw sa po (.slice ao ks.length cap))),(15,Sp.cln w16.heap.size sa po ks.length (ks.map VK.p))] rfl (by kernel_rfl) (by kernel_rfl) (by kernel_rfl)
     ⟨yl r6 (Bq hsa hpo (.slice ao ks.length cap) rfl) AK,Ae [Aw sa po (.slice ao ks.length cap)] Tryz.func72 (by kernel_rfl) rq4 ⟨(oy rfl rfl),ALg⟩ (ACj hsa hpo hr h64),ALg⟩ fun a18 w18 g18 st18=>?_
   obtain⟨hn18,hd18,e18_14,e18_15,e18_10,e18_11,e18_12,e18_9,e18_5,e18_4,e18_3,e18_2,e18_0,e18_1,-⟩:=st18
   obtain⟨A,ms,e18_15q,hmp,ow,kr,frA,frK⟩:=e18_15
   have fr_ow:∀k,BM (.slice ((some ⟨A,0,none⟩)) ks.length ks.length) k→w16.heap.size≤k:=fun k hk=>(Option.some.inj hk)▸frA
   have fr_kr:∀k,D5 ms k→w16.heap.size≤k:=fun k hk=>(frK k hk).1
   have ap_kr_ow:∀k,D5 ms k→¬BM (.slice ((some ⟨A,0,none⟩)) ks.length ks.length) k:=fun k hk e=>(frK k hk).2 (Option.some.inj e).symm
   have Gz:=Ca fr_ow AK
   have G0:=Ca fr_ow AU
   have Mm:=Ca fr_ow A9
   have Fq:=Ca fr_kr AK
   have Eb:=Ca fr_kr AU
   have Mn:=Ca fr_kr A9
   replace AK:=AC g18 AK
   have CD:Sv 47 [{ target:=.fn (.func 81) #[pt Fp,pt Xm],args:=#[] }] [(10,_),(11,_),(12,_),(9,_),(5,_),(4,_),(3,_),(2,_),(0,_),(1,_),(15,_)] a18:=⟨hn18,hd18,e18_10,e18_11,e18_12,e18_9,e18_5,e18_4,e18_3,e18_2,e18_0,e18_1,e18_15q,ALg⟩
   refine As CD r7 (Bq hsa hpo (.slice ((some ⟨A,0,none⟩)) ks.length ks.length) rfl) AK (by first|rfl|simp[Ak,AL,AZ,hsa.1,hpo.1,hsa.1,hpo.1]) fun w19 g19 h19=>?_
   replace AN:=Ac g19 (AC g18 (AC g16 AN)) Ga
   replace AU:=Ac g19 (AC g18 AU) BT
   replace A9:=Ac g19 (AC g18 A9) Cj
   replace ow:=ow.offR g19 (AR Gz)
   replace kr:=kr.offR g19 (AR Fq)
   replace HG:=AD (AA (AA HG g16) g18) g19 FP
   replace AK:=h19
   refine AE ?_
   refine k17 _ _ ?_
   refine ALa fun K20 k20=>?_
   have hml:ks.length=ms.length:=Own.rdk ow
   cases hf:J5 (ks.map VK.p) o
   · refine ALZ ?_
     refine AH CD 6 [(17,Aw sa po (.slice ((some ⟨A,0,none⟩)) ks.length ks.length)),(18,AO o),(19,.tuple #[.int .i64 ((i:Int)),.bool false]),(16,.tuple #[.int .i64 ((i:Int)),.bool false]),(20,.int .i64 ((i:Int))),(21,.bool false)]
       ⟨yl r6 (Bq hsa hpo (.slice ((some ⟨A,0,none⟩)) ks.length ks.length) rfl) AK,yl r6 (BV o ho.1) AN,Ae [Aw sa po (.slice ((some ⟨A,0,none⟩)) ks.length ks.length),AO o] Tryz.func71 (by kernel_rfl) rq4 ⟨(oy rfl rfl),(oy rfl rfl),ALg⟩ (Au fun W g=>Xl hsa hpo ho hmp (ow.kn g) (kr.1.kn g) hv hf hi),ym r5,BX rq4 (fun _ _ h=>⟨_,_,h,rfl,rfl⟩),BX rq4 (fun _ _ h=>⟨_,_,h,rfl,rfl⟩),ALg⟩ fun a21 w21 g21 Di=>?_
     refine AX (v:=.int .i64 ((i:Int))) Di r6 fun a22 Bl=>?_
     refine AX (v:=.bool false) Bl r6 fun a23 CS=>?_
     have ER:Sv _ _ [_,_,_,_,_,_,_,_,_,_,_,_,_] _:=CS.dl [17,18,19,16,20,21]
     refine AE ?_
     refine k20 _ _ ?_
     refine ALa fun K25 k25=>?_
     refine ALa fun K26 k26=>?_
     refine ALZ ?_
     refine AH ER 1 [(22,.bool false)]
       ⟨ym r5,ALg⟩ fun a27 w27 g27 GF=>?_
     have AAG:=AA g21 g27
     refine AE ?_
     refine k26 _ _ ?_
     refine A1 GF rfl rfl ?_
     refine ALe ?_
     refine k25 _ _ ?_
     refine ALa fun K28 k28=>?_
     refine ALa fun K29 k29=>?_
     replace AK:=AC AAG AK
     replace AN:=AC AAG AN
     replace AU:=AC AAG AU
     replace A9:=AC AAG A9
     replace ow:=ow.kn AAG
     replace kr:=kr.kn AAG
     replace HG:=AA HG AAG
     by_cases hfull:64≤ks.length
     · refine ALZ ?_
       refine AH GF 4 [(24,pk CO 64),(25,.slice ((some ⟨A,0,none⟩)) ks.length ks.length),(26,.int .i64 ((ks.length:Nat))),(27,.bool true)]
        ⟨yf r6 (fun _=>by kernel_rfl),yp (i:=2) r6 (Eo (.slice ((some ⟨A,0,none⟩)) ks.length ks.length) rfl) AK rfl (by simp[AL,AZ,hsa.1,hpo.1]),BI (Tryz.underlying34) rfl rfl trivial (oy rfl rfl) (fun _=>rfl),Cm r6 (fun _=>DG (decide_eq_true (by omega))),ALg⟩ fun a30 w30 g30 Ds=>?_
       refine AE ?_
       refine k29 _ _ ?_
       refine Av Ds rfl rfl ?_
       refine ALa fun K31 k31=>?_
       refine ALZ ?_
       replace AK:=AC g30 AK
       replace AN:=AC g30 AN
       replace AU:=AC g30 AU
       replace A9:=AC g30 A9
       refine AH Ds 1 [(28,Aw AM AM (.slice none 0 0))]
        ⟨BR (vs:=[]) rfl rfl trivial trivial (fun _=>bV0 _) (fun _=>rfl),ALg⟩ fun a32 w32 g32 Ci=>?_
       refine As Ci r7 (Bq AP AP (.slice none 0 0) rfl) (AC g32 AU) (by first|rfl|simp[Ak,AL,AZ,AP.1,AP.1]) fun w33 g33 h33=>?_
       replace A9:=Af g32 g33 A9 BO
       refine As Ci r7 (GI 8) A9 rfl fun w34 g34 h34=>?_
       replace AK:=Ac g34 (Af g32 g33 AK (Ne.symm BT)) (Ne.symm Cj)
       replace AN:=Ac g34 (Af g32 g33 AN (Ne.symm Bf)) (Ne.symm C6)
       replace AU:=Ac g34 h33 (Ne.symm BO)
       replace ow:=(((ow.kn g30).kn g32).offR g33 (AR G0)).offR g34 (AR Mm)
       replace kr:=(((kr.kn g30).kn g32).offR g33 (AR Eb)).offR g34 (AR Mn)
       replace HG:=AD (AD (AA (AA HG g30) g32) g33 CL) g34 FQ
       replace A9:=h34
       refine AE ?_
       refine k31 _ _ ?_
       refine ALd ?_
       repeat refine AJ ?_
       refine Bi (fn:=Tryz.f36) Ci (B6 (p:=4) (q:=5) Tryz.results36 Ci rfl rfl rfl rfl (Bq AP AP (.slice none 0 0) rfl) (GI 8) AU A9) (CH Tryz.func81 (by kernel_rfl) rfl _ _) (GY _ _ _) ?_
       exact VRes.zero (by unfold ME;rw[if_pos hv,if_neg (by rw[hf];simp),if_pos (by simpa using hfull)]) HG
     · refine ALZ ?_
       refine AH GF 4 [(24,pk CO 64),(25,.slice ((some ⟨A,0,none⟩)) ks.length ks.length),(26,.int .i64 ((ks.length:Nat))),(27,.bool false)]
        ⟨yf r6 (fun _=>by kernel_rfl),yp (i:=2) r6 (Eo (.slice ((some ⟨A,0,none⟩)) ks.length ks.length) rfl) AK rfl (by simp[AL,AZ,hsa.1,hpo.1]),BI (Tryz.underlying34) rfl rfl trivial (oy rfl rfl) (fun _=>rfl),Cm r6 (fun _=>DG (decide_eq_false (by omega))),ALg⟩ fun a35 w35 g35 Mj=>?_
       refine AE ?_
       refine k29 _ _ ?_
       refine A1 Mj rfl rfl ?_
       refine ALe ?_
       refine k28 _ _ ?_
       refine ALa fun K36 k36=>?_
       replace AK:=AC g35 AK
       replace AN:=AC g35 AN
       replace AU:=AC g35 AU
       replace A9:=AC g35 A9
       replace ow:=ow.kn g35
       replace kr:=kr.kn g35
       replace HG:=AA HG g35
       refine DM (Mj.st w35) (by kernel_rfl) 7 [(29,Sp.is (AO o)),(30,Sp.is (pk CO 32)),(31,Sp.is (AO po)),(32,Sp.is (AO ((kd 275 po)))),(33,Sp.ct w35.heap.size T),(34,Sp.ck w35.heap.size o T),(8,Sp.new w35.heap.size (([bv AM,[.slice none 0 0]].flatten)) 58)] rfl (by kernel_rfl) (by kernel_rfl) (by kernel_rfl) [] (by kernel_rfl)
        ⟨yl r6 (BV o ho.1) AN,yf r6 (fun _=>by kernel_rfl),yp (i:=1) r6 (BV po hpo.1) AK rfl (by simp[AL,AZ,hsa.1,hpo.1]),Ae [.int .u64 275,AO po,.slice none 0 0] Tryz.func66 (by kernel_rfl) rq4 ⟨rfl,(oy rfl rfl),rfl,ALg⟩ (Au fun W g=>NF (n:=275) (by decide) rfl hpo W),Ae [AO ((kd 275 po))] Tryz.func82 (by kernel_rfl) rq4 ⟨(oy rfl rfl),ALg⟩ (AGb (Be _ _) hT),Ls rfl rfl trivial rfl (fun W _ av h=>match av,h with|[u,t],⟨h1,h2,_⟩=>AEM ho h1 h2),LJ rfl trivial (Nat.le_refl _) (fun a w=>by kernel_rfl) (fun _ _ h=>h),ALg⟩ trivial
        [8] (by kernel_rfl) ⟨Sp.new_lt,ALg⟩ ⟨.inl rfl,.inl rfl,.inl rfl,.inl rfl,.inl rfl,.inl rfl,.inr ⟨rfl,(([bv AM,[.slice none 0 0]].flatten)).toArray,58,fun a w=>by kernel_rfl⟩,ALg⟩ (by kernel_rfl) fun a37 w37 g37 st37 nd37=>?_
       obtain⟨hn37,hd37,e37_29,e37_30,e37_31,e37_32,e37_33,e37_34,e37_8,e37_24,e37_25,e37_26,e37_27,e37_22,e37_7,e37_6,e37_10,e37_11,e37_12,e37_9,e37_5,e37_4,e37_3,e37_2,e37_0,e37_1,e37_15,-⟩:=st37
       obtain⟨y,e37_34q,hyo,hyl,rt,frB⟩:=e37_34
       obtain⟨AJn,e37_8q,It,QT⟩:=e37_8
       have R7:=Hp AK It
       have R9:=Hp AN It
       have SA:=Hp AU It
       have SB:=Hp A9 It
       have AEg:=To HG It
       have Xn:=JC (Own.ltS ow) It
       have Xo:=JC (kr.lt) It
       have KP:=Ca frB AK
       have Iu:=Ca frB AU
       have AAH:=Ca frB A9
       have Xp:=rt.2.ap QT (by decide)
       have Gx:Sv 47 [{ target:=.fn (.func 81) #[pt Fp,pt Xm],args:=#[] }] [(24,_),(25,_),(26,_),(27,_),(22,_),(7,_),(6,_),(10,_),(11,_),(12,_),(9,_),(5,_),(4,_),(3,_),(2,_),(0,_),(1,_),(15,_),(34,_),(8,_)] a37:=⟨hn37,hd37,e37_24,e37_25,e37_26,e37_27,e37_22,e37_7,e37_6,e37_10,e37_11,e37_12,e37_9,e37_5,e37_4,e37_3,e37_2,e37_0,e37_1,e37_15,e37_34q,e37_8q,ALg⟩
       refine As Gx r7 (Uq y) QT (by first|rfl|simp[Ak,AL,AZ,y.ho.1]) fun w38 g38 h38=>?_
       replace AK:=Ac g38 (AC g37 AK) (Ne.symm R7)
       replace AN:=Ac g38 (AC g37 AN) (Ne.symm R9)
       replace AU:=Ac g38 (AC g37 AU) (Ne.symm SA)
       replace A9:=Ac g38 (AC g37 A9) (Ne.symm SB)
       replace HG:=AD (AA HG g37) g38 AEg
       replace QT:=h38
       refine AE ?_
       refine k36 _ _ ?_
       refine ALa fun K39 k39=>?_
       refine ALZ ?_
       refine Fl (Gx.st w38) 5 [(35,Sp.is (pk CO 64)),(36,Sp.is (.slice ((some ⟨A,0,none⟩)) ks.length ks.length)),(37,Sp.is (.int .i64 ((i:Int)))),(38,Sp.is (IE y)),(39,Sp.lit1 w38.heap.size 58 (Ak y))] rfl (by kernel_rfl) (by kernel_rfl) (by kernel_rfl)
        ⟨yf r6 (fun _=>by kernel_rfl),yp (i:=2) r6 (Eo (.slice ((some ⟨A,0,none⟩)) ks.length ks.length) rfl) AK rfl (by simp[AL,AZ,hsa.1,hpo.1]),ym r5,yl r6 (Uq y) QT,NB rfl rfl trivial (Nat.le_refl _) rfl (fun W hw v h=>match v,h with|_,⟨rfl,_⟩=>⟨Ak y,AJi y W,fun w' _ hh=>⟨_,rfl,hw.size,hh⟩⟩),ALg⟩ fun a40 w40 g40 st40=>?_
       obtain⟨hn40,hd40,e40_35,e40_36,e40_37,e40_38,e40_39,e40_24,e40_25,e40_26,e40_27,e40_22,e40_7,e40_6,e40_10,e40_11,e40_12,e40_9,e40_5,e40_4,e40_3,e40_2,e40_0,e40_1,e40_15,e40_34,e40_8,-⟩:=st40
       obtain⟨V,e40_39q,geV,HV⟩:=e40_39
       have N8:V≠CO:=Nat.ne_of_gt (Nat.lt_of_lt_of_le (Array.getElem?_eq_some_iff.1 AK).1 geV)
       have ACk:V≠CG:=Nat.ne_of_gt (Nat.lt_of_lt_of_le (Array.getElem?_eq_some_iff.1 AN).1 geV)
       have Tv:V≠Fp:=Nat.ne_of_gt (Nat.lt_of_lt_of_le (Array.getElem?_eq_some_iff.1 AU).1 geV)
       have ACl:V≠Xm:=Nat.ne_of_gt (Nat.lt_of_lt_of_le (Array.getElem?_eq_some_iff.1 A9).1 geV)
       have AIk:V≠AJn:=Nat.ne_of_gt (Nat.lt_of_lt_of_le (Array.getElem?_eq_some_iff.1 QT).1 geV)
       have lo_V:w.heap.size≤V:=Nat.le_trans HG.size geV
       replace AK:=AC g40 AK
       replace AU:=AC g40 AU
       replace A9:=AC g40 A9
       replace ow:=((ow.kn g37).offR g38 (AR Xn)).kn g40
       have Jm:Sv 47 [{ target:=.fn (.func 81) #[pt Fp,pt Xm],args:=#[] }] [(24,_),(25,_),(26,_),(27,_),(22,_),(7,_),(6,_),(10,_),(11,_),(12,_),(9,_),(5,_),(4,_),(3,_),(2,_),(0,_),(1,_),(15,_),(34,_),(8,_),(36,_),(37,_),(39,_)] a40:=⟨hn40,hd40,e40_24,e40_25,e40_26,e40_27,e40_22,e40_7,e40_6,e40_10,e40_11,e40_12,e40_9,e40_5,e40_4,e40_3,e40_2,e40_0,e40_1,e40_15,e40_34,e40_8,e40_36,e40_37,e40_39q,ALg⟩
       refine Fl (Jm.st w40) 2 [(40,Sp.insr w40.heap.size (ks.length+1) (ms.take i++y::ms.drop i)),(41,Sp.is (pk CO 64))] rfl (by kernel_rfl) (by kernel_rfl) (by kernel_rfl)
        ⟨Ae [.slice ((some ⟨A,0,none⟩)) ks.length ks.length,.int .i64 ((i:Int)),.slice ((some ⟨V,0,none⟩)) 1 1] Tryz.func83 (by kernel_rfl) rq4 ⟨(oy rfl rfl),(oy rfl rfl),(oy rfl rfl),ALg⟩ (AIj hml ow HV hin h64),yf r6 (fun _=>by kernel_rfl),ALg⟩ fun a41 w41 g41 st41=>?_
       obtain⟨hn41,hd41,e41_40,e41_41,e41_24,e41_25,e41_26,e41_27,e41_22,e41_7,e41_6,e41_10,e41_11,e41_12,e41_9,e41_5,e41_4,e41_3,e41_2,e41_0,e41_1,e41_15,e41_34,e41_8,e41_36,e41_37,e41_39,-⟩:=st41
       obtain⟨ai,ci,e41_40q,oi,fri⟩:=e41_40
       have QU:=Ca fri AK
       have AAI:=Ca fri AU
       have AAJ:=Ca fri A9
       replace AK:=AC g41 AK
       have N2:Sv 47 [{ target:=.fn (.func 81) #[pt Fp,pt Xm],args:=#[] }] [(24,_),(25,_),(26,_),(27,_),(22,_),(7,_),(6,_),(10,_),(11,_),(12,_),(9,_),(5,_),(4,_),(3,_),(2,_),(0,_),(1,_),(15,_),(34,_),(8,_),(36,_),(37,_),(39,_),(40,_),(41,_)] a41:=⟨hn41,hd41,e41_24,e41_25,e41_26,e41_27,e41_22,e41_7,e41_6,e41_10,e41_11,e41_12,e41_9,e41_5,e41_4,e41_3,e41_2,e41_0,e41_1,e41_15,e41_34,e41_8,e41_36,e41_37,e41_39,e41_40q,e41_41,ALg⟩
       refine Hq (L:=[bv sa,bv po,[.slice ((some ⟨A,0,none⟩)) ks.length ks.length]]) (i:=2) N2 r7 (Eo (.slice ai (ks.length+1) ci) rfl) AK rfl (by simp[AL,AZ,hsa.1,hpo.1]) rfl fun w42 g42 h42=>?_
       replace AN:=Ac g42 (AC g41 (AC g40 AN)) Ga
       replace AU:=Ac g42 (AC g41 AU) BT
       replace A9:=Ac g42 (AC g41 A9) Cj
       replace HV:=Ac g42 (AC g41 HV) N8
       replace AK:=h42
       have JX:Sv _ _ [_,_,_,_,_,_,_,_,_,_,_,_,_,_,_,_,_,_,_] _:=N2.dl [6,36,37,39,40,41]
       refine AE ?_
       refine k39 _ _ ?_
       refine ALa fun K44 k44=>?_
       refine ALZ ?_
       refine AH JX 4 [(42,pk CO 32),(43,AO po),(44,AO ((kd 276 po))),(45,pk CO 32)]
        ⟨yf r6 (fun _=>by kernel_rfl),yp (i:=1) r6 (BV po hpo.1) AK rfl (by simp[AL,AZ,hsa.1,hpo.1]),Ae [.int .u64 276,AO po,.slice none 0 0] Tryz.func66 (by kernel_rfl) rq4 ⟨rfl,(oy rfl rfl),rfl,ALg⟩ (Au fun W g=>NF (n:=276) (by decide) rfl hpo W),yf r6 (fun _=>by kernel_rfl),ALg⟩ fun a45 w45 g45 Ep=>?_
       refine Hq (L:=[bv sa,bv po,[.slice ai (ks.length+1) ci]]) (i:=1) Ep r7 (BV ((kd 276 po)) (Be _ _).1) (AC g45 AK) rfl (by simp[AL,AZ,hsa.1,hpo.1]) (QI hpo (Be _ _)) fun w46 g46 h46=>?_
       replace AU:=Af g45 g46 AU BT
       replace AK:=h46
       have Kq:Sv _ _ [_,_,_,_,_,_,_,_,_,_,_,_,_,_,_,_,_,_,_] _:=Ep.dl [42,43,44,45]
       refine AE ?_
       refine k44 _ _ ?_
       refine ALa fun K48 k48=>?_
       refine ALZ ?_
       refine AH Kq 1 [(46,Aw sa ((kd 276 po)) (.slice ai (ks.length+1) ci))]
        ⟨yl r6 (Bq hsa (Be _ _) (.slice ai (ks.length+1) ci) rfl) AK,ALg⟩ fun a49 w49 g49 ES=>?_
       refine As ES r7 (Bq hsa (Be _ _) (.slice ai (ks.length+1) ci) rfl) (AC g49 AU) (by first|rfl|simp[Ak,AL,AZ,hsa.1,(Be _ _).1]) fun w50 g50 h50=>?_
       replace A9:=Af g49 g50 (Af g45 g46 A9 Cj) BO
       refine As ES r7 (GI 0) A9 rfl fun w51 g51 h51=>?_
       replace AK:=Ac g51 (Af g49 g50 AK (Ne.symm BT)) (Ne.symm Cj)
       replace AN:=Ac g51 (Af g49 g50 (Af g45 g46 AN Ga) (Ne.symm Bf)) (Ne.symm C6)
       replace AU:=Ac g51 h50 (Ne.symm BO)
       replace HV:=Ac g51 (Af g49 g50 (Af g45 g46 HV N8) Tv) ACl
       replace ow:=((((((ow.kn g41).offR g42 (AR Gz)).kn g45).offR g46 (AR Gz)).kn g49).offR g50 (AR G0)).offR g51 (AR Mm)
       replace kr:=(((((((((kr.kn g37).offR g38 (AR Xo)).kn g40).kn g41).offR g42 (AR Fq)).kn g45).offR g46 (AR Fq)).kn g49).offR g50 (AR Eb)).offR g51 (AR Mn)
       replace rt:=((((((((rt.offR g38 (AR Xp)).kn g40).kn g41).offR g42 (AR KP)).kn g45).offR g46 (AR KP)).kn g49).offR g50 (AR Iu)).offR g51 (AR AAH)
       replace oi:=(((((oi.offR g42 (AR QU)).kn g45).offR g46 (AR QU)).kn g49).offR g50 (AR AAI)).offR g51 (AR AAJ)
       replace HG:=AD (AD (AA (AD (AA (AD (AA (AA HG g40) g41) g42 FP) g45) g46 FP) g49) g50 CL) g51 FQ
       replace A9:=h51
       refine AE ?_
       refine k48 _ _ ?_
       refine ALd ?_
       repeat refine AJ ?_
       refine Bi (fn:=Tryz.f36) ES (B6 (p:=4) (q:=5) Tryz.results36 ES rfl rfl rfl rfl (Bq hsa (Be _ _) (.slice ai (ks.length+1) ci) rfl) (GI 0) AU A9) (CH Tryz.func81 (by kernel_rfl) rfl _ _) (GY _ _ _) ?_
       exact VRes.mk (P:=Me (ks.map VK.p) o T) (by unfold ME;rw[if_pos hv,if_neg (by rw[hf];simp),if_neg (by simpa using hfull)]) (AGl hmp hi hyo hyl) oi (KsT.ins kr rt i) HG
   · refine ALZ ?_
     refine AH CD 6 [(17,Aw sa po (.slice ((some ⟨A,0,none⟩)) ks.length ks.length)),(18,AO o),(19,.tuple #[.int .i64 ((i:Int)),.bool true]),(16,.tuple #[.int .i64 ((i:Int)),.bool true]),(20,.int .i64 ((i:Int))),(21,.bool true)]
       ⟨yl r6 (Bq hsa hpo (.slice ((some ⟨A,0,none⟩)) ks.length ks.length) rfl) AK,yl r6 (BV o ho.1) AN,Ae [Aw sa po (.slice ((some ⟨A,0,none⟩)) ks.length ks.length),AO o] Tryz.func71 (by kernel_rfl) rq4 ⟨(oy rfl rfl),(oy rfl rfl),ALg⟩ (Au fun W g=>Xl hsa hpo ho hmp (ow.kn g) (kr.1.kn g) hv hf hi),ym r5,BX rq4 (fun _ _ h=>⟨_,_,h,rfl,rfl⟩),BX rq4 (fun _ _ h=>⟨_,_,h,rfl,rfl⟩),ALg⟩ fun a52 w52 g52 O9=>?_
     refine AX (v:=.int .i64 ((i:Int))) O9 r6 fun a53 ACm=>?_
     refine AX (v:=.bool true) ACm r6 fun a54 N9=>?_
     have AGm:Sv _ _ [_,_,_,_,_,_,_,_,_,_,_,_,_] _:=N9.dl [17,18,19,16,20,21]
     refine AE ?_
     refine k20 _ _ ?_
     refine ALa fun K56 k56=>?_
     refine ALa fun K57 k57=>?_
     refine ALZ ?_
     refine AH AGm 1 [(22,.bool true)]
       ⟨ym r5,ALg⟩ fun a58 w58 g58 Uz=>?_
     have AJo:=AA g52 g58
     refine AE ?_
     refine k57 _ _ ?_
     refine Av Uz rfl rfl ?_
     refine ALa fun K59 k59=>?_
     refine ALZ ?_
     refine AH Uz 1 [(23,Aw sa po (.slice ((some ⟨A,0,none⟩)) ks.length ks.length))]
       ⟨yl r6 (Bq hsa hpo (.slice ((some ⟨A,0,none⟩)) ks.length ks.length) rfl) (AC AJo AK),ALg⟩ fun a60 w60 g60 AAK=>?_
     have AEh:=AA AJo g60
     refine As AAK r7 (Bq hsa hpo (.slice ((some ⟨A,0,none⟩)) ks.length ks.length) rfl) (AC AEh AU) (by first|rfl|simp[Ak,AL,AZ,hsa.1,hpo.1]) fun w61 g61 h61=>?_
     replace A9:=Af AEh g61 A9 BO
     refine As AAK r7 (GI 0) A9 rfl fun w62 g62 h62=>?_
     replace AU:=Ac g62 h61 (Ne.symm BO)
     replace ow:=((ow.kn AEh).offR g61 (AR G0)).offR g62 (AR Mm)
     replace kr:=((kr.kn AEh).offR g61 (AR Eb)).offR g62 (AR Mn)
     replace HG:=AD (AD (AA HG AEh) g61 CL) g62 FQ
     replace A9:=h62
     refine AE ?_
     refine k59 _ _ ?_
     refine ALd ?_
     repeat refine AJ ?_
     refine Bi (fn:=Tryz.f36) AAK (B6 (p:=4) (q:=5) Tryz.results36 AAK rfl rfl rfl rfl (Bq hsa hpo (.slice ((some ⟨A,0,none⟩)) ks.length ks.length) rfl) (GI 0) AU A9) (CH Tryz.func81 (by kernel_rfl) rfl _ _) (GY _ _ _) ?_
     exact VRes.mk (P:=ks.map VK.p) (by unfold ME;rw[if_pos hv,if_pos hf]) hmp ow kr HG
end Go.Proofs.YtbfjfnbcmojpiaaGreat
