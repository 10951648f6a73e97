import Derived.Test.YtbfjfnbcmojpiaaGreatDaK16
import Derived.DeepKeys
import Derived.WalkKit
import Derived.ProofKit
import Derived.OpenShut
import Derived.ShutString
import Derived.ChangeOld
import Derived.Below
import Derived.Deep.Slices
set_option linter.unusedSimpArgs false
set_option linter.unusedVariables false
set_option maxRecDepth 100000
namespace Go.Proofs.YtbfjfnbcmojpiaaGreat
section
open Go.RowKit Go.Shelf
def RdT (w:World) (s:Value) (l:List Nd):Prop:=Sl w 34 s l.length (IU l)∧(∀n∈l,Nok n)∧(∀k,OZ s k→k<w.heap.size)∧l.length≤1099511627776
theorem RdT.kn {w w':World} {s:Value} {l:List Nd} (h:RdT w s l) (g:w.grownBy w' none):RdT w' s l:=⟨Sl.kn h.1 g,h.2.1,fun k hk=>Nat.lt_of_lt_of_le (h.2.2.1 k hk) g.size,h.2.2.2⟩
theorem RdT.shape {w:World} {s:Value} {l:List Nd} (h:RdT w s l):∃ao cap,s=.slice ao l.length cap:=by
 obtain⟨ao,cap,e,_,_⟩:=Sl.shape h.1
 exact⟨ao,cap,e⟩
theorem toK:∀(l:List Nd),(∀n∈l,Nok n)→∃L:List Rr,L.map (·.1)=l
 | [],_=>⟨[],rfl⟩
 | n::l,h=>by
  obtain⟨L,hL⟩:=toK l fun m hm=>h m (List.mem_cons.2 (.inr hm))
  exact⟨⟨n,h n (List.mem_cons.2 (.inl rfl))⟩::L,by rw[List.map_cons,hL]⟩
theorem RdT.k {w:World} {s:Value} {l:List Nd} (h:RdT w s l):∃L:List Rr,L.map (·.1)=l∧RdL w s L:=by
 obtain⟨L,rfl⟩:=toK l h.2.1
 exact⟨L,rfl,⟨h.1,h.2.1⟩,h.2.2.1,by have:=h.2.2.2;rwa [List.length_map] at this⟩
theorem ACl {w:World} {s:Value} {l:List Nd} (h:RdT w s l):Calls Tryz.prog 97 #[.agg #[s]] w fun e w'=>e=.returned (.bool (I1 l))∧w.grownBy w' none:=by
 obtain⟨L,rfl,hL⟩:=h.k
 exact Rt L s w hL
theorem Zv {w:World} {s:Value} {l:List Nd} (h:RdT w s l):Calls Tryz.prog 87 #[.agg #[s]] w fun e w'=>e=.returned (.bool (I1 l))∧w.grownBy w' none:=by
 obtain⟨L,rfl,hL⟩:=h.k
 exact QN L s w hL
theorem AFJ {w:World} {s:Value} {l:List Nd} {a:Int} {r:List Nat×Int} (hr:Ca l a=r) (h:RdT w s l):Calls Tryz.prog 78 #[.agg #[s],.int .i64 a] w fun e w'=>e=.returned (.tuple #[AQ r.1,.int .i64 r.2])∧w.grownBy w' none:=by
 subst hr
 obtain⟨L,rfl,hL⟩:=h.k
 exact AFF L s a w hL
theorem ACm {w:World} {s:Value} {l:List Nd} {a:Int} {r:List Nat×Int} (hr:Ca l a=r) (h:RdT w s l):Calls Tryz.prog 89 #[.agg #[s],.int .i64 a] w fun e w'=>e=.returned (.tuple #[AQ r.1,.int .i64 r.2])∧w.grownBy w' none:=by
 subst hr
 obtain⟨L,rfl,hL⟩:=h.k
 exact ACk L s a w hL
theorem IV {l:List Nd} (h:∀n∈l,Nok n) (a:Int):Dg (Ca l a).1:=by
 have hz:Dg AR:=⟨rfl,by intro x hx;simp[AR,zs] at hx;omega⟩
 unfold Ca
 split
 · split
   · rename_i n hn;exact Oh _ _ _ (h n (List.mem_of_find?_eq_some hn)).1
   · exact hz
 · exact hz
theorem AMJ {w w':World} {k:List Nat} (hk:Dg k) {s:Value} (ho:Own w' 132 34 s 1 (DA ⟨0,0,k⟩)) (hf:Fresh w w' s):∃ao cap,s=.slice ao 1 cap∧RdT w' (.slice ao 1 cap) (tree k [])∧w.grownBy w' none:=by
 obtain⟨ao,cap,rfl,_⟩:=(Sl.of_own ho).shape
 refine⟨ao,cap,rfl,⟨?_,AJF hk,fun k hk=>Own.lt ho k hk.1,by rw[Mm];simp⟩,hf.none⟩
 rw[Mm]
 exact by have:=Sl.of_own ho;unfold IU;simpa [OD] using this
end
section
open Go.RowKit
theorem ACn {α β:Type} {f:α→Option β} {g:α→β}:∀{l:List α},(∀x∈l,f x=some (g x))→l.mapM f=some (l.map g):=by
 intro l
 induction l with
 | nil=>intro _;rfl
 | cons x l ih =>
  intro h
  rw[List.mapM_cons,h x (List.mem_cons.2 (.inl rfl)),ih fun y hy=>h y (List.mem_cons.2 (.inr hy))]
  rfl
def lbv (l:List Nat):List Lit:=l.map fun x:Nat=>.int .u8 (x:Int)
theorem AJG {l m:List Nat}:lbv l=lbv m↔l=m:=by
 refine⟨fun h=>?_,fun h=>by rw[h]⟩
 unfold lbv at h
 exact(List.map_inj_right (fun a b hab=>by
  injection hab with _ h2
  exact Int.ofNat.inj h2)).1 h
theorem AD4:Tryz.prog.cellsOf 5=1:=by kernel_rfl
theorem Ws:Tryz.prog.cellsOf 23=32:=by kernel_rfl
theorem AGe:Tryz.prog.cellsOf 3=1:=by kernel_rfl
theorem AJH:Tryz.prog.cellsOf 2=1:=by kernel_rfl
theorem AJI (d:Nat) (x:Nat) (h:x<256):Tryz.prog.keyLits (d+1) 5 [.int .u8 (x:Int)]=some [.int .u8 (x:Int)]:=by
 unfold Program.keyLits
 rw[Tryz.underlying5]
 simp[Lit.wf,IntKind.min,IntKind.max,IntKind.signed,IntKind.bits]
 omega
theorem AEI (d:Nat) (l:List Nat) (h:Dg l):Tryz.prog.keyLits (d+2) 23 (bv l)=some (lbv l):=by
 unfold Program.keyLits
 rw[Tryz.underlying23]
 simp only
 rw[if_pos (by rw[AO,h.1,Ws])]
 have hm:∀i∈List.range 32,Tryz.prog.keyLits (d+1) 5 (((bv l).drop (i*Tryz.prog.cellsOf 5)).take (Tryz.prog.cellsOf 5))=some [.int .u8 ((l.getD i 0:Nat):Int)]:=fun i hi=>by
  have hil:i<l.length:=by rw[h.1];exact List.mem_range.1 hi
  rw[AD4,Nat.mul_one]
  have e:((bv l).drop i).take 1=[.int .u8 ((l[i]:Nat):Int)]:=by
   unfold bv
   rw[List.drop_eq_getElem_cons (by rw[List.length_map];exact hil),List.take_succ_cons,List.take_zero,List.getElem_map]
  rw[e,AJI d _ (h.2 _ (List.getElem_mem hil)),List.getD_eq_getElem?_getD,List.getElem?_eq_getElem hil]
  rfl
 rw[ACn hm]
 obtain⟨x0,x1,x2,x3,x4,x5,x6,x7,x8,x9,x10,x11,x12,x13,x14,x15,x16,x17,x18,x19,x20,x21,x22,x23,x24,x25,x26,x27,x28,x29,x30,x31,rfl⟩:=Jq l h.1
 rfl
theorem AG1 (T:TypeId) (m:Nat) (hm:m≤10000) (hk:Tryz.prog.keyTypeAt m T=true) (hg:Tryz.prog.eqGuardType Tryz.prog.depth T=false) {xs ys:List Value} {D:Nat} {la lb:List Lit}
   (fx:(Value.agg xs.toArray).formed Tryz.prog T=true) (fy:(Value.agg ys.toArray).formed Tryz.prog T=true) (hx:Tryz.prog.keyLits D T xs=some la) (hy:Tryz.prog.keyLits D T ys=some lb) {r:Bool} (hr:r=true↔la=lb) (px py:Operand) (w:World) :
   (do eqGuard .eql T px py (.agg xs.toArray) (.agg ys.toArray);binOp .eql T (.agg xs.toArray) (.agg ys.toArray):Sem Value).run Tryz.prog w=.ok (.bool r) w ∧
   (do eqGuard .neq T px py (.agg xs.toArray) (.agg ys.toArray);binOp .neq T (.agg xs.toArray) (.agg ys.toArray):Sem Value).run Tryz.prog w=.ok (.bool (!r)) w:=by
 obtain⟨b,hb,hiff⟩:=run_equalIn_deep (P:=Tryz.prog) (10000-m) m T hk w D D (.agg xs.toArray) (.agg ys.toArray) la lb fx fy (by simpa [Value.cells] using hx) (by simpa [Value.cells] using hy)
 rw[show 10000-m+m=10000 by omega] at hb
 have hbr:b=r:=by rw[Bool.eq_iff_iff,hiff,hr]
 subst hbr
 constructor
 · rw[Sem.run_bind,run_eqGuard_agg (hm:=hg),Result.andThen_ok,run_eql_struct,hb];rfl
 · rw[Sem.run_bind,run_eqGuard_agg (hm:=hg),Result.andThen_ok,run_neq_struct,hb];rfl
theorem Ff {x y:List Nat} (hx:Dg x) (hy:Dg y) (px py:Operand) (w:World) :
  (do eqGuard .eql 23 px py (AQ x) (AQ y);binOp .eql 23 (AQ x) (AQ y):Sem Value).run Tryz.prog w=.ok (.bool (decide (x=y))) w ∧
  (do eqGuard .neq 23 px py (AQ x) (AQ y);binOp .neq 23 (AQ x) (AQ y):Sem Value).run Tryz.prog w=.ok (.bool (!decide (x=y))) w:=
 AG1 23 6 (by decide) (by kernel_rfl) (by kernel_rfl) (by simp[Value.formed,Tryz.underlying23,Ws,AO,hx.1]) (by simp[Value.formed,Tryz.underlying23,Ws,AO,hy.1]) (AEI 0 x hx) (AEI 0 y hy) (by rw[AJG];simp) px py w
end
section
open Go.RowKit Go.Shelf
attribute [local go_sem] Oper.semAt_some
def k1:List Nat:=1::zs 31
end
end Go.Proofs.YtbfjfnbcmojpiaaGreat
namespace Go.Proofs.YtbfjfnbcmojpiaaGreat
open Go.ChangeShapes Go.WideShapes Go.ChangeAt Go.RowKit Go.Deep
open Go.ChangeMaps (open_string shut_string)
abbrev AGd (n:Int):Prop:=-9223372036854775808≤n∧n≤9223372036854775807
theorem own:ownKnob Tryz.prog.godebug=none:=by kernel_rfl
theorem AD3 {α:Type} (p:Nat→α→Prop):∀n,(∀i,i<n→∃x,p i x)→∃l:List α,l.length=n∧∀i (h:i<l.length),p i l[i]
 | 0,_=>⟨[],rfl,fun i h=>by simp at h⟩
 | n+1,h=>by
  obtain⟨l,hl,hp⟩:=AD3 p n fun i hi=>h i (by omega)
  obtain⟨x,hx⟩:=h n (by omega)
  refine⟨l++[x],by simp[hl],fun i hi=>?_⟩
  by_cases hin:i<l.length
  · rw[List.getElem_append_left hin];exact hp i hin
  · have:i=l.length:=by simp at hi;omega
    subst this
    rw[List.getElem_append_right (Nat.le_refl _)]
    simpa [hl] using hx
theorem AE4 {a:Int} (h:(Lit.int .i64 a).wf=true):AGd a:=by
 simp[Lit.wf] at h
 have e1:IntKind.i64.min=-9223372036854775808:=by decide
 have e2:IntKind.i64.max=9223372036854775807:=by decide
 omega
theorem fld {P:Program} {H:Type} {enc:TypeId×Value→H} {W:World} {b0 k:Nat} {fs:Array Field} {cs:List Value} {xs:List (DataW H×List MemPlace)} (hxl:xs.length=fs.size)
  (hf:∀(i:Nat) (f:Field),fs[i]?=some f→DataW.trod enc P W b0 (fun _=>true) true k f.type ((cs.drop f.offset).take (P.cellsOf f.type))=xs[i]?) (i:Nat) (f:Field) (hi:fs[i]?=some f) (c:Nat) (hc:P.cellsOf f.type=c) :
  ∃y,DataW.trod enc P W b0 (fun _=>true) true k f.type ((cs.drop f.offset).take c)=some y:=by
 have h:=hf i f hi
 rw[hc] at h
 have hl:i<xs.length:=by rw[hxl];exact(Array.getElem?_eq_some_iff.1 hi).1
 exact⟨xs[i],by rw[h,List.getElem?_eq_getElem hl]⟩
theorem N5 {P:Program} {H:Type} {enc:TypeId×Value→H} {W:World} {b0 k:Nat} {fs:Array Field} {cs:List Value} {xs:List (DataW H×List MemPlace)} (hxl:xs.length=fs.size)
  (hf:∀(i:Nat) (f:Field),fs[i]?=some f→DataW.trod enc P W b0 (fun _=>true) true k f.type ((cs.drop f.offset).take (P.cellsOf f.type))=xs[i]?) (i:Nat) (f:Field) (hi:fs[i]?=some f) (T:TypeId) (ht:f.type=T) (c:Nat) (hc:P.cellsOf T=c) :
  ∃y,DataW.trod enc P W b0 (fun _=>true) true k T ((cs.drop f.offset).take c)=some y:=by
 subst ht
 exact fld hxl hf i f hi c hc
theorem UM {P:Program} {w:World} {r:Reach} {base:Nat} {t:TypeId} {v:Value} {fs:Array Field} (ht:P.underlying t=some (.struct fs)) (h:Value.okWide P w r base t v) :
  ∃cs:Array Value,v=.agg cs∧∀(i:Nat) (c:Value),cs[i]?=some c→∃u,Cell.okWide P w r base u c:=by
 simp only[Value.okWide,ht] at h
 obtain⟨cs,h1,_,ts,_,_,h2⟩:=h
 exact⟨cs,h1,fun i c hc=>let ⟨u,_,hu⟩:=h2 i c hc;⟨u,hu⟩⟩
theorem Ob {P:Program} {w:World} {r:Reach} {base:Nat} {t:TypeId} {v:Value} {n:Nat} {e:TypeId} (ht:P.underlying t=some (.array n e)) (h:Value.okWide P w r base t v):∃cs,v=.agg cs:=by
 simp only[Value.okWide,ht] at h
 obtain⟨cs,h1,_⟩:=h
 exact⟨cs,h1⟩
theorem AGf {a:Int} (h:(Lit.int .u8 a).wf=true):0≤a∧a<256:=by
 simp[Lit.wf] at h
 have e1:IntKind.u8.min=0:=by decide
 have e2:IntKind.u8.max=255:=by decide
 omega
theorem ACX {H:Type} {enc:TypeId×Value→H} {W:World} {b0:Nat}:∀fuel cs y,DataW.trod enc Tryz.prog W b0 (fun _=>true) true fuel 3 cs=some y→∃n:Int,cs=[.int .i64 n]∧([Value.int .i64 n]:List Value).length=1∧AGd n:=by
 intro fuel cs y h
 obtain⟨n,h1,_,h2⟩:=DataW.trod_int Tryz.underlying3 h
 exact⟨n,h1,rfl,AE4 h2⟩
theorem AK4 {H:Type} {enc:TypeId×Value→H} {W:World} {b0:Nat}:∀fuel cs y,DataW.trod enc Tryz.prog W b0 (fun _=>true) true fuel 23 cs=some y→∃x:List Nat,cs=bv x∧x.length=32∧∀b∈x,b<256:=by
 intro fuel cs y h
 obtain⟨xs,k,_,_,hl,hxl,hf⟩:=DataW.trod_array Tryz.underlying23 h
 rw[Ws] at hl
 rw[AD4] at hf
 obtain⟨L,hL,hp⟩:=AD3 (fun i (b:Nat)=>cs[i]?=some (.int .u8 (b:Int))∧b<256) 32 fun i hi=>by
   have h1:=hf i hi
   rw[List.getElem?_eq_getElem (by omega)] at h1
   obtain⟨n,h2,_,h3⟩:=DataW.trod_int Tryz.underlying5 h1
   have hr:=AGf h3
   refine⟨n.toNat,?_,by omega⟩
   have h4:((cs.drop (i*1)).take 1)[0]?=some (.int .u8 n):=by rw[h2];rfl
   rw[List.getElem?_take,if_pos (by omega),List.getElem?_drop,Nat.mul_one,Nat.add_zero] at h4
   rw[h4]
   congr 2
   omega
 refine⟨L,?_,hL,fun b hb=>?_⟩
 · apply List.ext_getElem?
   intro i
   by_cases hi:i<L.length
   · rw[(hp i hi).1]
     simp[bv,List.getElem?_eq_getElem hi]
   · rw[List.getElem?_eq_none (by omega),List.getElem?_eq_none (by rw[AO];omega)]
 · obtain⟨i,hi,rfl⟩:=List.getElem_of_mem hb
   exact(hp i hi).2
theorem AGW {H:Type} {enc:TypeId×Value→H} {W:World} {r:Reach} {base b0:Nat} {v:Value} {d:DataW H} {p:List MemPlace} (hv:Value.okWide Tryz.prog W r base 23 v) (h:DataW.Trod enc Tryz.prog W b0 (fun _=>true) true 23 v d p):∃x:List Nat,v=AQ x∧Dg x:=by
 obtain⟨cs,rfl⟩:=Ob Tryz.underlying23 hv
 obtain⟨fuel,hf⟩:=h
 obtain⟨x,h1,h2,h3⟩:=AK4 _ _ _ hf
 refine⟨x,?_,h2,h3⟩
 unfold AQ
 rw[←h1]
 rfl
end Go.Proofs.YtbfjfnbcmojpiaaGreat
namespace Go.Proofs.YtbfjfnbcmojpiaaGreat
section
open Go.RowKit Go.Shelf
section
variable {P:Program} {ops:Array Oper} {L:List Sp} {n:Nat} {w0:World} {o:Oper}
theorem QO {a:Act} {s i:Nat} {vs:Array Value} {v:Value} (ho:o.op=.extract (.tmp s) i) (hx:a.tmps.getD s undef=.tuple vs) (hi:vs[i]?=some v) (w:World):(execOp a.eval o).run P w=.ok (.value v) w:=by
 have hx':a.eval (.tmp s)=.tuple vs:=hx
 simp only[execOp,ho,hx']
 simp[Instr.extract,hi]
end
end
end Go.Proofs.YtbfjfnbcmojpiaaGreat
