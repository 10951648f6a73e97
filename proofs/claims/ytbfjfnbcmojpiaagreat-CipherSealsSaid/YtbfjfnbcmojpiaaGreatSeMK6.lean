import Derived.Test.YtbfjfnbcmojpiaaGreatSeK16
import Derived.DeepKeys
import Derived.WalkKit
import Derived.ProofKit
import Derived.OpenShut
import Derived.ShutString
import Derived.ChangeOld
import Derived.Below
import Derived.Deep.Slices
set_option linter.unusedSimpArgs false
set_option linter.unusedVariables false
set_option maxRecDepth 100000
namespace Go.Proofs.YtbfjfnbcmojpiaaGreat
section
open Go.RowKit Go.Shelf
def RdT (w:World) (s:Value) (l:List Nd):Prop:=Sl w 34 s l.length (Gq l)∧(∀n∈l,Nok n)∧(∀k,Mv s k→k<w.heap.size)∧l.length≤1099511627776
theorem RdT.kn {w w':World} {s:Value} {l:List Nd} (h:RdT w s l) (g:w.grownBy w' none):RdT w' s l:=⟨Sl.kn h.1 g,h.2.1,fun k hk=>Nat.lt_of_lt_of_le (h.2.2.1 k hk) g.size,h.2.2.2⟩
theorem RdT.shape {w:World} {s:Value} {l:List Nd} (h:RdT w s l):∃ao cap,s=.slice ao l.length cap:=by
 obtain⟨ao,cap,e,_,_⟩:=Sl.shape h.1
 exact⟨ao,cap,e⟩
theorem toK:∀(l:List Nd),(∀n∈l,Nok n)→∃L:List Py,L.map (·.1)=l
 | [],_=>⟨[],rfl⟩
 | n::l,h=>by
  obtain⟨L,hL⟩:=toK l fun m hm=>h m (List.mem_cons.2 (.inr hm))
  exact⟨⟨n,h n (List.mem_cons.2 (.inl rfl))⟩::L,by rw[List.map_cons,hL]⟩
theorem RdT.k {w:World} {s:Value} {l:List Nd} (h:RdT w s l):∃L:List Py,L.map (·.1)=l∧RdL w s L:=by
 obtain⟨L,rfl⟩:=toK l h.2.1
 exact⟨L,rfl,⟨h.1,h.2.1⟩,h.2.2.1,by have:=h.2.2.2;rwa [List.length_map] at this⟩
theorem Zm {w:World} {s:Value} {l:List Nd} (h:RdT w s l):Calls Tryz.prog 97 #[.agg #[s]] w fun e w'=>e=.returned (.bool (Ho l))∧w.grownBy w' none:=by
 obtain⟨L,rfl,hL⟩:=h.k
 exact P0 L s w hL
theorem XH {w:World} {s:Value} {l:List Nd} (h:RdT w s l):Calls Tryz.prog 87 #[.agg #[s]] w fun e w'=>e=.returned (.bool (Ho l))∧w.grownBy w' none:=by
 obtain⟨L,rfl,hL⟩:=h.k
 exact Od L s w hL
theorem ACI {w:World} {s:Value} {l:List Nd} {a:Int} {r:List Nat×Int} (hr:CF l a=r) (h:RdT w s l):Calls Tryz.prog 78 #[.agg #[s],.int .i64 a] w fun e w'=>e=.returned (.tuple #[AO r.1,.int .i64 r.2])∧w.grownBy w' none:=by
 subst hr
 obtain⟨L,rfl,hL⟩:=h.k
 exact ACE L s a w hL
theorem Zn {w:World} {s:Value} {l:List Nd} {a:Int} {r:List Nat×Int} (hr:CF l a=r) (h:RdT w s l):Calls Tryz.prog 89 #[.agg #[s],.int .i64 a] w fun e w'=>e=.returned (.tuple #[AO r.1,.int .i64 r.2])∧w.grownBy w' none:=by
 subst hr
 obtain⟨L,rfl,hL⟩:=h.k
 exact Zl L s a w hL
theorem Gr {l:List Nd} (h:∀n∈l,Nok n) (a:Int):Dg (CF l a).1:=by
 have hz:Dg AM:=⟨rfl,by intro x hx;simp[AM,zs] at hx;omega⟩
 unfold CF
 split
 · split
   · rename_i n hn;exact M3 _ _ _ (h n (List.mem_of_find?_eq_some hn)).1
   · exact hz
 · exact hz
theorem AJZ {w w':World} {k:List Nat} (hk:Dg k) {s:Value} (ho:Own w' 132 34 s 1 (Cf ⟨0,0,k⟩)) (hf:Fresh w w' s):∃ao cap,s=.slice ao 1 cap∧RdT w' (.slice ao 1 cap) (tree k [])∧w.grownBy w' none:=by
 obtain⟨ao,cap,rfl,_⟩:=(Sl.of_own ho).shape
 refine⟨ao,cap,rfl,⟨?_,AGD hk,fun k hk=>Own.lt ho k hk.1,by rw[LB];simp⟩,hf.none⟩
 rw[LB]
 exact by have:=Sl.of_own ho;unfold Gq;simpa [Md] using this
end
section
open Go.RowKit
theorem Zo {α β:Type} {f:α→Option β} {g:α→β}:∀{l:List α},(∀x∈l,f x=some (g x))→l.mapM f=some (l.map g):=by
 intro l
 induction l with
 | nil=>intro _;rfl
 | cons x l ih =>
  intro h
  rw[List.mapM_cons,h x (List.mem_cons.2 (.inl rfl)),ih fun y hy=>h y (List.mem_cons.2 (.inr hy))]
  rfl
def lbv (l:List Nat):List Lit:=l.map fun x:Nat=>.int .u8 (x:Int)
theorem AGE {l m:List Nat}:lbv l=lbv m↔l=m:=by
 refine⟨fun h=>?_,fun h=>by rw[h]⟩
 unfold lbv at h
 exact(List.map_inj_right (fun a b hab=>by
  injection hab with _ h2
  exact Int.ofNat.inj h2)).1 h
theorem AA2:Tryz.prog.cellsOf 5=1:=by kernel_rfl
theorem UP:Tryz.prog.cellsOf 23=32:=by kernel_rfl
theorem AIL:Tryz.prog.cellsOf 3=1:=by kernel_rfl
theorem AGF:Tryz.prog.cellsOf 2=1:=by kernel_rfl
theorem AGG (d:Nat) (x:Nat) (h:x<256):Tryz.prog.keyLits (d+1) 5 [.int .u8 (x:Int)]=some [.int .u8 (x:Int)]:=by
 unfold Program.keyLits
 rw[Tryz.underlying5]
 simp[Lit.wf,IntKind.min,IntKind.max,IntKind.signed,IntKind.bits]
 omega
theorem ABG (d:Nat) (l:List Nat) (h:Dg l):Tryz.prog.keyLits (d+2) 23 (bv l)=some (lbv l):=by
 unfold Program.keyLits
 rw[Tryz.underlying23]
 simp only
 rw[if_pos (by rw[AL,h.1,UP])]
 have hm:∀i∈List.range 32,Tryz.prog.keyLits (d+1) 5 (((bv l).drop (i*Tryz.prog.cellsOf 5)).take (Tryz.prog.cellsOf 5))=some [.int .u8 ((l.getD i 0:Nat):Int)]:=fun i hi=>by
  have hil:i<l.length:=by rw[h.1];exact List.mem_range.1 hi
  rw[AA2,Nat.mul_one]
  have e:((bv l).drop i).take 1=[.int .u8 ((l[i]:Nat):Int)]:=by
   unfold bv
   rw[List.drop_eq_getElem_cons (by rw[List.length_map];exact hil),List.take_succ_cons,List.take_zero,List.getElem_map]
  rw[e,AGG d _ (h.2 _ (List.getElem_mem hil)),List.getD_eq_getElem?_getD,List.getElem?_eq_getElem hil]
  rfl
 rw[Zo hm]
 obtain⟨x0,x1,x2,x3,x4,x5,x6,x7,x8,x9,x10,x11,x12,x13,x14,x15,x16,x17,x18,x19,x20,x21,x22,x23,x24,x25,x26,x27,x28,x29,x30,x31,rfl⟩:=Ih l h.1
 rfl
theorem AD2 (T:TypeId) (m:Nat) (hm:m≤10000) (hk:Tryz.prog.keyTypeAt m T=true) (hg:Tryz.prog.eqGuardType Tryz.prog.depth T=false) {xs ys:List Value} {D:Nat} {la lb:List Lit}
   (fx:(Value.agg xs.toArray).formed Tryz.prog T=true) (fy:(Value.agg ys.toArray).formed Tryz.prog T=true) (hx:Tryz.prog.keyLits D T xs=some la) (hy:Tryz.prog.keyLits D T ys=some lb) {r:Bool} (hr:r=true↔la=lb) (px py:Operand) (w:World) :
   (do eqGuard .eql T px py (.agg xs.toArray) (.agg ys.toArray);binOp .eql T (.agg xs.toArray) (.agg ys.toArray):Sem Value).run Tryz.prog w=.ok (.bool r) w ∧
   (do eqGuard .neq T px py (.agg xs.toArray) (.agg ys.toArray);binOp .neq T (.agg xs.toArray) (.agg ys.toArray):Sem Value).run Tryz.prog w=.ok (.bool (!r)) w:=by
 obtain⟨b,hb,hiff⟩:=run_equalIn_deep (P:=Tryz.prog) (10000-m) m T hk w D D (.agg xs.toArray) (.agg ys.toArray) la lb fx fy (by simpa [Value.cells] using hx) (by simpa [Value.cells] using hy)
 rw[show 10000-m+m=10000 by omega] at hb
 have hbr:b=r:=by rw[Bool.eq_iff_iff,hiff,hr]
 subst hbr
 constructor
 · rw[Sem.run_bind,run_eqGuard_agg (hm:=hg),Result.andThen_ok,run_eql_struct,hb];rfl
 · rw[Sem.run_bind,run_eqGuard_agg (hm:=hg),Result.andThen_ok,run_neq_struct,hb];rfl
theorem JB {x y:List Nat} (hx:Dg x) (hy:Dg y) (px py:Operand) (w:World) :
  (do eqGuard .eql 23 px py (AO x) (AO y);binOp .eql 23 (AO x) (AO y):Sem Value).run Tryz.prog w=.ok (.bool (decide (x=y))) w ∧
  (do eqGuard .neq 23 px py (AO x) (AO y);binOp .neq 23 (AO x) (AO y):Sem Value).run Tryz.prog w=.ok (.bool (!decide (x=y))) w:=
 AD2 23 6 (by decide) (by kernel_rfl) (by kernel_rfl) (by simp[Value.formed,Tryz.underlying23,UP,AL,hx.1]) (by simp[Value.formed,Tryz.underlying23,UP,AL,hy.1]) (ABG 0 x hx) (ABG 0 y hy) (by rw[AGE];simp) px py w
end
section
open Go.RowKit Go.Shelf
attribute [local go_sem] Oper.semAt_some
def k1:List Nat:=1::zs 31
end
end Go.Proofs.YtbfjfnbcmojpiaaGreat
namespace Go.Proofs.YtbfjfnbcmojpiaaGreat
open Go.ChangeShapes Go.WideShapes Go.ChangeAt Go.RowKit Go.Deep
open Go.ChangeMaps (open_string shut_string)
def FLo (v:Value) (R:Nat):Prop:=∀k,v.ownBlock=some k→k<R
theorem own:ownKnob Tryz.prog.godebug=none:=by kernel_rfl
theorem UN {α:Type} (p:Nat→α→Prop):∀n,(∀i,i<n→∃x,p i x)→∃l:List α,l.length=n∧∀i (h:i<l.length),p i l[i]
 | 0,_=>⟨[],rfl,fun i h=>by simp at h⟩
 | n+1,h=>by
  obtain⟨l,hl,hp⟩:=UN p n fun i hi=>h i (by omega)
  obtain⟨x,hx⟩:=h n (by omega)
  refine⟨l++[x],by simp[hl],fun i hi=>?_⟩
  by_cases hin:i<l.length
  · rw[List.getElem_append_left hin];exact hp i hin
  · have:i=l.length:=by simp at hi;omega
    subst this
    rw[List.getElem_append_right (Nat.le_refl _)]
    simpa [hl] using hx
theorem Nr {α β:Type} {f:α→List β} {n:Nat}:∀(L:List α),(∀y∈L,(f y).length=n)→(L.flatMap f).length=L.length*n
 | [],_=>by simp
 | y::l,h=>by
  rw[List.flatMap_cons,List.length_append,h y List.mem_cons_self,Nr l (fun z hz=>h z (List.mem_cons_of_mem _ hz)),List.length_cons,Nat.add_mul]
  omega
theorem Wl {α β:Type} (f:α→List β) (n:Nat):∀(l:List α),(∀x∈l,(f x).length=n)→∀(k:Nat) (hk:k<l.length) (j:Nat),j<n→(l.flatMap f)[k*n+j]?=(f l[k])[j]?
 | [],_,k,hk,_,_=>by simp at hk
 | x::l,hf,0,hk,j,hj=>by
  rw[List.flatMap_cons,List.getElem?_append_left (by rw[hf x List.mem_cons_self];omega)]
  simp
 | x::l,hf,k+1,hk,j,hj=>by
  have hx:=hf x List.mem_cons_self
  rw[List.flatMap_cons,List.getElem?_append_right (by rw[hx,Nat.add_mul];omega),hx]
  have e:(k+1)*n+j-n=k*n+j:=by rw[Nat.add_mul];omega
  rw[e,Wl f n l (fun y hy=>hf y (List.mem_cons_of_mem _ hy)) k (by simpa using hk) j hj]
  simp
theorem fld {P:Program} {H:Type} {enc:TypeId×Value→H} {W:World} {b0 k:Nat} {fs:Array Field} {cs:List Value} {xs:List (DataW H×List MemPlace)} (hxl:xs.length=fs.size)
  (hf:∀(i:Nat) (f:Field),fs[i]?=some f→DataW.trod enc P W b0 (fun _=>true) true k f.type ((cs.drop f.offset).take (P.cellsOf f.type))=xs[i]?) (i:Nat) (f:Field) (hi:fs[i]?=some f) (c:Nat) (hc:P.cellsOf f.type=c) :
  ∃y,DataW.trod enc P W b0 (fun _=>true) true k f.type ((cs.drop f.offset).take c)=some y:=by
 have h:=hf i f hi
 rw[hc] at h
 have hl:i<xs.length:=by rw[hxl];exact(Array.getElem?_eq_some_iff.1 hi).1
 exact⟨xs[i],by rw[h,List.getElem?_eq_getElem hl]⟩
theorem Gl {P:Program} {H:Type} {enc:TypeId×Value→H} {W:World} {b0 k:Nat} {fs:Array Field} {cs:List Value} {xs:List (DataW H×List MemPlace)} (hxl:xs.length=fs.size)
  (hf:∀(i:Nat) (f:Field),fs[i]?=some f→DataW.trod enc P W b0 (fun _=>true) true k f.type ((cs.drop f.offset).take (P.cellsOf f.type))=xs[i]?) (i:Nat) (f:Field) (hi:fs[i]?=some f) (T:TypeId) (ht:f.type=T) (c:Nat) (hc:P.cellsOf T=c) :
  ∃y,DataW.trod enc P W b0 (fun _=>true) true k T ((cs.drop f.offset).take c)=some y:=by
 subst ht
 exact fld hxl hf i f hi c hc
def Nest (W:World) (n:Nat) (v:Value) (len:Nat) (xs:List Value):Prop:=
 (∃ao cap,v=.slice ao len cap∧len≤cap∧cap≤maxLen∧(ao=none→cap=0))∧(0<len→Sl W n v len xs∧FLo v W.heap.size)
theorem Pt {P:Program} {H α:Type} {enc:TypeId×Value→H} {W:World} {b0 fuel:Nat} {t e:TypeId} {cs:List Value} {y:DataW H×List MemPlace} {n:Nat} (ht:P.underlying t=some (.slice e)) (hc:P.cellsOf e=n) (hn:0<n) (f:α→List Value) (Q:α→Prop)
   (hel:∀fuel cs y,DataW.trod enc P W b0 (fun _=>true) true fuel e cs=some y→∃x,cs=f x∧(f x).length=n∧Q x)
   (h:DataW.trod enc P W b0 (fun _=>true) true fuel t cs=some y) :
   ∃(v:Value) (l:List α),cs=[v]∧Nest W n v l.length (l.flatMap f)∧∀x∈l,Q x:=by
 rcases open_slice ht h with ⟨hcs,_⟩|⟨x,l,c,m,k,D,Pl,hcs,_,hl,hm,hmm,_,hx⟩
 · exact⟨_,[],hcs,⟨⟨none,0,rfl,Nat.le_refl _,Nat.zero_le _,fun _=>rfl⟩,fun h=>absurd h (by simp)⟩,by simp⟩
 · rw[if_pos rfl] at hmm
   subst hmm
   rw[hc] at hx
   obtain⟨L,hL,hp⟩:=UN (fun i (y:α)=>(∀j u,(f y)[j]?=some u→W.cell? (x.add (i*n+j))=some u)∧(f y).length=n∧Q y) l fun i hi=>by
     obtain⟨cs',h1,h2⟩:=hx i (by omega)
     obtain⟨y,rfl,hy,hq⟩:=hel _ _ _ h2
     refine⟨y,fun j u hu=>?_,hy,hq⟩
     obtain⟨_,hlen,hcell⟩:=World.cells?_some h1
     have hj:j<n:=by have:=(List.getElem?_eq_some_iff.1 hu).1;omega
     have:=hcell j hj
     rw[add_add] at this
     rw[this]
     exact hu
   subst hL
   have hfl:∀y∈L,(f y).length=n:=fun y hy=>by
     obtain⟨i,hi,rfl⟩:=List.getElem_of_mem hy
     exact(hp i hi).2.1
   refine⟨_,L,hcs,⟨⟨some x,_,rfl,hl,hm,fun h=>by cases h⟩,fun hpos=>?_⟩,fun y hy=>?_⟩
   · have hcell:∀j u,(L.flatMap f)[j]?=some u→W.cell? (x.add j)=some u:=fun j u hu=>by
       have hjl:=(List.getElem?_eq_some_iff.1 hu).1
       have htot:=Nr L hfl
       have hk:j/n<L.length:=(Nat.div_lt_iff_lt_mul hn).2 (by omega)
       have hjm:j%n<n:=Nat.mod_lt _ hn
       have hje:j/n*n+j%n=j:=by rw[Nat.mul_comm];exact Nat.div_add_mod j n
       have h2:=Wl f n L hfl (j/n) hk (j%n) hjm
       rw[hje,hu] at h2
       have h3:=(hp (j/n) hk).1 (j%n) u h2.symm
       rw[hje] at h3
       exact h3
     have htot:=Nr L hfl
     have h0:0<(L.flatMap f).length:=by rw[htot];exact Nat.mul_pos hpos hn
     have hz:=hcell 0 _ (List.getElem?_eq_getElem h0)
     have hs0:=World.cell?_spot hz
     obtain⟨b,off,spot⟩:=x
     have hs:spot=none:=by
       cases spot with
       | none=>rfl
       | some s=>simp[Addr.add] at hs0
     subst hs
     have hlt:=World.block_lt_of_cell? W _ hz
     rw[Addr.add_lit] at hlt
     refine⟨⟨htot,some ⟨b,off,none⟩,_,rfl,hl,hm,fun h=>(by cases h),fun ad had=>?_⟩,fun k hk=>?_⟩
     · obtain rfl:=Option.some.inj had
       refine⟨fun _=>rfl,fun j u hu=>?_⟩
       have:=hcell j u hu
       rwa [Addr.add_lit] at this
     · simp[Value.ownBlock] at hk
       subst hk
       exact hlt
   · obtain⟨i,hi,rfl⟩:=List.getElem_of_mem hy
     exact(hp i hi).2.2
theorem AFw {P:Program} {W:World} {r:Reach} {base:Nat} {u:TypeId} {ao:Option Addr} {len cap:Nat} (h:Cell.okWide P W r base u (.slice ao len cap)):FLo (.slice ao len cap) W.heap.size∧∀x,ao=some x→x.spot=none:=by
 cases ao with
 | none=>exact⟨fun k hk=>by simp[Value.ownBlock] at hk,fun x hx=>by cases hx⟩
 | some x =>
  have h2:∃e,W.has P r base x e cap:=by
   unfold Cell.okWide at h
   cases hu:P.underlying u with
   | none=>simp[hu,Cell.ok] at h
   | some d=>cases d<;>simp[hu,Cell.ok] at h;exact⟨_,h.2.2⟩
  obtain⟨e,_,h3,row,cells,h4,_⟩:=h2
  refine⟨fun k hk=>?_,fun y hy=>(by cases hy;exact h3)⟩
  simp[Value.ownBlock] at hk
  subst hk
  unfold World.shape? at h4
  cases hb:W.heap[x.block]? with
  | none=>simp[hb] at h4
  | some o=>exact(Array.getElem?_eq_some_iff.1 hb).1
theorem Nest.top {P:Program} {W:World} {r:Reach} {base n:Nat} {u:TypeId} {v:Value} {len:Nat} {xs:List Value} (h:Nest W n v len xs) (hx:len=0→xs=[]) (hc:Cell.okWide P W r base u v):Sl W n v len xs∧FLo v W.heap.size:=by
 obtain⟨⟨ao,cap,rfl,h1,h2,h3⟩,h4⟩:=h
 obtain⟨hlo,hsp⟩:=AFw hc
 rcases Nat.eq_zero_or_pos len with rfl|hp
 · rw[hx rfl]
   exact⟨⟨by simp,ao,cap,rfl,h1,h2,h3,fun a ha=>⟨fun _=>hsp a ha,fun j u hu=>by simp at hu⟩⟩,hlo⟩
 · exact h4 hp
theorem MH {P:Program} {w:World} {r:Reach} {base:Nat} {t:TypeId} {v:Value} {fs:Array Field} (ht:P.underlying t=some (.struct fs)) (h:Value.okWide P w r base t v) :
  ∃cs:Array Value,v=.agg cs∧∀(i:Nat) (c:Value),cs[i]?=some c→∃u,Cell.okWide P w r base u c:=by
 simp only[Value.okWide,ht] at h
 obtain⟨cs,h1,_,ts,_,_,h2⟩:=h
 exact⟨cs,h1,fun i c hc=>let ⟨u,_,hu⟩:=h2 i c hc;⟨u,hu⟩⟩
theorem UO {P:Program} {w:World} {r:Reach} {base:Nat} {t:TypeId} {v:Value} {n:Nat} {e:TypeId} (ht:P.underlying t=some (.array n e)) (h:Value.okWide P w r base t v):∃cs,v=.agg cs:=by
 simp only[Value.okWide,ht] at h
 obtain⟨cs,h1,_⟩:=h
 exact⟨cs,h1⟩
theorem ADg {a:Int} (h:(Lit.int .u8 a).wf=true):0≤a∧a<256:=by
 simp[Lit.wf] at h
 have e1:IntKind.u8.min=0:=by decide
 have e2:IntKind.u8.max=255:=by decide
 omega
theorem ZX {H:Type} {enc:TypeId×Value→H} {W:World} {b0:Nat}:∀fuel cs y,DataW.trod enc Tryz.prog W b0 (fun _=>true) true fuel 23 cs=some y→∃x:List Nat,cs=bv x∧x.length=32∧∀b∈x,b<256:=by
 intro fuel cs y h
 obtain⟨xs,k,_,_,hl,hxl,hf⟩:=DataW.trod_array Tryz.underlying23 h
 rw[UP] at hl
 rw[AA2] at hf
 obtain⟨L,hL,hp⟩:=UN (fun i (b:Nat)=>cs[i]?=some (.int .u8 (b:Int))∧b<256) 32 fun i hi=>by
   have h1:=hf i hi
   rw[List.getElem?_eq_getElem (by omega)] at h1
   obtain⟨n,h2,_,h3⟩:=DataW.trod_int Tryz.underlying5 h1
   have hr:=ADg h3
   refine⟨n.toNat,?_,by omega⟩
   have h4:((cs.drop (i*1)).take 1)[0]?=some (.int .u8 n):=by rw[h2];rfl
   rw[List.getElem?_take,if_pos (by omega),List.getElem?_drop,Nat.mul_one,Nat.add_zero] at h4
   rw[h4]
   congr 2
   omega
 refine⟨L,?_,hL,fun b hb=>?_⟩
 · apply List.ext_getElem?
   intro i
   by_cases hi:i<L.length
   · rw[(hp i hi).1]
     simp[bv,List.getElem?_eq_getElem hi]
   · rw[List.getElem?_eq_none (by omega),List.getElem?_eq_none (by rw[AL];omega)]
 · obtain⟨i,hi,rfl⟩:=List.getElem_of_mem hb
   exact(hp i hi).2
theorem ADX {H:Type} {enc:TypeId×Value→H} {W:World} {r:Reach} {base b0:Nat} {v:Value} {d:DataW H} {p:List MemPlace} (hv:Value.okWide Tryz.prog W r base 23 v) (h:DataW.Trod enc Tryz.prog W b0 (fun _=>true) true 23 v d p):∃x:List Nat,v=AO x∧Dg x:=by
 obtain⟨cs,rfl⟩:=UO Tryz.underlying23 hv
 obtain⟨fuel,hf⟩:=h
 obtain⟨x,h1,h2,h3⟩:=ZX _ _ _ hf
 refine⟨x,?_,h2,h3⟩
 unfold AO
 rw[←h1]
 rfl
end Go.Proofs.YtbfjfnbcmojpiaaGreat
namespace Go.Proofs.YtbfjfnbcmojpiaaGreat
section
open Go.RowKit Go.Shelf
section
variable {P:Program} {ops:Array Oper} {L:List Sp} {n:Nat} {w0:World} {o:Oper}
theorem Oe {a:Act} {s i:Nat} {vs:Array Value} {v:Value} (ho:o.op=.extract (.tmp s) i) (hx:a.tmps.getD s undef=.tuple vs) (hi:vs[i]?=some v) (w:World):(execOp a.eval o).run P w=.ok (.value v) w:=by
 have hx':a.eval (.tmp s)=.tuple vs:=hx
 simp only[execOp,ho,hx']
 simp[Instr.extract,hi]
end
end
end Go.Proofs.YtbfjfnbcmojpiaaGreat
