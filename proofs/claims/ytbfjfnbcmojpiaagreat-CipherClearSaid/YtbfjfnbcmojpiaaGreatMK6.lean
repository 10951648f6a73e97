import Derived.Test.YtbfjfnbcmojpiaaGreatMK5
import Derived.WalkKit
import Derived.ProofKit
import Derived.OpenShut
import Derived.ShutString
import Derived.ChangeOld
import Derived.Below
import Derived.Deep.Slices
namespace Go.Proofs.YtbfjfnbcmojpiaaGreat
open Go.ChangeShapes Go.WideShapes Go.ChangeAt Go.RowKit Go.Deep
open Go.ChangeMaps (open_string shut_string)
set_option linter.unusedSimpArgs false
set_option linter.unusedVariables false
theorem own:ownKnob Tryz.prog.godebug=none:=by kernel_rfl
theorem list_of {α:Type} (p:Nat→α→Prop):∀ n,(∀ i,i < n→∃ x,p i x)→∃ l:List α,l.length=n∧∀ i (h:i < l.length),p i l[i]
 | 0,_=>⟨[],rfl,fun i h=>by simp at h⟩
 | n+1,h=>by
   obtain ⟨l,hl,hp⟩:=list_of p n fun i hi=>h i (by omega)
   obtain ⟨x,hx⟩:=h n (by omega)
   refine ⟨l ++ [x],by simp [hl],fun i hi=>?_⟩
   by_cases hin:i < l.length
   · rw [List.getElem_append_left hin];exact hp i hin
   · have:i=l.length:=by simp at hi;omega
     subst this
     rw [List.getElem_append_right (Nat.le_refl _)]
     simpa [hl] using hx
theorem fld {P:Program} {H:Type} {enc:TypeId×Value→H} {W:World} {b0 k:Nat} {fs:Array Field} {cs:List Value} {xs:List (DataW H×List MemPlace)} (hxl:xs.length=fs.size)
   (hf:∀ (i:Nat) (f:Field),fs[i]?=some f→DataW.trod enc P W b0 (fun _=>true) true k f.type ((cs.drop f.offset).take (P.cellsOf f.type))=xs[i]?) (i:Nat) (f:Field) (hi:fs[i]?=some f) (c:Nat) (hc:P.cellsOf f.type=c) :
   ∃ y,DataW.trod enc P W b0 (fun _=>true) true k f.type ((cs.drop f.offset).take c)=some y:=by
 have h:=hf i f hi
 rw [hc] at h
 have hl:i < xs.length:=by rw [hxl];exact (Array.getElem?_eq_some_iff.1 hi).1
 exact ⟨xs[i],by rw [h,List.getElem?_eq_getElem hl]⟩
theorem fld_at {P:Program} {H:Type} {enc:TypeId×Value→H} {W:World} {b0 k:Nat} {fs:Array Field} {cs:List Value} {xs:List (DataW H×List MemPlace)} (hxl:xs.length=fs.size)
   (hf:∀ (i:Nat) (f:Field),fs[i]?=some f→DataW.trod enc P W b0 (fun _=>true) true k f.type ((cs.drop f.offset).take (P.cellsOf f.type))=xs[i]?) (i:Nat) (f:Field) (hi:fs[i]?=some f) (T:TypeId) (ht:f.type=T) (c:Nat) (hc:P.cellsOf T=c) :
   ∃ y,DataW.trod enc P W b0 (fun _=>true) true k T ((cs.drop f.offset).take c)=some y:=by
 subst ht
 exact fld hxl hf i f hi c hc
theorem okWide_fields {P:Program} {w:World} {r:Reach} {base:Nat} {t:TypeId} {v:Value} {fs:Array Field} (ht:P.underlying t=some (.struct fs)) (h:Value.okWide P w r base t v) :
   ∃ cs:Array Value,v=.agg cs∧∀ (i:Nat) (c:Value),cs[i]?=some c→∃ u,Cell.okWide P w r base u c:=by
 simp only [Value.okWide,ht] at h
 obtain ⟨cs,h1,_,ts,_,_,h2⟩:=h
 exact ⟨cs,h1,fun i c hc=>let ⟨u,_,hu⟩:=h2 i c hc;⟨u,hu⟩⟩
theorem okWide_array {P:Program} {w:World} {r:Reach} {base:Nat} {t:TypeId} {v:Value} {n:Nat} {e:TypeId} (ht:P.underlying t=some (.array n e)) (h:Value.okWide P w r base t v):∃ cs,v=.agg cs:=by
 simp only [Value.okWide,ht] at h
 obtain ⟨cs,h1,_⟩:=h
 exact ⟨cs,h1⟩
theorem u8_range {a:Int} (h:(Lit.int .u8 a).wf=true):0≤a∧a < 256:=by
 simp [Lit.wf] at h
 have e1:IntKind.u8.min=0:=by decide
 have e2:IntKind.u8.max=255:=by decide
 omega
theorem el_dig {H:Type} {enc:TypeId×Value→H} {W:World} {b0:Nat}:∀ fuel cs y,DataW.trod enc Tryz.prog W b0 (fun _=>true) true fuel 23 cs=some y→∃ x:List Nat,cs=bv x∧x.length=32∧∀ b ∈ x,b < 256:=by
 intro fuel cs y h
 obtain ⟨xs,k,_,_,hl,hxl,hf⟩:=DataW.trod_array Tryz.underlying23 h
 rw [cellsD] at hl
 rw [cells5'] at hf
 obtain ⟨L,hL,hp⟩:=list_of (fun i (b:Nat)=>cs[i]?=some (.int .u8 (b:Int))∧b < 256) 32 fun i hi=>by
   have h1:=hf i hi
   rw [List.getElem?_eq_getElem (by omega)] at h1
   obtain ⟨n,h2,_,h3⟩:=DataW.trod_int Tryz.underlying5 h1
   have hr:=u8_range h3
   refine ⟨n.toNat,?_,by omega⟩
   have h4:((cs.drop (i * 1)).take 1)[0]?=some (.int .u8 n):=by rw [h2];rfl
   rw [List.getElem?_take,if_pos (by omega),List.getElem?_drop,Nat.mul_one,Nat.add_zero] at h4
   rw [h4]
   congr 2
   omega
 refine ⟨L,?_,hL,fun b hb=>?_⟩
 · apply List.ext_getElem?
   intro i
   by_cases hi:i < L.length
   · rw [(hp i hi).1]
     simp [bv,List.getElem?_eq_getElem hi]
   · rw [List.getElem?_eq_none (by omega),List.getElem?_eq_none (by rw [bv_length];omega)]
 · obtain ⟨i,hi,rfl⟩:=List.getElem_of_mem hb
   exact (hp i hi).2
set_option maxRecDepth 100000 in
theorem open_dig {H:Type} {enc:TypeId×Value→H} {W:World} {r:Reach} {base b0:Nat} {v:Value} {d:DataW H} {p:List MemPlace} (hv:Value.okWide Tryz.prog W r base 23 v) (h:DataW.Trod enc Tryz.prog W b0 (fun _=>true) true 23 v d p):∃ x:List Nat,v=dval x∧Dg x:=by
 obtain ⟨cs,rfl⟩:=okWide_array Tryz.underlying23 hv
 obtain ⟨fuel,hf⟩:=h
 obtain ⟨x,h1,h2,h3⟩:=el_dig _ _ _ hf
 refine ⟨x,?_,h2,h3⟩
 unfold dval
 rw [← h1]
 rfl
end Go.Proofs.YtbfjfnbcmojpiaaGreat

namespace Go.Proofs.YtbfjfnbcmojpiaaGreat
section
open Go.RowKit Go.Shelf
set_option linter.unusedSimpArgs false
set_option linter.unusedVariables false
attribute [local go_sem] Oper.semAt_some
end
section
open Go.RowKit Go.Shelf
set_option linter.unusedSimpArgs false
set_option linter.unusedVariables false
attribute [local go_sem] Oper.semAt_some
end
section
open Go.RowKit Go.Shelf
set_option linter.unusedSimpArgs false
set_option linter.unusedVariables false
attribute [local go_sem] Oper.semAt_some
theorem Fresh.step {w W W':World} {v v':Value} (h:Fresh w W v) (s:Step W v W' v'):Fresh w W' v':=by
 have hb:∀ k,v.ownBlock=some k→w.heap.size≤k:=fun k hk=>(h.2 k hk).elim (fun h=>by simp [nilS,Value.ownBlock] at h) id
 exact Step.fresh (grown_from h.none s.1 hb) fun k hk=>(s.2 k hk).elim (hb k) (fun h1=>Nat.le_trans h.none.size h1)
end
section
open Go.RowKit Go.Shelf
set_option linter.unusedSimpArgs false
set_option linter.unusedVariables false
section
variable {P:Program} {ops:Array Oper} {L:List Sp} {n:Nat} {w0:World} {o:Oper}
theorem run_extract {a:Act} {s i:Nat} {vs:Array Value} {v:Value} (ho:o.op=.extract (.tmp s) i) (hx:a.tmps.getD s undef=.tuple vs) (hi:vs[i]?=some v) (w:World):(execOp a.eval o).run P w=.ok (.value v) w:=by
 have hx':a.eval (.tmp s)=.tuple vs:=hx
 simp only [execOp,ho,hx']
 simp [Instr.extract,hi]
end
def Sp.tree (r:List Nd×Int):Sp:=⟨fun w v=>∃ ao cap,v=.agg #[.slice ao r.1.length cap]∧RdT w (.slice ao r.1.length cap) r.1,fun _ _ _ hg ⟨ao,cap,h1,h2⟩=>⟨ao,cap,h1,h2.kn hg⟩⟩
end
section
open Go.RowKit Go.Shelf
set_option linter.unusedSimpArgs false
set_option linter.unusedVariables false
attribute [local go_sem] Oper.semAt_some
end
end Go.Proofs.YtbfjfnbcmojpiaaGreat
