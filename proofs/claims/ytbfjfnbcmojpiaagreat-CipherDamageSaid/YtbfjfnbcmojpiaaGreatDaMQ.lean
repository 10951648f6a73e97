import Derived.Test.YtbfjfnbcmojpiaaGreatDaMK1
import Derived.OrdersHeld
import Derived.Deep.RegionHeld
set_option linter.unusedSimpArgs false
set_option linter.unusedVariables false
namespace Go.Proofs.YtbfjfnbcmojpiaaGreat
section
open Go.RowKit
section
variable {P:Program} {Q:Exit→Act→World→Prop} {ops:Array Oper}
def Lays (P:Program) (o:Oper):Prop:=o.guard=none∧∃(Z:Array Value) (T:TypeId),∀(a:Act) w,(execOp a.eval o).run P w=.ok (.value (.pointer (some ⟨w.heap.size,0,none⟩))) (w.alloc (.cells Z T))
theorem Lays.says {o:Oper} (h:Lays P o) {a:Act} {w:World} {R:Value→World→Prop} (hs:OpSays P ops o a w R):OpSays P ops o a w fun v w'=>R v w'∧v=.pointer (some ⟨w.heap.size,0,none⟩):=by
 obtain⟨hg,Z,T,hr⟩:=h
 have hw:Region.wanted o (yielded ops a.tmps)=true:=by simp[Region.wanted,hg]
 unfold OpSays at hs ⊢
 rw[if_pos hw,hr a w] at hs
 rw[if_pos hw,hr a w]
 exact⟨hs,rfl⟩
theorem OpSays.mono {o:Oper} {a:Act} {w:World} {R R':Value→World→Prop} (h:OpSays P ops o a w R) (hR:∀v w',R v w'→R' v w'):OpSays P ops o a w R':=by
 unfold OpSays at h ⊢
 split
 · rename_i hw
   rw[if_pos hw] at h
   generalize (execOp a.eval o).run P w=r at *
   cases r with
   | ok n w' =>
    cases n<;>simp only at h ⊢
    all_goals first
     | exact h.elim
     | exact hR _ _ h
     | exact h.mono fun e w'' ⟨v,he,hr⟩=>⟨v,he,hR _ _ hr⟩
   | halt x w'=>exact h.elim
 · rename_i hw
   rw[if_neg hw] at h
   exact hR _ _ h
def Lst (ops:Array Oper) (k:Nat) (listed:Array Bool) (t:Nat):Prop:=∃(i:Nat) (o:Oper),i<k∧ops[i]?=some o∧o.dst=some t∧listed.getD i false=true
end
def Sp.new (B:Nat) (Z:List Value) (T:TypeId):Sp:=⟨fun w v=>∃A,v=.pointer (some ⟨A,0,none⟩)∧B≤A∧w.heap[A]?=some (.cells Z.toArray T (0,0)),fun _ _ _ hg ⟨A,h1,h2,h3⟩=>⟨A,h1,h2,AF hg h3 (by simp)⟩⟩
theorem Sp.new_lt {B:Nat} {Z:List Value} {T:TypeId} (w:World) (u:Value) (h:(Sp.new B Z T).on w u):∃A,u=.pointer (some ⟨A,0,none⟩)∧A<w.heap.size:=by
 obtain⟨A,h1,_,h3⟩:=h
 refine⟨A,h1,?_⟩
 rcases Nat.lt_or_ge A w.heap.size with h|h
 · exact h
 · rw[Array.getElem?_eq_none h] at h3;cases h3
def LaysAll (P:Program) (al:List Nat):List Oper→Prop
 | []=>True
 | o::l=>((match o.dst with|none=>false|some d=>al.contains d)=false∨Lays P o)∧LaysAll P al l
theorem LaysAll.at {P:Program} {al:List Nat} {l:List Oper} (h:LaysAll P al l):∀(i:Nat) (o:Oper),l[i]?=some o→∀d∈al,o.dst=some d→Lays P o:=by
 induction l with
 | nil=>intro i o h;simp at h
 | cons x l ih =>
  intro i o hi d hd hdd
  cases i with
  | zero =>
   simp at hi
   subst hi
   rcases h.1 with h1|h1
   · rw[hdd] at h1
     simp only at h1
     rw[List.contains_iff_mem.2 hd] at h1
     cases h1
   · exact h1
  | succ i=>exact ih h.2 i o (by simpa using hi) d hd hdd
end
section
open Go.RowKit
section
variable {P:Program} {ops:Array Oper} {md:Region.Mode} {C:World→Prop}
def ANM (md:Region.Mode) (ops:Array Oper) (g n:Nat):List Nat→Array Bool→Bool
 | [],listed=>Region.seqB md ops g n listed
 | i::is,listed=>(Region.ready md ops listed).contains i&&Region.free md ops listed i&&decide (i<n)&&ANM md ops g n is (listed.setIfInBounds i true)
def AKa (md:Region.Mode) (ops:Array Oper) (n:Nat) (is:List Nat):Bool:=
 is.all fun i=>(List.range (n+1)).any fun j=>decide (i<j)&&Region.waitsFor md ops j i&&(decide (j=n)||is.contains j)
theorem Zt {n:Nat} {is:List Nat} (hs:AKa md ops n is=true) (hc:Region.chainB md ops n=true) (hn:n<ops.size) {listed:Array Bool} (inv:HeadInv md ops n listed) :
  ∀(d i:Nat),n-i=d→i∈is→i<n→listed.getD i true=false→∀t,n≤t→t ∉ Region.ready md ops listed:=by
 intro d
 induction d using Nat.strongRecOn with
 | _ d ih =>
  intro i hd hmem hi hun t ht hr
  obtain⟨_,ot,hot,hall⟩:=mem_ready.1 hr
  have htlt:t<ops.size:=(Array.getElem?_eq_some_iff.1 hot).1
  by_cases htn:t=n
  · subst htn
    have h1:=List.all_eq_true.1 hs i hmem
    obtain⟨j,hj,hj2⟩:=List.any_eq_true.1 h1
    simp only[Bool.and_eq_true,decide_eq_true_eq,Bool.or_eq_true] at hj2
    obtain⟨⟨hij,hj2⟩,hj3⟩:=hj2
    obtain⟨oj,hoj,e,he,hb,hon⟩:=Region.waitsFor_spec hj2
    have hjle:j≤t:=by have:=List.mem_range.1 hj;omega
    by_cases hjt:j=t
    · subst hjt
      have:oj=ot:=Option.some.inj (hoj.symm.trans hot)
      subst this
      have h2:=hall e he hb
      rw[hon,getD_both hun] at h2
      cases h2
    · have hjm:j∈is:=by
       rcases hj3 with h|h
       · exact absurd h hjt
       · simpa using h
      cases hl:listed.getD j false with
      | true =>
       have h2:=inv.closed j oj hoj hl e he hb
       rw[hon,getD_both hun] at h2
       cases h2
      | false =>
       have hjs:j<listed.size:=by rw[inv.size];omega
       exact ih (t-j) (by omega) j rfl hjm (by omega) (getD_in hjs hl) t (Nat.le_refl _) hr
  · have h1:=List.all_eq_true.1 hc t (List.mem_range.2 htlt)
    simp only[Bool.or_eq_true,decide_eq_true_eq] at h1
    rcases h1 with h1|h1
    · omega
    · obtain⟨o',ho',e,he,hb,hon⟩:=Region.waitsFor_spec h1
      have:o'=ot:=Option.some.inj (ho'.symm.trans hot)
      subst this
      have h2:=hall e he hb
      rw[hon,getD_both (inv.tail (t-1) (by omega) (by omega))] at h2
      cases h2
end
end
section
open Go.RowKit
section
variable {P:Program} {ops:Array Oper} {S:World→Prop} {Q:Exit→Act→World→Prop}
def doB (ops:Array Oper):List Nat→Array Bool→Bool
 | [],listed=>(Region.ready .any ops listed).isEmpty
 | j::js,listed=>decide (Region.ready .any ops listed=[j])&&doB ops js (listed.setIfInBounds j true)
def AEJ (ops:Array Oper) (js:List Nat):List Nat→Array Bool→Bool
 | [],listed=>doB ops js listed
 | i::is,listed=>(Region.ready .any ops listed).contains i&&Region.free .any ops listed i&&AEJ ops js is (listed.setIfInBounds i true)
def JE (P:Program) (ops:Array Oper) (S:World→Prop) (K:Act→Prop):List Oper→Act→Prop
 | [],a=>K a
 | o::r,a=>∃v,YieldsIf P ops S o v a∧JE P ops S K r (a.put o.dst v)
def AG2 (S:World→Prop) (K:Act→World→Prop) (Q:Exit→Act→World→Prop):Exit→Act→World→Prop
 | .normal,a,w=>S w∧K a w
 | e,a,w=>Q e a w
def ACo (P:Program) (ops:Array Oper) (S:World→Prop) (Q:Exit→Act→World→Prop):List Oper→Act→World→Prop
 | [],a,w=>Q .normal a w
 | o::r,a,w=>wpList P ops (AG2 S (ACo P ops S Q r) Q) [o] a w
theorem Pl:∀(js:List Nat) (listed:Array Bool) (a:Act) (w:World),doB ops js listed=true→ACo P ops S Q (js.filterMap fun i=>ops[i]?) a w→wpAnyH P .any ops Q S js.length listed a w
 | [],listed,a,w,hB,h=>⟨by simpa [doB] using hB,h⟩
 | j::js,listed,a,w,hB,h=>by
  simp only[doB,Bool.and_eq_true,decide_eq_true_eq] at hB
  obtain⟨hr,hB'⟩:=hB
  refine wpAnyH_all hr (by simp) fun i hi=>?_
  obtain rfl:=List.mem_singleton.1 hi
  have hi2:i∈Region.ready .any ops listed:=by rw[hr];exact List.mem_singleton.2 rfl
  obtain⟨_,o,ho,_⟩:=mem_ready.1 hi2
  have h':ACo P ops S Q (o::js.filterMap fun i=>ops[i]?) a w:=by simpa [List.filterMap_cons,ho] using h
  unfold ACo wpList at h'
  unfold wpOp
  simp only[ho]
  split
  · rename_i hw
    rw[if_pos hw] at h'
    rcases h' with h'|⟨hr0,h'⟩
    · refine .inl ?_
      have key:∀(K K':Act→World→Prop) (Q1:Exit→Act→World→Prop),(∀a w,K a w→K' a w)→(∀e a w,e≠.normal→Q1 e a w→Q e a w)→Oper.wp P o a w K Q1→Oper.wp P o a w K' Q:=by
       intro K K' Q1 hK hQ1 hh
       unfold Oper.wp at hh ⊢
       generalize (execOp a.eval o).run P w=r at *
       cases r with
       | ok x w' =>
        cases x<;>simp only[Oper.upon] at hh ⊢
        case value=>exact hK _ _ hh
        case skip=>exact hK _ _ hh
        case defer=>exact hK _ _ hh
        case enter =>
         refine hh.mono fun e w' hx=>?_
         cases e<;>simp only at hx ⊢
         · exact hK _ _ hx
         · exact hQ1 _ _ _ (by simp) hx
         · obtain⟨a1,w1,h1⟩:=hx
           exact⟨a1,w1,hQ1 _ _ _ (by simp) h1⟩
        case row=>exact fun c cs=>let ⟨v,w',r,s⟩:=hh c cs;⟨v,w',hK _ _ r,s⟩
       | halt x w'=>cases x<;>simp only[Oper.upon] at hh ⊢<;>first|exact hh|exact hQ1 _ _ _ (by simp) hh
      exact key _ _ _ (fun a' w' hh=>by unfold wpList AG2 at hh;exact⟨hh.1,Pl js _ a' w' hB' hh.2⟩) (fun e a' w' hne hh=>by cases e<;>first|exact hh|exact absurd rfl hne) h'
    · obtain⟨a1,w1,h1⟩:=h'
      exact .inr ⟨by assumption,a1,w1,h1⟩
  · rename_i hw
    rw[if_neg hw] at h'
    unfold wpList AG2 at h'
    exact⟨h'.1,Pl js _ _ w hB' h'.2⟩
theorem Oj (hsel:Region.noSelect ops=true) (hQ:∀c a d v w,Q (.panic c) (Act.put a d v) w→Q (.panic c) a w) (js:List Nat) {w:World} (hS:S w) :
  ∀(is:List Nat) (listed:Array Bool) (a:Act),AEJ ops js is listed=true→JE P ops S (fun a'=>ACo P ops S Q (js.filterMap fun i=>ops[i]?) a' w) (is.filterMap fun i=>ops[i]?) a→wpAnyH P .any ops Q S (is.length+js.length) listed a w
 | [],listed,a,hB,h=>by rw[List.length_nil,Nat.zero_add];exact Pl js listed a w hB h
 | i::is,listed,a,hB,h=>by
  simp only[AEJ,Bool.and_eq_true] at hB
  obtain⟨⟨hr,hf⟩,hB'⟩:=hB
  have hr':i∈Region.ready .any ops listed:=by simpa using hr
  obtain⟨_,o,ho,_⟩:=mem_ready.1 hr'
  have h':JE P ops S (fun a'=>ACo P ops S Q (js.filterMap fun i=>ops[i]?) a' w) (o::is.filterMap fun i=>ops[i]?) a:=by simpa [List.filterMap_cons,ho] using h
  obtain⟨v,hy,hk⟩:=h'
  rw[List.length_cons,show is.length+1+js.length=(is.length+js.length)+1 by omega]
  exact wpAnyH_take ho hsel hf hr (fun c a w h=>hQ c a _ _ w h) hy hS (Oj hsel hQ js hS is _ _ hB' hk)
end
theorem Gf {P:Program} {Q:Exit→Act→World→Prop} {id:Nat} {l:List Oper} {a:Act} {w:World} (S:World→Prop) (is js:List Nat) (hm:P.follows .mixedOrders=true) (hsel:Region.noSelect l.toArray=true)
  (hQ:∀c a d v w,Q (.panic c) (Act.put a d v) w→Q (.panic c) a w) (hlen:is.length+js.length=l.toArray.size) (hB:AEJ l.toArray js is (Array.replicate l.toArray.size false)=true) (hS:S w.drew)
  (h:JE P l.toArray S (fun a'=>ACo P l.toArray S Q (js.filterMap fun i=>l.toArray[i]?) a' w.drew) (is.filterMap fun i=>l.toArray[i]?) a):(Code.region id l.toArray true).wp P Q a w:=by
 refine wp_region_held_drew hm hS fun _=>?_
 have:=Oj hsel hQ js hS is _ a hB h
 rwa [hlen] at this
section
variable {P:Program} {ops:Array Oper} {S:World→Prop} {K:Act→Prop} {o:Oper} {r:List Oper} {a:Act} {v:Value}
theorem AG3 (hg:o.guard=none) (hr:∀w,S w→(execOp a.eval o).run P w=.ok (.value v) w) (h:JE P ops S K r (a.put o.dst v)):JE P ops S K (o::r) a:=
 ⟨v,.inl ⟨by simp[Region.wanted,hg],hr⟩,h⟩
theorem AFK (hg:o.guard=none) (T:TypeId) (x:Operand) (ho:o.op=.load T x) {p:Value} (hx:a.eval x=p) (hr:∀w,S w→(Instr.loadAt T p).run P w=.ok v w) (h:JE P ops S K r (a.put o.dst v)):JE P ops S K (o::r) a:=
 AG3 hg (fun w hw=>by simp only[execOp,ho,hx,Sem.run_bind,Sem.run_pure,Result.andThen_ok,hr w hw]) h
end
theorem Zw {w:World} {b k:Nat} {v:Value} (h:w.cell? ⟨b,k,none⟩=some v):w.rangeAt b k [v]:=fun j u hj=>by
 cases j with
 | zero=>simp at hj;subst hj;exact h
 | succ j=>simp at hj
end
end Go.Proofs.YtbfjfnbcmojpiaaGreat
