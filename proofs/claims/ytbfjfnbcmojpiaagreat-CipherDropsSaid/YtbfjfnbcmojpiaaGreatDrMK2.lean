import Derived.Test.YtbfjfnbcmojpiaaGreatDrMK1
import Derived.OrdersHeld
import Derived.Deep.RegionHeld
import Derived.LoopNIn
set_option linter.unusedSimpArgs false
set_option linter.unusedVariables false
set_option maxRecDepth 100000
set_option maxHeartbeats 4000000
namespace Go.Proofs.YtbfjfnbcmojpiaaGreat
section
open Go.RowKit
section
variable {P:Program} {Q:Exit→Act→World→Prop} {ops:Array Oper}
def Lays (P:Program) (o:Oper):Prop:=o.guard=none∧∃(Z:Array Value) (T:TypeId),∀(a:Act) w,(execOp a.eval o).run P w=.ok (.value (.pointer (some ⟨w.heap.size,0,none⟩))) (w.alloc (.cells Z T))
theorem Lays.says {o:Oper} (h:Lays P o) {a:Act} {w:World} {R:Value→World→Prop} (hs:OpSays P ops o a w R):OpSays P ops o a w fun v w'=>R v w'∧v=.pointer (some ⟨w.heap.size,0,none⟩):=by
 obtain⟨hg,Z,T,hr⟩:=h
 have hw:Region.wanted o (yielded ops a.tmps)=true:=by simp[Region.wanted,hg]
 unfold OpSays at hs ⊢
 rw[if_pos hw,hr a w] at hs
 rw[if_pos hw,hr a w]
 exact⟨hs,rfl⟩
theorem OpSays.mono {o:Oper} {a:Act} {w:World} {R R':Value→World→Prop} (h:OpSays P ops o a w R) (hR:∀v w',R v w'→R' v w'):OpSays P ops o a w R':=by
 unfold OpSays at h ⊢
 split
 · rename_i hw
   rw[if_pos hw] at h
   generalize (execOp a.eval o).run P w=r at *
   cases r with
   | ok n w' =>
    cases n<;>simp only at h ⊢
    all_goals first
     | exact h.elim
     | exact hR _ _ h
     | exact h.mono fun e w'' ⟨v,he,hr⟩=>⟨v,he,hR _ _ hr⟩
   | halt x w'=>exact h.elim
 · rename_i hw
   rw[if_neg hw] at h
   exact hR _ _ h
def Lst (ops:Array Oper) (k:Nat) (listed:Array Bool) (t:Nat):Prop:=∃(i:Nat) (o:Oper),i<k∧ops[i]?=some o∧o.dst=some t∧listed.getD i false=true
end
def Sp.new (B:Nat) (Z:List Value) (T:TypeId):Sp:=⟨fun w v=>∃A,v=.pointer (some ⟨A,0,none⟩)∧B≤A∧w.heap[A]?=some (.cells Z.toArray T (0,0)),fun _ _ _ hg ⟨A,h1,h2,h3⟩=>⟨A,h1,h2,AF hg h3 (by simp)⟩⟩
theorem Sp.new_lt {B:Nat} {Z:List Value} {T:TypeId} (w:World) (u:Value) (h:(Sp.new B Z T).on w u):∃A,u=.pointer (some ⟨A,0,none⟩)∧A<w.heap.size:=by
 obtain⟨A,h1,_,h3⟩:=h
 refine⟨A,h1,?_⟩
 rcases Nat.lt_or_ge A w.heap.size with h|h
 · exact h
 · rw[Array.getElem?_eq_none h] at h3;cases h3
def LaysAll (P:Program) (al:List Nat):List Oper→Prop
 | []=>True
 | o::l=>((match o.dst with|none=>false|some d=>al.contains d)=false∨Lays P o)∧LaysAll P al l
theorem LaysAll.at {P:Program} {al:List Nat} {l:List Oper} (h:LaysAll P al l):∀(i:Nat) (o:Oper),l[i]?=some o→∀d∈al,o.dst=some d→Lays P o:=by
 induction l with
 | nil=>intro i o h;simp at h
 | cons x l ih =>
  intro i o hi d hd hdd
  cases i with
  | zero =>
   simp at hi
   subst hi
   rcases h.1 with h1|h1
   · rw[hdd] at h1
     simp only at h1
     rw[List.contains_iff_mem.2 hd] at h1
     cases h1
   · exact h1
  | succ i=>exact ih h.2 i o (by simpa using hi) d hd hdd
end
section
open Go.RowKit
section
variable {P:Program} {ops:Array Oper} {md:Region.Mode} {C:World→Prop}
def AHk (md:Region.Mode) (ops:Array Oper) (g n:Nat):List Nat→Array Bool→Bool
 | [],listed=>Region.seqB md ops g n listed
 | i::is,listed=>(Region.ready md ops listed).contains i&&Region.free md ops listed i&&decide (i<n)&&AHk md ops g n is (listed.setIfInBounds i true)
def AEY (md:Region.Mode) (ops:Array Oper) (n:Nat) (is:List Nat):Bool:=
 is.all fun i=>(List.range (n+1)).any fun j=>decide (i<j)&&Region.waitsFor md ops j i&&(decide (j=n)||is.contains j)
theorem T7 {n:Nat} {is:List Nat} (hs:AEY md ops n is=true) (hc:Region.chainB md ops n=true) (hn:n<ops.size) {listed:Array Bool} (inv:HeadInv md ops n listed) :
  ∀(d i:Nat),n-i=d→i∈is→i<n→listed.getD i true=false→∀t,n≤t→t ∉ Region.ready md ops listed:=by
 intro d
 induction d using Nat.strongRecOn with
 | _ d ih =>
  intro i hd hmem hi hun t ht hr
  obtain⟨_,ot,hot,hall⟩:=mem_ready.1 hr
  have htlt:t<ops.size:=(Array.getElem?_eq_some_iff.1 hot).1
  by_cases htn:t=n
  · subst htn
    have h1:=List.all_eq_true.1 hs i hmem
    obtain⟨j,hj,hj2⟩:=List.any_eq_true.1 h1
    simp only[Bool.and_eq_true,decide_eq_true_eq,Bool.or_eq_true] at hj2
    obtain⟨⟨hij,hj2⟩,hj3⟩:=hj2
    obtain⟨oj,hoj,e,he,hb,hon⟩:=Region.waitsFor_spec hj2
    have hjle:j≤t:=by have:=List.mem_range.1 hj;omega
    by_cases hjt:j=t
    · subst hjt
      have:oj=ot:=Option.some.inj (hoj.symm.trans hot)
      subst this
      have h2:=hall e he hb
      rw[hon,getD_both hun] at h2
      cases h2
    · have hjm:j∈is:=by
       rcases hj3 with h|h
       · exact absurd h hjt
       · simpa using h
      cases hl:listed.getD j false with
      | true =>
       have h2:=inv.closed j oj hoj hl e he hb
       rw[hon,getD_both hun] at h2
       cases h2
      | false =>
       have hjs:j<listed.size:=by rw[inv.size];omega
       exact ih (t-j) (by omega) j rfl hjm (by omega) (getD_in hjs hl) t (Nat.le_refl _) hr
  · have h1:=List.all_eq_true.1 hc t (List.mem_range.2 htlt)
    simp only[Bool.or_eq_true,decide_eq_true_eq] at h1
    rcases h1 with h1|h1
    · omega
    · obtain⟨o',ho',e,he,hb,hon⟩:=Region.waitsFor_spec h1
      have:o'=ot:=Option.some.inj (ho'.symm.trans hot)
      subst this
      have h2:=hall e he hb
      rw[hon,getD_both (inv.tail (t-1) (by omega) (by omega))] at h2
      cases h2
end
end
section
open Go.RowKit
section
variable {P:Program} {ops:Array Oper} {S:World→Prop} {Q:Exit→Act→World→Prop}
def doB (ops:Array Oper):List Nat→Array Bool→Bool
 | [],listed=>(Region.ready .any ops listed).isEmpty
 | j::js,listed=>decide (Region.ready .any ops listed=[j])&&doB ops js (listed.setIfInBounds j true)
def Xj (ops:Array Oper) (js:List Nat):List Nat→Array Bool→Bool
 | [],listed=>doB ops js listed
 | i::is,listed=>(Region.ready .any ops listed).contains i&&Region.free .any ops listed i&&Xj ops js is (listed.setIfInBounds i true)
def Fy (P:Program) (ops:Array Oper) (S:World→Prop) (K:Act→Prop):List Oper→Act→Prop
 | [],a=>K a
 | o::r,a=>∃v,YieldsIf P ops S o v a∧Fy P ops S K r (a.put o.dst v)
def AAp (S:World→Prop) (K:Act→World→Prop) (Q:Exit→Act→World→Prop):Exit→Act→World→Prop
 | .normal,a,w=>S w∧K a w
 | e,a,w=>Q e a w
def WL (P:Program) (ops:Array Oper) (S:World→Prop) (Q:Exit→Act→World→Prop):List Oper→Act→World→Prop
 | [],a,w=>Q .normal a w
 | o::r,a,w=>wpList P ops (AAp S (WL P ops S Q r) Q) [o] a w
theorem Mn:∀(js:List Nat) (listed:Array Bool) (a:Act) (w:World),doB ops js listed=true→WL P ops S Q (js.filterMap fun i=>ops[i]?) a w→wpAnyH P .any ops Q S js.length listed a w
 | [],listed,a,w,hB,h=>⟨by simpa [doB] using hB,h⟩
 | j::js,listed,a,w,hB,h=>by
  simp only[doB,Bool.and_eq_true,decide_eq_true_eq] at hB
  obtain⟨hr,hB'⟩:=hB
  refine wpAnyH_all hr (by simp) fun i hi=>?_
  obtain rfl:=List.mem_singleton.1 hi
  have hi2:i∈Region.ready .any ops listed:=by rw[hr];exact List.mem_singleton.2 rfl
  obtain⟨_,o,ho,_⟩:=mem_ready.1 hi2
  have h':WL P ops S Q (o::js.filterMap fun i=>ops[i]?) a w:=by simpa [List.filterMap_cons,ho] using h
  unfold WL wpList at h'
  unfold wpOp
  simp only[ho]
  split
  · rename_i hw
    rw[if_pos hw] at h'
    rcases h' with h'|⟨hr0,h'⟩
    · refine .inl ?_
      have key:∀(K K':Act→World→Prop) (Q1:Exit→Act→World→Prop),(∀a w,K a w→K' a w)→(∀e a w,e≠.normal→Q1 e a w→Q e a w)→Oper.wp P o a w K Q1→Oper.wp P o a w K' Q:=by
       intro K K' Q1 hK hQ1 hh
       unfold Oper.wp at hh ⊢
       generalize (execOp a.eval o).run P w=r at *
       cases r with
       | ok x w' =>
        cases x<;>simp only[Oper.upon] at hh ⊢
        case value=>exact hK _ _ hh
        case skip=>exact hK _ _ hh
        case defer=>exact hK _ _ hh
        case enter =>
         refine hh.mono fun e w' hx=>?_
         cases e<;>simp only at hx ⊢
         · exact hK _ _ hx
         · exact hQ1 _ _ _ (by simp) hx
         · obtain⟨a1,w1,h1⟩:=hx
           exact⟨a1,w1,hQ1 _ _ _ (by simp) h1⟩
        case row=>exact fun c cs=>let ⟨v,w',r,s⟩:=hh c cs;⟨v,w',hK _ _ r,s⟩
       | halt x w'=>cases x<;>simp only[Oper.upon] at hh ⊢<;>first|exact hh|exact hQ1 _ _ _ (by simp) hh
      exact key _ _ _ (fun a' w' hh=>by unfold wpList AAp at hh;exact⟨hh.1,Mn js _ a' w' hB' hh.2⟩) (fun e a' w' hne hh=>by cases e<;>first|exact hh|exact absurd rfl hne) h'
    · obtain⟨a1,w1,h1⟩:=h'
      exact .inr ⟨by assumption,a1,w1,h1⟩
  · rename_i hw
    rw[if_neg hw] at h'
    unfold wpList AAp at h'
    exact⟨h'.1,Mn js _ _ w hB' h'.2⟩
theorem Ll (hsel:Region.noSelect ops=true) (hQ:∀c a d v w,Q (.panic c) (Act.put a d v) w→Q (.panic c) a w) (js:List Nat) {w:World} (hS:S w) :
  ∀(is:List Nat) (listed:Array Bool) (a:Act),Xj ops js is listed=true→Fy P ops S (fun a'=>WL P ops S Q (js.filterMap fun i=>ops[i]?) a' w) (is.filterMap fun i=>ops[i]?) a→wpAnyH P .any ops Q S (is.length+js.length) listed a w
 | [],listed,a,hB,h=>by rw[List.length_nil,Nat.zero_add];exact Mn js listed a w hB h
 | i::is,listed,a,hB,h=>by
  simp only[Xj,Bool.and_eq_true] at hB
  obtain⟨⟨hr,hf⟩,hB'⟩:=hB
  have hr':i∈Region.ready .any ops listed:=by simpa using hr
  obtain⟨_,o,ho,_⟩:=mem_ready.1 hr'
  have h':Fy P ops S (fun a'=>WL P ops S Q (js.filterMap fun i=>ops[i]?) a' w) (o::is.filterMap fun i=>ops[i]?) a:=by simpa [List.filterMap_cons,ho] using h
  obtain⟨v,hy,hk⟩:=h'
  rw[List.length_cons,show is.length+1+js.length=(is.length+js.length)+1 by omega]
  exact wpAnyH_take ho hsel hf hr (fun c a w h=>hQ c a _ _ w h) hy hS (Ll hsel hQ js hS is _ _ hB' hk)
end
theorem P0 {P:Program} {Q:Exit→Act→World→Prop} {id:Nat} {l:List Oper} {a:Act} {w:World} (S:World→Prop) (is js:List Nat) (hm:P.follows .mixedOrders=true) (hsel:Region.noSelect l.toArray=true)
  (hQ:∀c a d v w,Q (.panic c) (Act.put a d v) w→Q (.panic c) a w) (hlen:is.length+js.length=l.toArray.size) (hB:Xj l.toArray js is (Array.replicate l.toArray.size false)=true) (hS:S w.drew)
  (h:Fy P l.toArray S (fun a'=>WL P l.toArray S Q (js.filterMap fun i=>l.toArray[i]?) a' w.drew) (is.filterMap fun i=>l.toArray[i]?) a):(Code.region id l.toArray true).wp P Q a w:=by
 refine wp_region_held_drew hm hS fun _=>?_
 have:=Ll hsel hQ js hS is _ a hB h
 rwa [hlen] at this
section
variable {P:Program} {ops:Array Oper} {S:World→Prop} {K:Act→Prop} {o:Oper} {r:List Oper} {a:Act} {v:Value}
theorem AAq (hg:o.guard=none) (hr:∀w,S w→(execOp a.eval o).run P w=.ok (.value v) w) (h:Fy P ops S K r (a.put o.dst v)):Fy P ops S K (o::r) a:=
 ⟨v,.inl ⟨by simp[Region.wanted,hg],hr⟩,h⟩
theorem ZD (hg:o.guard=none) (T:TypeId) (x:Operand) (ho:o.op=.load T x) {p:Value} (hx:a.eval x=p) (hr:∀w,S w→(Instr.loadAt T p).run P w=.ok v w) (h:Fy P ops S K r (a.put o.dst v)):Fy P ops S K (o::r) a:=
 AAq hg (fun w hw=>by simp only[execOp,ho,hx,Sem.run_bind,Sem.run_pure,Result.andThen_ok,hr w hw]) h
end
theorem UA {w:World} {b k:Nat} {v:Value} (h:w.cell? ⟨b,k,none⟩=some v):w.rangeAt b k [v]:=fun j u hj=>by
 cases j with
 | zero=>simp at hj;subst hj;exact h
 | succ j=>simp at hj
end
section
open Go.RowKit Go.Shelf
attribute [local go_sem] Oper.semAt_some
def CR (c:Int) (n:Nd):Option Int:=if E3 n=(0,0) then none else if (E3 n).1<c then none else some (E3 n).2
def KY:Int→List Nd→Option Int
 | c,[]=>some c
 | c,n::l=>(CR c n).bind fun c=>KY c l
theorem OQ (c:Int) (l:List Nd) (n:Nd):KY c (l++[n])=(KY c l).bind fun c=>CR c n:=by
 induction l generalizing c with
 | nil=>simp[KY,Option.bind_some]
 | cons x l ih =>
  simp only[List.cons_append,KY]
  cases CR c x with
  | none=>rfl
  | some d=>simp[ih]
theorem Tz {c:Int} {l m:List Nd} (h:KY c l=none):KY c (l++m)=none:=by
 induction l generalizing c with
 | nil=>simp[KY] at h
 | cons x l ih =>
  simp only[List.cons_append,KY] at h ⊢
  cases hs:CR c x with
  | none=>rfl
  | some d=>rw[hs] at h;simp at h ⊢;exact ih h
def GB (l:List Nd):Bool:=decide (l.length≤32768)&&(KY 0 l).isSome
def RdL (w:World) (s:Value) (l:List Px):Prop:=RdN w s (l.map (·.1))∧(∀k,Lc s k→k<w.heap.size)∧l.length≤1099511627776
theorem RdL.kn {w w':World} {s:Value} {l:List Px} (h:RdL w s l) (g:w.grownBy w' none):RdL w' s l:=⟨h.1.kn g,fun k hk=>Nat.lt_of_lt_of_le (h.2.1 k hk) g.size,h.2.2⟩
theorem RdL.shape {w:World} {s:Value} {l:List Px} (h:RdL w s l):∃ao cap,s=.slice ao l.length cap∧l.length≤cap∧cap≤9223372036854775807:=by
 obtain⟨ao,cap,e,h1,h2⟩:=Sl.shape h.1.1
 rw[List.length_map] at e h1
 exact⟨ao,cap,e,h1,h2⟩
theorem Yz (v:Value) (h:v.oneCell'=true):TY Tryz.prog 56 [v] (.agg #[v]):=TY.agg Tryz.underlying56 rfl (by kernel_rfl) (by simp[h])
theorem WG (b:Bool):TY Tryz.prog 4 [.bool b] (.bool b):=TY.one' Tryz.underlying4 rfl (by kernel_rfl) rfl
theorem CJ {w X Y:World} {row:Option Nat} (h:w.grownBy X none) (hg:X.grownBy Y row) (hr:∀r,row=some r→w.heap.size≤r):w.grownBy Y none:=by
 cases row with
 | none=>exact AA h hg
 | some r=>exact AD h hg (hr r rfl)
theorem Ih {B:Nat} {V V':World} (g:V.grownBy V' none):KeepsFrom B V V':=⟨g.size,fun k o _ h _=>AF g h (by simp)⟩
theorem IM {B r:Nat} {V V':World} {c:Array Value} {t:TypeId} {fr:Nat×Nat} (g:V.grownBy V' (some r)) (hr:V.heap[r]?=some (.cells c t fr)):KeepsFrom B V V':=
 ⟨g.size,fun k o _ h ho=>AF g h (fun e=>by cases e;rw[hr] at h;cases h;cases ho)⟩
theorem Hj {B:Nat} {V V':World} {row:Option Nat} (g:V.grownBy V' row) (hB:B≤V.heap.size) (hr:∀k,row=some k→B≤k):Below B V V':=(Below.refl B V).grown g hB hr
theorem T5 (p q:Nat) (tm:Array Value) (x:Px):(#[p,q].zip (ACw x)).foldl (fun t (p,v)=>t.setIfInBounds p v) tm=(tm.setIfInBounds p (Lj (E3 x.1))).setIfInBounds q (Fo x.1):=by
 simp[ACw]
def VI (w:World) (S B:Nat) (Dw:List Px) (V:World):Prop:=∃c,KY 0 (Dw.map (·.1))=some c∧V.heap[B+2]?=some (.cells #[.int .i64 c] 2 (0,0))∧V.heap[B+1]?=some (.cells #[.bool false] 4 (0,0))∧w.grownBy V none∧S≤V.heap.size
def VX (w:World) (B:Nat) (c:Code) (Dw:List Px) (V:World):Prop:=c=.ret∧KY 0 (Dw.map (·.1))=none∧V.heap[B+1]?=some (.cells #[.bool false] 4 (0,0))∧w.grownBy V none
def VA (S B:Nat) (tm:Nat→Value→Value→Act) (x:Px) (a:Act) (V:World):Prop:=∃Bs,S≤Bs∧V.heap[Bs]?=some (.cells #[.int .i64 (E3 x.1).1,.int .i64 (E3 x.1).2] 137 (0,0))∧a=tm Bs (Lj (E3 x.1)) (Fo x.1)
theorem VI.kn {w V V':World} {S B:Nat} {Dw:List Px} (h:VI w S B Dw V) (g:V.grownBy V' none):VI w S B Dw V':=by
 obtain⟨c,h1,h2,h3,h4,h5⟩:=h
 exact⟨c,h1,AF g h2 (by simp),AF g h3 (by simp),AA h4 g,Nat.le_trans h5 g.size⟩
theorem VI.own {w W:World} {B:Nat} (hB:B=w.heap.size) (hs:W.heap.size=B+4):OwnFrom W.heap.size (VI w W.heap.size B):=fun Dw X Y row ⟨c,h1,h2,h3,h4,h5⟩ hg hr =>
 ⟨c,h1,AF hg h2 (fun e=>by have:=(hr _ e.symm).1;omega),AF hg h3 (fun e=>by have:=(hr _ e.symm).1;omega),CJ h4 hg (fun r e=>by have:=(hr r e).1;omega),Nat.le_trans h5 hg.size⟩
theorem VX.own {w W:World} {B:Nat} {c:Code} (hB:B=w.heap.size) (hs:W.heap.size=B+4):OwnFrom W.heap.size (VX w B c):=fun Dw X Y row ⟨h1,h2,h3,h4⟩ hg hr =>
 ⟨h1,h2,AF hg h3 (fun e=>by have:=(hr _ e.symm).1;omega),CJ h4 hg (fun r e=>by have:=(hr r e).1;omega)⟩
theorem VA.own {W:World} {S B:Nat} {tm:Nat→Value→Value→Act} {x:Px} {a:Act}:OwnFrom W.heap.size (fun(_:Unit) V=>VA S B tm x a V):=fun _ X Y row ⟨Bs,h1,h2,h3⟩ hg hr =>
 ⟨Bs,h1,AF hg h2 (fun e=>by obtain⟨_,o,ho,hc⟩:=hr _ e.symm;rw[h2] at ho;cases ho;cases hc),h3⟩
theorem OS (l:List Px) (s:Value) (w:World) (hR:RdL w s l) :
   Calls Tryz.prog 97 #[.agg #[s]] w fun e w'=>e=.returned (.bool (GB (l.map (·.1))))∧w.grownBy w' none:=by
 obtain⟨ao,cap,rfl,p1,p2⟩:=hR.shape
 have HR:=AH hR
 obtain⟨vl,hvl⟩:∃v,v=GB (l.map (·.1)):=⟨_,rfl⟩
 rw[←hvl]
 have HV:=AH hvl
 obtain⟨B,hB⟩:∃B,B=w.heap.size:=⟨_,rfl⟩
 have HBq:=AH hB
 obtain⟨m,hm⟩:∃m,m=l.length:=⟨_,rfl⟩
 have hm0:m≤1099511627776:=by rw[hm];exact hR.2.2
 rw[←hm] at HR p1 ⊢
 have HM:=AH hm
 clear hR hvl hB hm
 refine(callsIn_wide (n:=4)).1 (callsIn_of_wp_marks Tryz.func97 rfl trivial ?_ rfl)
 simp only[Tryz.ntmps97,List.size_toArray,List.length_cons,List.length_nil,Nat.reduceAdd,Nat.reduceSub,Array.replicate_succ,Array.replicate_zero,List.push_toArray,List.append_toArray,List.nil_append,List.cons_append]
 refine wpIn_wide.2 ?_
 by_cases h1:32768<m
 · have t1:decide ((32768:Int)<(m:Int))=true:=by simp;omega
   have HZ:=AH (show vl=false by rw[HV.out];unfold GB;rw[List.length_map,←HM.out];simp;omega)
   go_wp2
   refine Em (f:=130) (args:=#[]) (by simp[go_sem]) ?_
   refine(H0 _ _).mono ?_
   rintro e u' w' ⟨rfl,rfl,rfl⟩
   refine⟨⟨_,rfl⟩,rfl,EH (JS (p:=2) (b0:=w.heap.size+1) rfl rfl (WG false) (Ah (by simp))) ⟨by rw[HZ.out],AA (World.grownBy_alloc _ _ _) (World.grownBy_alloc _ _ _)⟩⟩
 · have t1:decide ((32768:Int)<(m:Int))=false:=by simp;omega
   go_wp2_with fail
   refine(Q7 ao m cap _).mono ?_
   rintro e w1 ⟨rfl,rfl⟩
   go_wp2
   rw[←HBq.out]
   obtain⟨W,hW⟩:∃W,W=(((w.alloc (.cells #[.slice ao m cap] 56)).alloc (.cells #[.bool false] 4)).alloc (.cells #[.int .i64 0] 2)).alloc (.cells #[.slice ao m cap] 56):=⟨_,rfl⟩
   have hWg:w.grownBy W none:=by rw[hW];exact AA (AA (AA (World.grownBy_alloc _ _ _) (World.grownBy_alloc _ _ _)) (World.grownBy_alloc _ _ _)) (World.grownBy_alloc _ _ _)
   have hWs:W.heap.size=B+4:=by rw[hW,HBq.out];simp
   have b1:W.heap[B+1]?=some (.cells #[.bool false] 4 (0,0)):=by rw[hW,HBq.out,Ay (by simp),Ay (by simp),Ah (by simp)]
   have b2:W.heap[B+2]?=some (.cells #[.int .i64 0] 2 (0,0)):=by rw[hW,HBq.out,Ay (by simp),Ah (by simp)]
   have b3:W.heap[B+3]?=some (.cells #[.slice ao m cap] 56 (0,0)):=by rw[hW,HBq.out,Ah (by simp)]
   rw[←hW]
   clear hW
   have c3:W.cell? ⟨B+1+1+1,0,none⟩=some (.slice ao m cap):=by rw[AIk _ _ _ _ _ _ b3];rfl
   have hRW:=HR.out.kn hWg
   have hBW:=HR.out.2.1
   rw[←HBq.out] at hBW
   refine(wpIn_wide (n:=4)).1 ?_
   refine wpIn_rangeFunc_ownH (F:=Fence.wide) rfl (by decide) (gf:=143) (lb:=#[.pointer (some ⟨B+1+1+1,0,none⟩)]) rfl trivial (enters_of Tryz.func143 (by kernel_rfl) rfl)
     (NI 3 B (B+1+1+1) l (.slice ao m cap) W c3 hRW.1 hRW.2.2 hBW (by omega)) (fun h k=>h.trans k)
     (fun V q o o' hq hl _ _=>(Below.refl B V).grown (grownBy_putObj' V q o') (by have:=(Array.getElem?_eq_some_iff.1 hl).1;omega) (fun k e=>by cases e;omega)) (Below.refl _ _) (fun _=>rfl)
     (VI w W.heap.size B) (VX w B) (VI.own HBq.out hWs) (fun c=>VX.own HBq.out hWs) ⟨0,rfl,b2,b1,hWg,Nat.le_refl _⟩
     (VA W.heap.size B (fun Bs u v=>{ tmps:=#[.agg #[.slice ao m cap],.pointer (some ⟨B,0,none⟩),.pointer (some ⟨B+1,0,none⟩),.pointer (some ⟨B+1+1,0,none⟩),.pointer (some ⟨Bs,0,none⟩),.pointer (some ⟨B,0,none⟩),.slice ao m cap,.int .i64 m,.bool false,.agg #[.slice ao m cap],.func (.func 143) #[] #[.pointer (some ⟨B+1+1+1,0,none⟩)],u,v,undef,undef,undef,undef,undef,undef,undef,undef,undef,undef,undef],defers:=[] }))
     (fun x a'=>VA.own) ?assign ?body ?done ?stop
   case assign =>
     intro lp Dw x V K hi hK
     have HK:=AH hK
     have HI:=AH hi
     have hVs:B≤V.heap.size:=by
       obtain⟨c,_,_,_,h4,_⟩:=hi
       rw[HBq.out]
       exact h4.size
     have hWV:W.heap.size≤V.heap.size:=by
       obtain⟨c,_,_,_,_,h5⟩:=hi
       exact h5
     have HWV:=AH hWV
     have HVs:=AH hVs
     clear hK hi b1 b2 b3 c3 hRW hBW hWs hWg hVs hWV
     rw[T5]
     simp only[List.setIfInBounds_toArray,List.set_cons_succ,List.set_cons_zero]
     refine EP (ro:=some lp) (fun⟨_,_,h⟩=>h) (by kernel_rfl) ?_
     go_wp2_with (first
       | (refine AV rfl 137 (.tmp 4) (.tmp 11) rfl rfl rfl (Na (E3 x.1).1 (E3 x.1).2) (Ah rfl) rfl ?_;intro V2 g2 h2;have G2:=AH (AD (World.grownBy_alloc V _ none) g2 (Nat.le_refl _));have H2:=AH h2;clear g2 h2)
       | fail)
     exact HK.out _ _ (Ih G2.out) (Hj G2.out HVs.out (fun k e=>by cases e)) (HI.out.kn G2.out) ⟨V.heap.size,HWV.out,H2.out,rfl⟩
   case body =>
     intro lp Dw x a' V hle hrec hi hax hlen
     obtain⟨c,hc1,hc2,hc3,hc4,hc5⟩:=hi
     obtain⟨Bs,hBs,hb,rfl⟩:=hax
     have HC1:=AH hc1
     have HC2:=AH hc2
     have HC3:=AH hc3
     have HC4:=AH hc4
     have HC5:=AH hc5
     have HBs:=AH hBs
     have HB:=AH hb
     have HWS:=AH hWs
     have RS:=AH (show KY 0 ((Dw++[x]).map (·.1))=CR c x.1 by rw[List.map_append,List.map_cons,List.map_nil,OQ,hc1];rfl)
     have c4:V.cell? ⟨Bs,0,none⟩=some (.int .i64 (E3 x.1).1):=by rw[AIk _ _ _ _ _ _ hb];rfl
     have c5:V.cell? ⟨Bs,1,none⟩=some (.int .i64 (E3 x.1).2):=by rw[AIk _ _ _ _ _ _ hb];rfl
     have c6:V.cell? ⟨B+1+1,0,none⟩=some (.int .i64 c):=by rw[AIk _ _ _ _ _ _ hc2];rfl
     have y4:=AIj c4
     have y6:=AIj c6
     clear hc1 hc2 hc3 hc4 hc5 hBs hb hlen hle hrec b1 b2 b3 c3 hRW hBW hWs hWg
     generalize hsp:E3 x.1=sp at *
     obtain⟨sa,sb⟩:=sp
     have HSP:=AH hsp
     clear hsp
     refine wpIn_block ?_
     change (Code.seq _ _).wpIn (Wd (some lp)) _ _ _ _ _
     refine Cw fun K1 k1=>?_
     have HK1:=AH k1
     clear k1
     refine Cw fun K2 k2=>?_
     have HK2:=AH k2
     clear k2
     refine EP (ro:=some lp) (fun⟨_,_,h⟩=>h) (by kernel_rfl) ?_
     obtain⟨UU,hUU⟩:∃UU:Value,UU=Lj (sa,sb):=⟨_,rfl⟩
     have HTrue:CR c x.1=none→∀u13 u14 u15 u16 u17 u18 u19 u20,K2 { tmps:=#[.agg #[.slice ao m cap],.pointer (some ⟨B,0,none⟩),.pointer (some ⟨B+1,0,none⟩),.pointer (some ⟨B+1+1,0,none⟩),.pointer (some ⟨Bs,0,none⟩),.pointer (some ⟨B,0,none⟩),.slice ao m cap,.int .i64 m,.bool false,.agg #[.slice ao m cap],.func (.func 143) #[] #[.pointer (some ⟨B+1+1+1,0,none⟩)],UU,Fo x.1,u13,u14,u15,u16,u17,u18,u19,u20,.bool true,undef,undef],defers:=[] } V:=by
       intro hst u13 u14 u15 u16 u17 u18 u19 u20
       refine HK2.out _ _ (wpIn_cond_true rfl (Cw fun K3 k3=>?_))
       have HK3:=AH k3
       clear k3
       refine EP (ro:=some lp) (fun⟨_,_,h⟩=>h) (by kernel_rfl) ?_
       go_wp2_with (first
         | (refine AV rfl 4 (.tmp 2) (.const (.bool false)) rfl rfl rfl (WG false) HC3.out rfl ?_;intro V2 g2 h2;have G2:=AH g2;have H2:=AH h2;clear g2 h2)
         | fail)
       refine HK3.out _ _ (wpIn_ret ?_)
       exact⟨IM G2.out HC3.out,rfl,RS.out.trans hst,H2.out,AD HC4.out G2.out (by rw[HBq.out];omega)⟩
     have HFalse:CR c x.1=some sb→∀u13 u14 u15 u16 u17 u18 u19 u20,K2 { tmps:=#[.agg #[.slice ao m cap],.pointer (some ⟨B,0,none⟩),.pointer (some ⟨B+1,0,none⟩),.pointer (some ⟨B+1+1,0,none⟩),.pointer (some ⟨Bs,0,none⟩),.pointer (some ⟨B,0,none⟩),.slice ao m cap,.int .i64 m,.bool false,.agg #[.slice ao m cap],.func (.func 143) #[] #[.pointer (some ⟨B+1+1+1,0,none⟩)],UU,Fo x.1,u13,u14,u15,u16,u17,u18,u19,u20,.bool false,undef,undef],defers:=[] } V:=by
       intro hst u13 u14 u15 u16 u17 u18 u19 u20
       refine HK2.out _ _ (wpIn_cond_false rfl (wpIn_skip (HK1.out _ _ ?_)))
       refine EP (ro:=some lp) (fun⟨_,_,h⟩=>h) (by kernel_rfl) ?_
       go_wp2_with (first
         | (refine AV rfl 2 (.tmp 3) (.tmp 23) rfl rfl rfl (tyI sb) HC2.out rfl ?_;intro V2 g2 h2;have G2:=AH g2;have H2:=AH h2;clear g2 h2)
         | fail)
       exact⟨IM G2.out HC2.out,Hj G2.out (by omega) (fun k e=>by cases e;omega),sb,RS.out.trans hst,H2.out,AF G2.out HC3.out (by simp),AD HC4.out G2.out (by rw[HBq.out];omega),Nat.le_trans HC5.out G2.out.size⟩
     rw[←hUU]
     clear hUU
     have hst0:=HSP.out
     go_wp2
     all_goals first
       | (refine HTrue ?_ _ _ _ _ _ _ _ _;simp_all [CR];done)
       | (by_cases hc:(0:Int)<c
          · simp only[hc,decide_true,decide_false]
            refine HTrue ?_ _ _ _ _ _ _ _ _
            unfold CR;rw[HSP.out];simp_all;done
          · simp only[hc,decide_true,decide_false]
            refine HFalse ?_ _ _ _ _ _ _ _ _
            unfold CR;rw[HSP.out];simp_all;done)
       | (by_cases hc:sa<c
          · simp only[hc,decide_true,decide_false]
            refine HTrue ?_ _ _ _ _ _ _ _ _
            unfold CR;rw[HSP.out];simp_all
          · simp only[hc,decide_true,decide_false]
            refine HFalse ?_ _ _ _ _ _ _ _ _
            unfold CR;rw[HSP.out];simp_all)
       | skip
   case done =>
     intro D xs V hD hS hI hK
     subst hS
     obtain⟨c,hc1,hc2,hc3,hc4,hc5⟩:=hI
     have HC1:=AH hc1
     have HC3:=AH hc3
     have HC4:=AH hc4
     have HC5:=AH hc5
     have HKK:=AH hK
     have HD:=AH hD
     have HWS:=AH hWs
     have HZ:=AH (show vl=true by rw[HV.out];unfold GB;rw[hc1,List.length_map,←HM.out];simp;omega)
     clear hc1 hc2 hc3 hc4 hc5 hK hD b1 b2 b3 c3 hRW hBW hWs hWg
     go_wp2_with (first
       | (refine AV rfl 4 (.tmp 2) (.const (.bool true)) rfl rfl rfl (WG true) HC3.out rfl ?_;intro V2 g2 h2;have G2:=AH g2;have H2:=AH h2;clear g2 h2)
       | fail)
     have HKK2:=AF G2.out HKK.out (by have:=HWS.out;have:=HD.out;simp;omega)
     refine GH HKK2 ?_
     have GP:=grownBy_putObj' V2 D (.deferred none)
     have HB1:=AF GP H2.out (by have:=HWS.out;have:=HD.out;simp;omega)
     refine Em (f:=130) (args:=#[]) (by simp[go_sem]) ?_
     refine(H0 _ _).mono ?_
     rintro e u' w' ⟨rfl,rfl,rfl⟩
     refine⟨⟨_,rfl⟩,rfl,EH (JS (p:=2) (b0:=B+1) rfl rfl (WG true) HB1) ⟨by rw[HZ.out],AD (AD HC4.out G2.out (by rw[HBq.out];omega)) GP (by have:=HWS.out;have:=HD.out;have:=HBq.out;omega)⟩⟩
   case stop =>
     intro D c Dw V hD hS hI hK
     obtain⟨rfl,h1,h2,h3⟩:=hI
     have HZ:=AH (show vl=false by
       obtain⟨t,ht⟩:=hS
       rw[HV.out];unfold GB;rw[←ht,List.map_append,Tz h1];simp)
     refine wpIn_ret ?_
     simp only[Exit.inBlock,Exit.then]
     refine GH hK ?_
     have GP:=grownBy_putObj' V D (.deferred none)
     have HB1:=AF GP h2 (by simp;omega)
     refine Em (f:=130) (args:=#[]) (by simp[go_sem]) ?_
     refine(H0 _ _).mono ?_
     rintro e u' w' ⟨rfl,rfl,rfl⟩
     refine⟨⟨_,rfl⟩,rfl,EH (JS (p:=2) (b0:=B+1) rfl rfl (WG false) HB1) ⟨by rw[HZ.out],AD h3 GP (by have:=HBq.out;omega)⟩⟩
end
section
open Go.RowKit Go.Shelf
attribute [local go_sem] Oper.semAt_some
end
section
open Go.RowKit Go.Shelf
attribute [local go_sem] Oper.semAt_some
theorem Ii {n:Nd}:NZ n=true↔0≤n.d∧n.d≤34∧0≤n.p∧n.p<2^n.d.toNat:=by
 unfold NZ
 simp only[Bool.and_eq_true,decide_eq_true_eq,and_assoc]
theorem IP {n:Nd} (r:Bool) (h:NZ n=true) (hd:n.d≤33):NZ (Bj n r)=true:=by
 rw[Ii] at h ⊢
 obtain⟨h1,h2,h3,h4⟩:=h
 have e:(n.d+1).toNat=n.d.toNat+1:=by omega
 refine⟨by simp[Bj];omega,by simp[Bj];omega,by simp only[Bj];split<;>omega,?_⟩
 simp only[Bj]
 rw[e,Int.pow_succ]
 split<;>omega
theorem AEX {n:Nd} (h:NZ n=true):n.p≤17179869184:=by
 rw[Ii] at h
 obtain⟨h1,h2,h3,h4⟩:=h
 have h5:2^n.d.toNat≤2^34:=Nat.pow_le_pow_right (n:=2) (by decide) (by omega)
 have h6:((2^n.d.toNat:Nat):Int)=(2:Int)^n.d.toNat:=by rw[Int.natCast_pow];rfl
 have e:(2:Nat)^34=17179869184:=by decide
 omega
def Mm (a:Int):Nat→Nd→Nd
 | 0,n=>n
 | k+1,n=>Mm a k (Bj n (Rl n a))
def LD (a:Int) (n:Nd):Bool:=decide ((E3 n).1≤a)&&decide (a<(E3 n).2)
def AS:List Nat:=zs 32
def Cs (l:List Nd) (a:Int):List Nat×Int:=
 if CV a&&GB l then (match l.find? (LD a) with|some n=>((Mm a (34-n.d).toNat n).k,0)|none=>(AS,10)) else (AS,1)
theorem ACx {a:Int} {n:Nd} (h:LD a n=true):NZ n=true:=by
 unfold LD E3 at h
 by_cases ho:NZ n=true
 · exact ho
 · rw[if_neg ho] at h
   simp at h
   omega
theorem Ny (a:Int) (k:Nat) (n:Nd) (h:Dg n.k):Dg (Mm a k n).k:=by
 induction k generalizing n with
 | zero=>exact h
 | succ k ih=>exact ih _ (Q4 _ _)
theorem bD0 (w:World):(Instr.build 23 #[]).run Tryz.prog w=.ok (AO AS) w:=by kernel_rfl
theorem Ed (x:Int):TY Tryz.prog 38 [.int .i64 x] (.int .i64 x):=TY.one' Tryz.underlying38 rfl (by kernel_rfl) rfl
theorem Lk {P:Program} {fn:Func} {p q:Tmp} {T S:TypeId} (h:fn.results=#[.cell p T,.cell q S]) {tmps:Array Value} {w:World} {b0 b1:Nat} {c0 c1:List Value} {v0 v1:Value} {fr0 fr1:Nat×Nat} {u0 u1:TypeId}
  (hp:tmps.getD p undef=ptr b0) (hq:tmps.getD q undef=ptr b1) (t0:TY P T c0 v0) (t1:TY P S c1 v1)
  (h0:w.heap[b0]?=some (.cells c0.toArray u0 fr0)) (h1:w.heap[b1]?=some (.cells c1.toArray u1 fr1)) :
  (results fn tmps).run P w=.ok (.tuple #[v0,v1]) w:=by
 have e0:=t0.load w b0 0 (Al h0)
 have e1:=t1.load w b1 0 (Al h1)
 have hp':tmps[p]?.getD undef=.pointer (some ⟨b0,0,none⟩):=by simpa [ptr] using hp
 have hq':tmps[q]?.getD undef=.pointer (some ⟨b1,0,none⟩):=by simpa [ptr] using hq
 simp[results,h,hp',hq',asAddr,e0,e1]
def LI (w:World) (a:Int) (S:Nat) (Dw:List Px) (V:World):Prop:=(Dw.map (·.1)).find? (LD a)=none∧V.heap[w.heap.size+1]?=some (.cells #[.int .i64 a] 2 (0,0))∧V.heap[w.heap.size+2]?=some (.cells (bv AS).toArray 23 (0,0))
∧V.heap[w.heap.size+3]?=some (.cells #[.int .i64 0] 38 (0,0))∧w.grownBy V none∧S≤V.heap.size
def LX (w:World) (a:Int) (c:Code) (Dw:List Px) (V:World):Prop:=c=.ret∧∃n,(Dw.map (·.1)).find? (LD a)=some n∧Dg n.k∧V.heap[w.heap.size+2]?=some (.cells (bv (Mm a (34-n.d).toNat n).k).toArray 23 (0,0))
∧V.heap[w.heap.size+3]?=some (.cells #[.int .i64 0] 38 (0,0))∧w.grownBy V none
def LA (S:Nat) (tm:Nat→Nat→Value→Value→Act) (x:Px) (a:Act) (V:World):Prop:=∃Bs Ns,S≤Bs∧S≤Ns∧V.heap[Bs]?=some (.cells #[.int .i64 (E3 x.1).1,.int .i64 (E3 x.1).2] 137 (0,0))∧V.heap[Ns]?=some (.cells (CO x.1).toArray 132 (0,0))∧a=tm Bs Ns (Lj (E3 x.1)) (Fo x.1)
theorem LI.kn {w V V':World} {a:Int} {S:Nat} {Dw:List Px} (h:LI w a S Dw V) (g:V.grownBy V' none):LI w a S Dw V':=by
 obtain⟨h0,h1,h2,h3,h4,h5⟩:=h
 exact⟨h0,AF g h1 (by simp),AF g h2 (by simp),AF g h3 (by simp),AA h4 g,Nat.le_trans h5 g.size⟩
theorem LI.own {w:World} {a:Int} {S:Nat} (hs:w.heap.size+4≤S):OwnFrom S (LI w a S):=fun Dw X Y row ⟨h0,h1,h2,h3,h4,h5⟩ hg hr =>
 ⟨h0,AF hg h1 (fun e=>by have:=(hr _ e.symm).1;omega),AF hg h2 (fun e=>by have:=(hr _ e.symm).1;omega),AF hg h3 (fun e=>by have:=(hr _ e.symm).1;omega),CJ h4 hg (fun r e=>by have:=(hr r e).1;omega),Nat.le_trans h5 hg.size⟩
theorem LX.own {w:World} {a:Int} {c:Code} {S:Nat} (hs:w.heap.size+4≤S):OwnFrom S (LX w a c):=fun Dw X Y row ⟨h0,n,h1,h2,h3,h4,h5⟩ hg hr =>
 ⟨h0,n,h1,h2,AF hg h3 (fun e=>by have:=(hr _ e.symm).1;omega),AF hg h4 (fun e=>by have:=(hr _ e.symm).1;omega),CJ h5 hg (fun r e=>by have:=(hr r e).1;omega)⟩
theorem LA.own {S0 S:Nat} {tm:Nat→Nat→Value→Value→Act} {x:Px} {a:Act}:OwnFrom S0 (fun(_:Unit) V=>LA S tm x a V):=fun _ X Y row ⟨Bs,Ns,h1,h2,h3,h4,h5⟩ hg hr =>
 ⟨Bs,Ns,h1,h2,AF hg h3 (fun e=>by obtain⟨_,o,ho,hc⟩:=hr _ e.symm;rw[h3] at ho;cases ho;cases hc),AF hg h4 (fun e=>by obtain⟨_,o,ho,hc⟩:=hr _ e.symm;rw[h4] at ho;cases ho;cases hc),h5⟩
theorem Y0 (l:List Px) (s:Value) (a:Int) (w:World) (hR:RdL w s l) :
   Calls Tryz.prog 78 #[.agg #[s],.int .i64 a] w fun e w'=>e=.returned (.tuple #[AO (Cs (l.map (·.1)) a).1,.int .i64 (Cs (l.map (·.1)) a).2])∧w.grownBy w' none:=by
 obtain⟨ao,cap,rfl,p1,p2⟩:=hR.shape
 have HR:=AH hR
 obtain⟨gl,hgl⟩:∃v,v=Cs (l.map (·.1)) a:=⟨_,rfl⟩
 rw[←hgl]
 have HV:=AH hgl
 obtain⟨m,hm⟩:∃m,m=l.length:=⟨_,rfl⟩
 have hm0:m≤1099511627776:=by rw[hm];exact hR.2.2
 rw[←hm] at HR p1 ⊢
 have HM:=AH hm
 obtain⟨w0,hw0⟩:∃x,x=(((w.alloc (.cells #[.slice ao m cap] 56)).alloc (.cells #[.int .i64 a] 2)).alloc (.cells (bv AS).toArray 23)).alloc (.cells #[.int .i64 0] 38):=⟨_,rfl⟩
 have HG0:=AH (show w.grownBy w0 none by rw[hw0];exact AA (AA (AA (World.grownBy_alloc _ _ _) (World.grownBy_alloc _ _ _)) (World.grownBy_alloc _ _ _)) (World.grownBy_alloc _ _ _))
 have Z0:=AH (show w0.heap[w.heap.size]?=some (.cells #[.slice ao m cap] 56 (0,0)) by rw[hw0,Ay (by simp<;>omega),Ay (by simp<;>omega),Ay (by simp<;>omega),Ah (by simp<;>omega)])
 have Z1:=AH (show w0.heap[w.heap.size+1]?=some (.cells #[.int .i64 a] 2 (0,0)) by rw[hw0,Ay (by simp<;>omega),Ay (by simp<;>omega),Ah (by simp<;>omega)])
 have Z2:=AH (show w0.heap[w.heap.size+2]?=some (.cells (bv AS).toArray 23 (0,0)) by rw[hw0,Ay (by simp),Ah (by simp)])
 have Z3:=AH (show w0.heap[w.heap.size+3]?=some (.cells #[.int .i64 0] 38 (0,0)) by rw[hw0,Ah (by simp)])
 have HS0:=AH (show w0.heap.size=w.heap.size+4 by rw[hw0];simp)
 have HW0:=AH hw0
 clear hR hgl hm hw0
 refine(callsIn_wide (n:=4)).1 (callsIn_of_wp_marks Tryz.func78 rfl trivial ?_ rfl)
 simp only[Tryz.ntmps78,List.size_toArray,List.length_cons,List.length_nil,Nat.reduceAdd,Nat.reduceSub,Array.replicate_succ,Array.replicate_zero,List.push_toArray,List.append_toArray,List.nil_append,List.cons_append]
 refine wpIn_wide.2 ?_
 go_wp2_with fail
 refine(JV a _).mono ?_
 rintro e w1 ⟨rfl,hw1⟩
 have hw2:w1=w0:=hw1.trans HW0.out.symm
 clear hw1 HW0
 subst hw2
 have c0:w1.cell? ⟨w.heap.size,0,none⟩=some (.slice ao m cap):=by rw[AIk _ _ _ _ _ _ Z0.out];rfl
 have y0:=AIj c0
 by_cases ha:CV a=true
 · have HA:=AH ha
   simp only[ha]
   clear ha
   go_wp2_with fail
   refine(OS l (.slice ao m cap) _ (HR.out.kn HG0.out)).mono ?_
   rintro e w2 ⟨rfl,g2⟩
   have G2:=AH g2
   clear g2
   by_cases hv:GB (l.map (·.1))=true
   · have HVL:=AH hv
     simp only[hv]
     clear hv c0 y0
     have c0:w2.cell? ⟨w.heap.size,0,none⟩=some (.slice ao m cap):=by rw[AIk _ _ _ _ _ _ (AF G2.out Z0.out (by simp))];rfl
     have y0:=AIj c0
     go_wp2_with fail
     refine(Q7 ao m cap _).mono ?_
     rintro e w3 ⟨rfl,rfl⟩
     go_wp2
     obtain⟨T,hT⟩:∃T,T=w2.heap.size:=⟨_,rfl⟩
     rw[←hT]
     obtain⟨W,hW⟩:∃W,W=w2.alloc (.cells #[.slice ao m cap] 56):=⟨_,rfl⟩
     have hg2:w.grownBy w2 none:=AA HG0.out G2.out
     have hWg:w.grownBy W none:=by rw[hW];exact AA hg2 (World.grownBy_alloc _ _ _)
     have hWs:W.heap.size=T+1:=by rw[hW,hT];simp
     have hT4:w.heap.size+4≤T:=by rw[hT,←HS0.out];exact G2.out.size
     have hl2:w2.grownBy W none:=by rw[hW];exact World.grownBy_alloc _ _ _
     have b1:=AF hl2 (AF G2.out Z1.out (by simp)) (by simp)
     have b2:=AF hl2 (AF G2.out Z2.out (by simp)) (by simp)
     have b3:=AF hl2 (AF G2.out Z3.out (by simp)) (by simp)
     have bT:W.heap[T]?=some (.cells #[.slice ao m cap] 56 (0,0)):=by rw[hW,hT];exact World.alloc_heap_new _ _
     rw[←hW]
     clear hW hT hg2 hl2 c0 y0
     have c3:W.cell? ⟨T,0,none⟩=some (.slice ao m cap):=by rw[AIk _ _ _ _ _ _ bT];rfl
     have hRW:=HR.out.kn hWg
     have hBW:=HR.out.2.1
     have HWS:=AH hWs
     have HT4:=AH hT4
     refine(wpIn_wide (n:=4)).1 ?_
     refine wpIn_rangeFunc_ownH (F:=Fence.wide) rfl (by decide) (gf:=143) (lb:=#[.pointer (some ⟨T,0,none⟩)]) rfl trivial (enters_of Tryz.func143 (by kernel_rfl) rfl)
      (NI 3 w.heap.size T l (.slice ao m cap) W c3 hRW.1 hRW.2.2 hBW (by omega)) (fun h k=>h.trans k)
      (fun V q o o' hq hl _ _=>(Below.refl w.heap.size V).grown (grownBy_putObj' V q o') (by have:=(Array.getElem?_eq_some_iff.1 hl).1;omega) (fun k e=>by cases e;omega)) (Below.refl _ _) (fun _=>rfl)
      (LI w a W.heap.size) (LX w a) (LI.own (by omega)) (fun c=>LX.own (by omega)) ⟨rfl,b1,b2,b3,hWg,Nat.le_refl _⟩
      (LA W.heap.size (fun Bs Ns u v=>{ tmps:=#[.agg #[.slice ao m cap],.int .i64 a,.pointer (some ⟨w.heap.size,0,none⟩),.pointer (some ⟨w.heap.size+1,0,none⟩),.pointer (some ⟨w.heap.size+1+1,0,none⟩),.pointer (some ⟨w.heap.size+1+1+1,0,none⟩),.pointer (some ⟨Bs,0,none⟩),.pointer (some ⟨Ns,0,none⟩),.func (.func 119) #[] #[.pointer (some ⟨w.heap.size+1+1,0,none⟩),.pointer (some ⟨w.heap.size+1+1+1,0,none⟩)],.int .i64 a,.bool true,.bool false,.bool false,.agg #[.slice ao m cap],.bool true,.bool false,.bool false,undef,.agg #[.slice ao m cap],.func (.func 143) #[] #[.pointer (some ⟨T,0,none⟩)],u,v,undef,undef,undef,undef,undef,undef,undef,undef,undef,undef,undef,undef,undef,undef,undef],defers:=[] }))
      (fun x a'=>LA.own) ?assign ?body ?done ?stop
     case assign =>
      intro lp Dw x V K hi hK
      have HK:=AH hK
      have HI:=AH hi
      have hWV:W.heap.size≤V.heap.size:=hi.2.2.2.2.2
      have HVs:=AH (show w.heap.size≤V.heap.size by omega)
      have HWV:=AH hWV
      have hxk:=x.2.1.1
      have HXK:=AH hxk
      clear hxk
      clear hK hi b1 b2 b3 bT c3 hRW hBW hWs hWg hWV
      rw[T5]
      simp only[List.setIfInBounds_toArray,List.set_cons_succ,List.set_cons_zero]
      refine Cw fun K1 k1=>?_
      have HK1:=AH k1
      clear k1
      refine EP (ro:=some lp) (fun⟨_,_,h⟩=>h) (by kernel_rfl) ?_
      go_wp2_with (first
        | (refine AV rfl 137 (.tmp 6) (.tmp 20) rfl rfl rfl (Na (E3 x.1).1 (E3 x.1).2) (Ah rfl) rfl ?_;intro V2 g2 h2;have G2:=AH (AD (World.grownBy_alloc V _ none) g2 (Nat.le_refl _));have H2:=AH h2;clear g2 h2)
        | fail)
      refine HK1.out _ _ ?_
      refine EP (ro:=some lp) (fun⟨_,_,h⟩=>h) (by kernel_rfl) ?_
      go_wp2_with (first
        | (refine AV rfl 132 (.tmp 7) (.tmp 21) rfl rfl rfl (Xe x.1 HXK.out) (Ah rfl) (by rw[CA _ HXK.out];rfl) ?_;intro V3 g3 h3;have G3:=AH (AD (World.grownBy_alloc V2 _ none) g3 (Nat.le_refl _));have H3:=AH h3;clear g3 h3)
        | fail)
      have G4:=AA G2.out G3.out
      exact HK.out _ _ (Ih G4) (Hj G4 HVs.out (fun k e=>by cases e)) (HI.out.kn G4) ⟨V.heap.size,V2.heap.size,HWV.out,Nat.le_trans HWV.out G2.out.size,AF G3.out H2.out (by simp),H3.out,rfl⟩
     case body =>
      intro lp Dw x a' V hle hrec hi hax hlen
      obtain⟨hi0,hi1,hi2,hi3,hi4,hi5⟩:=hi
      obtain⟨Bs,Ns,hBs,hNs,hb,hn,rfl⟩:=hax
      have HI:=AH (show LI w a W.heap.size Dw V from⟨hi0,hi1,hi2,hi3,hi4,hi5⟩)
      have HXK:=AH x.2.1
      have HB:=AH hb
      have HN:=AH hn
      have HBs:=AH hBs
      have HNs:=AH hNs
      have HI1:=AH hi1
      have HI2:=AH hi2
      have HI3:=AH hi3
      have HI4:=AH hi4
      have HI5:=AH hi5
      have RS:=AH (show((Dw++[x]).map (·.1)).find? (LD a)=if LD a x.1 then some x.1 else none by rw[List.map_append,List.find?_append,hi0,List.map_cons,List.map_nil,List.find?_singleton];rfl)
      obtain⟨sa,sb,hsp⟩:∃sa sb,E3 x.1=(sa,sb):=⟨_,_,rfl⟩
      have HQ:=AH (show LD a x.1=(decide (sa≤a)&&decide (a<sb)) by unfold LD;rw[hsp])
      rw[hsp] at hb ⊢
      simp only at hb
      have c4:V.cell? ⟨Bs,0,none⟩=some (.int .i64 sa):=by rw[AIk _ _ _ _ _ _ hb];rfl
      have c5:V.cell? ⟨Bs,1,none⟩=some (.int .i64 sb):=by rw[AIk _ _ _ _ _ _ hb];rfl
      have c6:V.cell? ⟨w.heap.size+1,0,none⟩=some (.int .i64 a):=by rw[AIk _ _ _ _ _ _ hi1];rfl
      have y4:=AIj c4
      have y6:=AIj c6
      clear hi0 hi1 hi2 hi3 hi4 hi5 hb hn hBs hNs hlen hle hrec b1 b2 b3 bT c3 hRW hBW hWs hWg hsp
      obtain⟨UU,hUU⟩:∃UU:Value,UU=Lj (sa,sb):=⟨_,rfl⟩
      obtain⟨VV,hVV⟩:∃VV:Value,VV=Fo x.1:=⟨_,rfl⟩
      rw[←hUU,←hVV]
      clear hUU hVV
      refine wpIn_block ?_
      change (Code.seq _ _).wpIn (Wd (some lp)) _ _ _ _ _
      refine Cw fun K1 k1=>?_
      have HK1:=AH k1
      clear k1
      refine Cw fun K2 k2=>?_
      have HK2:=AH k2
      clear k2
      refine EP (ro:=some lp) (fun⟨_,_,h⟩=>h) (by kernel_rfl) ?_
      go_wp2_with fail
      refine(Pz sa sb a _).mono ?_
      rintro e w4 ⟨rfl,g4⟩
      have G4:=AH g4
      clear g4
      by_cases hq:(decide (sa≤a)&&decide (a<sb))=true
      · simp only[hq]
        have HOK:=AH (ACx (HQ.out.trans hq))
        have RS2:=AH (show((Dw++[x]).map (·.1)).find? (LD a)=some x.1 by rw[RS.out,HQ.out,hq];rfl)
        clear hq
        go_wp2
        refine HK2.out _ _ (wpIn_cond_false rfl (wpIn_skip ?_))
        refine HK1.out _ _ ?_
        clear HK1 HK2 c4 c5 c6 y4 y6
        refine Cw fun K3 k3=>?_
        have HK3:=AH k3
        clear k3
        refine wpIn_block ?_
        obtain⟨DN,hDN⟩:∃D,D=Mm a (34-x.1.d).toNat x.1:=⟨_,rfl⟩
        have HDN:=AH hDN
        have HDK:=AH (show Dg DN.k by rw[hDN];exact Ny a _ _ HXK.out)
        have N4:=AH (AF G4.out HN.out (by simp))
        have A4:=AH (AF G4.out HI1.out (by simp))
        have A5:=AH (AF G4.out HI2.out (by simp))
        have A6:=AH (AF G4.out HI3.out (by simp))
        have NR:=AH (show w.heap.size+4≤Ns by have:=HNs.out;have:=HWS.out;have:=HT4.out;omega)
        have AB:=AH (show 0≤a∧a<17179869184 by have h:=HA.out;unfold CV at h;simp at h;exact h)
        clear hDN
        refine wpIn_loop (fun a' V'=>∃n:Nd,NZ n=true∧Dg n.k∧Mm a (34-n.d).toNat n=DN∧w4.grownBy V' (some Ns)∧V'.heap[Ns]?=some (.cells (CO n).toArray 132 (0,0))∧∃u26 u27 u28 u29 u30 u31 u32 u33,a'={ tmps:=#[.agg #[.slice ao m cap],.int .i64 a,.pointer (some ⟨w.heap.size,0,none⟩),.pointer (some ⟨w.heap.size+1,0,none⟩),.pointer (some ⟨w.heap.size+1+1,0,none⟩),.pointer (some ⟨w.heap.size+1+1+1,0,none⟩),.pointer (some ⟨Bs,0,none⟩),.pointer (some ⟨Ns,0,none⟩),.func (.func 119) #[] #[.pointer (some ⟨w.heap.size+1+1,0,none⟩),.pointer (some ⟨w.heap.size+1+1+1,0,none⟩)],.int .i64 a,.bool true,.bool false,.bool false,.agg #[.slice ao m cap],.bool true,.bool false,.bool false,undef,.agg #[.slice ao m cap],.func (.func 143) #[] #[.pointer (some ⟨T,0,none⟩)],UU,VV,.agg #[.int .i64 sa,.int .i64 sb],.int .i64 a,.bool true,.bool false,u26,u27,u28,u29,u30,u31,u32,u33,undef,undef,undef],defers:=[] })
          (fun _ V'=>(34-intOf ((V'.cell? ⟨Ns,0,none⟩).getD undef)).toNat) ⟨x.1,HOK.out,HXK.out,HDN.out.symm,World.grownBy.refl _ _,N4.out,_,_,_,_,_,_,_,_,rfl⟩ ?_
        rintro a' V' ⟨n,ho,hk,hd,hg,hr,u26,u27,u28,u29,u30,u31,u32,u33,rfl⟩
        have HO:=AH ho
        have HK:=AH hk
        have HDD:=AH hd
        have HGV:=AH hg
        have HR2:=AH hr
        obtain⟨o1,o2,o3,o4⟩:=Ii.1 ho
        have o5:=AEX ho
        obtain⟨c8,c9,y8⟩:=Mj hr
        have MU:=AH (show intOf ((V'.cell? ⟨Ns,0,none⟩).getD undef)=n.d by rw[c8];rfl)
        clear ho hk hd hg hr
        refine Cw fun K4 k4=>?_
        have HK4:=AH k4
        clear k4
        refine Cw fun K5 k5=>?_
        have HK5:=AH k5
        clear k5
        refine EP (ro:=some lp) (fun⟨_,_,h⟩=>h) (by kernel_rfl) ?_
        by_cases hlt:n.d<34
        · have t1:decide (n.d<34)=true:=decide_eq_true hlt
          go_wp2
          refine HK5.out _ _ (wpIn_cond_true rfl (wpIn_skip ?_))
          refine HK4.out _ _ ?_
          clear HK4 HK5
          refine wpIn_block ?_
          have HL:=AH (show ∀w',(∃s:Gw V',w'=s.val)→(Instr.loadAt 132 (.pointer (some ⟨Ns,0,none⟩))).run Tryz.prog w'=.ok (Fo n) w' from fun w' ⟨s,e⟩=>by subst e;exact Ae (Xe n HK.out.1) (Al (AF s.g HR2.out (by simp))))
          have hca:V'.cell? ⟨w.heap.size+1,0,none⟩=some (.int .i64 a):=by rw[AIk _ _ _ _ _ _ (AF HGV.out A4.out (by have:=NR.out;simp;omega))];rfl
          have cA:∀s:Gw V',s.val.cell? ⟨w.heap.size+1,0,none⟩=some (.int .i64 a):=fun s=>s.cell hca
          have HC1:=AH (fun W:World=>Rm n a ⟨o1,by omega⟩ AB.out W)
          have HC2:=AH (fun W:World=>WE n (Rl n a) HK.out ⟨o1,o2⟩ ⟨o3,o5⟩ W)
          have KC:=AH (show Dg (Bj n (Rl n a)).k from Q4 _ _)
          have OC:=AH (IP (Rl n a) HO.out (by omega))
          have DC:=AH (show Mm a (34-(Bj n (Rl n a)).d).toNat (Bj n (Rl n a))=DN by
            rw[←HDD.out,show(34-n.d).toNat=(34-(Bj n (Rl n a)).d).toNat+1 by simp[Bj];omega];rfl)
          refine Nb (ro:=some lp) (fun⟨_,_,h⟩=>h) (by kernel_rfl) 5 (by kernel_rfl) (by kernel_rfl) ?_
          simp only[List.take_succ_cons,List.take_zero,List.drop_succ_cons,List.drop_zero]
          refine E9 rfl 132 (.tmp 7) rfl rfl HL.out ?_
          refine E9 rfl 132 (.tmp 7) rfl rfl HL.out ?_
          quiet_step (fail)
          quiet_step ((exact Calls.grown_of (HC1.out _)))
          quiet_step ((exact Calls.grown_of (HC2.out _)))
          refine wpQuiet_nil ?_
          rintro _ ⟨s,rfl⟩
          have B2:=AH (AF s.g HR2.out (by simp))
          have GS:=AH s.g
          generalize s.val=W3 at *
          clear cA HL hca
          go_wp2_with (first
            | (refine AV rfl 132 (.tmp 7) (.tmp 33) rfl rfl rfl (Xe (Bj n (Rl n a)) KC.out.1) B2.out (by rw[CA _ KC.out.1,List.size_toArray,CA _ HK.out.1]) ?_;intro W6 g6 h6;have G6:=AH g6;have H6:=AH h6;clear g6 h6)
            | fail)
          have c10:=(Mj H6.out).1
          refine⟨⟨Bj n (Rl n a),OC.out,KC.out,DC.out,AA (AA HGV.out (Dl GS.out)) G6.out,H6.out,_,_,_,_,_,_,_,_,rfl⟩,?_⟩
          show(34-intOf ((W6.cell? ⟨Ns,0,none⟩).getD undef)).toNat<(34-intOf ((V'.cell? ⟨Ns,0,none⟩).getD undef)).toNat
          rw[MU.out,c10]
          show(34-(n.d+1)).toNat<(34-n.d).toNat
          omega
        · have t1:decide (n.d<34)=false:=decide_eq_false hlt
          go_wp2
          refine HK5.out _ _ (wpIn_cond_false rfl (wpIn_exit ?_))
          have hde:DN=n:=by rw[←HDD.out,show(34-n.d).toNat=0 by omega];rfl
          refine HK3.out _ _ ?_
          clear HK3 HK4 HK5
          have Q5:=AH (AF HGV.out A5.out (by have:=NR.out;simp;omega))
          have Q6:=AH (AF HGV.out A6.out (by have:=NR.out;simp;omega))
          refine Cw fun K6 k6=>?_
          have HK6:=AH k6
          clear k6
          refine EP (ro:=some lp) (fun⟨_,_,h⟩=>h) (by kernel_rfl) ?_
          go_wp2_with (first
            | (refine Eg rfl 23 (.tmp 34) rfl rfl (Bn n.k HK.out.1) (J8 HR2.out) ?_)
            | (refine AV rfl 23 (.tmp 4) (.tmp 35) rfl rfl rfl (Bn n.k HK.out.1) Q5.out (by rw[AI,HK.out.1];rfl) ?_;intro w7 g7 h7;have G7:=AH g7;have H7:=AH h7;have Y7:=AH (AF g7 Q6.out (by simp));clear g7 h7)
            | (refine AV rfl 38 (.tmp 5) (.const (.int .i64 0)) rfl rfl rfl (Ed 0) Y7.out rfl ?_;intro w8 g8 h8;have G8:=AH g8;have H8:=AH h8;have X8:=AH (AF g8 H7.out (by simp));clear g8 h8)
            | fail)
          refine HK6.out _ _ (wpIn_ret ?_)
          refine⟨(Ih G4.out).trans ((IM HGV.out N4.out).trans ((IM G7.out Q5.out).trans (IM G8.out Y7.out))),rfl,x.1,RS2.out,HXK.out,?_,H8.out,?_⟩
          · rw[←HDN.out,hde];exact X8.out
          · exact AD (AD (AD (AA HI4.out G4.out) HGV.out (by have:=NR.out;omega)) G7.out (by omega)) G8.out (by omega)
      · have RS2:=AH (show((Dw++[x]).map (·.1)).find? (LD a)=none by rw[RS.out,HQ.out,if_neg hq])
        simp only[Bool.not_eq_true] at hq
        simp only[hq]
        clear hq
        go_wp2
        refine HK2.out _ _ (wpIn_cond_true rfl (wpIn_exit ?_))
        have L4:=HI.out.kn G4.out
        have h5:=HI5.out
        have h6:=HI4.out.size
        exact⟨Ih G4.out,Hj G4.out h6 (fun k e=>by cases e),RS2.out,L4.2⟩
     case done =>
      intro D xs V hD hS hI hK
      subst hS
      obtain⟨h0,h1,h2,h3,h4,h5⟩:=hI
      have H2:=AH h2
      have H3:=AH h3
      have H4:=AH h4
      have HKK:=AH hK
      have HD:=AH hD
      have HZ:=AH (show gl=(AS,10) by rw[HV.out];unfold Cs;rw[if_pos (by rw[Bool.and_eq_true];exact⟨HA.out,HVL.out⟩),h0])
      clear h0 h1 h2 h3 h4 h5 hK hD b1 b2 b3 bT c3 hRW hBW hWs hWg
      go_wp2_with (first
        | (refine Bp rfl 23 _ rfl #[] (by simp) (bD0 _) ?_)
        | (refine AV rfl 23 (.tmp 4) (.tmp 36) rfl rfl rfl (Bn AS rfl) H2.out rfl ?_;intro w5 g5 h5;have G5:=AH g5;have H5:=AH h5;have Y5:=AH (AF g5 H3.out (by simp));clear g5 h5)
        | (refine AV rfl 38 (.tmp 5) (.const (.int .i64 10)) rfl rfl rfl (Ed 10) Y5.out rfl ?_;intro w6 g6 h6;have G6:=AH g6;have H6:=AH h6;have X6:=AH (AF g6 H5.out (by simp));clear g6 h6)
        | fail)
      have HKK2:=AF G6.out (AF G5.out HKK.out (by have:=HWS.out;have:=HD.out;simp;omega)) (by have:=HWS.out;have:=HD.out;simp;omega)
      refine GH HKK2 ?_
      have GP:=grownBy_putObj' w6 D (.deferred none)
      have P5:=AF GP X6.out (by have:=HWS.out;have:=HD.out;simp;omega)
      have P6:=AF GP H6.out (by have:=HWS.out;have:=HD.out;simp;omega)
      refine Em (f:=119) (args:=#[.pointer (some ⟨w.heap.size+1+1,0,none⟩),.pointer (some ⟨w.heap.size+1+1+1,0,none⟩)]) (by simp[go_sem]) ?_
      refine(GI _ _ _ _).mono ?_
      rintro e u' w' ⟨rfl,rfl,rfl⟩
      exact⟨⟨_,rfl⟩,rfl,EH (Lk (p:=4) (q:=5) (b0:=w.heap.size+2) (b1:=w.heap.size+3) rfl rfl rfl (Bn AS rfl) (Ed 10) P5 P6) ⟨by rw[HZ.out],AD (AD (AD H4.out G5.out (by omega)) G6.out (by omega)) GP (by have:=HWS.out;have:=HD.out;have:=HT4.out;omega)⟩⟩
     case stop =>
      intro D c Dw V hD hS hI hK
      obtain⟨rfl,n,h1,h2,h3,h4,h5⟩:=hI
      have HZ:=AH (show gl=((Mm a (34-n.d).toNat n).k,0) by
        obtain⟨t,ht⟩:=hS
        rw[HV.out];unfold Cs;rw[if_pos (by rw[Bool.and_eq_true];exact⟨HA.out,HVL.out⟩),←ht,List.map_append,List.find?_append,h1];rfl)
      have HKD:=Ny a (34-n.d).toNat n h2
      refine wpIn_ret ?_
      simp only[Exit.inBlock,Exit.then]
      refine GH hK ?_
      have GP:=grownBy_putObj' V D (.deferred none)
      have P5:=AF GP h3 (by simp;omega)
      have P6:=AF GP h4 (by simp;omega)
      refine Em (f:=119) (args:=#[.pointer (some ⟨w.heap.size+1+1,0,none⟩),.pointer (some ⟨w.heap.size+1+1+1,0,none⟩)]) (by simp[go_sem]) ?_
      refine(GI _ _ _ _).mono ?_
      rintro e u' w' ⟨rfl,rfl,rfl⟩
      exact⟨⟨_,rfl⟩,rfl,EH (Lk (p:=4) (q:=5) (b0:=w.heap.size+2) (b1:=w.heap.size+3) rfl rfl rfl (Bn _ HKD.1) (Ed 0) P5 P6) ⟨by rw[HZ.out],AD h5 GP (by omega)⟩⟩
   · have HVL:=AH hv
     simp only[Bool.not_eq_true] at hv
     simp only[hv]
     clear hv
     go_wp2_with (first
      | (refine Bp rfl 23 _ rfl #[] (by simp) (bD0 _) ?_)
      | (refine AV rfl 23 (.tmp 4) (.tmp 17) rfl rfl rfl (Bn AS rfl) (AF G2.out Z2.out (by simp)) rfl ?_;intro w5 g5 h5;have G5:=AH g5;have H5:=AH h5;have Y5:=AH (AF g5 (AF G2.out Z3.out (by simp)) (by simp));clear g5 h5)
      | (refine AV rfl 38 (.tmp 5) (.const (.int .i64 1)) rfl rfl rfl (Ed 1) Y5.out rfl ?_;intro w6 g6 h6;have G6:=AH g6;have H6:=AH h6;have X6:=AH (AF g6 H5.out (by simp));clear g6 h6)
      | fail)
     refine Em (f:=119) (args:=#[.pointer (some ⟨w.heap.size+1+1,0,none⟩),.pointer (some ⟨w.heap.size+1+1+1,0,none⟩)]) (by simp[go_sem]) ?_
     refine(GI _ _ _ _).mono ?_
     rintro e u' w' ⟨rfl,rfl,rfl⟩
     have HZ:=AH (show gl=(AS,1) by rw[HV.out];unfold Cs;rw[if_neg (by rw[Bool.and_eq_true];exact fun h=>HVL.out h.2)])
     exact⟨⟨_,rfl⟩,rfl,EH (Lk (p:=4) (q:=5) (b0:=w.heap.size+2) (b1:=w.heap.size+3) rfl rfl rfl (Bn AS rfl) (Ed 1) X6.out H6.out) ⟨by rw[HZ.out],AD (AD (AA HG0.out G2.out) G5.out (by omega)) G6.out (by omega)⟩⟩
 · have HA:=AH ha
   simp only[Bool.not_eq_true] at ha
   simp only[ha]
   clear ha
   go_wp2_with (first
     | (refine Bp rfl 23 _ rfl #[] (by simp) (bD0 _) ?_)
     | (refine AV rfl 23 (.tmp 4) (.tmp 17) rfl rfl rfl (Bn AS rfl) Z2.out rfl ?_;intro w5 g5 h5;have G5:=AH g5;have H5:=AH h5;have Y5:=AH (AF g5 Z3.out (by simp));clear g5 h5)
     | (refine AV rfl 38 (.tmp 5) (.const (.int .i64 1)) rfl rfl rfl (Ed 1) Y5.out rfl ?_;intro w6 g6 h6;have G6:=AH g6;have H6:=AH h6;have X6:=AH (AF g6 H5.out (by simp));clear g6 h6)
     | fail)
   refine Em (f:=119) (args:=#[.pointer (some ⟨w.heap.size+1+1,0,none⟩),.pointer (some ⟨w.heap.size+1+1+1,0,none⟩)]) (by simp[go_sem]) ?_
   refine(GI _ _ _ _).mono ?_
   rintro e u' w' ⟨rfl,rfl,rfl⟩
   have HZ:=AH (show gl=(AS,1) by rw[HV.out];unfold Cs;rw[if_neg (by rw[Bool.and_eq_true];exact fun h=>HA.out h.1)])
   exact⟨⟨_,rfl⟩,rfl,EH (Lk (p:=4) (q:=5) (b0:=w.heap.size+2) (b1:=w.heap.size+3) rfl rfl rfl (Bn AS rfl) (Ed 1) X6.out H6.out) ⟨by rw[HZ.out],AD (AD HG0.out G5.out (by omega)) G6.out (by omega)⟩⟩
end
section
open Go.RowKit Go.Shelf
attribute [local go_sem] Oper.semAt_some
theorem bN2 (l:List Nat) (hl:l.length=32) (w:World):(Instr.build 132 #[(2,AO l)]).run Tryz.prog w=.ok (Fo ⟨0,0,l⟩) w:=by
 obtain⟨x0,x1,x2,x3,x4,x5,x6,x7,x8,x9,x10,x11,x12,x13,x14,x15,x16,x17,x18,x19,x20,x21,x22,x23,x24,x25,x26,x27,x28,x29,x30,x31,rfl⟩:=Gc l hl
 kernel_rfl
end
section
open Go.RowKit Go.Shelf
attribute [local go_sem] Oper.semAt_some
theorem Gd {P:Program} {w w2:World} {ops:Array Oper} {rest:List Oper} {o:Oper} {a:Act} {Q:Exit→Act→World→Prop} (hgd:o.guard=none) (t:TypeId) (len:Nat) (parts:Array (Nat×Operand)) (ho:o.op=.buildSlice t len parts)
  (vs:Array (Nat×Value)) (hv:(parts.map fun(i,x)=>(i,a.eval x))=vs) {v:Value} (hr:(Instr.buildSlice t len vs).run P w=.ok v w2) (h:wpList P ops Q rest (a.put o.dst v) w2):wpList P ops Q (o::rest) a w:=by
 refine wpList_plain hgd fun K hK=>?_
 unfold Oper.wp execOp
 simp only[ho,hv,Sem.run_bind,Sem.run_pure,Result.andThen_ok,hr]
 exact hK _ _ h
theorem bS1 (n:Nd) (hn:n.k.length=32) (w:World):(Instr.buildSlice 54 1 #[(0,Fo n)]).run Tryz.prog w=.ok (.slice (some ⟨w.heap.size,0,none⟩) 1 1) (w.alloc (.cells (CO n).toArray 132)):=by
 obtain⟨d,p,k⟩:=n
 obtain⟨x0,x1,x2,x3,x4,x5,x6,x7,x8,x9,x10,x11,x12,x13,x14,x15,x16,x17,x18,x19,x20,x21,x22,x23,x24,x25,x26,x27,x28,x29,x30,x31,rfl⟩:=Gc k hn
 kernel_rfl
theorem AAj (k:List Nat) (hk:Dg k) (w:World):Calls Tryz.prog 82 #[AO k] w fun e w'=>∃s,e=.returned (.agg #[s])∧Own w' 132 34 s 1 (CO ⟨0,0,k⟩)∧Fresh w w' s:=by
 have HK:=AH hk
 obtain⟨C,hC⟩:∃C,C=bv k:=⟨_,rfl⟩
 have HC:=AH hC
 have TD:=AH (show TY Tryz.prog 23 C (.agg C.toArray) by rw[hC];exact Bn k hk.1)
 obtain⟨N,hN⟩:∃N,N=CO ⟨0,0,k⟩:=⟨_,rfl⟩
 have HN:=AH hN
 have BN:=AH (show ∀w:World,(Instr.build 132 #[(2,.agg C.toArray)]).run Tryz.prog w=.ok (.agg N.toArray) w by rw[hC,hN];exact bN2 k hk.1)
 have BS:=AH (show ∀w:World,(Instr.buildSlice 54 1 #[(0,.agg N.toArray)]).run Tryz.prog w=.ok (.slice (some ⟨w.heap.size,0,none⟩) 1 1) (w.alloc (.cells N.toArray 132)) from fun w=>by rw[hN];exact bS1 ⟨0,0,k⟩ hk.1 w)
 have NL:=AH (show N.length=34 by rw[hN];exact CA _ hk.1)
 unfold AO
 rw[←hC,←hN]
 clear hk hC hN
 go_enter Tryz.func82,Tryz.ntmps82
 go_wp2_with (first
   | (refine Bh rfl 23 (.tmp 1) rfl rfl TD.out (by rw[Ay (by simp),Ah (by simp)]) ?_)
   | (refine Bp rfl 132 _ rfl #[(2,.agg C.toArray)] (by simp only[List.map_toArray,List.map_cons,List.map_nil,Act.eval];rfl) (BN.out _) ?_)
   | (refine Gd rfl 54 1 _ rfl #[(0,.agg N.toArray)] (by simp only[List.map_toArray,List.map_cons,List.map_nil,Act.eval];rfl) (BS.out _) ?_)
   | fail)
 refine B9 (p:=2) (b:=w.heap.size+1) rfl rfl (Yz (.slice (some ⟨w.heap.size+1+1,0,none⟩) 1 1) rfl) (by rw[Ay (by simp),Ah (by simp)]) rfl ⟨_,rfl,⟨by rw[NL.out],.inr ⟨w.heap.size+1+1,1,N.toArray,rfl,by omega,Ah (by simp),by omega,by decide,?_,?_⟩⟩,Step.fresh (AA (AA (World.grownBy_alloc _ _ _) (World.grownBy_alloc _ _ _)) (World.grownBy_alloc _ _ _)) (fun k hk=>by simp[Value.ownBlock] at hk;omega)⟩
 · rw[List.size_toArray,NL.out]
 · exact List.take_of_length_le (by rw[List.toList_toArray,NL.out];exact Nat.le_refl _)
theorem ZA (k:List Nat) (hk:Dg k) (w:World):Calls Tryz.prog 85 #[AO k] w fun e w'=>∃s,e=.returned (.agg #[s])∧Own w' 132 34 s 1 (CO ⟨0,0,k⟩)∧Fresh w w' s:=by
 have HK:=AH hk
 obtain⟨C,hC⟩:∃C,C=bv k:=⟨_,rfl⟩
 have HC:=AH hC
 have TD:=AH (show TY Tryz.prog 23 C (.agg C.toArray) by rw[hC];exact Bn k hk.1)
 obtain⟨N,hN⟩:∃N,N=CO ⟨0,0,k⟩:=⟨_,rfl⟩
 have HN:=AH hN
 have BN:=AH (show ∀w:World,(Instr.build 132 #[(2,.agg C.toArray)]).run Tryz.prog w=.ok (.agg N.toArray) w by rw[hC,hN];exact bN2 k hk.1)
 have BS:=AH (show ∀w:World,(Instr.buildSlice 54 1 #[(0,.agg N.toArray)]).run Tryz.prog w=.ok (.slice (some ⟨w.heap.size,0,none⟩) 1 1) (w.alloc (.cells N.toArray 132)) from fun w=>by rw[hN];exact bS1 ⟨0,0,k⟩ hk.1 w)
 have NL:=AH (show N.length=34 by rw[hN];exact CA _ hk.1)
 unfold AO
 rw[←hC,←hN]
 clear hk hC hN
 go_enter Tryz.func85,Tryz.ntmps85
 go_wp2_with (first
   | (refine Bh rfl 23 (.tmp 1) rfl rfl TD.out (by rw[Ay (by simp),Ah (by simp)]) ?_)
   | (refine Bp rfl 132 _ rfl #[(2,.agg C.toArray)] (by simp only[List.map_toArray,List.map_cons,List.map_nil,Act.eval];rfl) (BN.out _) ?_)
   | (refine Gd rfl 54 1 _ rfl #[(0,.agg N.toArray)] (by simp only[List.map_toArray,List.map_cons,List.map_nil,Act.eval];rfl) (BS.out _) ?_)
   | fail)
 refine B9 (p:=2) (b:=w.heap.size+1) rfl rfl (Yz (.slice (some ⟨w.heap.size+1+1,0,none⟩) 1 1) rfl) (by rw[Ay (by simp),Ah (by simp)]) rfl ⟨_,rfl,⟨by rw[NL.out],.inr ⟨w.heap.size+1+1,1,N.toArray,rfl,by omega,Ah (by simp),by omega,by decide,?_,?_⟩⟩,Step.fresh (AA (AA (World.grownBy_alloc _ _ _) (World.grownBy_alloc _ _ _)) (World.grownBy_alloc _ _ _)) (fun k hk=>by simp[Value.ownBlock] at hk;omega)⟩
 · rw[List.size_toArray,NL.out]
 · exact List.take_of_length_le (by rw[List.toList_toArray,NL.out];exact Nat.le_refl _)
end
section
open Go.RowKit Go.Shelf
attribute [local go_sem] Oper.semAt_some
end
end Go.Proofs.YtbfjfnbcmojpiaaGreat
