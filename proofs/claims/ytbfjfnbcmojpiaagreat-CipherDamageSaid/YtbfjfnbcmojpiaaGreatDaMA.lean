import Derived.Test.YtbfjfnbcmojpiaaGreatRows
import Derived.Below
import Derived.WalkKit
import Derived.WalkLawsBesides
import Derived.ProofKit
import Derived.Handy
import Derived.WalkSpells
import Derived.Laws.CopyOwn
import Derived.Laws.BitsAllLaws
import Derived.Lib.AppendStr
import Derived.Laws.AppendOwnNone
import Derived.BigQuiet
import Derived.Deep.QuietTactic
import Derived.Deep.MidRow
import Derived.Deep.RegionLaw
import Derived.StillTailTactics
import Derived.Deep.Quiet
set_option linter.unusedSimpArgs false
set_option linter.unusedVariables false
set_option maxRecDepth 100000
namespace Go.Proofs.YtbfjfnbcmojpiaaGreat
theorem AOW : True := trivial
abbrev AOP := @Go.wp_region_lit
abbrev AOQ := @Go.wp_seq_k
abbrev AOR := @Go.block_lt_of_cell
abbrev AOS := @Go.cell_of_row
abbrev AOT := @Go.wp_ret
abbrev AOU := @Go.wp_skip
abbrev AOV := @Go.frozen_of_row
section
open Go.RowKit
theorem BE (w:World) (a:Addr) (v:Value):w.grownBy (w.setCell a v) (some a.block):=
 ⟨rfl,rfl,rfl,by simp,fun k _ hk=>heap_setCell_other w a k v (fun e=>hk (by simp[e]))⟩
theorem Ak {w:World} {o:Obj} {n:Nat} (h:n=w.heap.size):(w.alloc o).heap[n]?=some o:=by subst h;exact Go.heap_alloc_new w o
theorem BZ {w:World} {o:Obj} {n:Nat} (h:n<w.heap.size):(w.alloc o).heap[n]?=w.heap[n]?:=Below.heap_alloc w o n h
end
section
open Go.RowKit
theorem AK {p:Prop} (h:p):Hid p:=h
structure ET (P:Program) (t e:TypeId) (z:Value) (size bytes:Nat):Prop where
 und:P.underlying t=some (.slice e)
 inf:∃i,P.info? e=some i∧i.zero=some z∧i.size=size∧i.bytes=bytes
 zsz:z.cells.size=size
 pos:0<size
 bnd:bytes≤128
def bv (l:List Nat):List Value:=l.map fun b:Nat=>.int .u8 (b:Int)
@[simp] theorem bv_nil:bv []=[]:=rfl
theorem DS (a b:List Nat):bv (a++b)=bv a++bv b:=by simp[bv]
theorem AO (a:List Nat):(bv a).length=a.length:=by simp[bv]
theorem AA {a b c:World} {row:Option Nat} (h:a.grownBy b row) (k:b.grownBy c row):a.grownBy c row:=
 ⟨k.os.trans h.os,k.tape.trans h.tape,k.output.trans h.output,Nat.le_trans h.size k.size,
  fun i hi hne=>(k.block i (Nat.lt_of_lt_of_le hi h.size) hne).trans (h.block i hi hne)⟩
theorem ZS {a b:World} {row:Option Nat} {o:Obj} (k:(a.alloc o).grownBy b row):a.grownBy b row:=
 AA (World.grownBy_alloc a o row) k
theorem E2 {a b:World} {row:Option Nat} (h:a.grownBy b none):a.grownBy b row:=
 ⟨h.os,h.tape,h.output,h.size,fun i hi _=>h.block i hi (by simp)⟩
abbrev Own (w:World) (e:TypeId) (size:Nat) (v:Value) (n:Nat) (xs:List Value):Prop:=w.ownsRow 0 e size v n xs
abbrev Ph:Value:=.slice none 0 0
def Step (w:World) (v:Value) (w':World) (v':Value):Prop:=
 w.grownBy w' v.ownBlock∧∀k,v'.ownBlock=some k→v.ownBlock=some k∨(w.heap.size≤k)
theorem Step.refl (w:World) (v:Value):Step w v w v:=⟨World.grownBy.refl _ _,fun _ h=>.inl h⟩
theorem Step.trans {w w1 w2:World} {v v1 v2:Value} (h:Step w v w1 v1) (k:Step w1 v1 w2 v2):Step w v w2 v2:=by
 have hsz:=h.1.size
 refine⟨⟨k.1.os.trans h.1.os,k.1.tape.trans h.1.tape,k.1.output.trans h.1.output,Nat.le_trans h.1.size k.1.size,fun i hi hne=>?_⟩,fun i hi=>?_⟩
 · refine(k.1.block i (by omega) fun e=>?_).trans (h.1.block i hi hne)
   rcases h.2 i e.symm with h'|h'
   · exact hne h'.symm
   · omega
 · rcases k.2 i hi with h'|h'
   · exact h.2 i h'
   · exact .inr (by omega)
theorem Step.alloc {w w':World} {v v':Value} {o:Obj} (k:Step (w.alloc o) v w' v'):Step w v w' v':=
 ⟨ZS k.1,fun i hi=>(k.2 i hi).imp id fun h=>by simp at h;omega⟩
theorem Step.grown {w w1 w':World} {v v':Value} (h:w.grownBy w1 none) (k:Step w1 v w' v'):Step w v w' v':=
 Step.trans ⟨E2 h,fun _ h=>.inl h⟩ k
abbrev Fresh (w:World) (w':World) (v':Value):Prop:=Step w Ph w' v'
theorem Step.fresh {w w':World} {v':Value} (h:w.grownBy w' none) (k:∀i,v'.ownBlock=some i→w.heap.size≤i):Fresh w w' v':=⟨h,fun i hi=>.inr (k i hi)⟩
theorem Fresh.lit (w:World) (o:Obj) (n c:Nat):Fresh w (w.alloc o) (.slice (some ⟨w.heap.size,0,none⟩) n c):=
 ⟨World.grownBy_alloc _ _ _,fun k hk=>.inr (by simp[Value.ownBlock] at hk;omega)⟩
theorem Step.none {w w':World} {v':Value} (h:Fresh w w' v'):w.grownBy w' none:=h.1
theorem Own.nil (w:World) (e:TypeId) (size:Nat):Own w e size Ph 0 []:=World.ownsRow_nil _ _ _ _
theorem Own.ne {w:World} {base:Nat} {e e':TypeId} {size n:Nat} {v:Value} {xs:List Value} (h:w.ownsRow base e size v n xs) {k:Nat} {c:Array Value} {fr:Nat×Nat} (hk:w.heap[k]?=some (.cells c e' fr)) (hne:e≠e'):v.ownBlock≠some k:=by
 intro hv
 rcases h.2 with ⟨rfl,_⟩|⟨g,cap,cur,rfl,_,hg,_⟩
 · simp[Value.ownBlock] at hv
 · simp[Value.ownBlock] at hv
   subst hv
   rw[hg] at hk
   simp at hk
   exact hne hk.2.1
theorem Own.lt {w:World} {base:Nat} {e:TypeId} {size n:Nat} {v:Value} {xs:List Value} (h:w.ownsRow base e size v n xs):∀k,v.ownBlock=some k→k<w.heap.size:=fun k hk=>(h.lt k hk).2
def Sl (w:World) (sz:Nat) (v:Value) (n:Nat) (xs:List Value):Prop:=
 xs.length=n*sz∧∃ao cap,v=.slice ao n cap∧n≤cap∧cap≤maxLen∧(ao=none→cap=0) ∧
  (∀a,ao=some a→(0<n→a.spot=none)∧∀j u,xs[j]?=some u→w.cell? ⟨a.block,a.off+j,none⟩=some u)
theorem Sl.of_own {w:World} {base:Nat} {e:TypeId} {sz:Nat} {v:Value} {n:Nat} {xs:List Value} (h:w.ownsRow base e sz v n xs):Sl w sz v n xs:=by
 refine⟨h.1,?_⟩
 rcases h.2 with ⟨rfl,rfl⟩|⟨g,cap,cur,rfl,_,hg,hnc,hcm,_,htake⟩
 · exact⟨none,0,rfl,Nat.le_refl _,Nat.zero_le _,fun _=>rfl,fun a h=>by cases h⟩
 · refine⟨some ⟨g,0,none⟩,cap,rfl,hnc,hcm,fun h=>(by cases h),fun a ha=>?_⟩
   obtain rfl:=Option.some.inj ha
   refine⟨fun _=>rfl,fun j u hu=>?_⟩
   have:=h.cells (g:=g) rfl j u hu
   rwa [show(⟨g,0,none⟩:Addr).add j=⟨g,0+j,none⟩ by unfold Addr.add;split<;>simp_all] at this
theorem Sl.kept {w w':World} {sz:Nat} {v:Value} {n:Nat} {xs:List Value} (h:Sl w sz v n xs) {row:Option Nat} (hg:w.grownBy w' row) (hne:v.ownBlock=none∨v.ownBlock≠row):Sl w' sz v n xs:=by
 obtain⟨hl,ao,cap,rfl,h1,h2,h3,h4⟩:=h
 refine⟨hl,ao,cap,rfl,h1,h2,h3,fun a ha=>?_⟩
 obtain⟨hs,hc⟩:=h4 a ha
 refine⟨hs,fun j u hu=>?_⟩
 subst ha
 exact hg.cell (hc j u hu) (by simpa [Value.ownBlock] using hne)
theorem Sl.below {w w':World} {sz:Nat} {v:Value} {n:Nat} {xs:List Value} (h:Sl w sz v n xs) {B:Nat} (hb:Below B w w') (hv:∀k,v.ownBlock=some k→k<B):Sl w' sz v n xs:=by
 obtain⟨hl,ao,cap,rfl,h1,h2,h3,h4⟩:=h
 refine⟨hl,ao,cap,rfl,h1,h2,h3,fun a ha=>?_⟩
 obtain⟨hs,hc⟩:=h4 a ha
 refine⟨hs,fun j u hu=>?_⟩
 subst ha
 exact(hb.cell (p:=⟨a.block,a.off+j,none⟩) (hv _ (by simp[Value.ownBlock]))).trans (hc j u hu)
def lnV:Value→Nat
 | .slice _ n _=>n
 | _=>0
def OZ (v:Value) (k:Nat):Prop:=v.ownBlock=some k∧0<lnV v
theorem Wn (k:Nat):¬OZ (.slice none 0 0) k:=fun h=>by simp[OZ,Value.ownBlock] at h
theorem Sl.empty {w w':World} {sz:Nat} {v:Value} {n:Nat} {xs:List Value} (h:Sl w sz v n xs) (hn:n=0):Sl w' sz v n xs:=by
 obtain⟨hl,ao,cap,rfl,h1,h2,h3,h4⟩:=h
 subst hn
 obtain rfl:xs=[]:=List.eq_nil_of_length_eq_zero (by simpa using hl)
 exact⟨hl,ao,cap,rfl,h1,h2,h3,fun a ha=>⟨(h4 a ha).1,fun j u hu=>by simp at hu⟩⟩
theorem Sl.ln {w:World} {sz:Nat} {v:Value} {n:Nat} {xs:List Value} (h:Sl w sz v n xs):lnV v=n:=by obtain⟨_,ao,cap,rfl,_⟩:=h;rfl
theorem Sl.belowT {w w':World} {sz:Nat} {v:Value} {n:Nat} {xs:List Value} (h:Sl w sz v n xs) {B:Nat} (hb:Below B w w') (hv:∀k,OZ v k→k<B):Sl w' sz v n xs:=by
 rcases Nat.eq_zero_or_pos n with hn|hn
 · exact h.empty hn
 · exact h.below hb fun k hk=>hv k ⟨hk,by rw[h.ln];exact hn⟩
theorem Sl.keptT {w w':World} {sz:Nat} {v:Value} {n:Nat} {xs:List Value} (h:Sl w sz v n xs) {row:Option Nat} (hg:w.grownBy w' row) (hne:∀k,OZ v k→row≠some k):Sl w' sz v n xs:=by
 rcases Nat.eq_zero_or_pos n with hn|hn
 · exact h.empty hn
 · refine h.kept hg ?_
   cases hv:v.ownBlock with
   | none=>exact .inl rfl
   | some k=>exact .inr fun e=>hne k ⟨hv,by rw[h.ln];exact hn⟩ e.symm
theorem Sl.nil (w:World) (sz:Nat):Sl w sz (.slice none 0 0) 0 []:=
 ⟨by simp,none,0,rfl,Nat.le_refl _,Nat.zero_le _,fun _=>rfl,fun a h=>by cases h⟩
theorem Sl.shape {w:World} {sz:Nat} {v:Value} {n:Nat} {xs:List Value} (h:Sl w sz v n xs):∃ao cap,v=.slice ao n cap∧n≤cap∧cap≤9223372036854775807:=by
 obtain⟨hl,ao,cap,rfl,h1,h2,_⟩:=h
 exact⟨ao,cap,rfl,h1,h2⟩
theorem Sl.at {w:World} {sz:Nat} {ao:Option Addr} {n cap m:Nat} {xs:List Value} (h:Sl w sz (.slice ao n cap) m xs) (j:Nat) (hj:j<xs.length) :
   ∃b off,ao=some ⟨b,off,none⟩∧∀i (hi:i<xs.length),w.cell? ⟨b,off+i,none⟩=some xs[i]:=by
 obtain⟨hl,ao',cap',hv,h1,h2,h3,h4⟩:=h
 simp only[Value.slice.injEq] at hv
 obtain⟨rfl,rfl,rfl⟩:=hv
 cases ao with
 | none =>
   have:=h3 rfl
   have:n=0:=by omega
   subst this
   simp at hl
   subst hl
   simp at hj
 | some a =>
   obtain⟨b,off,spot⟩:=a
   obtain⟨hs,hc⟩:=h4 _ rfl
   have hs := hs (by rcases Nat.eq_zero_or_pos n with rfl | h; · rw[Nat.zero_mul] at hl; omega
                     · exact h)
   simp at hs
   subst hs
   exact⟨b,off,rfl,fun i hi=>hc i _ (List.getElem?_eq_getElem hi)⟩
theorem Sl.rd {w:World} {sz:Nat} {ad:Addr} {n cap:Nat} {xs:List Value} (h:Sl w sz (.slice (some ad) n cap) n xs):∀j u,xs[j]?=some u→w.cell? (ad.add j)=some u:=by
 intro j u hu
 have hj:=(List.getElem?_eq_some_iff.1 hu).1
 obtain⟨b,off,e,hc⟩:=h.at j hj
 obtain rfl:=Option.some.inj e
 rw[Addr.add_lit,hc j hj,←hu,List.getElem?_eq_getElem hj]
theorem Wo {P:Program} {t e:TypeId} {z:Value} {size bytes:Nat} (E:ET P t e z size bytes) (ty:TypeId) {w:World} {v:Value} {n:Nat} {xs:List Value} (hown:Own w e size v n xs)
  {sv:Value} {m:Nat} {news:List Value} (hs:Sl w size sv m news) (h1:news.all Value.oneCell'=true) (h63:n+m≤1099511627776) :
  ∃v' w',(Builtin.append_ #[t,t] ty #[v,sv]).run P w=.ok v' w'∧Own w' e size v' (n+m) (xs++news)∧Step w v w' v':=by
 obtain⟨i,hi,hz,rfl,hby⟩:=E.inf
 have hb:=E.bnd
 have hsl:=hs
 obtain⟨hl,ao,cap,rfl,hm1,hm2,h3,h4⟩:=hs
 cases ao with
 | none =>
  obtain rfl:=h3 rfl
  obtain rfl:m=0:=by omega
  obtain rfl:news=[]:=List.eq_nil_of_length_eq_zero (by simpa using hl)
  refine⟨v,w,run_append_owned_none (P:=P) w 0 t ty e i i.size E.und hi v n xs hown,by simpa using hown,Step.refl _ _⟩
 | some ad =>
  have hc':=hsl.rd
  have h1':=List.all_eq_true.1 h1
  have hbytes:(n+m)*bytes≤140737488355328:=by
    have:(n+m)*bytes≤1099511627776*128:=Nat.mul_le_mul h63 hb
    omega
  obtain⟨v',w',hr,h2,h3',_⟩:=run_append_own (P:=P) w 0 t ty e i z i.size bytes E.und hi hz rfl hby E.zsz E.pos v n xs hown ad m cap news hl hc' h1' (by unfold maxLen;omega) hbytes (Nat.zero_le _)
  refine⟨v',w',hr,h2,h3',?_⟩
  have hl2:xs.length=n*i.size:=hown.1
  rcases hown.2 with ⟨rfl,rfl⟩|⟨g,cap',cur,rfl,hbg,hg,hnc,hcm,hcs,htake⟩
  · by_cases hm0:m=0
    · subst hm0
      obtain rfl:news=[]:=List.eq_nil_of_length_eq_zero (by simpa using hl)
      obtain rfl:xs=[]:=List.eq_nil_of_length_eq_zero (by simpa using hl2)
      rcases h2.2 with ⟨rfl,_⟩|⟨g,cap',cur,rfl,_⟩
      · intro k hk;simp[Value.ownBlock] at hk
      · exfalso
        simp[Builtin.append_,run_underlying E.und,sizeOf,typeInfo,hi,Builtin.lenOf,Builtin.firstCells,loadCells,loadCellsFrom] at hr
    · have hr2:=run_append_nil (P:=P) w t ty e i z E.und hi hz ad m cap news hl hc' (by omega) (by omega) (by subst hby;simp only[Nat.zero_add] at hbytes;omega)
      rw[hr2] at hr
      simp only[Result.ok.injEq] at hr
      obtain⟨rfl,_⟩:=hr
      intro k hk
      simp[Value.ownBlock] at hk
      exact .inr (by omega)
  · by_cases hroom:n+m≤cap'
    · have hr2:=run_append_room (P:=P) w t ty e i E.und hi g n cap' cur hg ad m cap news hl hc' h1' hroom (by rw[hl,hcs,←Nat.add_mul];exact Nat.mul_le_mul_right _ hroom)
      rw[hr2] at hr
      simp only[Result.ok.injEq] at hr
      obtain⟨rfl,_⟩:=hr
      intro k hk
      exact .inl hk
    · have holds:∀j u,xs[j]?=some u→w.cell? ((⟨g,0,none⟩:Addr).add j)=some u:=hown.cells (g:=g) rfl
      have hr2:=run_append_grow (P:=P) w t ty e i z E.und hi hz ⟨g,0,none⟩ n cap' xs hl2 holds ad m cap news hl hc' (by omega) (by omega) (growslice_fits (by omega) (by subst hby;exact hbytes))
      rw[hr2] at hr
      simp only[Result.ok.injEq] at hr
      obtain⟨rfl,_⟩:=hr
      intro k hk
      simp[Value.ownBlock] at hk
      exact .inr (by omega)
theorem Ea {P:Program} {t e:TypeId} {z:Value} {size bytes:Nat} (E:ET P t e z size bytes) {w:World} {ops:Array Oper} {rest:List Oper} {o:Oper} {a:Act} {Q:Exit→Act→World→Prop}
  (hgd:o.guard=none) (s x:Operand) (ho:o.op=.call { callee:=.builtin .append,args:=#[s,x],argTypes:=#[t,t] })
  (v:Value) (n:Nat) (xs:List Value) (hs:a.eval s=v) (hown:Own w e size v n xs)
  (sv:Value) (m:Nat) (news:List Value) (hx:a.eval x=sv) (hsl:Sl w size sv m news) (h1:news.all Value.oneCell'=true) (h63:n+m≤1099511627776)
  (h:∀v' w',Own w' e size v' (n+m) (xs++news)→Step w v w' v'→wpList P ops Q rest (a.put o.dst v') w') :
  wpList P ops Q (o::rest) a w:=by
 refine wpList_plain hgd fun K hK=>?_
 obtain⟨v',w',hr,h2,h3⟩:=Wo E o.type hown hsl h1 h63
 unfold Oper.wp execOp
 simp only[ho,resolve,invoke,builtin,Sem.run_bind,Sem.run_pure,Result.andThen_ok,List.map_toArray,List.map_cons,List.map_nil,hs,hx,hr]
 exact hK _ _ (h v' w' h2 h3)
theorem Ix {P:Program} {t e:TypeId} {z:Value} {size bytes:Nat} (E:ET P t e z size bytes) {w:World} {ops:Array Oper} {rest:List Oper} {o:Oper} {a:Act} {Q:Exit→Act→World→Prop}
  (hgd:o.guard=none) (s x:Operand) (ho:o.op=.call { callee:=.builtin .append,args:=#[s,x],argTypes:=#[t,t] })
  (v:Value) (n:Nat) (xs:List Value) (hs:a.eval s=v) (hown:Own w e size v n xs)
  (c:List Value) (m:Nat) (hx:a.eval x=.slice (some ⟨w.heap.size,0,none⟩) m m) (hl:c.length=m*size) (h1:c.all Value.oneCell'=true)
  (h63:n+m≤1099511627776)
  (h:∀v' w',Own w' e size v' (n+m) (xs++c)→Step w v w' v'→wpList P ops Q rest (a.put o.dst v') w') :
  wpList P ops Q (o::rest) a (w.alloc (.cells c.toArray e)):=by
 refine Ea E hgd s x ho v n xs hs (hown.alloc _) _ m c hx ⟨hl,some ⟨w.heap.size,0,none⟩,m,rfl,Nat.le_refl _,by unfold maxLen;omega,fun h=>(by cases h),fun ad had=>?_⟩ h1 h63 fun v' w' h2 h3=>h v' w' h2 h3.alloc
 obtain rfl:=Option.some.inj had
 refine⟨fun _=>rfl,fun j u hu=>?_⟩
 rw[Nat.zero_add,World.cell?_alloc_at _ _ _ _ rfl]
 simpa using hu
def Vz (u:Nat):List Nat:=if u<128 then [u] else (u%128+128)::Vz (u/128)
termination_by u
decreasing_by omega
def zig (n:Int):Nat:=if n<0 then (-2*n-1).toNat else (2*n).toNat
def enc (n:Int):List Nat:=Vz (zig n)
end
section
open Go.RowKit
structure Sp where
 on:World→Value→Prop
 mono:∀w w' v,w.grownBy w' none→on w v→on w' v
def Sp.is (v:Value):Sp:=⟨fun _ x=>x=v,fun _ _ _ _ h=>h⟩
def Sp.any:Sp:=⟨fun _ _=>True,fun _ _ _ _ h=>h⟩
def At (L:List Sp) (t:Nat) (w:World) (v:Value):Prop:=(L.getD t Sp.any).on w v
def OpSays (P:Program) (ops:Array Oper) (o:Oper) (a:Act) (w:World) (R:Value→World→Prop):Prop:=
 if Region.wanted o (yielded ops a.tmps) then
  match (execOp a.eval o).run P w with
  | .ok (.value v) w'=>R v w'
  | .ok .skip w'=>R undef w'
  | .ok (.enter f args) w'=>Calls P f args w' fun e w''=>∃v,e=.returned v∧R v w''
  | _=>False
 else R undef w
theorem OpSays.wpOp {P:Program} {ops:Array Oper} {Q:Exit→Act→World→Prop} {i:Nat} {o:Oper} {a:Act} {w:World} {R:Value→World→Prop} {K:Act→World→Prop} (hi:ops[i]?=some o)
   (h:OpSays P ops o a w R) (hk:∀v w',R v w'→K (a.put o.dst v) w'):wpOp P ops Q i K a w:=by
 unfold Go.wpOp
 simp only[hi]
 unfold OpSays at h
 split
 · rename_i hw
   rw[if_pos hw] at h
   refine .inl ?_
   unfold Oper.wp
   generalize (execOp a.eval o).run P w=r at *
   cases r with
   | ok n w' =>
    cases n<;>simp only[Oper.upon] at h ⊢
    all_goals first
     | exact h.elim
     | exact hk _ _ h
     | exact h.mono fun e w'' ⟨v,he,hr⟩=>by subst he;exact hk _ _ hr
   | halt x w'=>cases x<;>exact h.elim
 · rename_i hw
   rw[if_neg hw] at h
   exact hk _ _ h
def AIx (ops:Array Oper) (n:Nat):Bool:=
 (List.range ops.size).all fun i=>match ops[i]? with
  | none=>true
  | some o =>
   (o.after.toList.all fun e=>decide (e.on<i)) &&
   (match o.dst with|none=>true|some d=>decide (d<n)) &&
   (List.range ops.size).all fun j=>match ops[j]? with
    | none=>true
    | some oj=>match oj.dst with
     | none=>true
     | some d=>(i == j||o.dst != some d)&&(!(o.looksAt ops).contains d||o.after.toList.any fun e=>e.on == j&&Region.binds .any e)
theorem WA {ops:Array Oper} {n:Nat} (h:AIx ops n=true) {i:Nat} {o:Oper} (hi:ops[i]?=some o) :
   (∀e∈o.after.toList,e.on<i)∧(∀d,o.dst=some d→d<n) ∧
   (∀j oj d,ops[j]?=some oj→oj.dst=some d→(i=j∨o.dst≠some d)∧(d∈o.looksAt ops→∃e∈o.after.toList,e.on=j∧Region.binds .any e=true)):=by
 have hlt:i<ops.size:=(Array.getElem?_eq_some_iff.1 hi).1
 have h1:=List.all_eq_true.1 h i (List.mem_range.2 hlt)
 simp only[hi,Bool.and_eq_true] at h1
 obtain⟨⟨h2,h3⟩,h4⟩:=h1
 refine⟨fun e he=>by simpa using List.all_eq_true.1 h2 e he,fun d hd=>by simpa [hd] using h3,fun j oj d hj hd=>?_⟩
 have hjl:j<ops.size:=(Array.getElem?_eq_some_iff.1 hj).1
 have h5:=List.all_eq_true.1 h4 j (List.mem_range.2 hjl)
 simp only[hj,hd,Bool.and_eq_true,Bool.or_eq_true,beq_iff_eq,bne_iff_ne,Bool.not_eq_true'] at h5
 refine⟨h5.1,fun hl=>?_⟩
 rcases h5.2 with h6|h6
 · rw[List.contains_iff_mem.2 hl] at h6;cases h6
 · obtain⟨e,he,h7⟩:=List.any_eq_true.1 h6
   simp only[Bool.and_eq_true,beq_iff_eq] at h7
   exact⟨e,he,h7⟩
theorem Fq (a:Act) (d:Option Tmp) (v:Value) (t:Nat) (hd:∀k,d=some k→k<a.tmps.size):(a.put d v).tmps.getD t undef=if d=some t then v else a.tmps.getD t undef:=by
 cases d with
 | none=>simp[Act.put]
 | some k =>
  have hk:=hd k rfl
  simp only[Act.put,Option.some.injEq,Array.getD_eq_getD_getElem?,Array.getElem?_setIfInBounds]
  by_cases e:k=t
  · subst e;simp[hk]
  · simp[e]
end
section
open Go.RowKit
def bs (l:List Nat):ByteArray:=⟨(l.map fun n=>UInt8.ofNat n).toArray⟩
def GOK (ops:Array Oper) (L:List Sp) (n:Nat):Option (Nat×Bool)→Prop
 | none=>True
 | some (g,b)=>∃t,(ops[g]?).bind (·.dst)=some t∧t<n∧∀w v,At L t w v→v=.bool b
end
section
open Go.RowKit
def OG (P:Program) (ops:Array Oper) (L:Nat→World→Value→Prop) (J:World→Prop) (D:Nat→World→Prop) (n i:Nat) (o:Oper):Prop:=
 ∀(a:Act) w,J w→(∀t∈o.looksAt ops,t<n→L t w (a.tmps.getD t undef))→a.tmps.size=n →
  OpSays P ops o a w fun v w'=>J w'∧(∀t x,L t w x→L t w' x)∧(∀j,j≠i→D j w→D j w')∧D i w'∧∀d,o.dst=some d→L d w' v
def OGAll (P:Program) (ops:Array Oper) (L:Nat→World→Value→Prop) (J:World→Prop) (D:Nat→World→Prop) (n:Nat):Nat→List Oper→Prop
 | _,[]=>True
 | i,o::l=>OG P ops L J D n i o∧OGAll P ops L J D n (i+1) l
theorem OGAll.at {P:Program} {ops:Array Oper} {L:Nat→World→Value→Prop} {J:World→Prop} {D:Nat→World→Prop} {n:Nat}:∀{l:List Oper} {k:Nat},OGAll P ops L J D n k l→∀(i:Nat) (o:Oper),l[i]?=some o→OG P ops L J D n (k+i) o
 | [],_,_,i,o,hi=>by simp at hi
 | x::l,k,h,0,o,hi=>by simp at hi;subst hi;exact h.1
 | x::l,k,h,i+1,o,hi=>by
  have:=OGAll.at h.2 i o (by simpa using hi)
  rwa [show k+1+i=k+(i+1) by omega] at this
def GOKG (ops:Array Oper) (L:Nat→World→Value→Prop) (n:Nat):Option (Nat×Bool)→Prop
 | none=>True
 | some (g,b)=>∃t,(ops[g]?).bind (·.dst)=some t∧t<n∧∀w v,L t w v→v=.bool b
theorem GOKG.wanted {ops:Array Oper} {L:Nat→World→Value→Prop} {n:Nat} {o:Oper} {a:Act} {w:World} (h:GOKG ops L n o.guard) (hl:∀t∈o.looksAt ops,t<n→L t w (a.tmps.getD t undef)) (hs:a.tmps.size=n) :
  Region.wanted o (yielded ops a.tmps)=true:=by
 unfold Region.wanted
 cases hg:o.guard with
 | none=>rfl
 | some p =>
  obtain⟨g,b⟩:=p
  rw[hg] at h
  obtain⟨t,ht,htn,hv⟩:=h
  have hv:=hv w _ (hl t (by simp[Oper.looksAt,hg,ht]) htn)
  have htl:t<a.tmps.size:=hs▸htn
  rw[Array.getD_eq_getD_getElem?,Array.getElem?_eq_getElem htl,Option.getD_some] at hv
  simp[yielded,ht,Array.getElem?_eq_getElem htl,hv]
end
section
open Go.RowKit
def ptr (b:Nat):Value:=.pointer (some ⟨b,0,none⟩)
theorem AF {w w':World} {g:Nat} {o:Obj} {row:Option Nat} (hg:w.grownBy w' row) (h:w.heap[g]?=some o) (hne:some g≠row):w'.heap[g]?=some o:=
 (hg.block g (Array.getElem?_eq_some_iff.1 h).1 hne).trans h
structure TY (P:Program) (T:TypeId) (cs:List Value) (v:Value):Prop where
 size:(P.info? T).map (·.size)=some cs.length
 cells:v.cells=cs.toArray
 one:∀c∈cs,c.oneCell'=true
 load:∀(w:World) (b o:Nat),w.rangeAt b o cs→(loadVar T ⟨b,o,none⟩).run P w=.ok v w
theorem TY.agg {P:Program} {T:TypeId} {cs:List Value} {d:TypeDesc} (hu:P.underlying T=some d) (hd:d.isRow=true) (hi:(P.info? T).map (·.size)=some cs.length) (h1:∀c∈cs,c.oneCell'=true):TY P T cs (.agg cs.toArray):=
 ⟨hi,rfl,h1,fun w b o hr=>run_loadVar_mid w b o T cs d hr hu hd hi⟩
theorem TY.one' {P:Program} {T:TypeId} {v:Value} {d:TypeDesc} (hu:P.underlying T=some d) (hd:d.isRow=false) (hi:(P.info? T).map (·.size)=some 1) (h1:v.oneCell'=true):TY P T [v] v:=by
 refine⟨hi,by cases v<;>first|rfl|(cases h1),by simpa using h1,fun w b o hr=>?_⟩
 have hc:w.cell? ⟨b,o,none⟩=some v:=hr 0 v rfl
 have hagg:(isAgg T).run P w=.ok false w:=by
  unfold isAgg
  rw[Sem.run_bind,run_underlying hu w]
  cases d<;>simp_all
 simp[loadVar,Sem.run_bind,hagg,run_load,hc]
theorem Av {w:World} {b:Nat} {cs:List Value} {t:TypeId} {fr:Nat×Nat} (h:w.heap[b]?=some (.cells cs.toArray t fr)):w.rangeAt b 0 cs:=fun j v hj=>by
 rw[Nat.zero_add,AOS w b j _ t fr h]
 simpa using hj
theorem TY.loads {P:Program} {T:TypeId} {cs:List Value} {v:Value} (h:TY P T cs v) {w:World} {b:Nat} {t:TypeId} {fr:Nat×Nat} (hb:w.heap[b]?=some (.cells cs.toArray t fr)):(Instr.loadAt T (ptr b)).run P w=.ok v w:=by
 simp only[Instr.loadAt,ptr,Instr.sureAddr,Sem.run_bind,Sem.run_pure,Result.andThen_ok,h.load w b 0 (Av hb)]
theorem Dw (b:Nat):∀(vs:List Value) (o:Nat) (w:World),w.grownBy (w.setCells b o vs) (some b)
 | [],_,w=>World.grownBy.refl _ _
 | v::r,o,w=>by
  rw[World.setCells]
  exact AA (BE w ⟨b,o,none⟩ v) (Dw b r (o+1) _)
theorem Ln (b:Nat) (t:TypeId):∀(vs:List Value) (o:Nat) (w:World) (FM post:List Value),o=FM.length→vs.length=post.length→w.heap[b]?=some (.cells (FM++post).toArray t (0,0)) →
  (w.setCells b o vs).heap[b]?=some (.cells (FM++vs).toArray t (0,0))
 | [],_,w,FM,post,_,hl,h=>by
  obtain rfl:post=[]:=List.eq_nil_of_length_eq_zero (by simpa using hl.symm)
  exact h
 | v::r,o,w,FM,[],_,hl,_=>by simp at hl
 | v::r,o,w,FM,x::post,ho,hl,h=>by
  rw[World.setCells]
  have:=heap_setCell_same w b o _ t v h
  have e:((FM++x::post).toArray.setIfInBounds o v)=((FM++[v])++post).toArray:=by
   subst ho
   simp
  rw[e] at this
  have:=Ln b t r (o+1) _ (FM++[v]) post (by simp[ho]) (by simpa using hl) this
  simpa using this
theorem TY.stores {P:Program} {T:TypeId} {cs:List Value} {v:Value} (h:TY P T cs v) {w:World} {b:Nat} {t:TypeId} {c0:Array Value} (hb:w.heap[b]?=some (.cells c0 t (0,0))) (hc:c0.size=cs.length) :
   (Instr.storeAt T (ptr b) v).run P w=.ok () (w.setCells b 0 cs)∧w.grownBy (w.setCells b 0 cs) (some b)∧(w.setCells b 0 cs).heap[b]?=some (.cells cs.toArray t (0,0)):=by
 refine⟨?_,Dw b cs 0 w,?_⟩
 · have:=run_storeCells_cells (P:=P) b 0 cs 0 w (fun j hj=>by
    rw[AOS w b _ _ t _ hb]
    have hj':j<c0.size:=by omega
    simp[hj']) (fun j hj=>AOV w b _ _ t hb) h.one
   simp only[Instr.storeAt,ptr,Instr.sureAddr,Sem.run_bind,Sem.run_pure,Result.andThen_ok]
   have hs:=h.size
   cases hq:P.info? T with
   | none=>simp[hq] at hs
   | some i =>
    have hs':i.size=cs.length:=by simpa [hq] using hs
    simp only[Nat.add_zero] at this
    simp[storeVar,sizeOf,typeInfo,hq,h.cells,hs',this]
 · exact Ln b t cs 0 w [] c0.toList rfl (by simpa using hc.symm) (by simpa using hb)
end
theorem AZ {v:World} {R:Nat} {cs:Array Value} {t:TypeId} {fr:Nat×Nat} (i:Nat) (x:Int) (h:v.heap[R]?=some (.cells cs t fr)) (hx:cs[i]?=some (.int .u64 x)):v.cell? ⟨R,i,none⟩=some (.int .u64 x):=(AOS _ _ _ _ _ _ h).trans hx
theorem Ax {v:World} {R:Nat} {cs:Array Value} {t:TypeId} (i:Nat) (h:v.heap[R]?=some (.cells cs t (0,0))):v.frozen? ⟨R,i,none⟩=false:=AOV _ _ _ _ _ h
section
open Go.RowKit
theorem Ls {w:World} {b:Nat} {t:TypeId} (C:List Value) (o:Nat) (vs:List Value) (h:w.heap[b]?=some (.cells C.toArray t (0,0))) (ho:o+vs.length≤C.length) :
  (w.setCells b o vs).heap[b]?=some (.cells (C.take o++(vs++C.drop (o+vs.length))).toArray t (0,0)):=by
 have key:∀(vs:List Value) (o:Nat) (w:World) (FM mid post:List Value),o=FM.length→vs.length=mid.length→w.heap[b]?=some (.cells (FM++(mid++post)).toArray t (0,0)) →
   (w.setCells b o vs).heap[b]?=some (.cells (FM++(vs++post)).toArray t (0,0)):=by
  intro vs
  induction vs with
  | nil =>
   intro o w FM mid post _ hl h
   obtain rfl:mid=[]:=List.eq_nil_of_length_eq_zero (by simpa using hl.symm)
   exact h
  | cons v r ih =>
   intro o w FM mid post ho hl h
   cases mid with
   | nil=>simp at hl
   | cons x mid =>
    rw[World.setCells]
    have:=heap_setCell_same w b o _ t v h
    have e:((FM++(x::mid++post)).toArray.setIfInBounds o v)=((FM++[v])++(mid++post)).toArray:=by
     subst ho
     simp
    rw[e] at this
    have:=ih (o+1) _ (FM++[v]) mid post (by simp[ho]) (by simpa using hl) this
    simpa using this
 refine key vs o w (C.take o) ((C.drop o).take vs.length) (C.drop (o+vs.length)) (by simp;omega) (by simp;omega) ?_
 rw[←List.drop_drop,List.take_append_drop,List.take_append_drop]
 exact h
theorem AE6 {w:World} {b:Nat} {C:Array Value} {t:TypeId} {fr:Nat×Nat} (h:w.heap[b]?=some (.cells C t fr)) (o:Nat) (l:List Value) (hd:(C.toList.drop o).take l.length=l):w.rangeAt b o l:=fun j v hj=>by
 rw[AOS w b _ _ t fr h]
 have hjl:=(List.getElem?_eq_some_iff.1 hj).1
 rw[←hd] at hj
 rw[List.getElem?_take,if_pos hjl,List.getElem?_drop] at hj
 simpa using hj
theorem Dc {P:Program} {ops:Array Oper} {rest:List Oper} {o:Oper} {a:Act} {w:World} {Q:Exit→Act→World→Prop} (hgd:o.guard=none) (T:TypeId) (x y:Operand) (ho:o.op=.store T x y)
  {b k:Nat} {cs C:List Value} {v:Value} {t:TypeId} (hx:a.eval x=.pointer (some ⟨b,k,none⟩)) (hy:a.eval y=v) (ty:TY P T cs v) (hb:w.heap[b]?=some (.cells C.toArray t (0,0))) (hc:k+cs.length≤C.length)
  (h:∀w',w.grownBy w' (some b)→w'.heap[b]?=some (.cells (C.take k++(cs++C.drop (k+cs.length))).toArray t (0,0))→wpList P ops Q rest (a.put o.dst undef) w'):wpList P ops Q (o::rest) a w:=by
 refine wpList_plain hgd fun K hK=>?_
 have hl:(Instr.storeAt T (.pointer (some ⟨b,k,none⟩)) v).run P w=.ok () (w.setCells b k cs):=by
  have:=run_storeCells_cells (P:=P) b k cs 0 w (fun j hj=>by
   rw[AOS w b _ _ t _ hb]
   have hj':k+j<C.length:=by omega
   simp[hj']) (fun j hj=>AOV w b _ _ t hb) ty.one
  simp only[Instr.storeAt,Instr.sureAddr,Sem.run_bind,Sem.run_pure,Result.andThen_ok]
  have hs:=ty.size
  cases hq:P.info? T with
  | none=>simp[hq] at hs
  | some i =>
   have hs':i.size=cs.length:=by simpa [hq] using hs
   simp only[Nat.add_zero] at this
   simp[storeVar,sizeOf,typeInfo,hq,ty.cells,hs',this]
 unfold Oper.wp execOp
 simp only[ho,hx,hy,Sem.run_bind,Sem.run_pure,Result.andThen_ok,hl]
 exact hK _ _ (h _ (Dw b cs k w) (Ls C k cs hb hc))
theorem EH {P:Program} {ops:Array Oper} {rest:List Oper} {o:Oper} {a:Act} {w:World} {Q:Exit→Act→World→Prop} (hgd:o.guard=none) (T:TypeId) (x:Operand) (ho:o.op=.load T x)
  {b k:Nat} {cs:List Value} {v:Value} (hx:a.eval x=.pointer (some ⟨b,k,none⟩)) (ty:TY P T cs v) (hr:w.rangeAt b k cs)
  (h:wpList P ops Q rest (a.put o.dst v) w):wpList P ops Q (o::rest) a w:=by
 refine wpList_plain hgd fun K hK=>?_
 have hl:=ty.load w b k hr
 unfold Oper.wp execOp
 simp only[ho,hx,Instr.loadAt,Instr.sureAddr,Sem.run_bind,Sem.run_pure,Result.andThen_ok,hl]
 exact hK _ _ h
theorem CP {P:Program} {ops:Array Oper} {rest:List Oper} {o:Oper} {a:Act} {w:World} {Q:Exit→Act→World→Prop} (hgd:o.guard=none) (T:TypeId) (x:Operand) (ho:o.op=.load T x)
  {b:Nat} {cs:List Value} {v:Value} {t:TypeId} {fr:Nat×Nat} (hx:a.eval x=.pointer (some ⟨b,0,none⟩)) (ty:TY P T cs v) (hb:w.heap[b]?=some (.cells cs.toArray t fr))
  (h:wpList P ops Q rest (a.put o.dst v) w):wpList P ops Q (o::rest) a w:=by
 refine wpList_plain hgd fun K hK=>?_
 have hl:=ty.loads hb
 unfold ptr at hl
 unfold Oper.wp execOp
 simp only[ho,hx,Sem.run_bind,Sem.run_pure,Result.andThen_ok,hl]
 exact hK _ _ h
theorem Jp {P:Program} {ops:Array Oper} {rest:List Oper} {o:Oper} {a:Act} {w:World} {Q:Exit→Act→World→Prop} (hgd:o.guard=none) (T:TypeId) (x y:Operand) (ho:o.op=.store T x y)
  {b:Nat} {cs:List Value} {c0:Array Value} {v:Value} {t:TypeId} (hx:a.eval x=.pointer (some ⟨b,0,none⟩)) (hy:a.eval y=v) (ty:TY P T cs v) (hb:w.heap[b]?=some (.cells c0 t (0,0))) (hc:c0.size=cs.length)
  (h:wpList P ops Q rest (a.put o.dst undef) (w.setCells b 0 cs)):wpList P ops Q (o::rest) a w:=by
 refine wpList_plain hgd fun K hK=>?_
 have hl:=(ty.stores hb hc).1
 unfold ptr at hl
 unfold Oper.wp execOp
 simp only[ho,hx,hy,Sem.run_bind,Sem.run_pure,Result.andThen_ok,hl]
 exact hK _ _ h
theorem AY {P:Program} {ops:Array Oper} {rest:List Oper} {o:Oper} {a:Act} {w:World} {Q:Exit→Act→World→Prop} (hgd:o.guard=none) (T:TypeId) (x y:Operand) (ho:o.op=.store T x y)
  {b:Nat} {cs:List Value} {c0:Array Value} {v:Value} {t:TypeId} (hx:a.eval x=.pointer (some ⟨b,0,none⟩)) (hy:a.eval y=v) (ty:TY P T cs v) (hb:w.heap[b]?=some (.cells c0 t (0,0))) (hc:c0.size=cs.length)
  (h:∀w',w.grownBy w' (some b)→w'.heap[b]?=some (.cells cs.toArray t (0,0))→wpList P ops Q rest (a.put o.dst undef) w'):wpList P ops Q (o::rest) a w:=
 Jp hgd T x y ho hx hy ty hb hc (h _ (ty.stores hb hc).2.1 (ty.stores hb hc).2.2)
theorem AE {a b c:World} {R:Nat} (h:a.grownBy b none) (k:b.grownBy c (some R)) (hR:a.heap.size≤R):a.grownBy c none:=
 ⟨k.os.trans h.os,k.tape.trans h.tape,k.output.trans h.output,Nat.le_trans h.size k.size,fun i hi _ =>
  (k.block i (Nat.lt_of_lt_of_le hi h.size) (by simp;omega)).trans (h.block i hi (by simp))⟩
theorem CU {P:Program} {fn:Func} {p:Tmp} {T:TypeId} (h:fn.results=#[.cell p T]) {a:Act} {w:World} {b:Nat} {cs:List Value} {v:Value} {u:TypeId} {fr:Nat×Nat} {R:Ending→World→Prop}
  (hp:a.tmps.getD p undef=ptr b) (t:TY P T cs v) (hb:w.heap[b]?=some (.cells cs.toArray u fr)) (hd:a.defers=[]) (hR:R (.returned v) w):bodyPost P fn R .ret a w:=by
 have e:=t.load w b 0 (Av hb)
 have hp':a.tmps[p]?.getD undef=.pointer (some ⟨b,0,none⟩):=by simpa [ptr] using hp
 exact bodyPost_ret (v:=v) (by simp[results,h,hp',asAddr,e]) hd hR
theorem Own.kn {w w':World} {e:TypeId} {sz:Nat} {v:Value} {n:Nat} {xs:List Value} (h:Own w e sz v n xs) (hg:w.grownBy w' Option.none):Own w' e sz v n xs:=h.kept hg (by cases v.ownBlock<;>simp)
theorem Own.past {w w':World} {e T:TypeId} {sz:Nat} {v:Value} {n:Nat} {xs:List Value} {A:Nat} {c:Array Value} {fr:Nat×Nat} (h:Own w e sz v n xs) (g:w.grownBy w' (some A)) (hA:w.heap[A]?=some (.cells c T fr)) (hne:e≠T):Own w' e sz v n xs:=
 h.kept g (.inr (Own.ne h hA hne))
theorem Cz (w:World):w.grownBy w.drew none:=⟨rfl,rfl,rfl,Nat.le_refl _,fun _ _ _=>rfl⟩
theorem Own.block {w:World} {base:Nat} {e:TypeId} {sz:Nat} {v:Value} {n:Nat} {xs:List Value} (h:w.ownsRow base e sz v n xs) {b:Nat} (hb:v.ownBlock=some b):∃c fr,w.heap[b]?=some (.cells c e fr):=by
 rcases h.2 with ⟨rfl,_⟩|⟨g,cap,cur,rfl,_,hg,_⟩
 · simp[Value.ownBlock] at hb
 · simp[Value.ownBlock] at hb
   subst hb
   exact⟨_,_,hg⟩
theorem Own.apart {w:World} {e e':TypeId} {sz sz':Nat} {v u:Value} {n m:Nat} {xs ys:List Value} (h:Own w e sz v n xs) (k:Own w e' sz' u m ys) (hne:e≠e'):v.ownBlock=none∨v.ownBlock≠u.ownBlock:=by
 cases hv:v.ownBlock with
 | none=>exact .inl rfl
 | some b =>
  refine .inr fun e=>?_
  obtain⟨c,fr,hb⟩:=Own.block h hv
  exact Own.ne k hb (fun e=>hne e.symm) e.symm
end
section
open Go.RowKit
theorem Ho {P:Program} {f:Nat} {fn:Func} {c:Code} (hf:P.funcs[f]?=some fn) (hname:(fn.name == "runtime.NumGoroutine")=false) (hb:fn.body=some c) :
  ∀(av:Array Value) (w:World),((Deferred.ofValue (.func (.func f) #[] #[]) av).run P w).andThen (fun a w'=>(invoke a.target a.args).run P w')=.ok (.enter f av) w:=by
 intro av w
 have h1:fn.name≠"runtime.NumGoroutine":=by simpa using hname
 simp[Deferred.ofValue,invoke,callFunc,hf,h1,hb]
theorem JP {P:Program} {t e:TypeId} {z:Value} {size bytes:Nat} (E:ET P t e z size bytes) {w:World} {ops:Array Oper} {rest:List Oper} {o:Oper} {a:Act} {Q:Exit→Act→World→Prop}
  (hgd:o.guard=none) (s x:Operand) (ho:o.op=.call { callee:=.builtin .append,args:=#[s,x],argTypes:=#[t,t] })
  (v:Value) (n:Nat) (xs:List Value) (hs:a.eval s=v) (hown:Own w e size v n xs)
  (c:List Value) (m H:Nat) (hH:H=w.heap.size) (hx:a.eval x=.slice (some ⟨H,0,none⟩) m m) (hl:c.length=m*size) (h1:c.all Value.oneCell'=true)
  (h63:n+m≤1099511627776)
  (h:∀v' w',Own w' e size v' (n+m) (xs++c)→Step w v w' v'→wpList P ops Q rest (a.put o.dst v') w') :
  wpList P ops Q (o::rest) a (w.alloc (.cells c.toArray e)):=by
 subst hH
 exact Ix E hgd s x ho v n xs hs hown c m hx hl h1 h63 h
end
section
open Go.RowKit
abbrev wi (x:BitVec 64):Int:=(x.toNat:Int)
theorem AMH (x:BitVec 64):0≤wi x∧wi x<18446744073709551616:=⟨Int.natCast_nonneg _,by have:=x.isLt;unfold wi;omega⟩
theorem LN (x:BitVec 64):BitVec.ofInt 64 (wi x)=x:=by
 apply BitVec.eq_of_toNat_eq
 rw[BitVec.toNat_ofInt]
 have:=x.isLt
 unfold wi
 omega
theorem Lu (n:Nat):IntKind.u64.wrap (n:Int)=wi (BitVec.ofNat 64 n):=by
 rw[IntKind.wrap_u64]
 unfold wi
 rw[BitVec.toNat_ofNat]
 omega
theorem W0 (x:BitVec 64):IntKind.u64.wrap (wi x)=wi x:=by
 rw[IntKind.wrap_u64]
 have:=AMH x
 omega
theorem Jl (x y:BitVec 64):bits .xor .u64 (wi x) (wi y)=wi (x ^^^ y):=by
 have e:bits .xor .u64 (wi x) (wi y)=IntKind.u64.wrap (((BitVec.ofInt 64 (wi x)) ^^^ (BitVec.ofInt 64 (wi y))).toNat:Int):=rfl
 rw[e,LN,LN,W0]
theorem AGa (x y:BitVec 64):bits .and .u64 (wi x) (wi y)=wi (x &&& y):=by
 have e:bits .and .u64 (wi x) (wi y)=IntKind.u64.wrap (((BitVec.ofInt 64 (wi x)) &&& (BitVec.ofInt 64 (wi y))).toNat:Int):=rfl
 rw[e,LN,LN,W0]
theorem Wr (x y:BitVec 64):bits .or .u64 (wi x) (wi y)=wi (x ||| y):=by
 have e:bits .or .u64 (wi x) (wi y)=IntKind.u64.wrap (((BitVec.ofInt 64 (wi x)) ||| (BitVec.ofInt 64 (wi y))).toNat:Int):=rfl
 rw[e,LN,LN,W0]
theorem ACV (x:BitVec 64) (s:Nat):IntKind.u64.wrap (wi x*2^s)=wi (x <<< s):=by
 have e:wi x*2^s=((x.toNat*2^s:Nat):Int):=by unfold wi;push_cast;rfl
 rw[e,Lu]
 congr 1
 apply BitVec.eq_of_toNat_eq
 rw[BitVec.toNat_ofNat,BitVec.toNat_shiftLeft,Nat.shiftLeft_eq]
theorem ACW (x:BitVec 64) (s:Nat):wi x/2^s=wi (x >>> s):=by
 unfold wi
 rw[BitVec.toNat_ushiftRight,Nat.shiftRight_eq_div_pow]
 push_cast
 rfl
def rot (x:BitVec 64) (k:Nat):BitVec 64:=(x >>> k) ||| (x <<< (64-k))
def Wq (x:BitVec 64) (a b:Nat):BitVec 64:=x ^^^ rot x a ^^^ rot x b
theorem Zd (x:BitVec 64) (k:Int) (s:Nat) (hs:s<64) (hk:bits .and .u64 (IntKind.u64.wrap k) 63=(s:Int)) (w:World):Calls Tryz.prog 161 #[.int .u64 (wi x),.int .i64 k] w fun e w'=>e=.returned (.int .u64 (wi (rot x (64-s))))∧w'=w:=by
 have e:bits .or .u64 (IntKind.u64.wrap (wi x*2^s)) (wi x/2^(64-s))=wi (rot x (64-s)):=by
  rw[ACV,ACW,Wr]
  unfold rot
  rw[BitVec.or_comm]
  congr 3
  omega
 have HE:=AK e
 clear e
 generalize wi x=X at *
 go_enter Tryz.func161,Tryz.ntmps161
 go_wp2
 go_ret
 rw[HE.out]
 exact⟨rfl,rfl⟩
theorem UL:bits .and .u64 (IntKind.u64.wrap (-19)) 63=((45:Nat):Int)∧bits .and .u64 (IntKind.u64.wrap (-28)) 63=((36:Nat):Int)∧bits .and .u64 (IntKind.u64.wrap (-61)) 63=((3:Nat):Int)∧bits .and .u64 (IntKind.u64.wrap (-39)) 63=((25:Nat):Int)∧bits .and .u64 (IntKind.u64.wrap (-1)) 63=((63:Nat):Int)∧bits .and .u64 (IntKind.u64.wrap (-6)) 63=((58:Nat):Int)∧bits .and .u64 (IntKind.u64.wrap (-10)) 63=((54:Nat):Int)∧bits .and .u64 (IntKind.u64.wrap (-17)) 63=((47:Nat):Int)∧bits .and .u64 (IntKind.u64.wrap (-7)) 63=((57:Nat):Int)∧bits .and .u64 (IntKind.u64.wrap (-41)) 63=((23:Nat):Int):=by decide +kernel
theorem ACT (x:BitVec 64) (a b:Int) (s t:Nat) (hs:s<64) (ht:t<64) (ha:-64 < -a∧-a<0) (hb:-64 < -b∧-b<0) (h1:bits .and .u64 (IntKind.u64.wrap (-a)) 63=(s:Int)) (h2:bits .and .u64 (IntKind.u64.wrap (-b)) 63=(t:Int)) (w:World) :
  Calls Tryz.prog 157 #[.int .u64 (wi x),.int .i64 a,.int .i64 b] w fun e w'=>e=.returned (.int .u64 (wi (Wq x (64-s) (64-t))))∧w'=w:=by
 have H1:=AK h1
 have H2:=AK h2
 clear h1 h2
 have e:bits .xor .u64 (bits .xor .u64 (wi x) (wi (rot x (64-s)))) (wi (rot x (64-t)))=wi (Wq x (64-s) (64-t)):=by rw[Jl,Jl];rfl
 have HE:=AK e
 clear e
 go_enter Tryz.func157,Tryz.ntmps157
 go_wp2_with fail
 refine(Zd x (-a) s hs H1.out w).mono ?_
 rintro e w1 ⟨rfl,rfl⟩
 go_wp2_with fail
 refine(Zd x (-b) t ht H2.out _).mono ?_
 rintro e w1 ⟨rfl,rfl⟩
 go_wp2
 go_ret
 exact⟨by rw[HE.out];rfl,rfl⟩
end
section
open Go.RowKit
theorem CI (w:World) (n:Nat):w.grownBy (w.drewN n) none:=⟨rfl,rfl,rfl,Nat.le_refl _,fun _ _ _=>rfl⟩
section
variable {P:Program} {ops:Array Oper} {md:Region.Mode} {C:World→Prop}
def NM (P:Program) (md:Region.Mode) (ops:Array Oper) (C:World→Prop) (n:Nat) (L:Array Bool→Act→Prop):Nat→Array Bool→Act→Prop
 | 0,listed,a=>L listed a
 | f+1,listed,a =>
  Region.ready md ops listed≠[]∧∀i∈Region.ready md ops listed,i<n∧qOp P ops C i (NM P md ops C n L f (listed.setIfInBounds i true)) a
theorem Hp {n g:Nat} {L:Array Bool→Act→Prop} {Q':Exit→Act→World→Prop} (hL:∀listed a w,C w→L listed a→wpAny P md ops Q' g listed a w) :
  ∀(f:Nat) (listed:Array Bool) (a:Act) (w:World),C w→NM P md ops C n L f listed a→wpAny P md ops Q' (f+g) listed a w
 | 0,listed,a,w,hw,h=>by rw[Nat.zero_add];exact hL _ _ _ hw h
 | f+1,listed,a,w,hw,h=>by
  rw[show f+1+g=(f+g)+1 by omega]
  exact⟨fun h0=>absurd h0 h.1,fun i hi=>wpOp_of_qOp hw (fun a' w' hw' h'=>Hp hL f _ a' w' hw' h') (h.2 i hi).2⟩
theorem UO {n i:Nat} {oi:Oper} {v:Value} {L:Array Bool→Act→Prop} (hi:ops[i]?=some oi) (hsel:∀(j:Nat) (o:Oper) cs b,ops[j]?=some o→o.op≠.select cs b)
  (hs:Region.sinkB md ops n=true) (hc:Region.chainB md ops n=true) (hn:n<ops.size) (hin:i<n)
  (hdone:∀listed a,L listed a→∀j∈Region.ready md ops listed,n≤j) :
  ∀(f:Nat) (listed:Array Bool) (a:Act),HeadInv md ops n listed →
    (∀j oj,ops[j]?=some oj→j≠i→listed.getD j true=false→(∀e∈oj.after,Region.binds md e=true→e.on≠i)→oi.apart ops oj=true) →
    i∈Region.ready md ops listed→YieldsIn P ops C oi v a →
    NM P md ops C n L f (listed.setIfInBounds i true) (a.put oi.dst v)→NM P md ops C n L (f+1) listed a:=by
 intro f
 induction f with
 | zero =>
  intro listed a inv _ hr hy H
  have hun:=(mem_ready.1 hr).1
  refine⟨fun h=>(by rw[h] at hr;cases hr),fun j hj=>?_⟩
  have hjn:j<n:=by
    rcases Nat.lt_or_ge j n with h|h
    · exact h
    · exact absurd hj (tail_waits hs hc hn inv _ i rfl hin hun j h)
  refine⟨hjn,?_⟩
  by_cases hji:j=i
  · subst hji;exact hy.qOp hi H
  · have:=hdone _ _ H j (ready_mono hj hji)
    omega
 | succ f ih =>
  intro listed a inv hfree hr hy H
  have hun:=(mem_ready.1 hr).1
  refine⟨fun h=>(by rw[h] at hr;cases hr),fun j hj=>?_⟩
  have hjn:j<n:=by
    rcases Nat.lt_or_ge j n with h|h
    · exact h
    · exact absurd hj (tail_waits hs hc hn inv _ i rfl hin hun j h)
  refine⟨hjn,?_⟩
  by_cases hji:j=i
  · subst hji;exact hy.qOp hi H
  · have h1:=(H.2 j (ready_mono hj hji)).2
    obtain⟨hjun,oj,hoj,hall⟩:=mem_ready.1 hj
    have hnot:∀e∈oj.after,Region.binds md e=true→e.on≠i:=fun e he hb heq=>by
      have h1:=hall e he hb
      rw[heq,getD_both hun] at h1
      cases h1
    have h2:=qOp_put hoj (hfree j oj hoj hji hjun hnot) (fun cs b=>hsel i oi cs b hi) (fun cs b=>hsel j oj cs b hoj) hy h1
    have hfree':∀k ok,ops[k]?=some ok→k≠i→(listed.setIfInBounds j true).getD k true=false →
        (∀e∈ok.after,Region.binds md e=true→e.on≠i)→oi.apart ops ok=true:=fun k ok hk hki hun hno=>by
      refine hfree k ok hk hki ?_ hno
      by_cases hjk:j=k
      · subst hjk;exact hjun
      · rw[getD_set_ne true hjk] at hun;exact hun
    refine qOp_mono (fun a' h3=>ih (listed.setIfInBounds j true) a' (inv.set hj hjn) hfree' (ready_mono hr (Ne.symm hji)) h3.1 ?_) h2
    rw[Array.setIfInBounds_comm _ _ hji]
    exact h3.2
theorem Iy {n g:Nat} {Lq:Act→Prop} (hsel:Region.noSelect ops=true) (hs:Region.sinkB md ops n=true) (hc:Region.chainB md ops n=true) (hn:n<ops.size) :
  ∀(l:List Oper) (k:Nat) (listed:Array Bool) (a:Act),(∀j,j<l.length→l[j]?=ops[k+j]?)→k+l.length=n→HeadInv md ops n listed →
  Region.lexHead md ops g l.length k listed=true→wpQuiet P ops C Lq l a →
  NM P md ops C n (fun listed' a'=>Region.seqB md ops g n listed'=true∧Lq a') l.length listed a
 | [],k,listed,a,_,hk,_,hB,h=>by
  have:k=n:=by simpa using hk
  subst this
  exact⟨by simpa [Region.lexHead] using hB,h⟩
 | o::l,k,listed,a,hl,hk,inv,hB,h=>by
  have h0:ops[k]?=some o:=by simpa using(hl 0 (by simp)).symm
  simp only[List.length_cons,Region.lexHead,Bool.and_eq_true] at hB
  obtain⟨⟨hr,hf⟩,hB'⟩:=hB
  have hkn:k<n:=by simp only[List.length_cons] at hk;omega
  have hr':k∈Region.ready md ops listed:=by simpa using hr
  have hst:qOp P ops C k (wpQuiet P ops C Lq l) a:=by unfold qOp;simp only[h0];exact h
  obtain⟨v,hy,hK⟩:=yieldsIn_of_qOp h0 hst
  exact UO h0 (Region.noSelect_spec hsel) hs hc hn hkn (fun listed' a' hL=>seqB_ready hL.1) l.length listed a inv (Region.free_spec h0 hf) hr' hy
   (Iy hsel hs hc hn l (k+1) _ _ (fun j hj=>by have:=hl (j+1) (by simp;omega);simpa [Nat.add_assoc,Nat.add_comm 1 j] using this) (by simp only[List.length_cons] at hk;omega) (inv.set hr' hkn) hB' hK)
theorem CJ {id:Nat} {Q:Exit→Act→World→Prop} {a:Act} {w:World} {l:List Oper} (n:Nat) (hm:P.follows .mixedOrders=true) (hB:Region.lexTailB .any l.toArray n=true)
  (h:wpQuiet P l.toArray (fun w'=>∃m,w'=w.drewN m) (fun a'=>∀w',(∃m,w'=w.drewN m)→wpList P l.toArray Q (l.drop n) a' w') (l.take n) a):(Code.region id l.toArray true).wp P Q a w:=by
 simp only[Region.lexTailB,Bool.and_eq_true,decide_eq_true_eq] at hB
 obtain⟨⟨⟨⟨hsel,hn⟩,hs⟩,hc⟩,hlex⟩:=hB
 have hn':n<l.length:=by simpa using hn
 have htl:(l.take n).length=n:=by simp;omega
 have hdl:(l.drop n).length=l.toArray.size-n:=by simp
 have inv0:HeadInv .any l.toArray n (Array.replicate l.toArray.size false):=
  ⟨by simp,fun j oj _ hl=>(by rw[getD_replicate_false] at hl;cases hl),fun t _ ht=>getD_in (by simpa using ht) (getD_replicate_false _ _)⟩
 have H:=Iy (md:=.any) (g:=l.toArray.size-n) hsel hs hc hn (l.take n) 0 _ a (fun j hj=>by
  have hj':j<n:=by rw[htl] at hj;exact hj
  simp[hj']) (by simpa using htl) inv0 (by rw[htl];exact hlex) h
 refine wp_region_any hm ?_
 have:=Hp (Q':=Q) (g:=l.toArray.size-n) (fun listed a' w' hw' hL=>by
  have:=wpAny_of_seq (md:=.any) (Q':=Q) (l.drop n) n listed a' w' (fun j=>by simp[List.getElem?_drop]) (by rw[hdl];exact hL.1) (hL.2 w' hw')
  rwa [hdl] at this) _ _ _ { w with drawn:=w.drawn+1 } ⟨1,rfl⟩ H
 rw[htl,show n+(l.toArray.size-n)=l.toArray.size by omega] at this
 exact this
end
theorem Bw {P:Program} {w:World} {ops:Array Oper} {rest:List Oper} {o:Oper} {a:Act} {Q:Exit→Act→World→Prop} (hgd:o.guard=none) (t:TypeId) (parts:Array (Nat×Operand)) (ho:o.op=.build t parts)
  (vs:Array (Nat×Value)) (hv:(parts.map fun(i,x)=>(i,a.eval x))=vs) {v:Value} (hr:(Instr.build t vs).run P w=.ok v w) (h:wpList P ops Q rest (a.put o.dst v) w):wpList P ops Q (o::rest) a w:=by
 refine wpList_plain hgd fun K hK=>?_
 unfold Oper.wp execOp
 simp only[ho,hv,Sem.run_bind,Sem.run_pure,Result.andThen_ok,hr]
 exact hK _ _ h
end
end Go.Proofs.YtbfjfnbcmojpiaaGreat
