import Derived.Test.YtbfjfnbcmojpiaaGreatRows
import Derived.Below
import Derived.WalkKit
import Derived.WalkLawsBesides
import Derived.ProofKit
import Derived.Handy
import Derived.WalkSpells
import Derived.Laws.CopyOwn
import Derived.Laws.BitsAllLaws
import Derived.Lib.AppendStr
import Derived.Laws.AppendOwnNone
import Derived.BigQuiet
import Derived.Deep.QuietTactic
import Derived.Deep.MidRow
namespace Go.Proofs.YtbfjfnbcmojpiaaGreat
section
open Go.RowKit
theorem grown_setCell (w:World) (a:Addr) (v:Value):w.grownBy (w.setCell a v) (some a.block):=
 ⟨rfl,rfl,rfl,by simp,fun k _ hk=>heap_setCell_other w a k v (fun e=>hk (by simp [e]))⟩
theorem heap_at {w:World} {o:Obj} {n:Nat} (h:n=w.heap.size):(w.alloc o).heap[n]?=some o:=by subst h;exact Go.heap_alloc_new w o
theorem heap_past {w:World} {o:Obj} {n:Nat} (h:n < w.heap.size):(w.alloc o).heap[n]?=w.heap[n]?:=Below.heap_alloc w o n h
end
section
open Go.RowKit
theorem hid {p:Prop} (h:p):Hid p:=h
structure ET (P:Program) (t e:TypeId) (z:Value) (size bytes:Nat):Prop where
 und:P.underlying t=some (.slice e)
 inf:∃ i,P.info? e=some i∧i.zero=some z∧i.size=size∧i.bytes=bytes
 zsz:z.cells.size=size
 pos:0 < size
 bnd:bytes≤128
def bv (l:List Nat):List Value:=l.map fun b:Nat=>.int .u8 (b:Int)
@[simp] theorem bv_nil:bv []=[]:=rfl
theorem bv_append (a b:List Nat):bv (a ++ b)=bv a ++ bv b:=by simp [bv]
theorem bv_length (a:List Nat):(bv a).length=a.length:=by simp [bv]
theorem grown_trans {a b c:World} {row:Option Nat} (h:a.grownBy b row) (k:b.grownBy c row):a.grownBy c row:=
 ⟨k.os.trans h.os,k.tape.trans h.tape,k.output.trans h.output,Nat.le_trans h.size k.size,
   fun i hi hne=>(k.block i (Nat.lt_of_lt_of_le hi h.size) hne).trans (h.block i hi hne)⟩
theorem grown_alloc {a b:World} {row:Option Nat} {o:Obj} (k:(a.alloc o).grownBy b row):a.grownBy b row:=
 grown_trans (World.grownBy_alloc a o row) k
theorem grown_none {a b:World} {row:Option Nat} (h:a.grownBy b none):a.grownBy b row:=
 ⟨h.os,h.tape,h.output,h.size,fun i hi _=>h.block i hi (by simp)⟩
abbrev Own (w:World) (e:TypeId) (size:Nat) (v:Value) (n:Nat) (xs:List Value):Prop:=w.ownsRow 0 e size v n xs
abbrev nilS:Value:=.slice none 0 0
def Step (w:World) (v:Value) (w':World) (v':Value):Prop:=
 w.grownBy w' v.ownBlock∧∀ k,v'.ownBlock=some k→v.ownBlock=some k∨(w.heap.size≤k)
theorem Step.refl (w:World) (v:Value):Step w v w v:=⟨World.grownBy.refl _ _,fun _ h=>.inl h⟩
theorem Step.trans {w w1 w2:World} {v v1 v2:Value} (h:Step w v w1 v1) (k:Step w1 v1 w2 v2):Step w v w2 v2:=by
 have hsz:=h.1.size
 refine ⟨⟨k.1.os.trans h.1.os,k.1.tape.trans h.1.tape,k.1.output.trans h.1.output,Nat.le_trans h.1.size k.1.size,fun i hi hne=>?_⟩,fun i hi=>?_⟩
 · refine (k.1.block i (by omega) fun e=>?_).trans (h.1.block i hi hne)
   rcases h.2 i e.symm with h' | h'
   · exact hne h'.symm
   · omega
 · rcases k.2 i hi with h' | h'
   · exact h.2 i h'
   · exact .inr (by omega)
theorem Step.alloc {w w':World} {v v':Value} {o:Obj} (k:Step (w.alloc o) v w' v'):Step w v w' v':=
 ⟨grown_alloc k.1,fun i hi=>(k.2 i hi).imp id fun h=>by simp at h;omega⟩
theorem Step.grown {w w1 w':World} {v v':Value} (h:w.grownBy w1 none) (k:Step w1 v w' v'):Step w v w' v':=
 Step.trans ⟨grown_none h,fun _ h=>.inl h⟩ k
theorem Step.drew {w w':World} {v v':Value} (k:Step w.drew v w' v'):Step w v w' v':=⟨⟨k.1.os,k.1.tape,k.1.output,k.1.size,k.1.block⟩,k.2⟩
abbrev Fresh (w:World) (w':World) (v':Value):Prop:=Step w nilS w' v'
theorem Step.fresh {w w':World} {v':Value} (h:w.grownBy w' none) (k:∀ i,v'.ownBlock=some i→w.heap.size≤i):Fresh w w' v':=⟨h,fun i hi=>.inr (k i hi)⟩
theorem Fresh.lit (w:World) (o:Obj) (n c:Nat):Fresh w (w.alloc o) (.slice (some ⟨w.heap.size,0,none⟩) n c):=
 ⟨World.grownBy_alloc _ _ _,fun k hk=>.inr (by simp [Value.ownBlock] at hk;omega)⟩
theorem Step.none {w w':World} {v':Value} (h:Fresh w w' v'):w.grownBy w' none:=h.1
theorem Own.fresh {w w':World} {e:TypeId} {size n:Nat} {v:Value} {xs:List Value} (h:w'.ownsRow w.heap.size e size v n xs) (hg:w.grownBy w' none):Fresh w w' v:=
 ⟨hg,fun k hk=>.inr (h.lt k hk).1⟩
theorem Own.of {w:World} {base:Nat} {e:TypeId} {size n:Nat} {v:Value} {xs:List Value} (h:w.ownsRow base e size v n xs):Own w e size v n xs:=by
 refine ⟨h.1,?_⟩
 rcases h.2 with h | ⟨g,cap,cur,h1,_,h2⟩
 · exact .inl h
 · exact .inr ⟨g,cap,cur,h1,Nat.zero_le _,h2⟩
theorem Own.nil (w:World) (e:TypeId) (size:Nat):Own w e size nilS 0 []:=World.ownsRow_nil _ _ _ _
theorem Own.ne {w:World} {base:Nat} {e e':TypeId} {size n:Nat} {v:Value} {xs:List Value} (h:w.ownsRow base e size v n xs) {k:Nat} {c:Array Value} {fr:Nat×Nat} (hk:w.heap[k]?=some (.cells c e' fr)) (hne:e≠e'):v.ownBlock≠some k:=by
 intro hv
 rcases h.2 with ⟨rfl,_⟩ | ⟨g,cap,cur,rfl,_,hg,_⟩
 · simp [Value.ownBlock] at hv
 · simp [Value.ownBlock] at hv
   subst hv
   rw [hg] at hk
   simp at hk
   exact hne hk.2.1
theorem Own.lt {w:World} {base:Nat} {e:TypeId} {size n:Nat} {v:Value} {xs:List Value} (h:w.ownsRow base e size v n xs):∀ k,v.ownBlock=some k→k < w.heap.size:=fun k hk=>(h.lt k hk).2
def Sl (w:World) (sz:Nat) (v:Value) (n:Nat) (xs:List Value):Prop:=
 xs.length=n * sz∧∃ ao cap,v=.slice ao n cap∧n≤cap∧cap≤maxLen∧(ao=none→cap=0) ∧
   (∀ a,ao=some a→(0 < n→a.spot=none)∧∀ j u,xs[j]?=some u→w.cell? ⟨a.block,a.off+j,none⟩=some u)
theorem Sl.of_own {w:World} {base:Nat} {e:TypeId} {sz:Nat} {v:Value} {n:Nat} {xs:List Value} (h:w.ownsRow base e sz v n xs):Sl w sz v n xs:=by
 refine ⟨h.1,?_⟩
 rcases h.2 with ⟨rfl,rfl⟩ | ⟨g,cap,cur,rfl,_,hg,hnc,hcm,_,htake⟩
 · exact ⟨none,0,rfl,Nat.le_refl _,Nat.zero_le _,fun _=>rfl,fun a h=>by cases h⟩
 · refine ⟨some ⟨g,0,none⟩,cap,rfl,hnc,hcm,fun h=>(by cases h),fun a ha=>?_⟩
   obtain rfl:=Option.some.inj ha
   refine ⟨fun _=>rfl,fun j u hu=>?_⟩
   have:=h.cells (g:=g) rfl j u hu
   rwa [show (⟨g,0,none⟩:Addr).add j=⟨g,0+j,none⟩ by unfold Addr.add;split <;> simp_all] at this
theorem Sl.kept {w w':World} {sz:Nat} {v:Value} {n:Nat} {xs:List Value} (h:Sl w sz v n xs) {row:Option Nat} (hg:w.grownBy w' row) (hne:v.ownBlock=none∨v.ownBlock≠row):Sl w' sz v n xs:=by
 obtain ⟨hl,ao,cap,rfl,h1,h2,h3,h4⟩:=h
 refine ⟨hl,ao,cap,rfl,h1,h2,h3,fun a ha=>?_⟩
 obtain ⟨hs,hc⟩:=h4 a ha
 refine ⟨hs,fun j u hu=>?_⟩
 subst ha
 exact hg.cell (hc j u hu) (by simpa [Value.ownBlock] using hne)
theorem Sl.below {w w':World} {sz:Nat} {v:Value} {n:Nat} {xs:List Value} (h:Sl w sz v n xs) {B:Nat} (hb:Below B w w') (hv:∀ k,v.ownBlock=some k→k < B):Sl w' sz v n xs:=by
 obtain ⟨hl,ao,cap,rfl,h1,h2,h3,h4⟩:=h
 refine ⟨hl,ao,cap,rfl,h1,h2,h3,fun a ha=>?_⟩
 obtain ⟨hs,hc⟩:=h4 a ha
 refine ⟨hs,fun j u hu=>?_⟩
 subst ha
 exact (hb.cell (p:=⟨a.block,a.off+j,none⟩) (hv _ (by simp [Value.ownBlock]))).trans (hc j u hu)
def lnV:Value→Nat
 | .slice _ n _=>n
 | _=>0
def fpT (v:Value) (k:Nat):Prop:=v.ownBlock=some k∧0 < lnV v
theorem fpT_nil (k:Nat):¬ fpT (.slice none 0 0) k:=fun h=>by simp [fpT,Value.ownBlock] at h
theorem Sl.empty {w w':World} {sz:Nat} {v:Value} {n:Nat} {xs:List Value} (h:Sl w sz v n xs) (hn:n=0):Sl w' sz v n xs:=by
 obtain ⟨hl,ao,cap,rfl,h1,h2,h3,h4⟩:=h
 subst hn
 obtain rfl:xs=[]:=List.eq_nil_of_length_eq_zero (by simpa using hl)
 exact ⟨hl,ao,cap,rfl,h1,h2,h3,fun a ha=>⟨(h4 a ha).1,fun j u hu=>by simp at hu⟩⟩
theorem Sl.ln {w:World} {sz:Nat} {v:Value} {n:Nat} {xs:List Value} (h:Sl w sz v n xs):lnV v=n:=by obtain ⟨_,ao,cap,rfl,_⟩:=h;rfl
theorem Sl.belowT {w w':World} {sz:Nat} {v:Value} {n:Nat} {xs:List Value} (h:Sl w sz v n xs) {B:Nat} (hb:Below B w w') (hv:∀ k,fpT v k→k < B):Sl w' sz v n xs:=by
 rcases Nat.eq_zero_or_pos n with hn | hn
 · exact h.empty hn
 · exact h.below hb fun k hk=>hv k ⟨hk,by rw [h.ln];exact hn⟩
theorem Sl.keptT {w w':World} {sz:Nat} {v:Value} {n:Nat} {xs:List Value} (h:Sl w sz v n xs) {row:Option Nat} (hg:w.grownBy w' row) (hne:∀ k,fpT v k→row≠some k):Sl w' sz v n xs:=by
 rcases Nat.eq_zero_or_pos n with hn | hn
 · exact h.empty hn
 · refine h.kept hg ?_
   cases hv:v.ownBlock with
   | none=>exact .inl rfl
   | some k=>exact .inr fun e=>hne k ⟨hv,by rw [h.ln];exact hn⟩ e.symm
theorem Sl.nil (w:World) (sz:Nat):Sl w sz (.slice none 0 0) 0 []:=
 ⟨by simp,none,0,rfl,Nat.le_refl _,Nat.zero_le _,fun _=>rfl,fun a h=>by cases h⟩
theorem Sl.lt {w:World} {sz:Nat} {v:Value} {n:Nat} {xs:List Value} (h:Sl w sz v n xs) (hx:xs≠[]):∀ k,v.ownBlock=some k→k < w.heap.size:=by
 obtain ⟨hl,ao,cap,rfl,h1,h2,h3,h4⟩:=h
 intro k hk
 cases ao with
 | none=>simp [Value.ownBlock] at hk
 | some a =>
   simp [Value.ownBlock] at hk
   subst hk
   obtain ⟨u,hu⟩:∃ u,xs[0]?=some u:=by cases xs with | nil=>exact absurd rfl hx | cons x l=>exact ⟨x,rfl⟩
   have:=block_lt_of_cell ((h4 a rfl).2 0 u hu)
   exact this
theorem Sl.shape {w:World} {sz:Nat} {v:Value} {n:Nat} {xs:List Value} (h:Sl w sz v n xs):∃ ao cap,v=.slice ao n cap∧n≤cap∧cap≤9223372036854775807:=by
 obtain ⟨hl,ao,cap,rfl,h1,h2,_⟩:=h
 exact ⟨ao,cap,rfl,h1,h2⟩
theorem Sl.at {w:World} {sz:Nat} {ao:Option Addr} {n cap m:Nat} {xs:List Value} (h:Sl w sz (.slice ao n cap) m xs) (j:Nat) (hj:j < xs.length) :
   ∃ b off,ao=some ⟨b,off,none⟩∧∀ i (hi:i < xs.length),w.cell? ⟨b,off+i,none⟩=some xs[i]:=by
 obtain ⟨hl,ao',cap',hv,h1,h2,h3,h4⟩:=h
 simp only [Value.slice.injEq] at hv
 obtain ⟨rfl,rfl,rfl⟩:=hv
 cases ao with
 | none =>
   have:=h3 rfl
   have:n=0:=by omega
   subst this
   simp at hl
   subst hl
   simp at hj
 | some a =>
   obtain ⟨b,off,spot⟩:=a
   obtain ⟨hs,hc⟩:=h4 _ rfl
   have hs := hs (by rcases Nat.eq_zero_or_pos n with rfl | h; · rw [Nat.zero_mul] at hl; omega
                     · exact h)
   simp at hs
   subst hs
   exact ⟨b,off,rfl,fun i hi=>hc i _ (List.getElem?_eq_getElem hi)⟩
theorem Sl.rd {w:World} {sz:Nat} {ad:Addr} {n cap:Nat} {xs:List Value} (h:Sl w sz (.slice (some ad) n cap) n xs):∀ j u,xs[j]?=some u→w.cell? (ad.add j)=some u:=by
 intro j u hu
 have hj:=(List.getElem?_eq_some_iff.1 hu).1
 obtain ⟨b,off,e,hc⟩:=h.at j hj
 obtain rfl:=Option.some.inj e
 rw [Addr.add_lit,hc j hj,← hu,List.getElem?_eq_getElem hj]
theorem run_app {P:Program} {t e:TypeId} {z:Value} {size bytes:Nat} (E:ET P t e z size bytes) (ty:TypeId) {w:World} {v:Value} {n:Nat} {xs:List Value} (hown:Own w e size v n xs)
   {sv:Value} {m:Nat} {news:List Value} (hs:Sl w size sv m news) (h1:news.all Value.oneCell'=true) (h63:n+m≤1099511627776) :
   ∃ v' w',(Builtin.append_ #[t,t] ty #[v,sv]).run P w=.ok v' w'∧Own w' e size v' (n+m) (xs ++ news)∧Step w v w' v':=by
 obtain ⟨i,hi,hz,rfl,hby⟩:=E.inf
 have hb:=E.bnd
 have hsl:=hs
 obtain ⟨hl,ao,cap,rfl,hm1,hm2,h3,h4⟩:=hs
 cases ao with
 | none =>
   obtain rfl:=h3 rfl
   obtain rfl:m=0:=by omega
   obtain rfl:news=[]:=List.eq_nil_of_length_eq_zero (by simpa using hl)
   refine ⟨v,w,run_append_owned_none (P:=P) w 0 t ty e i i.size E.und hi v n xs hown,by simpa using hown,Step.refl _ _⟩
 | some ad =>
   have hc':=hsl.rd
   have h1':=List.all_eq_true.1 h1
   have hbytes:(n+m) * bytes≤140737488355328:=by
     have:(n+m) * bytes≤1099511627776 * 128:=Nat.mul_le_mul h63 hb
     omega
   obtain ⟨v',w',hr,h2,h3',_⟩:=run_append_own (P:=P) w 0 t ty e i z i.size bytes E.und hi hz rfl hby E.zsz E.pos v n xs hown ad m cap news hl hc' h1' (by unfold maxLen;omega) hbytes (Nat.zero_le _)
   refine ⟨v',w',hr,h2,h3',?_⟩
   have hl2:xs.length=n * i.size:=hown.1
   rcases hown.2 with ⟨rfl,rfl⟩ | ⟨g,cap',cur,rfl,hbg,hg,hnc,hcm,hcs,htake⟩
   · by_cases hm0:m=0
     · subst hm0
       obtain rfl:news=[]:=List.eq_nil_of_length_eq_zero (by simpa using hl)
       obtain rfl:xs=[]:=List.eq_nil_of_length_eq_zero (by simpa using hl2)
       rcases h2.2 with ⟨rfl,_⟩ | ⟨g,cap',cur,rfl,_⟩
       · intro k hk;simp [Value.ownBlock] at hk
       · exfalso
         simp [Builtin.append_,run_underlying E.und,sizeOf,typeInfo,hi,Builtin.lenOf,Builtin.firstCells,loadCells,loadCellsFrom] at hr
     · have hr2:=run_append_nil (P:=P) w t ty e i z E.und hi hz ad m cap news hl hc' (by omega) (by omega) (by subst hby;simp only [Nat.zero_add] at hbytes;omega)
       rw [hr2] at hr
       simp only [Result.ok.injEq] at hr
       obtain ⟨rfl,_⟩:=hr
       intro k hk
       simp [Value.ownBlock] at hk
       exact .inr (by omega)
   · by_cases hroom:n+m≤cap'
     · have hr2:=run_append_room (P:=P) w t ty e i E.und hi g n cap' cur hg ad m cap news hl hc' h1' hroom (by rw [hl,hcs,← Nat.add_mul];exact Nat.mul_le_mul_right _ hroom)
       rw [hr2] at hr
       simp only [Result.ok.injEq] at hr
       obtain ⟨rfl,_⟩:=hr
       intro k hk
       exact .inl hk
     · have holds:∀ j u,xs[j]?=some u→w.cell? ((⟨g,0,none⟩:Addr).add j)=some u:=hown.cells (g:=g) rfl
       have hr2:=run_append_grow (P:=P) w t ty e i z E.und hi hz ⟨g,0,none⟩ n cap' xs hl2 holds ad m cap news hl hc' (by omega) (by omega) (growslice_fits (by omega) (by subst hby;exact hbytes))
       rw [hr2] at hr
       simp only [Result.ok.injEq] at hr
       obtain ⟨rfl,_⟩:=hr
       intro k hk
       simp [Value.ownBlock] at hk
       exact .inr (by omega)
theorem wpList_app {P:Program} {t e:TypeId} {z:Value} {size bytes:Nat} (E:ET P t e z size bytes) {w:World} {ops:Array Oper} {rest:List Oper} {o:Oper} {a:Act} {Q:Exit→Act→World→Prop}
   (hgd:o.guard=none) (s x:Operand) (ho:o.op=.call { callee:=.builtin .append,args:=#[s,x],argTypes:=#[t,t] })
   (v:Value) (n:Nat) (xs:List Value) (hs:a.eval s=v) (hown:Own w e size v n xs)
   (sv:Value) (m:Nat) (news:List Value) (hx:a.eval x=sv) (hsl:Sl w size sv m news) (h1:news.all Value.oneCell'=true) (h63:n+m≤1099511627776)
   (h:∀ v' w',Own w' e size v' (n+m) (xs ++ news)→Step w v w' v'→wpList P ops Q rest (a.put o.dst v') w') :
   wpList P ops Q (o :: rest) a w:=by
 refine wpList_plain hgd fun K hK=>?_
 obtain ⟨v',w',hr,h2,h3⟩:=run_app E o.type hown hsl h1 h63
 unfold Oper.wp execOp
 simp only [ho,resolve,invoke,builtin,Sem.run_bind,Sem.run_pure,Result.andThen_ok,List.map_toArray,List.map_cons,List.map_nil,hs,hx,hr]
 exact hK _ _ (h v' w' h2 h3)
theorem wpList_push {P:Program} {t e:TypeId} {z:Value} {size bytes:Nat} (E:ET P t e z size bytes) {w:World} {ops:Array Oper} {rest:List Oper} {o:Oper} {a:Act} {Q:Exit→Act→World→Prop}
   (hgd:o.guard=none) (s x:Operand) (ho:o.op=.call { callee:=.builtin .append,args:=#[s,x],argTypes:=#[t,t] })
   (v:Value) (n:Nat) (xs:List Value) (hs:a.eval s=v) (hown:Own w e size v n xs)
   (c:List Value) (m:Nat) (hx:a.eval x=.slice (some ⟨w.heap.size,0,none⟩) m m) (hl:c.length=m * size) (h1:c.all Value.oneCell'=true)
   (h63:n+m≤1099511627776)
   (h:∀ v' w',Own w' e size v' (n+m) (xs ++ c)→Step w v w' v'→wpList P ops Q rest (a.put o.dst v') w') :
   wpList P ops Q (o :: rest) a (w.alloc (.cells c.toArray e)):=by
 refine wpList_app E hgd s x ho v n xs hs (hown.alloc _) _ m c hx ⟨hl,some ⟨w.heap.size,0,none⟩,m,rfl,Nat.le_refl _,by unfold maxLen;omega,fun h=>(by cases h),fun ad had=>?_⟩ h1 h63 fun v' w' h2 h3=>h v' w' h2 h3.alloc
 obtain rfl:=Option.some.inj had
 refine ⟨fun _=>rfl,fun j u hu=>?_⟩
 rw [Nat.zero_add,World.cell?_alloc_at _ _ _ _ rfl]
 simpa using hu
def leb (u:Nat):List Nat:=if u < 128 then [u] else (u % 128+128) :: leb (u / 128)
termination_by u
decreasing_by omega
def zig (n:Int):Nat:=if n < 0 then (-2 * n - 1).toNat else (2 * n).toNat
def enc (n:Int):List Nat:=leb (zig n)
end
section
open Go.RowKit
structure Sp where
 on:World→Value→Prop
 mono:∀ w w' v,w.grownBy w' none→on w v→on w' v
def Sp.is (v:Value):Sp:=⟨fun _ x=>x=v,fun _ _ _ _ h=>h⟩
def Sp.any:Sp:=⟨fun _ _=>True,fun _ _ _ _ h=>h⟩
def At (L:List Sp) (t:Nat) (w:World) (v:Value):Prop:=(L.getD t Sp.any).on w v
def OpSays (P:Program) (ops:Array Oper) (o:Oper) (a:Act) (w:World) (R:Value→World→Prop):Prop:=
 if Region.wanted o (yielded ops a.tmps) then
   match (execOp a.eval o).run P w with
   | .ok (.value v) w'=>R v w'
   | .ok .skip w'=>R undef w'
   | .ok (.enter f args) w'=>Calls P f args w' fun e w''=>∃ v,e=.returned v∧R v w''
   | _=>False
 else R undef w
theorem OpSays.wpOp {P:Program} {ops:Array Oper} {Q:Exit→Act→World→Prop} {i:Nat} {o:Oper} {a:Act} {w:World} {R:Value→World→Prop} {K:Act→World→Prop} (hi:ops[i]?=some o)
   (h:OpSays P ops o a w R) (hk:∀ v w',R v w'→K (a.put o.dst v) w'):wpOp P ops Q i K a w:=by
 unfold Go.wpOp
 simp only [hi]
 unfold OpSays at h
 split
 · rename_i hw
   rw [if_pos hw] at h
   refine .inl ?_
   unfold Oper.wp
   generalize (execOp a.eval o).run P w=r at *
   cases r with
   | ok n w' =>
     cases n <;> simp only [Oper.upon] at h ⊢
     all_goals first
       | exact h.elim
       | exact hk _ _ h
       | exact h.mono fun e w'' ⟨v,he,hr⟩=>by subst he;exact hk _ _ hr
   | halt x w'=>cases x <;> exact h.elim
 · rename_i hw
   rw [if_neg hw] at h
   exact hk _ _ h
def regB (ops:Array Oper) (n:Nat):Bool:=
 (List.range ops.size).all fun i=>match ops[i]? with
   | none=>true
   | some o =>
     (o.after.toList.all fun e=>decide (e.on < i)) &&
     (match o.dst with | none=>true | some d=>decide (d < n)) &&
     (List.range ops.size).all fun j=>match ops[j]? with
       | none=>true
       | some oj=>match oj.dst with
         | none=>true
         | some d=>(i == j || o.dst != some d) && (!(o.looksAt ops).contains d || o.after.toList.any fun e=>e.on == j && Region.binds .any e)
theorem regB_spec {ops:Array Oper} {n:Nat} (h:regB ops n=true) {i:Nat} {o:Oper} (hi:ops[i]?=some o) :
   (∀ e ∈ o.after.toList,e.on < i)∧(∀ d,o.dst=some d→d < n) ∧
   (∀ j oj d,ops[j]?=some oj→oj.dst=some d→(i=j∨o.dst≠some d)∧(d ∈ o.looksAt ops→∃ e ∈ o.after.toList,e.on=j∧Region.binds .any e=true)):=by
 have hlt:i < ops.size:=(Array.getElem?_eq_some_iff.1 hi).1
 have h1:=List.all_eq_true.1 h i (List.mem_range.2 hlt)
 simp only [hi,Bool.and_eq_true] at h1
 obtain ⟨⟨h2,h3⟩,h4⟩:=h1
 refine ⟨fun e he=>by simpa using List.all_eq_true.1 h2 e he,fun d hd=>by simpa [hd] using h3,fun j oj d hj hd=>?_⟩
 have hjl:j < ops.size:=(Array.getElem?_eq_some_iff.1 hj).1
 have h5:=List.all_eq_true.1 h4 j (List.mem_range.2 hjl)
 simp only [hj,hd,Bool.and_eq_true,Bool.or_eq_true,beq_iff_eq,bne_iff_ne,Bool.not_eq_true'] at h5
 refine ⟨h5.1,fun hl=>?_⟩
 rcases h5.2 with h6 | h6
 · rw [List.contains_iff_mem.2 hl] at h6;cases h6
 · obtain ⟨e,he,h7⟩:=List.any_eq_true.1 h6
   simp only [Bool.and_eq_true,beq_iff_eq] at h7
   exact ⟨e,he,h7⟩
theorem getD_put (a:Act) (d:Option Tmp) (v:Value) (t:Nat) (hd:∀ k,d=some k→k < a.tmps.size):(a.put d v).tmps.getD t undef=if d=some t then v else a.tmps.getD t undef:=by
 cases d with
 | none=>simp [Act.put]
 | some k =>
   have hk:=hd k rfl
   simp only [Act.put,Option.some.injEq,Array.getD_eq_getD_getElem?,Array.getElem?_setIfInBounds]
   by_cases e:k=t
   · subst e;simp [hk]
   · simp [e]
end
section
open Go.RowKit
end
section
open Go.RowKit
def bs (l:List Nat):ByteArray:=⟨(l.map fun n=>UInt8.ofNat n).toArray⟩
def Ob (P:Program) (ops:Array Oper) (L:List Sp) (n:Nat) (w0:World) (o:Oper):Prop:=
 ∀ (a:Act) w,w0.grownBy w none→(∀ t ∈ o.looksAt ops,t < n→At L t w (a.tmps.getD t undef))→a.tmps.size=n →
   OpSays P ops o a w fun v w'=>w.grownBy w' none∧∀ d,o.dst=some d→At L d w' v
def ObAll (P:Program) (ops:Array Oper) (L:List Sp) (n:Nat) (w0:World):List Oper→Prop
 | []=>True
 | o :: l=>Ob P ops L n w0 o∧ObAll P ops L n w0 l
theorem ObAll.at {P:Program} {ops:Array Oper} {L:List Sp} {n:Nat} {w0:World} {l:List Oper} (h:ObAll P ops L n w0 l):∀ (i:Nat) (o:Oper),l[i]?=some o→Ob P ops L n w0 o:=by
 induction l with
 | nil=>intro i o h;simp at h
 | cons x l ih =>
   intro i o hi
   cases i with
   | zero=>simp at hi;subst hi;exact h.1
   | succ i=>exact ih h.2 i o (by simpa using hi)
def InitP (w:World):List Sp→List Value→List Bool→Prop
 | s :: L,v :: l,b :: bs=>(b=true∨s.on w v)∧InitP w L l bs
 | _,_,_=>True
theorem InitP.at {w:World}:∀ {L:List Sp} {l:List Value} {m:List Bool},InitP w L l m→∀ t,t < L.length→t < l.length→t < m.length→m.getD t false=true∨At L t w (l.getD t undef)
 | [],_,_,_,t,h,_,_=>by simp at h
 | _ :: _,[],_,_,t,_,h,_=>by simp at h
 | _ :: _,_ :: _,[],_,t,_,_,h=>by simp at h
 | s :: L,v :: l,b :: bs,h,0,_,_,_=>h.1
 | s :: L,v :: l,b :: bs,h,t+1,h1,h2,h3=>InitP.at h.2 t (by simpa using h1) (by simpa using h2) (by simpa using h3)
def GOK (ops:Array Oper) (L:List Sp) (n:Nat):Option (Nat×Bool)→Prop
 | none=>True
 | some (g,b)=>∃ t,(ops[g]?).bind (·.dst)=some t∧t < n∧∀ w v,At L t w v→v=.bool b
theorem GOK.wanted {ops:Array Oper} {L:List Sp} {n:Nat} {o:Oper} {a:Act} {w:World} (h:GOK ops L n o.guard) (hl:∀ t ∈ o.looksAt ops,t < n→At L t w (a.tmps.getD t undef)) (hs:a.tmps.size=n) :
   Region.wanted o (yielded ops a.tmps)=true:=by
 unfold Region.wanted
 cases hg:o.guard with
 | none=>rfl
 | some p =>
   obtain ⟨g,b⟩:=p
   rw [hg] at h
   obtain ⟨t,ht,htn,hv⟩:=h
   have hv:=hv w _ (hl t (by simp [Oper.looksAt,hg,ht]) htn)
   have htl:t < a.tmps.size:=hs▸htn
   rw [Array.getD_eq_getD_getElem?,Array.getElem?_eq_getElem htl,Option.getD_some] at hv
   simp [yielded,ht,Array.getElem?_eq_getElem htl,hv]
section
variable {P:Program} {ops:Array Oper} {L:List Sp} {n:Nat} {w0:World} {o:Oper}
end
end
section
open Go.RowKit
def OG (P:Program) (ops:Array Oper) (L:Nat→World→Value→Prop) (J:World→Prop) (D:Nat→World→Prop) (n i:Nat) (o:Oper):Prop:=
 ∀ (a:Act) w,J w→(∀ t ∈ o.looksAt ops,t < n→L t w (a.tmps.getD t undef))→a.tmps.size=n →
   OpSays P ops o a w fun v w'=>J w'∧(∀ t x,L t w x→L t w' x)∧(∀ j,j≠i→D j w→D j w')∧D i w'∧∀ d,o.dst=some d→L d w' v
def OGAll (P:Program) (ops:Array Oper) (L:Nat→World→Value→Prop) (J:World→Prop) (D:Nat→World→Prop) (n:Nat):Nat→List Oper→Prop
 | _,[]=>True
 | i,o :: l=>OG P ops L J D n i o∧OGAll P ops L J D n (i+1) l
theorem OGAll.at {P:Program} {ops:Array Oper} {L:Nat→World→Value→Prop} {J:World→Prop} {D:Nat→World→Prop} {n:Nat}:∀ {l:List Oper} {k:Nat},OGAll P ops L J D n k l→∀ (i:Nat) (o:Oper),l[i]?=some o→OG P ops L J D n (k+i) o
 | [],_,_,i,o,hi=>by simp at hi
 | x :: l,k,h,0,o,hi=>by simp at hi;subst hi;exact h.1
 | x :: l,k,h,i+1,o,hi=>by
   have:=OGAll.at h.2 i o (by simpa using hi)
   rwa [show k+1+i=k+(i+1) by omega] at this
def GOKG (ops:Array Oper) (L:Nat→World→Value→Prop) (n:Nat):Option (Nat×Bool)→Prop
 | none=>True
 | some (g,b)=>∃ t,(ops[g]?).bind (·.dst)=some t∧t < n∧∀ w v,L t w v→v=.bool b
theorem GOKG.wanted {ops:Array Oper} {L:Nat→World→Value→Prop} {n:Nat} {o:Oper} {a:Act} {w:World} (h:GOKG ops L n o.guard) (hl:∀ t ∈ o.looksAt ops,t < n→L t w (a.tmps.getD t undef)) (hs:a.tmps.size=n) :
   Region.wanted o (yielded ops a.tmps)=true:=by
 unfold Region.wanted
 cases hg:o.guard with
 | none=>rfl
 | some p =>
   obtain ⟨g,b⟩:=p
   rw [hg] at h
   obtain ⟨t,ht,htn,hv⟩:=h
   have hv:=hv w _ (hl t (by simp [Oper.looksAt,hg,ht]) htn)
   have htl:t < a.tmps.size:=hs▸htn
   rw [Array.getD_eq_getD_getElem?,Array.getElem?_eq_getElem htl,Option.getD_some] at hv
   simp [yielded,ht,Array.getElem?_eq_getElem htl,hv]
section
variable {P:Program} {ops:Array Oper} {L:Nat→World→Value→Prop} {J:World→Prop} {D:Nat→World→Prop} {n i:Nat} {o:Oper}
end
end
section
open Go.RowKit
def ptr (b:Nat):Value:=.pointer (some ⟨b,0,none⟩)
theorem row_of {w w':World} {g:Nat} {o:Obj} {row:Option Nat} (hg:w.grownBy w' row) (h:w.heap[g]?=some o) (hne:some g≠row):w'.heap[g]?=some o:=
 (hg.block g (Array.getElem?_eq_some_iff.1 h).1 hne).trans h
structure TY (P:Program) (T:TypeId) (cs:List Value) (v:Value):Prop where
 size:(P.info? T).map (·.size)=some cs.length
 cells:v.cells=cs.toArray
 one:∀ c ∈ cs,c.oneCell'=true
 load:∀ (w:World) (b o:Nat),w.rangeAt b o cs→(loadVar T ⟨b,o,none⟩).run P w=.ok v w
theorem TY.agg {P:Program} {T:TypeId} {cs:List Value} {d:TypeDesc} (hu:P.underlying T=some d) (hd:d.isRow=true) (hi:(P.info? T).map (·.size)=some cs.length) (h1:∀ c ∈ cs,c.oneCell'=true):TY P T cs (.agg cs.toArray):=
 ⟨hi,rfl,h1,fun w b o hr=>run_loadVar_mid w b o T cs d hr hu hd hi⟩
theorem TY.one' {P:Program} {T:TypeId} {v:Value} {d:TypeDesc} (hu:P.underlying T=some d) (hd:d.isRow=false) (hi:(P.info? T).map (·.size)=some 1) (h1:v.oneCell'=true):TY P T [v] v:=by
 refine ⟨hi,by cases v <;> first | rfl | (cases h1),by simpa using h1,fun w b o hr=>?_⟩
 have hc:w.cell? ⟨b,o,none⟩=some v:=hr 0 v rfl
 have hagg:(isAgg T).run P w=.ok false w:=by
   unfold isAgg
   rw [Sem.run_bind,run_underlying hu w]
   cases d <;> simp_all
 simp [loadVar,Sem.run_bind,hagg,run_load,hc]
theorem rangeAt_row {w:World} {b:Nat} {cs:List Value} {t:TypeId} {fr:Nat×Nat} (h:w.heap[b]?=some (.cells cs.toArray t fr)):w.rangeAt b 0 cs:=fun j v hj=>by
 rw [Nat.zero_add,cell_of_row w b j _ t fr h]
 simpa using hj
theorem TY.loads {P:Program} {T:TypeId} {cs:List Value} {v:Value} (h:TY P T cs v) {w:World} {b:Nat} {t:TypeId} {fr:Nat×Nat} (hb:w.heap[b]?=some (.cells cs.toArray t fr)):(Instr.loadAt T (ptr b)).run P w=.ok v w:=by
 simp only [Instr.loadAt,ptr,Instr.sureAddr,Sem.run_bind,Sem.run_pure,Result.andThen_ok,h.load w b 0 (rangeAt_row hb)]
theorem setCells_grown (b:Nat):∀ (vs:List Value) (o:Nat) (w:World),w.grownBy (w.setCells b o vs) (some b)
 | [],_,w=>World.grownBy.refl _ _
 | v :: r,o,w=>by
   rw [World.setCells]
   exact grown_trans (grown_setCell w ⟨b,o,none⟩ v) (setCells_grown b r (o+1) _)
theorem setCells_row (b:Nat) (t:TypeId):∀ (vs:List Value) (o:Nat) (w:World) (pre post:List Value),o=pre.length→vs.length=post.length→w.heap[b]?=some (.cells (pre ++ post).toArray t (0,0)) →
   (w.setCells b o vs).heap[b]?=some (.cells (pre ++ vs).toArray t (0,0))
 | [],_,w,pre,post,_,hl,h=>by
   obtain rfl:post=[]:=List.eq_nil_of_length_eq_zero (by simpa using hl.symm)
   exact h
 | v :: r,o,w,pre,[],_,hl,_=>by simp at hl
 | v :: r,o,w,pre,x :: post,ho,hl,h=>by
   rw [World.setCells]
   have:=heap_setCell_same w b o _ t v h
   have e:((pre ++ x :: post).toArray.setIfInBounds o v)=((pre ++ [v]) ++ post).toArray:=by
     subst ho
     simp
   rw [e] at this
   have:=setCells_row b t r (o+1) _ (pre ++ [v]) post (by simp [ho]) (by simpa using hl) this
   simpa using this
theorem TY.stores {P:Program} {T:TypeId} {cs:List Value} {v:Value} (h:TY P T cs v) {w:World} {b:Nat} {t:TypeId} {c0:Array Value} (hb:w.heap[b]?=some (.cells c0 t (0,0))) (hc:c0.size=cs.length) :
   (Instr.storeAt T (ptr b) v).run P w=.ok () (w.setCells b 0 cs)∧w.grownBy (w.setCells b 0 cs) (some b)∧(w.setCells b 0 cs).heap[b]?=some (.cells cs.toArray t (0,0)):=by
 refine ⟨?_,setCells_grown b cs 0 w,?_⟩
 · have:=run_storeCells_cells (P:=P) b 0 cs 0 w (fun j hj=>by
     rw [cell_of_row w b _ _ t _ hb]
     have hj':j < c0.size:=by omega
     simp [hj']) (fun j hj=>frozen_of_row w b _ _ t hb) h.one
   simp only [Instr.storeAt,ptr,Instr.sureAddr,Sem.run_bind,Sem.run_pure,Result.andThen_ok]
   have hs:=h.size
   cases hq:P.info? T with
   | none=>simp [hq] at hs
   | some i =>
     have hs':i.size=cs.length:=by simpa [hq] using hs
     simp only [Nat.add_zero] at this
     simp [storeVar,sizeOf,typeInfo,hq,h.cells,hs',this]
 · exact setCells_row b t cs 0 w [] c0.toList rfl (by simpa using hc.symm) (by simpa using hb)
end
section
open Go.RowKit
section
variable {P:Program} {ops:Array Oper} {L:List Sp} {n:Nat} {w0:World} {o:Oper}
def OpdIs (L:List Sp) (n:Nat):Operand→Value→Prop
 | .tmp t,v=>t < n∧∀ w u,At L t w u→u=v
 | .const c,v=>c=v
 | _,_=>False
theorem OpdIs.eval {x:Operand} {v:Value} (h:OpdIs L n x v) {a:Act} {w:World} (hx:x ∈ o.op.operands.toList) (hl:∀ t ∈ o.looksAt ops,t < n→At L t w (a.tmps.getD t undef)):a.eval x=v:=by
 cases x with
 | tmp t=>exact h.2 w _ (hl t (by simp only [Oper.looksAt,List.mem_append,List.mem_filterMap];exact .inl ⟨.tmp t,by simpa using hx,rfl⟩) h.1)
 | const c=>exact h
 | global g=>exact h.elim
 | func f=>exact h.elim
def OpdIsAll (L:List Sp) (n:Nat):List Operand→List Value→Prop
 | [],[]=>True
 | x :: l,v :: vs=>OpdIs L n x v∧OpdIsAll L n l vs
 | _,_=>False
theorem OpdIsAll.eval:∀ {l:List Operand} {vs:List Value},OpdIsAll L n l vs→∀ {a:Act} {w:World},(∀ x ∈ l,x ∈ o.op.operands.toList)→(∀ t ∈ o.looksAt ops,t < n→At L t w (a.tmps.getD t undef))→l.map a.eval=vs
 | [],[],_,_,_,_,_=>rfl
 | x :: l,v :: vs,h,a,w,hx,hl=>by
   rw [List.map_cons,OpdIs.eval (o:=o) h.1 (hx x List.mem_cons_self) hl,OpdIsAll.eval h.2 (fun y hy=>hx y (List.mem_cons_of_mem _ hy)) hl]
 | [],_ :: _,h,_,_,_,_=>h.elim
 | _ :: _,[],h,_,_,_,_=>h.elim
end
end
section
open Go.RowKit
def URow (E:TypeId) (B:Nat) (w w':World):Prop:=∃ row:Option Nat,w.grownBy w' row∧∀ k,row=some k→B≤k∧∃ c fr,w.heap[k]?=some (.cells c E fr)
theorem URow.below {E:TypeId} {B:Nat} {w w':World} (h:URow E B w w') (hB:B≤w.heap.size):Below B w w':=by
 obtain ⟨row,hg,hr⟩:=h
 exact (Below.refl B w).grown hg hB fun k hk=>(hr k hk).1
theorem URow.row {E T:TypeId} {B:Nat} {w w':World} (h:URow E B w w') (hne:T≠E) {k:Nat} {c:Array Value} {fr:Nat×Nat} (hk:w.heap[k]?=some (.cells c T fr)):w'.heap[k]?=some (.cells c T fr):=by
 obtain ⟨row,hg,hr⟩:=h
 refine (hg.block k (Array.getElem?_eq_some_iff.1 hk).1 fun e=>?_).trans hk
 obtain ⟨_,c',fr',h'⟩:=hr k e.symm
 rw [hk] at h'
 simp at h'
 exact hne h'.2.1
theorem URow.size {E:TypeId} {B:Nat} {w w':World} (h:URow E B w w'):w.heap.size≤w'.heap.size:=by obtain ⟨_,hg,_⟩:=h;exact hg.size
structure Fk (E:TypeId) (B:Nat) where
 on:World→Value→Prop
 lin:Bool
 m0:∀ w w' v,w.grownBy w' none→on w v→on w' v
 m1:lin=false→∀ w w' v,URow E B w w'→on w v→on w' v
def ahead (ops:Array Oper):Nat→Nat→Nat→Bool
 | 0,_,_=>false
 | f+1,i,j=>match ops[i]? with
   | none=>false
   | some o=>o.after.toList.any fun e=>Region.binds .any e && (e.on == j || ahead ops f e.on j)
def writer (ops:Array Oper) (t:Nat):Option Nat:=(List.range ops.size).find? fun i=>match ops[i]? with | none=>false | some o=>o.dst == some t
def late (ops:Array Oper) (i t:Nat):Bool:=match writer ops t with | none=>false | some j=>ahead ops ops.size i j
end
end Go.Proofs.YtbfjfnbcmojpiaaGreat
