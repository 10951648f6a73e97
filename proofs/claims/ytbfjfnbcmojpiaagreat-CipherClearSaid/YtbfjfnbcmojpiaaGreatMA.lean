import Derived.Test.YtbfjfnbcmojpiaaGreatB
import Derived.Deep.RegionLaw
import Derived.StillTailTactics
import Derived.Deep.Quiet
namespace Go.Proofs.YtbfjfnbcmojpiaaGreat
section
open Go.RowKit
theorem setCells_mid {w:World} {b:Nat} {t:TypeId} (C:List Value) (o:Nat) (vs:List Value) (h:w.heap[b]?=some (.cells C.toArray t (0,0))) (ho:o+vs.length≤C.length) :
   (w.setCells b o vs).heap[b]?=some (.cells (C.take o ++ (vs ++ C.drop (o+vs.length))).toArray t (0,0)):=by
 have key:∀ (vs:List Value) (o:Nat) (w:World) (pre mid post:List Value),o=pre.length→vs.length=mid.length→w.heap[b]?=some (.cells (pre ++ (mid ++ post)).toArray t (0,0)) →
     (w.setCells b o vs).heap[b]?=some (.cells (pre ++ (vs ++ post)).toArray t (0,0)):=by
   intro vs
   induction vs with
   | nil =>
     intro o w pre mid post _ hl h
     obtain rfl:mid=[]:=List.eq_nil_of_length_eq_zero (by simpa using hl.symm)
     exact h
   | cons v r ih =>
     intro o w pre mid post ho hl h
     cases mid with
     | nil=>simp at hl
     | cons x mid =>
       rw [World.setCells]
       have:=heap_setCell_same w b o _ t v h
       have e:((pre ++ (x :: mid ++ post)).toArray.setIfInBounds o v)=((pre ++ [v]) ++ (mid ++ post)).toArray:=by
         subst ho
         simp
       rw [e] at this
       have:=ih (o+1) _ (pre ++ [v]) mid post (by simp [ho]) (by simpa using hl) this
       simpa using this
 refine key vs o w (C.take o) ((C.drop o).take vs.length) (C.drop (o+vs.length)) (by simp;omega) (by simp;omega) ?_
 rw [← List.drop_drop,List.take_append_drop,List.take_append_drop]
 exact h
theorem range_row {w:World} {b:Nat} {C:Array Value} {t:TypeId} {fr:Nat×Nat} (h:w.heap[b]?=some (.cells C t fr)) (o:Nat) (l:List Value) (hd:(C.toList.drop o).take l.length=l):w.rangeAt b o l:=fun j v hj=>by
 rw [cell_of_row w b _ _ t fr h]
 have hjl:=(List.getElem?_eq_some_iff.1 hj).1
 rw [← hd] at hj
 rw [List.getElem?_take,if_pos hjl,List.getElem?_drop] at hj
 simpa using hj
theorem wpList_storeAt {P:Program} {ops:Array Oper} {rest:List Oper} {o:Oper} {a:Act} {w:World} {Q:Exit→Act→World→Prop} (hgd:o.guard=none) (T:TypeId) (x y:Operand) (ho:o.op=.store T x y)
   {b k:Nat} {cs C:List Value} {v:Value} {t:TypeId} (hx:a.eval x=.pointer (some ⟨b,k,none⟩)) (hy:a.eval y=v) (ty:TY P T cs v) (hb:w.heap[b]?=some (.cells C.toArray t (0,0))) (hc:k+cs.length≤C.length)
   (h:∀ w',w.grownBy w' (some b)→w'.heap[b]?=some (.cells (C.take k ++ (cs ++ C.drop (k+cs.length))).toArray t (0,0))→wpList P ops Q rest (a.put o.dst undef) w'):wpList P ops Q (o :: rest) a w:=by
 refine wpList_plain hgd fun K hK=>?_
 have hl:(Instr.storeAt T (.pointer (some ⟨b,k,none⟩)) v).run P w=.ok () (w.setCells b k cs):=by
   have:=run_storeCells_cells (P:=P) b k cs 0 w (fun j hj=>by
     rw [cell_of_row w b _ _ t _ hb]
     have hj':k+j < C.length:=by omega
     simp [hj']) (fun j hj=>frozen_of_row w b _ _ t hb) ty.one
   simp only [Instr.storeAt,Instr.sureAddr,Sem.run_bind,Sem.run_pure,Result.andThen_ok]
   have hs:=ty.size
   cases hq:P.info? T with
   | none=>simp [hq] at hs
   | some i =>
     have hs':i.size=cs.length:=by simpa [hq] using hs
     simp only [Nat.add_zero] at this
     simp [storeVar,sizeOf,typeInfo,hq,ty.cells,hs',this]
 unfold Oper.wp execOp
 simp only [ho,hx,hy,Sem.run_bind,Sem.run_pure,Result.andThen_ok,hl]
 exact hK _ _ (h _ (setCells_grown b cs k w) (setCells_mid C k cs hb hc))
theorem wpList_loadAt {P:Program} {ops:Array Oper} {rest:List Oper} {o:Oper} {a:Act} {w:World} {Q:Exit→Act→World→Prop} (hgd:o.guard=none) (T:TypeId) (x:Operand) (ho:o.op=.load T x)
   {b k:Nat} {cs:List Value} {v:Value} (hx:a.eval x=.pointer (some ⟨b,k,none⟩)) (ty:TY P T cs v) (hr:w.rangeAt b k cs)
   (h:wpList P ops Q rest (a.put o.dst v) w):wpList P ops Q (o :: rest) a w:=by
 refine wpList_plain hgd fun K hK=>?_
 have hl:=ty.load w b k hr
 unfold Oper.wp execOp
 simp only [ho,hx,Instr.loadAt,Instr.sureAddr,Sem.run_bind,Sem.run_pure,Result.andThen_ok,hl]
 exact hK _ _ h
theorem wpList_loadTY {P:Program} {ops:Array Oper} {rest:List Oper} {o:Oper} {a:Act} {w:World} {Q:Exit→Act→World→Prop} (hgd:o.guard=none) (T:TypeId) (x:Operand) (ho:o.op=.load T x)
   {b:Nat} {cs:List Value} {v:Value} {t:TypeId} {fr:Nat×Nat} (hx:a.eval x=.pointer (some ⟨b,0,none⟩)) (ty:TY P T cs v) (hb:w.heap[b]?=some (.cells cs.toArray t fr))
   (h:wpList P ops Q rest (a.put o.dst v) w):wpList P ops Q (o :: rest) a w:=by
 refine wpList_plain hgd fun K hK=>?_
 have hl:=ty.loads hb
 unfold ptr at hl
 unfold Oper.wp execOp
 simp only [ho,hx,Sem.run_bind,Sem.run_pure,Result.andThen_ok,hl]
 exact hK _ _ h
theorem wpList_storeTY {P:Program} {ops:Array Oper} {rest:List Oper} {o:Oper} {a:Act} {w:World} {Q:Exit→Act→World→Prop} (hgd:o.guard=none) (T:TypeId) (x y:Operand) (ho:o.op=.store T x y)
   {b:Nat} {cs:List Value} {c0:Array Value} {v:Value} {t:TypeId} (hx:a.eval x=.pointer (some ⟨b,0,none⟩)) (hy:a.eval y=v) (ty:TY P T cs v) (hb:w.heap[b]?=some (.cells c0 t (0,0))) (hc:c0.size=cs.length)
   (h:wpList P ops Q rest (a.put o.dst undef) (w.setCells b 0 cs)):wpList P ops Q (o :: rest) a w:=by
 refine wpList_plain hgd fun K hK=>?_
 have hl:=(ty.stores hb hc).1
 unfold ptr at hl
 unfold Oper.wp execOp
 simp only [ho,hx,hy,Sem.run_bind,Sem.run_pure,Result.andThen_ok,hl]
 exact hK _ _ h
theorem wpList_storeTYg {P:Program} {ops:Array Oper} {rest:List Oper} {o:Oper} {a:Act} {w:World} {Q:Exit→Act→World→Prop} (hgd:o.guard=none) (T:TypeId) (x y:Operand) (ho:o.op=.store T x y)
   {b:Nat} {cs:List Value} {c0:Array Value} {v:Value} {t:TypeId} (hx:a.eval x=.pointer (some ⟨b,0,none⟩)) (hy:a.eval y=v) (ty:TY P T cs v) (hb:w.heap[b]?=some (.cells c0 t (0,0))) (hc:c0.size=cs.length)
   (h:∀ w',w.grownBy w' (some b)→w'.heap[b]?=some (.cells cs.toArray t (0,0))→wpList P ops Q rest (a.put o.dst undef) w'):wpList P ops Q (o :: rest) a w:=
 wpList_storeTY hgd T x y ho hx hy ty hb hc (h _ (ty.stores hb hc).2.1 (ty.stores hb hc).2.2)
theorem grown_newR {a b c:World} {R:Nat} (h:a.grownBy b none) (k:b.grownBy c (some R)) (hR:a.heap.size≤R):a.grownBy c none:=
 ⟨k.os.trans h.os,k.tape.trans h.tape,k.output.trans h.output,Nat.le_trans h.size k.size,fun i hi _ =>
   (k.block i (Nat.lt_of_lt_of_le hi h.size) (by simp;omega)).trans (h.block i hi (by simp))⟩
theorem ret_cell {P:Program} {fn:Func} {p:Tmp} {T:TypeId} (h:fn.results=#[.cell p T]) {a:Act} {w:World} {b:Nat} {cs:List Value} {v:Value} {u:TypeId} {fr:Nat×Nat} {R:Ending→World→Prop}
   (hp:a.tmps.getD p undef=ptr b) (t:TY P T cs v) (hb:w.heap[b]?=some (.cells cs.toArray u fr)) (hd:a.defers=[]) (hR:R (.returned v) w):bodyPost P fn R .ret a w:=by
 have e:=t.load w b 0 (rangeAt_row hb)
 have hp':a.tmps[p]?.getD undef=.pointer (some ⟨b,0,none⟩):=by simpa [ptr] using hp
 exact bodyPost_ret (v:=v) (by simp [results,h,hp',asAddr,e]) hd hR
theorem Own.kn {w w':World} {e:TypeId} {sz:Nat} {v:Value} {n:Nat} {xs:List Value} (h:Own w e sz v n xs) (hg:w.grownBy w' Option.none):Own w' e sz v n xs:=h.kept hg (by cases v.ownBlock <;> simp)
theorem Own.past {w w':World} {e T:TypeId} {sz:Nat} {v:Value} {n:Nat} {xs:List Value} {A:Nat} {c:Array Value} {fr:Nat×Nat} (h:Own w e sz v n xs) (g:w.grownBy w' (some A)) (hA:w.heap[A]?=some (.cells c T fr)) (hne:e≠T):Own w' e sz v n xs:=
 h.kept g (.inr (Own.ne h hA hne))
theorem grown_drew (w:World):w.grownBy w.drew none:=⟨rfl,rfl,rfl,Nat.le_refl _,fun _ _ _=>rfl⟩
theorem Own.block {w:World} {base:Nat} {e:TypeId} {sz:Nat} {v:Value} {n:Nat} {xs:List Value} (h:w.ownsRow base e sz v n xs) {b:Nat} (hb:v.ownBlock=some b):∃ c fr,w.heap[b]?=some (.cells c e fr):=by
 rcases h.2 with ⟨rfl,_⟩ | ⟨g,cap,cur,rfl,_,hg,_⟩
 · simp [Value.ownBlock] at hb
 · simp [Value.ownBlock] at hb
   subst hb
   exact ⟨_,_,hg⟩
theorem Own.apart {w:World} {e e':TypeId} {sz sz':Nat} {v u:Value} {n m:Nat} {xs ys:List Value} (h:Own w e sz v n xs) (k:Own w e' sz' u m ys) (hne:e≠e'):v.ownBlock=none∨v.ownBlock≠u.ownBlock:=by
 cases hv:v.ownBlock with
 | none=>exact .inl rfl
 | some b =>
   refine .inr fun e=>?_
   obtain ⟨c,fr,hb⟩:=Own.block h hv
   exact Own.ne k hb (fun e=>hne e.symm) e.symm
end
section
open Go.RowKit
set_option linter.unusedVariables false
theorem enter_of {P:Program} {f:Nat} {fn:Func} {c:Code} (hf:P.funcs[f]?=some fn) (hname:(fn.name == "runtime.NumGoroutine")=false) (hb:fn.body=some c) :
   ∀ (av:Array Value) (w:World),((Deferred.ofValue (.func (.func f) #[] #[]) av).run P w).andThen (fun a w'=>(invoke a.target a.args).run P w')=.ok (.enter f av) w:=by
 intro av w
 have h1:fn.name≠"runtime.NumGoroutine":=by simpa using hname
 simp [Deferred.ofValue,invoke,callFunc,hf,h1,hb]
theorem wpList_pushH {P:Program} {t e:TypeId} {z:Value} {size bytes:Nat} (E:ET P t e z size bytes) {w:World} {ops:Array Oper} {rest:List Oper} {o:Oper} {a:Act} {Q:Exit→Act→World→Prop}
   (hgd:o.guard=none) (s x:Operand) (ho:o.op=.call { callee:=.builtin .append,args:=#[s,x],argTypes:=#[t,t] })
   (v:Value) (n:Nat) (xs:List Value) (hs:a.eval s=v) (hown:Own w e size v n xs)
   (c:List Value) (m H:Nat) (hH:H=w.heap.size) (hx:a.eval x=.slice (some ⟨H,0,none⟩) m m) (hl:c.length=m * size) (h1:c.all Value.oneCell'=true)
   (h63:n+m≤1099511627776)
   (h:∀ v' w',Own w' e size v' (n+m) (xs ++ c)→Step w v w' v'→wpList P ops Q rest (a.put o.dst v') w') :
   wpList P ops Q (o :: rest) a (w.alloc (.cells c.toArray e)):=by
 subst hH
 exact wpList_push E hgd s x ho v n xs hs hown c m hx hl h1 h63 h
end
section
open Go.RowKit
set_option linter.unusedSimpArgs false
set_option linter.unusedVariables false
abbrev wi (x:BitVec 64):Int:=(x.toNat:Int)
theorem wi_lt (x:BitVec 64):0≤wi x∧wi x < 18446744073709551616:=⟨Int.natCast_nonneg _,by have:=x.isLt;unfold wi;omega⟩
theorem ofInt_wi (x:BitVec 64):BitVec.ofInt 64 (wi x)=x:=by
 apply BitVec.eq_of_toNat_eq
 rw [BitVec.toNat_ofInt]
 have:=x.isLt
 unfold wi
 omega
theorem u64_wi (n:Nat):IntKind.u64.wrap (n:Int)=wi (BitVec.ofNat 64 n):=by
 rw [IntKind.wrap_u64]
 unfold wi
 rw [BitVec.toNat_ofNat]
 omega
theorem wi_wrap (x:BitVec 64):IntKind.u64.wrap (wi x)=wi x:=by
 rw [IntKind.wrap_u64]
 have:=wi_lt x
 omega
theorem bits_xor (x y:BitVec 64):bits .xor .u64 (wi x) (wi y)=wi (x ^^^ y):=by
 have e:bits .xor .u64 (wi x) (wi y)=IntKind.u64.wrap (((BitVec.ofInt 64 (wi x)) ^^^ (BitVec.ofInt 64 (wi y))).toNat:Int):=rfl
 rw [e,ofInt_wi,ofInt_wi,wi_wrap]
theorem bits_and (x y:BitVec 64):bits .and .u64 (wi x) (wi y)=wi (x &&& y):=by
 have e:bits .and .u64 (wi x) (wi y)=IntKind.u64.wrap (((BitVec.ofInt 64 (wi x)) &&& (BitVec.ofInt 64 (wi y))).toNat:Int):=rfl
 rw [e,ofInt_wi,ofInt_wi,wi_wrap]
theorem bits_or (x y:BitVec 64):bits .or .u64 (wi x) (wi y)=wi (x ||| y):=by
 have e:bits .or .u64 (wi x) (wi y)=IntKind.u64.wrap (((BitVec.ofInt 64 (wi x)) ||| (BitVec.ofInt 64 (wi y))).toNat:Int):=rfl
 rw [e,ofInt_wi,ofInt_wi,wi_wrap]
theorem shl_wi (x:BitVec 64) (s:Nat):IntKind.u64.wrap (wi x * 2 ^ s)=wi (x <<< s):=by
 have e:wi x * 2 ^ s=((x.toNat * 2 ^ s:Nat):Int):=by unfold wi;push_cast;rfl
 rw [e,u64_wi]
 congr 1
 apply BitVec.eq_of_toNat_eq
 rw [BitVec.toNat_ofNat,BitVec.toNat_shiftLeft,Nat.shiftLeft_eq]
theorem shr_wi (x:BitVec 64) (s:Nat):wi x / 2 ^ s=wi (x >>> s):=by
 unfold wi
 rw [BitVec.toNat_ushiftRight,Nat.shiftRight_eq_div_pow]
 push_cast
 rfl
def rot (x:BitVec 64) (k:Nat):BitVec 64:=(x >>> k) ||| (x <<< (64 - k))
def mixd (x:BitVec 64) (a b:Nat):BitVec 64:=x ^^^ rot x a ^^^ rot x b
set_option maxRecDepth 100000 in
theorem rot_walk (x:BitVec 64) (k:Int) (s:Nat) (hs:s < 64) (hk:bits .and .u64 (IntKind.u64.wrap k) 63=(s:Int)) (w:World):Calls Tryz.prog 161 #[.int .u64 (wi x),.int .i64 k] w fun e w'=>e=.returned (.int .u64 (wi (rot x (64 - s))))∧w'=w:=by
 have e:bits .or .u64 (IntKind.u64.wrap (wi x * 2 ^ s)) (wi x / 2 ^ (64 - s))=wi (rot x (64 - s)):=by
   rw [shl_wi,shr_wi,bits_or]
   unfold rot
   rw [BitVec.or_comm]
   congr 3
   omega
 have HE:=hid e
 clear e
 generalize wi x=X at *
 go_enter Tryz.func161,Tryz.ntmps161
 go_wp2
 go_ret
 rw [HE.out]
 exact ⟨rfl,rfl⟩
theorem rots:bits .and .u64 (IntKind.u64.wrap (-19)) 63=((45:Nat):Int)∧bits .and .u64 (IntKind.u64.wrap (-28)) 63=((36:Nat):Int)∧bits .and .u64 (IntKind.u64.wrap (-61)) 63=((3:Nat):Int)∧bits .and .u64 (IntKind.u64.wrap (-39)) 63=((25:Nat):Int)∧bits .and .u64 (IntKind.u64.wrap (-1)) 63=((63:Nat):Int)∧bits .and .u64 (IntKind.u64.wrap (-6)) 63=((58:Nat):Int)∧bits .and .u64 (IntKind.u64.wrap (-10)) 63=((54:Nat):Int)∧bits .and .u64 (IntKind.u64.wrap (-17)) 63=((47:Nat):Int)∧bits .and .u64 (IntKind.u64.wrap (-7)) 63=((57:Nat):Int)∧bits .and .u64 (IntKind.u64.wrap (-41)) 63=((23:Nat):Int):=by decide +kernel
set_option maxRecDepth 100000 in
theorem mixed_walk (x:BitVec 64) (a b:Int) (s t:Nat) (hs:s < 64) (ht:t < 64) (ha:-64 < -a∧-a < 0) (hb:-64 < -b∧-b < 0) (h1:bits .and .u64 (IntKind.u64.wrap (-a)) 63=(s:Int)) (h2:bits .and .u64 (IntKind.u64.wrap (-b)) 63=(t:Int)) (w:World) :
   Calls Tryz.prog 157 #[.int .u64 (wi x),.int .i64 a,.int .i64 b] w fun e w'=>e=.returned (.int .u64 (wi (mixd x (64 - s) (64 - t))))∧w'=w:=by
 have H1:=hid h1
 have H2:=hid h2
 clear h1 h2
 have e:bits .xor .u64 (bits .xor .u64 (wi x) (wi (rot x (64 - s)))) (wi (rot x (64 - t)))=wi (mixd x (64 - s) (64 - t)):=by rw [bits_xor,bits_xor];rfl
 have HE:=hid e
 clear e
 go_enter Tryz.func157,Tryz.ntmps157
 go_wp2_with fail
 refine (rot_walk x (-a) s hs H1.out w).mono ?_
 rintro e w1 ⟨rfl,rfl⟩
 go_wp2_with fail
 refine (rot_walk x (-b) t ht H2.out _).mono ?_
 rintro e w1 ⟨rfl,rfl⟩
 go_wp2
 go_ret
 exact ⟨by rw [HE.out];rfl,rfl⟩
end
section
open Go.RowKit
theorem grown_drewN (w:World) (n:Nat):w.grownBy (w.drewN n) none:=⟨rfl,rfl,rfl,Nat.le_refl _,fun _ _ _=>rfl⟩
section
variable {P:Program} {ops:Array Oper} {md:Region.Mode} {C:World→Prop}
def wpHeadQ (P:Program) (md:Region.Mode) (ops:Array Oper) (C:World→Prop) (n:Nat) (L:Array Bool→Act→Prop):Nat→Array Bool→Act→Prop
 | 0,listed,a=>L listed a
 | f+1,listed,a =>
   Region.ready md ops listed≠[]∧∀ i ∈ Region.ready md ops listed,i < n∧qOp P ops C i (wpHeadQ P md ops C n L f (listed.setIfInBounds i true)) a
theorem wpAny_of_headQ {n g:Nat} {L:Array Bool→Act→Prop} {Q':Exit→Act→World→Prop} (hL:∀ listed a w,C w→L listed a→wpAny P md ops Q' g listed a w) :
   ∀ (f:Nat) (listed:Array Bool) (a:Act) (w:World),C w→wpHeadQ P md ops C n L f listed a→wpAny P md ops Q' (f+g) listed a w
 | 0,listed,a,w,hw,h=>by rw [Nat.zero_add];exact hL _ _ _ hw h
 | f+1,listed,a,w,hw,h=>by
   rw [show f+1+g=(f+g)+1 by omega]
   exact ⟨fun h0=>absurd h0 h.1,fun i hi=>wpOp_of_qOp hw (fun a' w' hw' h'=>wpAny_of_headQ hL f _ a' w' hw' h') (h.2 i hi).2⟩
theorem wpHeadQ_first {n i:Nat} {oi:Oper} {v:Value} {L:Array Bool→Act→Prop} (hi:ops[i]?=some oi) (hsel:∀ (j:Nat) (o:Oper) cs b,ops[j]?=some o→o.op≠.select cs b)
   (hs:Region.sinkB md ops n=true) (hc:Region.chainB md ops n=true) (hn:n < ops.size) (hin:i < n)
   (hdone:∀ listed a,L listed a→∀ j ∈ Region.ready md ops listed,n≤j) :
   ∀ (f:Nat) (listed:Array Bool) (a:Act),HeadInv md ops n listed →
     (∀ j oj,ops[j]?=some oj→j≠i→listed.getD j true=false→(∀ e ∈ oj.after,Region.binds md e=true→e.on≠i)→oi.apart ops oj=true) →
     i ∈ Region.ready md ops listed→YieldsIn P ops C oi v a →
     wpHeadQ P md ops C n L f (listed.setIfInBounds i true) (a.put oi.dst v)→wpHeadQ P md ops C n L (f+1) listed a:=by
 intro f
 induction f with
 | zero =>
   intro listed a inv _ hr hy H
   have hun:=(mem_ready.1 hr).1
   refine ⟨fun h=>(by rw [h] at hr;cases hr),fun j hj=>?_⟩
   have hjn:j < n:=by
     rcases Nat.lt_or_ge j n with h | h
     · exact h
     · exact absurd hj (tail_waits hs hc hn inv _ i rfl hin hun j h)
   refine ⟨hjn,?_⟩
   by_cases hji:j=i
   · subst hji;exact hy.qOp hi H
   · have:=hdone _ _ H j (ready_mono hj hji)
     omega
 | succ f ih =>
   intro listed a inv hfree hr hy H
   have hun:=(mem_ready.1 hr).1
   refine ⟨fun h=>(by rw [h] at hr;cases hr),fun j hj=>?_⟩
   have hjn:j < n:=by
     rcases Nat.lt_or_ge j n with h | h
     · exact h
     · exact absurd hj (tail_waits hs hc hn inv _ i rfl hin hun j h)
   refine ⟨hjn,?_⟩
   by_cases hji:j=i
   · subst hji;exact hy.qOp hi H
   · have h1:=(H.2 j (ready_mono hj hji)).2
     obtain ⟨hjun,oj,hoj,hall⟩:=mem_ready.1 hj
     have hnot:∀ e ∈ oj.after,Region.binds md e=true→e.on≠i:=fun e he hb heq=>by
       have h1:=hall e he hb
       rw [heq,getD_both hun] at h1
       cases h1
     have h2:=qOp_put hoj (hfree j oj hoj hji hjun hnot) (fun cs b=>hsel i oi cs b hi) (fun cs b=>hsel j oj cs b hoj) hy h1
     have hfree':∀ k ok,ops[k]?=some ok→k≠i→(listed.setIfInBounds j true).getD k true=false →
         (∀ e ∈ ok.after,Region.binds md e=true→e.on≠i)→oi.apart ops ok=true:=fun k ok hk hki hun hno=>by
       refine hfree k ok hk hki ?_ hno
       by_cases hjk:j=k
       · subst hjk;exact hjun
       · rw [getD_set_ne true hjk] at hun;exact hun
     refine qOp_mono (fun a' h3=>ih (listed.setIfInBounds j true) a' (inv.set hj hjn) hfree' (ready_mono hr (Ne.symm hji)) h3.1 ?_) h2
     rw [Array.setIfInBounds_comm _ _ hji]
     exact h3.2
theorem wpHeadQ_lex {n g:Nat} {Lq:Act→Prop} (hsel:Region.noSelect ops=true) (hs:Region.sinkB md ops n=true) (hc:Region.chainB md ops n=true) (hn:n < ops.size) :
   ∀ (l:List Oper) (k:Nat) (listed:Array Bool) (a:Act),(∀ j,j < l.length→l[j]?=ops[k+j]?)→k+l.length=n→HeadInv md ops n listed →
   Region.lexHead md ops g l.length k listed=true→wpQuiet P ops C Lq l a →
   wpHeadQ P md ops C n (fun listed' a'=>Region.seqB md ops g n listed'=true∧Lq a') l.length listed a
 | [],k,listed,a,_,hk,_,hB,h=>by
   have:k=n:=by simpa using hk
   subst this
   exact ⟨by simpa [Region.lexHead] using hB,h⟩
 | o :: l,k,listed,a,hl,hk,inv,hB,h=>by
   have h0:ops[k]?=some o:=by simpa using (hl 0 (by simp)).symm
   simp only [List.length_cons,Region.lexHead,Bool.and_eq_true] at hB
   obtain ⟨⟨hr,hf⟩,hB'⟩:=hB
   have hkn:k < n:=by simp only [List.length_cons] at hk;omega
   have hr':k ∈ Region.ready md ops listed:=by simpa using hr
   have hst:qOp P ops C k (wpQuiet P ops C Lq l) a:=by unfold qOp;simp only [h0];exact h
   obtain ⟨v,hy,hK⟩:=yieldsIn_of_qOp h0 hst
   exact wpHeadQ_first h0 (Region.noSelect_spec hsel) hs hc hn hkn (fun listed' a' hL=>seqB_ready hL.1) l.length listed a inv (Region.free_spec h0 hf) hr' hy
     (wpHeadQ_lex hsel hs hc hn l (k+1) _ _ (fun j hj=>by have:=hl (j+1) (by simp;omega);simpa [Nat.add_assoc,Nat.add_comm 1 j] using this) (by simp only [List.length_cons] at hk;omega) (inv.set hr' hkn) hB' hK)
theorem wp_region_quiet_tail {id:Nat} {Q:Exit→Act→World→Prop} {a:Act} {w:World} {l:List Oper} (n:Nat) (hm:P.follows .mixedOrders=true) (hB:Region.lexTailB .any l.toArray n=true)
   (h:wpQuiet P l.toArray (fun w'=>∃ m,w'=w.drewN m) (fun a'=>∀ w',(∃ m,w'=w.drewN m)→wpList P l.toArray Q (l.drop n) a' w') (l.take n) a):(Code.region id l.toArray true).wp P Q a w:=by
 simp only [Region.lexTailB,Bool.and_eq_true,decide_eq_true_eq] at hB
 obtain ⟨⟨⟨⟨hsel,hn⟩,hs⟩,hc⟩,hlex⟩:=hB
 have hn':n < l.length:=by simpa using hn
 have htl:(l.take n).length=n:=by simp;omega
 have hdl:(l.drop n).length=l.toArray.size - n:=by simp
 have inv0:HeadInv .any l.toArray n (Array.replicate l.toArray.size false):=
   ⟨by simp,fun j oj _ hl=>(by rw [getD_replicate_false] at hl;cases hl),fun t _ ht=>getD_in (by simpa using ht) (getD_replicate_false _ _)⟩
 have H:=wpHeadQ_lex (md:=.any) (g:=l.toArray.size - n) hsel hs hc hn (l.take n) 0 _ a (fun j hj=>by
   have hj':j < n:=by rw [htl] at hj;exact hj
   simp [hj']) (by simpa using htl) inv0 (by rw [htl];exact hlex) h
 refine wp_region_any hm ?_
 have:=wpAny_of_headQ (Q':=Q) (g:=l.toArray.size - n) (fun listed a' w' hw' hL=>by
   have:=wpAny_of_seq (md:=.any) (Q':=Q) (l.drop n) n listed a' w' (fun j=>by simp [List.getElem?_drop]) (by rw [hdl];exact hL.1) (hL.2 w' hw')
   rwa [hdl] at this) _ _ _ { w with drawn:=w.drawn+1 } ⟨1,rfl⟩ H
 rw [htl,show n+(l.toArray.size - n)=l.toArray.size by omega] at this
 exact this
end
theorem wpList_buildR {P:Program} {w:World} {ops:Array Oper} {rest:List Oper} {o:Oper} {a:Act} {Q:Exit→Act→World→Prop} (hgd:o.guard=none) (t:TypeId) (parts:Array (Nat×Operand)) (ho:o.op=.build t parts)
   (vs:Array (Nat×Value)) (hv:(parts.map fun (i,x)=>(i,a.eval x))=vs) {v:Value} (hr:(Instr.build t vs).run P w=.ok v w) (h:wpList P ops Q rest (a.put o.dst v) w):wpList P ops Q (o :: rest) a w:=by
 refine wpList_plain hgd fun K hK=>?_
 unfold Oper.wp execOp
 simp only [ho,hv,Sem.run_bind,Sem.run_pure,Result.andThen_ok,hr]
 exact hK _ _ h
end
end Go.Proofs.YtbfjfnbcmojpiaaGreat
