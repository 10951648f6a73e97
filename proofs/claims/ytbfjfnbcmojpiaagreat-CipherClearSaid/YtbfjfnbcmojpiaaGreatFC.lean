import Derived.Test.YtbfjfnbcmojpiaaGreatYB
import Derived.Test.YtbfjfnbcmojpiaaGreatY2
import Derived.Test.YtbfjfnbcmojpiaaGreatMK6
namespace Go.Proofs.YtbfjfnbcmojpiaaGreat
open Go.RowKit Go.Shelf
set_option linter.unusedSimpArgs false
set_option linter.unusedVariables false
end Go.Proofs.YtbfjfnbcmojpiaaGreat

namespace Go.Proofs.YtbfjfnbcmojpiaaGreat
open Go.RowKit
set_option linter.unusedSimpArgs false
set_option linter.unusedVariables false
theorem od_mem {P:List VP} {i:Nat} (h:i < P.length):od P i ∈ P.map (·.1):=by rw [od_at h];exact List.mem_map.2 ⟨_,List.getElem_mem h,rfl⟩
theorem fnd_iff {P:List VP} (hs:Srt P) {o:List Nat}:fnd P o=true↔o ∈ P.map (·.1):=by
 constructor
 · intro h
   obtain ⟨h1,h2⟩:=fnd_at h
   rw [← h2]
   exact od_mem h1
 · intro h
   obtain ⟨x,hx,rfl⟩:=List.mem_map.1 h
   obtain ⟨i,hi,rfl⟩:=List.getElem_of_mem hx
   exact (fnd_yes hs hi (od_at hi)).2
theorem fnd_not {P:List VP} (hs:Srt P) {o:List Nat} (h:o ∉ P.map (·.1)):fnd P o=false:=by
 cases e:fnd P o with
 | false=>rfl
 | true=>exact absurd ((fnd_iff hs).1 e) h
theorem mem_ins {P:List VP} {o:List Nat} {t:List Nd} {x:VP}:x ∈ insV P o t↔x=(o,t)∨x ∈ P:=by
 unfold insV
 rw [List.mem_append,List.mem_cons]
 constructor
 · rintro (h | h | h)
   · exact .inr (List.mem_of_mem_take h)
   · exact .inl h
   · exact .inr (List.mem_of_mem_drop h)
 · rintro (h | h)
   · exact .inr (.inl h)
   · rw [← List.take_append_drop (pos P o) P] at h
     exact (List.mem_append.1 h).imp id .inr
theorem ins_len (P:List VP) (o:List Nat) (t:List Nd):(insV P o t).length=P.length+1:=by rw [insV_put];exact atPut_len (pos_le P o) _
theorem mem_drp {P:List VP} {o:List Nat} {x:VP} (h:x ∈ dropV P o):x ∈ P:=by rw [dropV_erase] at h;exact List.mem_of_mem_eraseIdx h
theorem srt_inj {P:List VP} (hs:Srt P) {i j:Nat} (hi:i < P.length) (hj:j < P.length) (h:od P i=od P j):i=j:=by
 rcases Nat.lt_trichotomy i j with h1 | h1 | h1
 · have:=hs.lt h1 hj;rw [h,blt_irrefl] at this;cases this
 · exact h1
 · have:=hs.lt h1 hi;rw [h,blt_irrefl] at this;cases this
theorem mem_drp_iff {P:List VP} (hs:Srt P) {o:List Nat} (hf:fnd P o=true) {x:VP}:x ∈ dropV P o↔x ∈ P∧x.1≠o:=by
 obtain ⟨hp,ho⟩:=fnd_at hf
 constructor
 · intro h
   refine ⟨mem_drp h,?_⟩
   rw [dropV_erase] at h
   obtain ⟨i,hi,he⟩:=List.getElem_of_mem h
   have h2:(P.eraseIdx (pos P o))[i]?=some x:=by rw [List.getElem?_eq_getElem hi,he]
   rw [List.getElem?_eraseIdx] at h2
   intro e
   split at h2
   · rename_i hlt
     have hil:i < P.length:=by omega
     have h3:od P i=o:=by rw [(od_some h2).1,e]
     have:=srt_inj hs hil hp (h3.trans ho.symm)
     omega
   · rename_i hlt
     have hil:=(List.getElem?_eq_some_iff.1 h2).1
     have h3:od P (i+1)=o:=by rw [(od_some h2).1,e]
     have:=srt_inj hs hil hp (h3.trans ho.symm)
     omega
 · rintro ⟨h,hne⟩
   obtain ⟨i,hi,rfl⟩:=List.getElem_of_mem h
   unfold dropV
   rcases Nat.lt_trichotomy i (pos P o) with h1 | h1 | h1
   · refine List.mem_append.2 (.inl (List.mem_iff_getElem.2 ⟨i,?_,?_⟩))
     · rw [List.length_take];omega
     · rw [List.getElem_take]
   · exfalso
     apply hne
     rw [← od_at hi,h1,ho]
   · refine List.mem_append.2 (.inr (List.mem_iff_getElem.2 ⟨i - (pos P o+1),?_,?_⟩))
     · rw [List.length_drop];omega
     · rw [List.getElem_drop]
       congr 1
       omega
theorem tr_uniq {P:List VP} (hs:Srt P) {o:List Nat} {t:List Nd} (h:(o,t) ∈ P):fnd P o=true∧tr P (pos P o)=t:=by
 obtain ⟨i,hi,he⟩:=List.getElem_of_mem h
 have h1:od P i=o:=by rw [od_at hi,he]
 obtain ⟨h2,h3⟩:=fnd_yes hs hi h1
 refine ⟨h3,?_⟩
 rw [h2,tr_at hi,he]
theorem mem_set {P:List VP} (hs:Srt P) {o:List Nat} {t:List Nd} (hf:fnd P o=true) {x:VP}:x ∈ setV P o t↔x=(o,t)∨(x ∈ P∧x.1≠o):=by
 have h1:=mem_drp_iff hs hf (x:=x)
 unfold setV
 unfold dropV at h1
 rw [List.mem_append,List.mem_cons]
 rw [List.mem_append] at h1
 constructor
 · rintro (h | h | h)
   · exact .inr (h1.1 (.inl h))
   · exact .inl h
   · exact .inr (h1.1 (.inr h))
 · rintro (h | h)
   · exact .inr (.inl h)
   · exact (h1.2 h).imp id .inr
def dg1 (n:Nat):List Nat:=n :: zs 31
theorem dg1_inj {n m:Nat} (h:dg1 n=dg1 m):n=m:=(List.cons.inj h).1
theorem wrap_u8 {x:Int} (h1:0≤x) (h2:x < 256):IntKind.u8.wrap x=x:=by simp [IntKind.wrap,IntKind.bits,IntKind.signed];omega
def FInv (P:List VP) (i:Nat):Prop:=vldV P=true∧P.length=i∧∀ o,o ∈ P.map (·.1)↔∃ j,j < i∧o=dg1 (3 * j)
theorem FInv.zero:FInv [] 0:=⟨rfl,rfl,by simp⟩
theorem tree_new_vld (k:List Nat):vld (tree k [])=true:=tree_vld_of k [] (by simp)
theorem FInv.fnd {P:List VP} {i j:Nat} (h:FInv P i) (hj:j < i):fnd P (dg1 (3 * j))=true:=(fnd_iff (Srt.of h.1)).2 ((h.2.2 _).2 ⟨j,hj,rfl⟩)
theorem FInv.not {P:List VP} {i n:Nat} (h:FInv P i) (hn:∀ j,j < i→3 * j≠n):Go.Proofs.YtbfjfnbcmojpiaaGreat.fnd P (dg1 n)=false:=fnd_not (Srt.of h.1) fun hm=>by
 obtain ⟨j,hj,e⟩:=(h.2.2 _).1 hm
 exact hn j hj (dg1_inj e).symm
theorem FInv.succ {P:List VP} {i:Nat} (h:FInv P i) (hi:i < 64) {T:List Nd} {k:List Nat} (hT:tree k []=T):FInv (insV P (dg1 (3 * i)) T) (i+1):=by
 have hn:=h.not (n:=3 * i) fun j hj=>by omega
 refine ⟨insV_vld h.1 hn (by rw [h.2.1];exact hi) (hT▸tree_new_vld k),by rw [ins_len,h.2.1],fun o=>?_⟩
 constructor
 · intro ho
   obtain ⟨x,hx,rfl⟩:=List.mem_map.1 ho
   rcases mem_ins.1 hx with rfl | hx
   · exact ⟨i,by omega,rfl⟩
   · obtain ⟨j,hj,e⟩:=(h.2.2 _).1 (List.mem_map.2 ⟨x,hx,rfl⟩)
     exact ⟨j,by omega,e⟩
 · rintro ⟨j,hj,rfl⟩
   by_cases e:j=i
   · subst e
     exact List.mem_map.2 ⟨_,mem_ins.2 (.inl rfl),rfl⟩
   · obtain ⟨x,hx,e2⟩:=List.mem_map.1 ((h.2.2 _).2 ⟨j,by omega,rfl⟩)
     exact List.mem_map.2 ⟨x,mem_ins.2 (.inr hx),e2⟩
theorem ensO_new {P:List VP} {sa po o nx:List Nat} {T:List Nd} (hv:vldV P=true) (hf:fnd P o=false) (hl:P.length < 64):ensO (P,sa,po) o T nx=((insV P o T,sa,nx),0):=by
 unfold ensO
 rw [if_pos hv,if_neg (by rw [hf];simp),if_neg (by simpa using hl)]
theorem rn_and {P:Program} {a b c:Int} {t:TypeId} {x y:Operand} {w:World} (h:bits .and .i64 a b=c):(do eqGuard .and t x y (.int .i64 a) (.int .i64 b);binOp .and t (.int .i64 a) (.int .i64 b):Sem Value).run P w=.ok (.int .i64 c) w:=by
 subst h
 simp [eqGuard,binOp_and]
 rfl
end Go.Proofs.YtbfjfnbcmojpiaaGreat

namespace Go.Proofs.YtbfjfnbcmojpiaaGreat
open Go.RowKit Go.Shelf
set_option linter.unusedSimpArgs false
set_option linter.unusedVariables false
def own4 (n:Int):List Nat:=(200 * (bits .and .i64 n 1).toNat) :: (zs 30 ++ [(bits .and .i64 (n / 2) 1).toNat])
theorem bDg2 (a b:Nat) (w:World):(Instr.build 23 #[(0,.int .u8 (a:Int)),(31,.int .u8 (b:Int))]).run Tryz.prog w=.ok (dval (a :: (zs 30 ++ [b]))) w:=by kernel_rfl
def ow (j:Nat):List Nat:=own4 (j:Int)
theorem ow_ne {i j:Nat} (hi:i < 3) (hj:j < 3) (h:ow i=ow j):i=j:=by
 have:i=0∨i=1∨i=2:=by omega
 have:j=0∨j=1∨j=2:=by omega
 rcases ‹i=0∨i=1∨i=2› with rfl | rfl | rfl <;> rcases ‹j=0∨j=1∨j=2› with rfl | rfl | rfl <;> first | rfl | (exfalso;revert h;decide +kernel)
def OInv (T:Nat→List Nd) (P:List VP) (i:Nat):Prop:=vldV P=true∧P.length=i∧∀ x,x ∈ P↔∃ j,j < i∧x=(ow j,T j)
theorem OInv.zero (T:Nat→List Nd):OInv T [] 0:=⟨rfl,rfl,by simp⟩
section
variable {T:Nat→List Nd} {P:List VP} {i:Nat}
theorem OInv.not (h:OInv T P i) (hi:i < 3):fnd P (ow i)=false:=fnd_not (Srt.of h.1) fun hm=>by
 obtain ⟨x,hx,e⟩:=List.mem_map.1 hm
 obtain ⟨j,hj,rfl⟩:=(h.2.2 x).1 hx
 have:=ow_ne (by omega) hi e
 omega
theorem OInv.succ (h:OInv T P i) (hi:i < 3) (hT:∀ j,vld (T j)=true):OInv T (insV P (ow i) (T i)) (i+1):=by
 refine ⟨insV_vld h.1 (h.not hi) (by rw [h.2.1];omega) (hT i),by rw [ins_len,h.2.1],fun x=>?_⟩
 rw [mem_ins,h.2.2 x]
 constructor
 · rintro (rfl | ⟨j,hj,rfl⟩)
   · exact ⟨i,by omega,rfl⟩
   · exact ⟨j,by omega,rfl⟩
 · rintro ⟨j,hj,rfl⟩
   by_cases e:j=i
   · subst e;exact .inl rfl
   · exact .inr ⟨j,by omega,rfl⟩
theorem OInv.tr (h:OInv T P i) {j:Nat} (hj:j < i):fnd P (ow j)=true∧Go.Proofs.YtbfjfnbcmojpiaaGreat.tr P (pos P (ow j))=T j:=tr_uniq (Srt.of h.1) ((h.2.2 _).2 ⟨j,hj,rfl⟩)
end
theorem keyO_tr {P:List VP} {o:List Nat} {a:Int} {l:List Nd} {q:List Nat×Int} (ha:isAddr a=true) (hv:vldV P=true) (h:fnd P o=true∧tr P (pos P o)=l) (hq:leafOf l a=q):keyO P o a=q:=(keyO_leaf ha hv h.1 rfl h.2).trans hq
theorem OInv.after (T:Nat→List Nd) {P:List VP} (h:OInv T P 3) (t:List Nd) (ht:vld t=true) :
   (vldV (setV P (ow 1) t)=true∧∀ j,j < 3→(fnd (setV P (ow 1) t) (ow j)=true∧Go.Proofs.YtbfjfnbcmojpiaaGreat.tr (setV P (ow 1) t) (pos (setV P (ow 1) t) (ow j))=if j=1 then t else T j)) ∧
   (vldV (dropV P (ow 1))=true∧fnd (dropV P (ow 1)) (ow 1)=false∧∀ j,j < 3→j≠1→(fnd (dropV P (ow 1)) (ow j)=true∧Go.Proofs.YtbfjfnbcmojpiaaGreat.tr (dropV P (ow 1)) (pos (dropV P (ow 1)) (ow j))=T j)):=by
 have hs:=Srt.of h.1
 have h1:=h.tr (j:=1) (by omega)
 have hv1:=setV_vld h.1 h1.1 ht
 have hv2:=dropV_vld h.1 h1.1
 refine ⟨⟨hv1,fun j hj=>tr_uniq (Srt.of hv1) ((mem_set hs h1.1).2 ?_)⟩,hv2,fnd_not (Srt.of hv2) fun hm=>?_,fun j hj hne=>tr_uniq (Srt.of hv2) ((mem_drp_iff hs h1.1).2 ⟨(h.2.2 _).2 ⟨j,hj,rfl⟩,fun e=>hne (ow_ne hj (by omega) e)⟩)⟩
 · by_cases e:j=1
   · subst e;exact .inl (by rw [if_pos rfl])
   · rw [if_neg e]
     exact .inr ⟨(h.2.2 _).2 ⟨j,hj,rfl⟩,fun e2=>e (ow_ne hj (by omega) e2)⟩
 · obtain ⟨x,hx,e⟩:=List.mem_map.1 hm
   exact ((mem_drp_iff hs h1.1).1 hx).2 e
end Go.Proofs.YtbfjfnbcmojpiaaGreat

namespace Go.Proofs.YtbfjfnbcmojpiaaGreat
open Go.RowKit Go.Shelf
set_option linter.unusedSimpArgs false
set_option linter.unusedVariables false
theorem bVal1 (n:Int) (w:World):(Instr.build 25 #[(0,.int .i64 1),(1,.int .i64 n)]).run Tryz.prog w=.ok (xval ⟨1,n,⟨#[]⟩⟩) w:=by kernel_rfl
def vint (n:Int):V:=(⟨1,n,⟨#[]⟩⟩:V).clean
def cellv (x:V) (n:Int) (b:Bool) (a:Int):Value:=.agg ([vc x,[.int .i64 n],[.bool b],[.int .i64 a]].flatten).toArray
theorem tyStr (s:ByteArray):TY Tryz.prog 9 [.string s] (.string s):=TY.one' Tryz.underlying9 rfl (by kernel_rfl) rfl
theorem ox_lenS {P:Program} {ops:Array Oper} {L:Nat→Sp} {n:Nat} {w0:World} {o:Oper} {x:Operand} {t:TypeId} {d:Nat} {s:ByteArray} (he:P.underlying t=some .string) (ho:o.op=.call { callee:=.builtin .len,args:=#[x],argTypes:=#[t] }) (hd:o.dst=some d) (hg:GX ops L n o.guard) (hx:OpX L n x (.string s)) (h:∀ w,(L d).on w (.int .i64 s.size)):OX P ops L n w0 o:=
 ox_run hg fun a w hw hl hsz=>⟨.int .i64 s.size,by
   have e:=hx.eval (o:=o) (a:=a) (w:=w) (by simp [ho,Op.operands,Call.operands]) hl
   simp only [execOp,ho,resolve,Sem.run_bind,Sem.run_pure,Result.andThen_ok,List.map_toArray,List.map_cons,List.map_nil,e]
   simp [invoke,builtin,Builtin.len_,run_underlying he,goInt],dst_on hd (h w)⟩
theorem tyV2F (x:V):TY Tryz.prog 25 ([[.int .i64 x.kind],[.int .i64 x.int],[.string x.text]].flatten) (xval x):=tyV2 x
def adrC (n:Int):Int:=bits .and .i64 n 17179869183
theorem andpC (m:Nat) (hm:m < 9223372036854775808) (n:Int) (h63:(BitVec.ofInt 64 (m:Int)).toNat=m):∃ k:Nat,k≤m∧bits .and .i64 n (m:Int)=(k:Int):=by
 have h:bits .and .i64 n (m:Int)=IntKind.i64.wrap (((BitVec.ofInt 64 n) &&& (BitVec.ofInt 64 (m:Int))).toNat:Int):=rfl
 have h2:((BitVec.ofInt 64 n) &&& (BitVec.ofInt 64 (m:Int))).toNat≤m:=by rw [BitVec.toNat_and,h63];exact Nat.and_le_right
 exact ⟨_,h2,by rw [h];exact wrap_i64 (by omega) (by omega)⟩
theorem adrC_isAddr (n:Int):isAddr (adrC n)=true:=by
 obtain ⟨k,hk,e⟩:=andpC 17179869183 (by decide) n (by decide)
 have e':adrC n=(k:Int):=e
 rw [e']
 unfold isAddr
 rw [decide_eq_true (by omega),decide_eq_true (by omega)]
 rfl
theorem tyCe (x:V) (n:Int) (b:Bool) (a:Int):TY Tryz.prog 27 ([vc x,[.int .i64 n],[.bool b],[.int .i64 a]].flatten) (cellv x n b a):=by
 refine TY.agg Tryz.underlying27 rfl (by kernel_rfl) ?_
 intro c hc
 simp [vc] at hc
 rcases hc with rfl | rfl | rfl | rfl | rfl | rfl <;> rfl
theorem rn_shrK {P:Program} {a c:Int} {t:TypeId} {x y:Operand} {w:World} (i:Nat) (hi:i < 64) (h:a / 2 ^ i=c):(do eqGuard .shr t x y (.int .i64 a) (.int .u64 (i:Int));binOp .shr t (.int .i64 a) (.int .u64 (i:Int)):Sem Value).run P w=.ok (.int .i64 c) w:=by
 subst h
 have h1:min i IntKind.i64.bits=i:=Nat.min_eq_left (by show i≤64;omega)
 simp [eqGuard,binOp_shr,shift_shr_any,h1]
def ownD (n:Nat):List Nat:=(n % 6) :: (zs 30 ++ [7 * (n % 6)])
theorem ownD_dg (n:Nat):Dg (ownD n):=by
 refine ⟨rfl,fun x hx=>?_⟩
 simp [ownD,zs] at hx
 omega
theorem ownD_eq {n:Nat} (h:n < 6):ownD n=n :: (zs 30 ++ [7 * n]):=by unfold ownD;rw [Nat.mod_eq_of_lt h]
def ownDD (n:Nat):DD:=⟨ownD n,ownD_dg n⟩
def sbit (n:Int) (i:Nat):Int:=bits .and .i64 (n / 2 ^ i) 1
def setD (n:Int):Nat→List DD
 | 0=>[]
 | i+1=>if sbit n i=1 then setD n i ++ [ownDD i] else setD n i
theorem setD_le (n:Int):∀ i,(setD n i).length≤i
 | 0=>Nat.le_refl _
 | i+1=>by
   have:=setD_le n i
   unfold setD
   split <;> simp <;> omega
def jt (b:Bool):Int:=if b then 1 else 0
set_option maxRecDepth 100000 in
set_option maxHeartbeats 4000000 in
theorem small_walk (x:V) (b:Bool) (hb:decide (x.text.size≤100)=b) (w:World) :
   Calls Tryz.prog 12 #[xval x] w fun e w'=>e=.returned (.bool b)∧w.grownBy w' none:=by
 refine cx_enter Tryz.func12 rfl Tryz.ntmps12 rfl fun a0 sv0=>?_
 have HG:=World.grownBy.refl w none
 replace sv0:Sv 7 [] [(0,xval x)] a0:=sv0
 refine wp_seq_k fun K1 k1=>?_
 refine wp_region_lit ?_
 refine tl_box sv0 rfl rfl rfl rfl rfl rfl (tyV2F x) fun a2 w2 B1_2 eq_B1_2 g2 z2 HB1_2 sv2=>?_
 have lo_B1_2:=nb_lo HG eq_B1_2
 replace HG:=grown_trans HG g2
 refine tl_as (v:=.bool false) sv2 r6 fun a3 sv3=>?_
 refine tl_nil ?_
 refine k1 _ _ ?_
 refine wp_seq_k fun K4 k4=>?_
 cases b
 · refine wp_region_lit ?_
   refine sx_hv sv3 4 [(3,pk B1_2 2),(4,.string x.text),(5,.int .i64 ((x.text.size:Nat))),(6,.bool false)]
     ⟨yf r6 (fun _=>by kernel_rfl),yp (i:=2) r6 (tyStr x.text) HB1_2 rfl rfl,ox_lenS (Tryz.underlying9) rfl rfl trivial (oy rfl rfl) (fun _=>rfl),ybc r6 (fun _=>rn_leq (by rw [← hb];exact decide_eq_decide.2 (by omega))),trivial⟩ fun a5 w5 g5 sv5=>?_
   refine tl_as (v:=.bool false) sv5 r6 fun a6 sv6=>?_
   have sv7:Sv 7 [] [(2,_),(0,_)] a6:=sv6.dl [3,4,5,6,1]
   refine tl_nil ?_
   refine k4 _ _ ?_
   replace HB1_2:=rw_kn g5 HB1_2
   replace HG:=grown_trans HG g5
   refine wp_ret ?_
   repeat refine then_ret ?_
   refine cx_ret (fn:=Tryz.f12) sv7 (res_tmp (p:=2) Tryz.results12 sv7 rfl rfl) ?_
   exact ⟨rfl,HG⟩
 · refine wp_region_lit ?_
   refine sx_hv sv3 4 [(3,pk B1_2 2),(4,.string x.text),(5,.int .i64 ((x.text.size:Nat))),(6,.bool true)]
     ⟨yf r6 (fun _=>by kernel_rfl),yp (i:=2) r6 (tyStr x.text) HB1_2 rfl rfl,ox_lenS (Tryz.underlying9) rfl rfl trivial (oy rfl rfl) (fun _=>rfl),ybc r6 (fun _=>rn_leq (by rw [← hb];exact decide_eq_decide.2 (by omega))),trivial⟩ fun a8 w8 g8 sv8=>?_
   refine tl_as (v:=.bool true) sv8 r6 fun a9 sv9=>?_
   have sv10:Sv 7 [] [(2,_),(0,_)] a9:=sv9.dl [3,4,5,6,1]
   refine tl_nil ?_
   refine k4 _ _ ?_
   replace HB1_2:=rw_kn g8 HB1_2
   replace HG:=grown_trans HG g8
   refine wp_ret ?_
   repeat refine then_ret ?_
   refine cx_ret (fn:=Tryz.f12) sv10 (res_tmp (p:=2) Tryz.results12 sv10 rfl rfl) ?_
   exact ⟨rfl,HG⟩
set_option maxRecDepth 100000 in
set_option maxHeartbeats 4000000 in
theorem owner_walk (n:Nat) (hn:n < 6) (w:World) :
   Calls Tryz.prog 30 #[.int .i64 ((n:Int))] w fun e w'=>e=.returned (dval (ownD n))∧w.grownBy w' none:=by
 have hdg:Dg (n :: (zs 30 ++ [7 * n])):=ownD_eq hn▸ownD_dg n
 rw [ownD_eq hn]
 refine cx_enter Tryz.func30 rfl Tryz.ntmps30 rfl fun a0 sv0=>?_
 have HG:=World.grownBy.refl w none
 replace sv0:Sv 9 [] [(0,.int .i64 ((n:Int)))] a0:=sv0
 refine wp_seq_k fun K1 k1=>?_
 refine wp_region_lit ?_
 refine tl_alloc (T:=23) (Z:=(bv zero32)) sv0 rfl rfl rfl (fun a w=>by kernel_rfl) fun a2 w2 B2_2 eq_B2_2 g2 z2 HB2_2 sv2=>?_
 have lo_B2_2:=nb_lo HG eq_B2_2
 replace HG:=grown_trans HG g2
 refine tl_nil ?_
 refine k1 _ _ ?_
 refine wp_seq_k fun K3 k3=>?_
 refine wp_region_lit ?_
 refine sx_hv sv2 6 [(3,.int .i64 ((n:Int))),(4,.int .u8 ((n:Int))),(5,.int .i64 ((n:Int))),(6,.int .i64 (((7 * n:Nat):Int))),(7,.int .u8 (((7 * n:Nat):Int))),(8,dval ((n :: (zs 30 ++ [7 * n]))))]
   ⟨ym r5,ox_conv rfl rfl trivial (oy rfl rfl) (fun _=>rn_conv Tryz.underlying3 Tryz.underlying5 (wrap_u8 (by omega) (by omega))) (fun _=>rfl),ym r5,ox_bin rfl rfl trivial rfl (oy rfl rfl) (fun _=>rn_mul (by rw [wrap_i64 (by omega) (by omega)];omega)) (fun _=>rfl),ox_conv rfl rfl trivial (oy rfl rfl) (fun _=>rn_conv Tryz.underlying3 Tryz.underlying5 (wrap_u8 (by omega) (by omega))) (fun _=>rfl),ox_build (vs:=[.int .u8 ((n:Int)),.int .u8 (((7 * n:Nat):Int))]) rfl rfl trivial ⟨(oy rfl rfl),(oy rfl rfl),trivial⟩ (fun _=>bDg2 n (7 * n) _) (fun _=>rfl),trivial⟩ fun a4 w4 g4 sv4=>?_
 refine tl_sw sv4 r7 (tyD ((n :: (zs 30 ++ [7 * n]))) hdg.1) (rw_kn g4 HB2_2) (lenD hdg) fun w5 g5 h5=>?_
 replace HG:=grown_newR (grown_trans HG g4) g5 lo_B2_2
 replace HB2_2:=h5
 have sv6:Sv 9 [] [(2,_)] a4:=sv4.dl [3,4,5,6,7,8,0]
 refine tl_nil ?_
 refine k3 _ _ ?_
 refine wp_ret ?_
 repeat refine then_ret ?_
 refine cx_ret (fn:=Tryz.f30) sv6 (res_cell (p:=2) Tryz.results30 sv6 rfl rfl (tyD ((n :: (zs 30 ++ [7 * n]))) hdg.1) HB2_2) ?_
 exact ⟨rfl,HG⟩
set_option maxRecDepth 100000 in
set_option maxHeartbeats 4000000 in
theorem joint_true (x:V) (n a:Int) (w:World) :
   Calls Tryz.prog 18 #[cellv x n true a] w fun e w'=>e=.returned (.int .i64 1)∧w.grownBy w' none:=by
 refine cx_enter Tryz.func18 rfl Tryz.ntmps18 rfl fun a0 sv0=>?_
 have HG:=World.grownBy.refl w none
 replace sv0:Sv 5 [] [(0,cellv x n true a)] a0:=sv0
 refine wp_seq_k fun K1 k1=>?_
 refine wp_region_lit ?_
 refine tl_box sv0 rfl rfl rfl rfl rfl rfl (tyCe x n true a) fun a2 w2 B1_2 eq_B1_2 g2 z2 HB1_2 sv2=>?_
 have lo_B1_2:=nb_lo HG eq_B1_2
 replace HG:=grown_trans HG g2
 refine tl_as (v:=.int .i64 0) sv2 r6 fun a3 sv3=>?_
 refine tl_nil ?_
 refine k1 _ _ ?_
 refine wp_seq_k fun K4 k4=>?_
 refine wp_seq_k fun K5 k5=>?_
 refine wp_region_lit ?_
 refine sx_hv sv3 2 [(3,pk B1_2 4),(4,.bool true)]
   ⟨yf r6 (fun _=>by kernel_rfl),yp (i:=2) r6 (tyBo true) HB1_2 rfl rfl,trivial⟩ fun a6 w6 g6 sv6=>?_
 refine tl_nil ?_
 refine k5 _ _ ?_
 refine cx_ifT sv6 rfl rfl ?_
 refine wp_seq_k fun K7 k7=>?_
 refine wp_region_lit ?_
 refine tl_as (v:=.int .i64 1) sv6 r6 fun a8 sv8=>?_
 refine tl_nil ?_
 refine k7 _ _ ?_
 replace HB1_2:=rw_kn g6 HB1_2
 replace HG:=grown_trans HG g6
 refine wp_ret ?_
 repeat refine then_ret ?_
 refine cx_ret (fn:=Tryz.f18) sv8 (res_tmp (p:=2) Tryz.results18 sv8 rfl rfl) ?_
 exact ⟨rfl,HG⟩
set_option maxRecDepth 100000 in
set_option maxHeartbeats 4000000 in
theorem joint_false (x:V) (n a:Int) (w:World) :
   Calls Tryz.prog 18 #[cellv x n false a] w fun e w'=>e=.returned (.int .i64 0)∧w.grownBy w' none:=by
 refine cx_enter Tryz.func18 rfl Tryz.ntmps18 rfl fun a0 sv0=>?_
 have HG:=World.grownBy.refl w none
 replace sv0:Sv 5 [] [(0,cellv x n false a)] a0:=sv0
 refine wp_seq_k fun K1 k1=>?_
 refine wp_region_lit ?_
 refine tl_box sv0 rfl rfl rfl rfl rfl rfl (tyCe x n false a) fun a2 w2 B1_2 eq_B1_2 g2 z2 HB1_2 sv2=>?_
 have lo_B1_2:=nb_lo HG eq_B1_2
 replace HG:=grown_trans HG g2
 refine tl_as (v:=.int .i64 0) sv2 r6 fun a3 sv3=>?_
 refine tl_nil ?_
 refine k1 _ _ ?_
 refine wp_seq_k fun K4 k4=>?_
 refine wp_seq_k fun K5 k5=>?_
 refine wp_region_lit ?_
 refine sx_hv sv3 2 [(3,pk B1_2 4),(4,.bool false)]
   ⟨yf r6 (fun _=>by kernel_rfl),yp (i:=2) r6 (tyBo false) HB1_2 rfl rfl,trivial⟩ fun a6 w6 g6 sv6=>?_
 refine tl_nil ?_
 refine k5 _ _ ?_
 refine cx_ifF sv6 rfl rfl ?_
 refine wp_skip ?_
 refine k4 _ _ ?_
 refine wp_seq_k fun K7 k7=>?_
 refine wp_region_lit ?_
 refine tl_as (v:=.int .i64 0) sv6 r6 fun a8 sv8=>?_
 refine tl_nil ?_
 refine k7 _ _ ?_
 replace HB1_2:=rw_kn g6 HB1_2
 replace HG:=grown_trans HG g6
 refine wp_ret ?_
 repeat refine then_ret ?_
 refine cx_ret (fn:=Tryz.f18) sv8 (res_tmp (p:=2) Tryz.results18 sv8 rfl rfl) ?_
 exact ⟨rfl,HG⟩
theorem joint_walk (x:V) (n:Int) (b:Bool) (a:Int) (w:World):Calls Tryz.prog 18 #[cellv x n b a] w fun e w'=>e=.returned (.int .i64 (jt b))∧w.grownBy w' none:=by
 cases b
 · exact joint_false x n a w
 · exact joint_true x n a w
set_option maxRecDepth 100000 in
set_option maxHeartbeats 4000000 in
theorem addr_walk (x:V) (n:Int) (b:Bool) (a:Int) (w:World) :
   Calls Tryz.prog 19 #[cellv x n b a] w fun e w'=>e=.returned (.int .i64 (adrC a))∧w.grownBy w' none:=by
 refine cx_enter Tryz.func19 rfl Tryz.ntmps19 rfl fun a0 sv0=>?_
 have HG:=World.grownBy.refl w none
 replace sv0:Sv 6 [] [(0,cellv x n b a)] a0:=sv0
 refine wp_seq_k fun K1 k1=>?_
 refine wp_region_lit ?_
 refine tl_box sv0 rfl rfl rfl rfl rfl rfl (tyCe x n b a) fun a2 w2 B1_2 eq_B1_2 g2 z2 HB1_2 sv2=>?_
 have lo_B1_2:=nb_lo HG eq_B1_2
 replace HG:=grown_trans HG g2
 refine tl_as (v:=.int .i64 0) sv2 r6 fun a3 sv3=>?_
 refine tl_nil ?_
 refine k1 _ _ ?_
 refine wp_seq_k fun K4 k4=>?_
 refine wp_region_lit ?_
 refine sx_hv sv3 3 [(3,pk B1_2 5),(4,.int .i64 a),(5,.int .i64 ((adrC a)))]
   ⟨yf r6 (fun _=>by kernel_rfl),yp (i:=3) r6 (tyInt64 a) HB1_2 rfl rfl,ybc r6 (fun _=>rn_and rfl),trivial⟩ fun a5 w5 g5 sv5=>?_
 refine tl_as (v:=.int .i64 ((adrC a))) sv5 r6 fun a6 sv6=>?_
 have sv7:Sv 6 [] [(2,_),(0,_)] a6:=sv6.dl [3,4,5,1]
 refine tl_nil ?_
 refine k4 _ _ ?_
 replace HB1_2:=rw_kn g5 HB1_2
 replace HG:=grown_trans HG g5
 refine wp_ret ?_
 repeat refine then_ret ?_
 refine cx_ret (fn:=Tryz.f19) sv7 (res_tmp (p:=2) Tryz.results19 sv7 rfl rfl) ?_
 exact ⟨rfl,HG⟩
set_option maxRecDepth 100000 in
set_option maxHeartbeats 4000000 in
theorem rInt_walk (n:Int) (w:World) :
   Calls Tryz.prog 37 #[.int .i64 n] w fun e w'=>e=.returned (xval (vint n))∧w.grownBy w' none:=by
 refine cx_enter Tryz.func37 rfl Tryz.ntmps37 rfl fun a0 sv0=>?_
 have HG:=World.grownBy.refl w none
 replace sv0:Sv 6 [] [(0,.int .i64 n)] a0:=sv0
 refine wp_seq_k fun K1 k1=>?_
 refine wp_region_lit ?_
 refine tl_alloc (T:=25) (Z:=[.int .i64 0,.int .i64 0,.string ⟨#[]⟩]) sv0 rfl rfl rfl (fun a w=>by kernel_rfl) fun a2 w2 B2_2 eq_B2_2 g2 z2 HB2_2 sv2=>?_
 have lo_B2_2:=nb_lo HG eq_B2_2
 replace HG:=grown_trans HG g2
 refine tl_nil ?_
 refine k1 _ _ ?_
 refine wp_seq_k fun K3 k3=>?_
 refine wp_region_lit ?_
 refine sx_hv sv2 3 [(3,.int .i64 n),(4,xval ((⟨1,n,⟨#[]⟩⟩:V))),(5,xval ((vint n)))]
   ⟨ym r5,ox_build (vs:=[.int .i64 1,.int .i64 n]) rfl rfl trivial ⟨rfl,(oy rfl rfl),trivial⟩ (fun _=>bVal1 n _) (fun _=>rfl),ox_call (Sp.is (xval ((vint n)))) [xval ((⟨1,n,⟨#[]⟩⟩:V))] rfl rfl trivial ⟨(oy rfl rfl),trivial⟩ (is_on fun W g=>rclean_walk _ W) (fun _ _ h=>h) (enter_of Tryz.func25 (by kernel_rfl) rfl),trivial⟩ fun a4 w4 g4 sv4=>?_
 refine tl_sw sv4 r7 (tyV2 ((vint n))) (rw_kn g4 HB2_2) rfl fun w5 g5 h5=>?_
 replace HG:=grown_newR (grown_trans HG g4) g5 lo_B2_2
 replace HB2_2:=h5
 have sv6:Sv 6 [] [(2,_)] a4:=sv4.dl [3,4,5,0]
 refine tl_nil ?_
 refine k3 _ _ ?_
 refine wp_ret ?_
 repeat refine then_ret ?_
 refine cx_ret (fn:=Tryz.f37) sv6 (res_cell (p:=2) Tryz.results37 sv6 rfl rfl (tyV2 ((vint n))) HB2_2) ?_
 exact ⟨rfl,HG⟩
set_option maxRecDepth 100000 in
set_option maxHeartbeats 4000000 in
theorem set_walk (n:Int) (w:World) :
   Calls Tryz.prog 17 #[.int .i64 n] w fun e w'=>∃ v,e=.returned v∧w.grownBy w' none∧(Sp.row w.heap.size 23 32 (setD n 6).length ((setD n 6).flatMap dcs)).on w' v:=by
 refine cx_enter Tryz.func17 rfl Tryz.ntmps17 rfl fun a0 sv0=>?_
 have HG:=World.grownBy.refl w none
 replace sv0:Sv 21 [] [(0,.int .i64 n)] a0:=sv0
 refine wp_seq_k fun K1 k1=>?_
 refine wp_region_lit ?_
 refine tl_as (v:=.slice none 0 0) sv0 r6 fun a2 sv2=>?_
 refine tl_nil ?_
 refine k1 _ _ ?_
 refine wp_seq_k fun K3 k3=>?_
 refine wp_region_lit ?_
 refine tl_as (v:=.slice none 0 0) sv2 r6 fun a4 sv4=>?_
 refine tl_nil ?_
 refine k3 _ _ ?_
 refine wp_seq_k fun K5 k5=>?_
 refine wp_seq_k fun K6 k6=>?_
 refine wp_region_lit ?_
 refine tl_as (v:=.int .i64 0) sv4 r6 fun a7 sv7=>?_
 refine tl_nil ?_
 refine k6 _ _ ?_
 refine cx_block fun Q8 x8 y8 rt8 o8=>?_
 have okk:=Own.nil w 23 32
 have lo_okk:∀ k,fpS (.slice none 0 0) k→w.heap.size≤k:=fun k hk=>by simp [fpS,Value.ownBlock] at hk
 refine wp_loop (fun a w'=>∃ (i:Nat) (so:Option Addr) (sc:Nat) (m:Nat) (L:List DD),(i≤6)∧(L=setD n i)∧(L.length=m)∧Sv 21 [] [(4,.int .i64 ((i:Int))),(3,.slice so m sc),(2,.slice none 0 0),(0,.int .i64 n)] a∧w.grownBy w' none∧Own w' 23 32 (.slice so m sc) m (L.flatMap dcs)∧(∀ k,fpS (.slice so m sc) k→w.heap.size≤k)) (fun a _=>(6 - intOf (a.tmps.getD 4 undef)).toNat) ⟨0,none,0,0,[],Nat.zero_le _,rfl,rfl,⟨sv7.1,sv7.2.1,sv7.2.2.1,sv7.2.2.2.1,sv7.2.2.2.2.1,sv7.2.2.2.2.2.1,trivial⟩,HG,okk,lo_okk⟩ fun a9 w9 hI9=>?_
 clear okk
 clear HG
 obtain ⟨i,so,sc,m,L,hi6,hL,hm,sv9,HG,okk,lo_okk⟩:=hI9
 refine wp_seq_k fun K10 k10=>?_
 refine wp_seq_k fun K11 k11=>?_
 by_cases hi:i < 6
 · refine wp_region_lit ?_
   refine sx_hv sv9 2 [(5,.int .i64 ((i:Int))),(6,.bool true)]
     ⟨ym r5,ybc r6 (fun _=>rn_lss (decide_eq_true (by omega))),trivial⟩ fun a12 w12 g12 sv12=>?_
   refine tl_nil ?_
   refine k11 _ _ ?_
   refine cx_ifT sv12 rfl rfl ?_
   refine wp_skip ?_
   refine k10 _ _ ?_
   refine wp_seq_k fun K13 k13=>?_
   refine cx_block fun Q14 x14 y14 rt14 o14=>?_
   refine wp_seq_k fun K15 k15=>?_
   replace okk:=okk.kn g12
   replace HG:=grown_trans HG g12
   by_cases hb:sbit n i=1
   · have hLl:=setD_le n i
     rw [← hL,hm] at hLl
     have hL1:L ++ [ownDD i]=setD n (i+1):=by rw [show setD n (i+1)=setD n i ++ [ownDD i] from if_pos hb,hL]
     refine wp_region_lit ?_
     refine sx_hv sv12 6 [(9,.int .i64 n),(10,.int .i64 ((i:Int))),(11,.int .u64 ((i:Int))),(12,.int .i64 ((n / 2 ^ i))),(13,.int .i64 ((sbit n i))),(14,.bool true)]
       ⟨ym r5,ym r5,ox_conv rfl rfl trivial (oy rfl rfl) (fun _=>rn_conv Tryz.underlying3 Tryz.underlying48 (wrap_uint (by omega) (by omega))) (fun _=>rfl),ybt r7 (fun _=>rn_shrK i (by omega) rfl),ybc r6 (fun _=>rn_and rfl),ybc r6 (fun _=>rn_eql (by rw [hb];rfl)),trivial⟩ fun a16 w16 g16 sv16=>?_
     refine tl_nil ?_
     refine k15 _ _ ?_
     refine cx_ifT sv16 rfl rfl ?_
     refine wp_region_lit ?_
     replace okk:=okk.kn g16
     replace HG:=grown_trans HG g16
     refine sx_hv sv16 3 [(15,.slice so m sc),(16,.int .i64 ((i:Int))),(17,dval ((ownD i)))]
       ⟨ym r5,ym r5,ox_call (Sp.is (dval ((ownD i)))) [.int .i64 ((i:Int))] rfl rfl trivial ⟨(oy rfl rfl),trivial⟩ (is_on fun W g=>owner_walk i hi W) (fun _ _ h=>h) (enter_of Tryz.func30 (by kernel_rfl) rfl),trivial⟩ fun a17 w17 g17 sv17=>?_
     replace okk:=okk.kn g17
     replace HG:=grown_trans HG g17
     refine tl_lit1 (cs:=bv ((ownD i))) (e:=23) sv17 rfl rfl rfl rfl rfl rfl (bS1D (ownD_dg i)) fun a18 w18 B18_18 eq_B18_18 g18 z18 HB18_18 sv18=>?_
     have lo_B18_18:=nb_lo HG eq_B18_18
     have ap_okk_B18_18:=nb_ap (Own.ltS okk) eq_B18_18
     replace okk:=okk.kn g18
     replace HG:=grown_trans HG g18
     refine tl_app dsT sv18 rfl rfl rfl rfl rfl rfl rfl rfl okk (sl_oneD HB18_18 (ownD_dg i)) (bv_cells _) (by omega) fun a19 ao19 cap19 w19 owx19 stp sv19=>?_
     have ap_owx19_B18_18:∀ k,fpS (.slice ao19 (m+1) cap19) k→k≠B18_18:=fun k hk=>(stp.2 k hk).elim (ap_okk_B18_18 k) (fun h=>nh_ne HB18_18 h)
     have lo_owx19:∀ k,fpS (.slice ao19 (m+1) cap19) k→w.heap.size≤k:=fun k hk=>(stp.2 k hk).elim (lo_okk k) (fun h=>Nat.le_trans HG.size h)
     replace HB18_18:=row_of stp.1 HB18_18 (fun e=>ap_okk_B18_18 _ e.symm rfl)
     replace HG:=grown_from HG stp.1 fun k e=>lo_okk k (e)
     rw [show bv (ownD i)=bv (ownDD i).x from rfl,fm_one L (ownDD i)] at owx19
     refine tl_as (v:=.slice ao19 (m+1) cap19) sv19 r6 fun a20 sv20=>?_
     have sv21:Sv 21 [] [(3,_),(9,_),(10,_),(11,_),(12,_),(13,_),(14,_),(5,_),(6,_),(4,_),(2,_),(0,_)] a20:=sv20.dl [19,18,15,16,17]
     refine tl_nil ?_
     refine y14 _ _ ?_
     refine k13 _ _ ?_
     refine wp_region_lit ?_
     refine sx_hv sv21 2 [(7,.int .i64 ((i:Int))),(8,.int .i64 (((i+1:Nat):Int)))]
       ⟨ym r5,ybc r6 (fun _=>rn_add (by rw [wrap_i64 (by omega) (by omega)];omega)),trivial⟩ fun a22 w22 g22 sv22=>?_
     refine tl_as (v:=.int .i64 (((i+1:Nat):Int))) sv22 r6 fun a23 sv23=>?_
     refine tl_nil ?_
     replace HB18_18:=rw_kn g22 HB18_18
     replace owx19:=owx19.kn g22
     replace HG:=grown_trans HG g22
     exact ⟨⟨i+1,ao19,cap19,m+1,(L ++ [ownDD i]),by omega,hL1,by rw [List.length_append,hm];rfl,⟨sv23.1,sv23.2.1,sv23.2.2.1,sv23.2.2.2.2.2.1,sv23.2.2.2.2.2.2.2.2.2.2.2.2.2.2.1,sv23.2.2.2.2.2.2.2.2.2.2.2.2.2.2.2.1,trivial⟩,HG,owx19,lo_owx19⟩,by rw [show _=_ from sv23.2.2.1,show _=_ from sv9.2.2.1];simp [intOf];omega⟩
   · have hL1:L=setD n (i+1):=by rw [show setD n (i+1)=setD n i from if_neg hb,hL]
     refine wp_region_lit ?_
     refine sx_hv sv12 6 [(9,.int .i64 n),(10,.int .i64 ((i:Int))),(11,.int .u64 ((i:Int))),(12,.int .i64 ((n / 2 ^ i))),(13,.int .i64 ((sbit n i))),(14,.bool false)]
       ⟨ym r5,ym r5,ox_conv rfl rfl trivial (oy rfl rfl) (fun _=>rn_conv Tryz.underlying3 Tryz.underlying48 (wrap_uint (by omega) (by omega))) (fun _=>rfl),ybt r7 (fun _=>rn_shrK i (by omega) rfl),ybc r6 (fun _=>rn_and rfl),ybc r6 (fun _=>rn_eql (by simpa using hb)),trivial⟩ fun a24 w24 g24 sv24=>?_
     refine tl_nil ?_
     refine k15 _ _ ?_
     refine cx_ifF sv24 rfl rfl ?_
     refine wp_skip ?_
     refine y14 _ _ ?_
     refine k13 _ _ ?_
     refine wp_region_lit ?_
     refine sx_hv sv24 2 [(7,.int .i64 ((i:Int))),(8,.int .i64 (((i+1:Nat):Int)))]
       ⟨ym r5,ybc r6 (fun _=>rn_add (by rw [wrap_i64 (by omega) (by omega)];omega)),trivial⟩ fun a25 w25 g25 sv25=>?_
     have gc25:=grown_trans g24 g25
     refine tl_as (v:=.int .i64 (((i+1:Nat):Int))) sv25 r6 fun a26 sv26=>?_
     refine tl_nil ?_
     replace okk:=okk.kn gc25
     replace HG:=grown_trans HG gc25
     exact ⟨⟨i+1,so,sc,m,L,by omega,hL1,hm,⟨sv26.1,sv26.2.1,sv26.2.2.1,sv26.2.2.2.2.2.2.2.2.2.2.2.2.2.1,sv26.2.2.2.2.2.2.2.2.2.2.2.2.2.2.1,sv26.2.2.2.2.2.2.2.2.2.2.2.2.2.2.2.1,trivial⟩,HG,okk,lo_okk⟩,by rw [show _=_ from sv26.2.2.1,show _=_ from sv9.2.2.1];simp [intOf];omega⟩
 · obtain rfl:i=6:=by omega
   refine wp_region_lit ?_
   refine sx_hv sv9 2 [(5,.int .i64 (((6:Nat):Int))),(6,.bool false)]
     ⟨ym r5,ybc r6 (fun _=>rn_lss (by simp)),trivial⟩ fun a27 w27 g27 sv27=>?_
   refine tl_nil ?_
   refine k11 _ _ ?_
   refine cx_ifF sv27 rfl rfl ?_
   refine wp_exit ?_
   repeat refine then_exit ?_
   refine x8 _ _ ?_
   refine k5 _ _ ?_
   refine wp_seq_k fun K28 k28=>?_
   refine wp_region_lit ?_
   refine sx_hv sv27 1 [(20,.slice so m sc)]
     ⟨ym r5,trivial⟩ fun a29 w29 g29 sv29=>?_
   have gc29:=grown_trans g27 g29
   refine tl_as (v:=.slice so m sc) sv29 r6 fun a30 sv30=>?_
   refine tl_nil ?_
   refine k28 _ _ ?_
   replace okk:=okk.kn gc29
   replace HG:=grown_trans HG gc29
   refine wp_ret ?_
   repeat refine then_ret ?_
   subst hL hm
   refine cx_ret (fn:=Tryz.f17) sv30 (res_tmp (p:=2) Tryz.results17 sv30 rfl rfl) ?_
   exact ⟨_,rfl,HG,_,_,rfl,okk,lo_okk⟩
end Go.Proofs.YtbfjfnbcmojpiaaGreat

namespace Go.Proofs.YtbfjfnbcmojpiaaGreat
open Go.ChangeShapes Go.WideShapes Go.ChangeAt Go.RowKit Go.Deep
set_option linter.unusedSimpArgs false
set_option linter.unusedVariables false
theorem none_below {a b:World} (h:a.grownBy b none):Below a.heap.size a b:=
 ⟨h.os,h.tape,h.output,h.size,fun i hi=>h.block i hi (by simp)⟩
theorem laidOut:laidOutB Tryz.prog=true:=by kernel_rfl
theorem fcellsVal:Tryz.prog.cellsOf 25=3:=by kernel_rfl
theorem fcellsCe:Tryz.prog.cellsOf 27=6:=by kernel_rfl
theorem fcellsStr:Tryz.prog.cellsOf 9=1:=by kernel_rfl
theorem fcellsB:Tryz.prog.cellsOf 4=1:=by kernel_rfl
theorem fcellsI:Tryz.prog.cellsOf 3=1:=by kernel_rfl
theorem fcellsI6:Tryz.prog.cellsOf 2=1:=by kernel_rfl
set_option maxRecDepth 100000 in
theorem el_val {H:Type} {enc:TypeId×Value→H} {W:World} {b0:Nat}:∀ fuel cs y,DataW.trod enc Tryz.prog W b0 (fun _=>true) true fuel 25 cs=some y→∃ x:V,cs=vc x:=by
 intro fuel cs y h
 obtain ⟨xs,k,_,_,hl,hxl,hf⟩:=DataW.trod_struct Tryz.underlying25 h
 rw [fcellsVal] at hl
 match cs,hl with
 | [a,b,c],_ =>
   obtain ⟨y0,h0⟩:=fld_at hxl hf 0 _ rfl 3 rfl 1 fcellsI
   obtain ⟨y1,h1⟩:=fld_at hxl hf 1 _ rfl 2 rfl 1 fcellsI6
   obtain ⟨y2,h2⟩:=fld_at hxl hf 2 _ rfl 9 rfl 1 fcellsStr
   obtain ⟨n0,e0,_,r0⟩:=DataW.trod_int Tryz.underlying3 h0
   obtain ⟨n1,e1,_,r1⟩:=DataW.trod_int Tryz.underlying2 h1
   obtain ⟨s2,e2,_,r2⟩:=DataW.trod_string Tryz.underlying9 h2
   simp at e0 e1 e2
   subst e0 e1 e2
   exact ⟨⟨n0,n1,s2⟩,rfl⟩
set_option maxRecDepth 100000 in
theorem open_cell {H:Type} {enc:TypeId×Value→H} {W:World} {r:Reach} {base b0:Nat} {v:Value} {d:DataW H} {p:List MemPlace} (hv:Value.okWide Tryz.prog W r base 27 v) (h:DataW.Trod enc Tryz.prog W b0 (fun _=>true) true 27 v d p):∃ (x:V) (n:Int) (b:Bool) (a:Int),v=cellv x n b a∧True:=by
 obtain ⟨cs,rfl,hcell⟩:=okWide_fields Tryz.underlying27 hv
 obtain ⟨fuel,hf⟩:=h
 have hf':DataW.trod enc Tryz.prog W b0 (fun _=>true) true fuel 27 cs.toList=some (d,p):=hf
 obtain ⟨xs,k,_,_,hl,hxl,hf⟩:=DataW.trod_struct Tryz.underlying27 hf'
 rw [fcellsCe] at hl
 obtain ⟨l⟩:=cs
 match l,hl with
 | [a,b,c,e,f,g],_ =>
   obtain ⟨y0,t0⟩:=fld_at hxl hf 0 _ rfl 25 rfl 3 fcellsVal
   obtain ⟨y1,t1⟩:=fld_at hxl hf 1 _ rfl 3 rfl 1 fcellsI
   obtain ⟨y2,t2⟩:=fld_at hxl hf 2 _ rfl 4 rfl 1 fcellsB
   obtain ⟨y3,t3⟩:=fld_at hxl hf 3 _ rfl 2 rfl 1 fcellsI6
   obtain ⟨v0,e0⟩:=el_val _ _ _ t0
   obtain ⟨n1,e1,_,_⟩:=DataW.trod_int Tryz.underlying3 t1
   obtain ⟨b2,e2,_⟩:=DataW.trod_bool Tryz.underlying4 t2
   obtain ⟨n3,e3,_,_⟩:=DataW.trod_int Tryz.underlying2 t3
   simp [vc] at e0 e1 e2 e3
   obtain ⟨rfl,rfl,rfl⟩:=e0
   subst e1 e2 e3
   exact ⟨v0,n1,b2,n3,rfl,trivial⟩
end Go.Proofs.YtbfjfnbcmojpiaaGreat
