import Derived.Test.YtbfjfnbcmojpiaaGreatY3
import Derived.Test.YtbfjfnbcmojpiaaGreatR1
namespace Go.Proofs.YtbfjfnbcmojpiaaGreat
open Go.RowKit Go.Shelf
set_option linter.unusedSimpArgs false
set_option linter.unusedVariables false
theorem c_is {P:Program} {f:Nat} {args:Array Value} {w:World} {v:Value} (h:Calls P f args w fun e w'=>e=.returned v∧w.grownBy w' none):Calls P f args w fun e w'=>∃ v',e=.returned v'∧(v'=v∧w.grownBy w' none):=h.mono fun e w' ⟨h1,h2⟩=>⟨v,h1,rfl,h2⟩
section
variable {P:Program} {Q:Exit→Act→World→Prop} {ops:Array Oper} {rest:List Oper} {o:Oper} {a:Act} {w:World} {n:Nat} {D:List Deferred} {K:List (Nat×Value)}
theorem tl_lit1 (sv:Sv n D K a) (hgd:o.guard=none) {d:Nat} {t e:TypeId} {x:Operand} {u:Value} {cs:List Value} (ho:o.op=.buildSlice t 1 #[(0,x)]) (hd:o.dst=some d) (hdn:decide (d < n)=true) (hx:okV K x=true) (hxv:evV K x=u)
   (hr:∀ W:World,(Instr.buildSlice t 1 #[(0,u)]).run P W=.ok (.slice (some ⟨W.heap.size,0,none⟩) 1 1) (W.alloc (.cells cs.toArray e)))
   (h:∀ a' w' b,b=w.heap.size→w.grownBy w' none→w'.heap.size=b+1→w'.heap[b]?=some (.cells cs.toArray e (0,0))→Sv n D ((d,.slice (some ⟨b,0,none⟩) 1 1) :: delK d K) a'→wpList P ops Q rest a' w'):wpList P ops Q (o :: rest) a w:=by
 refine tl_run (w':=w.alloc (.cells cs.toArray e)) sv hgd hd hdn ?_ fun a' sv'=>h a' _ _ rfl (World.grownBy_alloc _ _ _) (by simp) (heap_at rfl) sv'
 have e:=sv.ev hx hxv
 simp only [execOp,ho,e,List.map_toArray,List.map_cons,List.map_nil,Sem.run_bind,Sem.run_pure,Result.andThen_ok,hr]
theorem tl_lit2 (sv:Sv n D K a) (hgd:o.guard=none) {d:Nat} {t e:TypeId} {x y:Operand} {u v:Value} {cs:List Value} (ho:o.op=.buildSlice t 2 #[(0,x),(1,y)]) (hd:o.dst=some d) (hdn:decide (d < n)=true) (hx:okV K x=true) (hxv:evV K x=u) (hy:okV K y=true) (hyv:evV K y=v)
   (hr:∀ W:World,(Instr.buildSlice t 2 #[(0,u),(1,v)]).run P W=.ok (.slice (some ⟨W.heap.size,0,none⟩) 2 2) (W.alloc (.cells cs.toArray e)))
   (h:∀ a' w' b,b=w.heap.size→w.grownBy w' none→w'.heap.size=b+1→w'.heap[b]?=some (.cells cs.toArray e (0,0))→Sv n D ((d,.slice (some ⟨b,0,none⟩) 2 2) :: delK d K) a'→wpList P ops Q rest a' w'):wpList P ops Q (o :: rest) a w:=by
 refine tl_run (w':=w.alloc (.cells cs.toArray e)) sv hgd hd hdn ?_ fun a' sv'=>h a' _ _ rfl (World.grownBy_alloc _ _ _) (by simp) (heap_at rfl) sv'
 have e1:=sv.ev hx hxv
 have e2:=sv.ev hy hyv
 simp only [execOp,ho,e1,e2,List.map_toArray,List.map_cons,List.map_nil,Sem.run_bind,Sem.run_pure,Result.andThen_ok,hr]
end
section
variable {Q:Exit→Act→World→Prop} {ops:Array Oper} {rest:List Oper} {o:Oper} {a:Act} {w:World} {n:Nat} {D:List Deferred} {K:List (Nat×Value)}
theorem made_zs (m:Nat):madeCells (Value.int .u8 0).cells (m * 1)=(bv (zs m)).toArray:=by
 apply Array.ext'
 rw [made_rep (z:=.int .u8 0) (sz:=1) rfl (by decide)]
 induction m with
 | zero=>rfl
 | succ m ih=>rw [List.replicate_succ,List.flatMap_cons,ih];rfl
theorem tl_make {m:Nat} (sv:Sv n D K a) (hgd:o.guard=none) {d:Nat} {x:Operand} (ho:o.op=.makeSlice 29 x x) (hd:o.dst=some d) (hdn:decide (d < n)=true) (hx:okV K x=true) (hxv:evV K x=.int .i64 (m:Int)) (hm:m≤1000000)
   (h:∀ a' w' b,b=w.heap.size→w.grownBy w' none→w'.heap.size=b+1→w'.heap[b]?=some (.cells (bv (zs m)).toArray 5 (0,0))→Sv n D ((d,.slice (some ⟨b,0,none⟩) m m) :: delK d K) a'→wpList Tryz.prog ops Q rest a' w'):wpList Tryz.prog ops Q (o :: rest) a w:=by
 refine tl_run (w':=w.alloc (.cells (bv (zs m)).toArray 5)) sv hgd hd hdn ?_ fun a' sv'=>h a' _ _ rfl (World.grownBy_alloc _ _ _) (by simp) (heap_at rfl) sv'
 have e:=sv.ev hx hxv
 obtain ⟨i,hi,hz,hs,hby⟩:=bytesT.inf
 have hb:=bytesT.bnd
 have hbytes:(i.bytes:Int) * (m:Int)≤281474976710656:=by rw [hby];omega
 have hr:=run_make (P:=Tryz.prog) w 29 5 i (.int .u8 0) bytesT.und hi hz .i64 .i64 (m:Int) (m:Int) (by omega) (by omega) hbytes (by omega)
 rw [hs,Int.toNat_natCast,made_zs] at hr
 simp only [execOp,ho,e,Sem.run_bind,Sem.run_pure,Result.andThen_ok,hr]
theorem own_blk {B n:Nat} {xs:List Value} {t:TypeId} (h:w.heap[B]?=some (.cells xs.toArray t (0,0))) (hl:xs.length=n) (hn:n≤1000000):Own w t 1 (.slice (some ⟨B,0,none⟩) n n) n xs:=by
 subst hl
 refine ⟨by rw [Nat.mul_one],.inr ⟨B,xs.length,_,rfl,Nat.zero_le _,h,Nat.le_refl _,by unfold maxLen;omega,by simp,?_⟩⟩
 rw [Nat.mul_one,List.take_of_length_le (by simp)]
end
theorem zs_len (n:Nat):(zs n).length=n:=List.length_replicate
set_option maxRecDepth 100000 in
theorem recAInt_walk (w:World):CallsD Tryz.prog 138 #[] .returning w fun e u' w'=>e=.returned (.tuple #[])∧u'=.returning∧w'=w:=by
 refine callsD_of_wpS Tryz.func138 rfl fun c₀ cs hu=>?_
 apply wpS_region
 simp [wpOpsS,go_sem,recoverD,hu,Tryz.ntmps138]
 cases c₀
 simp_all [bodyPostS,results,Tryz.results138]
set_option maxRecDepth 100000 in
theorem recAVal_walk (w:World):CallsD Tryz.prog 98 #[] .returning w fun e u' w'=>e=.returned (.tuple #[])∧u'=.returning∧w'=w:=by
 refine callsD_of_wpS Tryz.func98 rfl fun c₀ cs hu=>?_
 apply wpS_region
 simp [wpOpsS,go_sem,recoverD,hu,Tryz.ntmps98]
 cases c₀
 simp_all [bodyPostS,results,Tryz.results98]
set_option maxRecDepth 100000 in
theorem recExpand_walk (p q:Value) (w:World):CallsD Tryz.prog 139 #[p,q] .returning w fun e u' w'=>e=.returned (.tuple #[])∧u'=.returning∧w'=w:=by
 refine callsD_of_wpS Tryz.func139 rfl fun c₀ cs hu=>?_
 apply wpS_seq
 apply wpS_region
 simp [wpOpsS,go_sem,recoverD,hu,Tryz.ntmps139,Exit.thenS]
 refine wpS_cond (t:=false) (by simp [Act.eval,Array.replicate]) ?_
 simp only [Bool.false_eq_true,if_false]
 refine wpS_of_wp (wp_skip ?_)
 cases c₀
 simp_all [bodyPostS,results,Tryz.results139]
theorem nwr_c {P:Program} {f:Nat} {args:Array Value} {w:World} {xs:List Nat} (h:Calls P f args w fun e w'=>NwR w w' xs e):Calls P f args w fun e w'=>∃ v,e=.returned v∧(Own w' 5 1 v xs.length (bv xs)∧Fresh w w' v):=
 h.mono fun e w' ⟨v,h1,h2,ao,cap,h3,h4,h5⟩=>⟨v,h1,h3▸h4,⟨by simpa [nilS,Value.ownBlock] using h2,fun k hk=>.inr (h5 k (h3▸hk))⟩⟩
theorem ints1_c {w:World} {B:Nat} {t:TypeId} {a:Int} (hb:w.heap[B]?=some (.cells [.int .i64 a].toArray t (0,0))) (h:In64 a):Calls Tryz.prog 132 #[.slice none 0 0,.slice (some ⟨B,0,none⟩) 1 1] w fun e w'=>∃ v,e=.returned v∧(Own w' 5 1 v (enc a).length (bv (enc a))∧Fresh w w' v):=by
 have:=ints_walk nilS (.slice (some ⟨B,0,none⟩) 1 1) [] [a] w (Own.nil _ _ _) (sl_blk hb ⟨rfl,by decide⟩) (.inr (by simp [nilS,Value.ownBlock])) (fun n hn=>by simp at hn;subst hn;exact h) (by simp)
 simpa using this
theorem ext_c {w:World} {v:Value} {ys:List Nat} (h:Sl w 1 v ys.length (bv ys)) (hm:0 < ys.length) (hl:ys.length≤3000000):Calls Tryz.prog 99 #[.slice none 0 0,v] w fun e w'=>∃ v,e=.returned v∧(Own w' 5 1 v ys.length (bv ys)∧Fresh w w' v):=by
 have:=extend_walk nilS v [] ys w (Sl.nil w 1) h hm (by simp;omega)
 simpa using this
theorem enc_pos (a:Int):0 < (enc a).length:=by
 unfold enc
 by_cases h:zig a < 128
 · rw [leb_small h];simp
 · rw [leb_big h];simp
theorem encV_pos (x:V):0 < (encV x).length:=by
 unfold encV encC
 rw [List.length_append]
 have:=enc_pos x.clean.kind
 omega
theorem b1i64 (a:Int) (W:World):(Instr.buildSlice 74 1 #[(0,.int .i64 a)]).run Tryz.prog W=.ok (.slice (some ⟨W.heap.size,0,none⟩) 1 1) (W.alloc (.cells [.int .i64 a].toArray 2)):=by kernel_rfl
theorem b2sl (ao bo:Option Addr) (n m c d:Nat) (W:World):(Instr.buildSlice 151 2 #[(0,.slice ao n c),(1,.slice bo m d)]).run Tryz.prog W=.ok (.slice (some ⟨W.heap.size,0,none⟩) 2 2) (W.alloc (.cells [.slice ao n c,.slice bo m d].toArray 29)):=by kernel_rfl
theorem cell0_c {w:World} (x:V):Calls Tryz.prog 100 #[.slice none 0 0,xval x] w fun e w'=>∃ v,e=.returned v∧(Own w' 5 1 v (encV x).length (bv (encV x))∧Fresh w w' v):=by
 have:=cell_app nilS x [] w (Own.nil _ _ _) (by simp)
 rw [List.nil_append] at this
 exact this
set_option maxRecDepth 100000 in
set_option maxHeartbeats 4000000 in
theorem apint_walk (n:Int) (hn:In64 n) (w:World) :
   Calls Tryz.prog 103 #[.slice none 0 0,.int .i64 n] w fun e w'=>NwR w w' (enc n) e:=by
 have hl:=enc_len hn.1 hn.2
 refine cx_enterD Tryz.func103 rfl Tryz.ntmps103 rfl fun a0 sv0=>?_
 have HG:=World.grownBy.refl w none
 replace sv0:Sv 10 [] [(0,.slice none 0 0),(1,.int .i64 n)] a0:=sv0
 refine wp_seq_k fun K1 k1=>?_
 refine wp_region_lit ?_
 refine tl_as (v:=.slice none 0 0) sv0 r6 fun a2 sv2=>?_
 refine tl_nil ?_
 refine k1 _ _ ?_
 refine wp_seq_k fun K3 k3=>?_
 refine wp_region_lit ?_
 refine tl_defer sv2 rfl (dd:={ target:=.fn (.func 138) #[],args:=#[] }) rfl (by simp [execOp,resolve,Deferred.ofValue];try rfl) fun a4 sv4=>?_
 refine tl_nil ?_
 refine k3 _ _ ?_
 refine wp_seq_k fun K5 k5=>?_
 refine wp_region_lit ?_
 refine sx_hv sv4 2 [(5,.slice none 0 0),(6,.int .i64 n)]
   ⟨ym r5,ym r5,trivial⟩ fun a6 w6 g6 sv6=>?_
 replace HG:=grown_trans HG g6
 refine tl_lit1 (cs:=[.int .i64 n]) (e:=2) sv6 rfl rfl rfl rfl rfl rfl (b1i64 n) fun a7 w7 B7_7 eq_B7_7 g7 z7 HB7_7 sv7=>?_
 have lo_B7_7:=nb_lo HG eq_B7_7
 replace HG:=grown_trans HG g7
 refine tl_call sv7 rfl rfl rfl rfl rfl (ints1_c HB7_7 hn) (enter_of Tryz.func132 (by kernel_rfl) rfl) fun a8 v8 w8 hR8 sv8=>?_
 obtain ⟨ao8,cap8,rfl,_⟩:=(Sl.of_own hR8.1).shape
 obtain ⟨ow8,fr8⟩:=hR8
 replace fr8:=step_nil fr8
 have g8:=fr8.1
 replace fr8:=fr8.2
 have ap_ow8_B7_7:=fr_ap fr8 HB7_7
 have lo_ow8:∀ k,fpS (.slice ao8 ((enc n)).length cap8) k→w.heap.size≤k:=fun k hk=>Nat.le_trans HG.size (fr8 k hk)
 replace HB7_7:=rw_kn g8 HB7_7
 replace HG:=grown_trans HG g8
 refine tl_call sv8 rfl rfl rfl rfl rfl (ext_c (Sl.of_own ow8) (enc_pos n) (by omega)) (enter_of Tryz.func99 (by kernel_rfl) rfl) fun a9 v9 w9 hR9 sv9=>?_
 obtain ⟨ao9,cap9,rfl,_⟩:=(Sl.of_own hR9.1).shape
 obtain ⟨ow9,fr9⟩:=hR9
 replace fr9:=step_nil fr9
 have g9:=fr9.1
 replace fr9:=fr9.2
 have ap_ow9_B7_7:=fr_ap fr9 HB7_7
 have ap_ow9_ow8:∀ k,fpS (.slice ao9 ((enc n)).length cap9) k→¬ fpS (.slice ao8 ((enc n)).length cap8) k:=fun k hk hzr=>absurd (Own.ltS ow8 k hzr) (Nat.not_lt.2 (fr9 k hk))
 have ap_ow8_ow9:∀ k,fpS (.slice ao8 ((enc n)).length cap8) k→¬ fpS (.slice ao9 ((enc n)).length cap9) k:=fun k hzr hk=>absurd (Own.ltS ow8 k hzr) (Nat.not_lt.2 (fr9 k hk))
 have lo_ow9:∀ k,fpS (.slice ao9 ((enc n)).length cap9) k→w.heap.size≤k:=fun k hk=>Nat.le_trans HG.size (fr9 k hk)
 replace HB7_7:=rw_kn g9 HB7_7
 replace ow8:=ow8.kn g9
 replace HG:=grown_trans HG g9
 refine tl_as (v:=.slice ao9 ((enc n)).length cap9) sv9 r6 fun a10 sv10=>?_
 have sv11:Sv 10 [{ target:=.fn (.func 138) #[],args:=#[] }] [(4,_)] a10:=sv10.dl [9,8,7,5,6,0,1]
 refine tl_nil ?_
 refine k5 _ _ ?_
 refine wp_ret ?_
 repeat refine then_ret ?_
 refine cx_retD (fn:=Tryz.f103) sv11 (res_tmp (p:=4) Tryz.results103 sv11 rfl rfl) (inv_of Tryz.func138 (by kernel_rfl) rfl _ _) (recAInt_walk _) ?_
 exact ⟨_,rfl,HG,_,_,rfl,ow9,lo_ow9⟩
set_option maxRecDepth 100000 in
set_option maxHeartbeats 4000000 in
theorem apval_walk (x:V) (w:World) :
   Calls Tryz.prog 53 #[.slice none 0 0,xval x] w fun e w'=>NwR w w' (encV x) e:=by
 have hl:=encV_len x
 refine cx_enterD Tryz.func53 rfl Tryz.ntmps53 rfl fun a0 sv0=>?_
 have HG:=World.grownBy.refl w none
 replace sv0:Sv 9 [] [(0,.slice none 0 0),(1,xval x)] a0:=sv0
 refine wp_seq_k fun K1 k1=>?_
 refine wp_region_lit ?_
 refine tl_box sv0 rfl rfl rfl rfl rfl rfl (tyV2 x) fun a2 w2 B3_2 eq_B3_2 g2 z2 HB3_2 sv2=>?_
 have lo_B3_2:=nb_lo HG eq_B3_2
 replace HG:=grown_trans HG g2
 refine tl_as (v:=.slice none 0 0) sv2 r6 fun a3 sv3=>?_
 refine tl_nil ?_
 refine k1 _ _ ?_
 refine wp_seq_k fun K4 k4=>?_
 refine wp_region_lit ?_
 refine tl_defer sv3 rfl (dd:={ target:=.fn (.func 98) #[],args:=#[] }) rfl (by simp [execOp,resolve,Deferred.ofValue];try rfl) fun a5 sv5=>?_
 refine tl_nil ?_
 refine k4 _ _ ?_
 refine wp_seq_k fun K6 k6=>?_
 refine wp_region_lit ?_
 refine sx_hv sv5 2 [(5,.slice none 0 0),(6,xval x)]
   ⟨ym r5,yl r6 (tyV2 x) HB3_2,trivial⟩ fun a7 w7 g7 sv7=>?_
 replace HB3_2:=rw_kn g7 HB3_2
 replace HG:=grown_trans HG g7
 refine tl_call sv7 rfl rfl rfl rfl rfl (cell0_c x) (enter_of Tryz.func100 (by kernel_rfl) rfl) fun a8 v8 w8 hR8 sv8=>?_
 obtain ⟨ao8,cap8,rfl,_⟩:=(Sl.of_own hR8.1).shape
 obtain ⟨ow8,fr8⟩:=hR8
 replace fr8:=step_nil fr8
 have g8:=fr8.1
 replace fr8:=fr8.2
 have ap_ow8_B3_2:=fr_ap fr8 HB3_2
 have lo_ow8:∀ k,fpS (.slice ao8 ((encV x)).length cap8) k→w.heap.size≤k:=fun k hk=>Nat.le_trans HG.size (fr8 k hk)
 replace HB3_2:=rw_kn g8 HB3_2
 replace HG:=grown_trans HG g8
 refine tl_call sv8 rfl rfl rfl rfl rfl (ext_c (Sl.of_own ow8) (encV_pos x) (by omega)) (enter_of Tryz.func99 (by kernel_rfl) rfl) fun a9 v9 w9 hR9 sv9=>?_
 obtain ⟨ao9,cap9,rfl,_⟩:=(Sl.of_own hR9.1).shape
 obtain ⟨ow9,fr9⟩:=hR9
 replace fr9:=step_nil fr9
 have g9:=fr9.1
 replace fr9:=fr9.2
 have ap_ow9_B3_2:=fr_ap fr9 HB3_2
 have ap_ow9_ow8:∀ k,fpS (.slice ao9 ((encV x)).length cap9) k→¬ fpS (.slice ao8 ((encV x)).length cap8) k:=fun k hk hzr=>absurd (Own.ltS ow8 k hzr) (Nat.not_lt.2 (fr9 k hk))
 have ap_ow8_ow9:∀ k,fpS (.slice ao8 ((encV x)).length cap8) k→¬ fpS (.slice ao9 ((encV x)).length cap9) k:=fun k hzr hk=>absurd (Own.ltS ow8 k hzr) (Nat.not_lt.2 (fr9 k hk))
 have lo_ow9:∀ k,fpS (.slice ao9 ((encV x)).length cap9) k→w.heap.size≤k:=fun k hk=>Nat.le_trans HG.size (fr9 k hk)
 replace HB3_2:=rw_kn g9 HB3_2
 replace ow8:=ow8.kn g9
 replace HG:=grown_trans HG g9
 refine tl_as (v:=.slice ao9 ((encV x)).length cap9) sv9 r6 fun a10 sv10=>?_
 have sv11:Sv 9 [{ target:=.fn (.func 98) #[],args:=#[] }] [(4,_),(1,_)] a10:=sv10.dl [8,7,5,6,3,0]
 refine tl_nil ?_
 refine k6 _ _ ?_
 refine wp_ret ?_
 repeat refine then_ret ?_
 refine cx_retD (fn:=Tryz.f53) sv11 (res_tmp (p:=4) Tryz.results53 sv11 rfl rfl) (inv_of Tryz.func98 (by kernel_rfl) rfl _ _) (recAVal_walk _) ?_
 exact ⟨_,rfl,HG,_,_,rfl,ow9,lo_ow9⟩
end Go.Proofs.YtbfjfnbcmojpiaaGreat

namespace Go.Proofs.YtbfjfnbcmojpiaaGreat
open Go.RowKit Go.Shelf
set_option linter.unusedSimpArgs false
set_option linter.unusedVariables false
def SlZ (w:World) (v:Value) (n:Nat) (xs:List Value):Prop:=Sl w 1 v n xs
def fpZ (n:Nat) (v:Value) (k:Nat):Prop:=0 < n∧fpS v k
section
variable {w w':World} {v:Value} {n:Nat} {xs:List Value}
theorem SlZ.kn (h:SlZ w v n xs) (g:w.grownBy w' none):SlZ w' v n xs:=Sl.kn h g
theorem SlZ.lt (h:SlZ w v n xs):∀ k,fpZ n v k→k < w.heap.size:=by
 rintro k ⟨h0,hk⟩
 obtain ⟨hl,ao,cap,rfl,h1,h2,h3,h4⟩:=h
 cases ao with
 | none=>cases hk
 | some a =>
   obtain rfl:a.block=k:=Option.some.inj hk
   obtain ⟨u,hu⟩:∃ u,xs[0]?=some u:=⟨_,List.getElem?_eq_getElem (by omega)⟩
   have hb:=(h4 a rfl).2 0 u hu
   have:=block_lt_of_cell hb
   exact this
theorem SlZ.offR (h:SlZ w v n xs) {row:Option Nat} (g:w.grownBy w' row) (hb:∀ k,fpZ n v k→row≠some k):SlZ w' v n xs:=by
 rcases Nat.eq_zero_or_pos n with h0 | h0
 · subst h0
   obtain ⟨hl,ao,cap,e,h1,h2,h3,h4⟩:=h
   obtain rfl:xs=[]:=List.eq_nil_of_length_eq_zero (by omega)
   exact ⟨hl,ao,cap,e,h1,h2,h3,fun a ha=>⟨fun h=>absurd h (by omega),fun j u hu=>by simp at hu⟩⟩
 · exact Sl.offR h g fun k hk=>hb k ⟨h0,hk⟩
end
def str_ (c:List Nat) (n:Nat):List Nat:=sq (absorb (BitVec.ofNat 64 284) c) n
theorem str_len (c:List Nat) (n:Nat):(str_ c n).length=n:=sq_len _ _
theorem str_by (c:List Nat) (n:Nat):By (str_ c n):=fun x hx=>sq_lt _ _ x hx
theorem cry_len (b c:List Nat):(cry b c).length=b.length:=xorL_len (by rw [sq_len];omega)
theorem cry_by {b:List Nat} (c:List Nat) (h:By b):By (cry b c):=xorL_by h fun x hx=>sq_lt _ _ x hx
theorem absorb_c {w:World} {dom:Nat} (hd:dom < 1000) {c:Int} (hc:c=(dom:Int)) {l:List Nat} {s:Value} (hb:By l) (hl:l.length≤1000000) (h:Sl w 1 s l.length (bv l)):Calls Tryz.prog 136 #[.int .u64 c,s] w fun e w'=>e=.returned (sval (absorb (BitVec.ofNat 64 dom) l))∧w.grownBy w' none:=by
 have e:c=wi (BitVec.ofNat 64 dom):=by rw [hc,← u64_wi,IntKind.wrap_u64];omega
 rw [e]
 exact absorb_walk _ l hb (by omega) s w h
theorem sum_c {w:World} {dom:Nat} (hd:dom < 1000) {c:Int} (hc:c=(dom:Int)) {l:List Nat} {s:Value} (hb:By l) (hl:l.length≤1000000) (h:Sl w 1 s l.length (bv l)):Calls Tryz.prog 101 #[.int .u64 c,s] w fun e w'=>e=.returned (dval (dig (BitVec.ofNat 64 dom) l))∧w.grownBy w' none:=by
 have e:c=wi (BitVec.ofNat 64 dom):=by rw [hc,← u64_wi,IntKind.wrap_u64];omega
 rw [e]
 exact sum_walk _ l hb (by omega) s w h
theorem keyedl_c {w:World} {dom:Nat} (hd:dom < 1000) {c:Int} (hc:c=(dom:Int)) {k l:List Nat} {s:Value} (hk:Dg k) (hb:By l) (hl:l.length≤1000000) (h:Sl w 1 s l.length (bv l)):Calls Tryz.prog 66 #[.int .u64 c,dval k,s] w fun e w'=>e=.returned (dval (keyed (BitVec.ofNat 64 dom) k l))∧w.grownBy w' none:=by
 have e:c=wi (BitVec.ofNat 64 dom):=by rw [hc,← u64_wi,IntKind.wrap_u64];omega
 rw [e]
 exact keyed_walk _ k l hk.1 hk.2 hb (by omega) s w h
theorem sqz_c {w:World} {s:St} {n D:Nat} {T:TypeId} (hn:n≤1000000) (hD:w.heap[D]?=some (.cells (bv (zs n)).toArray T (0,0))):Calls Tryz.prog 135 #[sval s,.slice (some ⟨D,0,none⟩) n n] w fun e w'=>∃ v,e=.returned v∧(v=.tuple #[]∧w.grownBy w' (some D)∧w'.heap[D]?=some (.cells (bv (sq s n)).toArray T (0,0))):=
 (squeeze_walk s n (by omega) D T w hD).mono fun e w' ⟨h1,h2,h3⟩=>⟨_,h1,rfl,h2,h3⟩
theorem concat_c {w:World} {x y:List Nat} {s t:Value} {B:Nat} (hs:Sl w 1 s x.length (bv x)) (ht:Sl w 1 t y.length (bv y)) (hB:w.heap[B]?=some (.cells [s,t].toArray 29 (0,0))) (hx:x.length≤1000000) (hy:y.length≤1000000) :
   Calls Tryz.prog 102 #[.slice (some ⟨B,0,none⟩) 2 2] w fun e w'=>∃ v,e=.returned v∧(Own w' 5 1 v (x ++ y).length (bv (x ++ y))∧Fresh w w' v):=by
 rw [List.length_append]
 exact concat_walk x y (by omega) (by omega) s t w hs ht B hB
theorem nwr_of {w w':World} {xs:List Nat} {n cap:Nat} {ao:Option Addr} (hl:xs.length=n) (HG:w.grownBy w' none) (ho:Own w' 5 1 (.slice ao n cap) n (bv xs)) (lo:∀ k,fpS (.slice ao n cap) k→w.heap.size≤k) {v:Value} (hv:v=.slice ao n cap):NwR w w' xs (.returned v):=by
 subst hl hv
 exact ⟨_,rfl,HG,_,_,rfl,ho,lo⟩
theorem by_app {x y:List Nat} (hx:By x) (hy:By y):By (x ++ y):=fun b hb=>(List.mem_append.1 hb).elim (hx b) (hy b)
theorem tgC_dg (a:Int) (b:List Nat):Dg (tgC a b):=⟨dig_len _ _,dig_lt _ _⟩
theorem tgK_dg (c:List Nat) (a:Int) (b:List Nat):Dg (tgK c a b):=⟨dig_len _ _,dig_lt _ _⟩
theorem cky_dg (q:Bool) (ks:List (List Nat)):Dg (cky q ks):=⟨dig_len _ _,dig_lt _ _⟩
theorem sl_dig {w:World} {b:Nat} {k:List Nat} (hk:Dg k) (h:w.rangeAt b 0 (bv k)):Sl w 1 (.slice (some ⟨b,0,none⟩) 32 32) k.length (bv k):=by
 rw [hk.1]
 refine ⟨by rw [bv_length,hk.1],_,_,rfl,Nat.le_refl _,by unfold maxLen;omega,fun h=>(by cases h),fun ad had=>?_⟩
 obtain rfl:=Option.some.inj had
 exact ⟨fun _=>rfl,fun j u hu=>by simpa using h j u hu⟩
set_option maxRecDepth 100000 in
set_option maxHeartbeats 4000000 in
theorem expand_walk (q:List Nat) (hq:Dg q) (n:Nat) (hn:n≤4096) (w:World) :
   Calls Tryz.prog 105 #[.int .u64 284,dval q,.int .i64 ((n:Int))] w fun e w'=>∃ v,e=.returned (.tuple #[v,.int .i64 0])∧w.grownBy w' none∧(Sp.row w.heap.size 5 1 n (bv (str_ q n))).on w' v:=by
 refine cx_enterD Tryz.func105 rfl Tryz.ntmps105 rfl fun a0 sv0=>?_
 have HG:=World.grownBy.refl w none
 replace sv0:Sv 24 [] [(0,.int .u64 284),(1,dval q),(2,.int .i64 ((n:Int)))] a0:=sv0
 refine wp_seq_k fun K1 k1=>?_
 refine wp_region_lit ?_
 refine tl_box sv0 rfl rfl rfl rfl rfl rfl (tyD q hq.1) fun a2 w2 B4_2 eq_B4_2 g2 z2 HB4_2 sv2=>?_
 have lo_B4_2:=nb_lo HG eq_B4_2
 replace HG:=grown_trans HG g2
 refine tl_alloc (T:=29) (Z:=[.slice none 0 0]) sv2 rfl rfl rfl (fun a w=>by kernel_rfl) fun a3 w3 B6_3 eq_B6_3 g3 z3 HB6_3 sv3=>?_
 have ne_B6_3_B4_2:=nb_ne HB4_2 eq_B6_3
 have lo_B6_3:=nb_lo HG eq_B6_3
 replace HB4_2:=rw_kn g3 HB4_2
 replace HG:=grown_trans HG g3
 refine tl_alloc (T:=38) (Z:=[.int .i64 0]) sv3 rfl rfl rfl (fun a w=>by kernel_rfl) fun a4 w4 B7_4 eq_B7_4 g4 z4 HB7_4 sv4=>?_
 have ne_B7_4_B4_2:=nb_ne HB4_2 eq_B7_4
 have ne_B7_4_B6_3:=nb_ne HB6_3 eq_B7_4
 have lo_B7_4:=nb_lo HG eq_B7_4
 replace HB4_2:=rw_kn g4 HB4_2
 replace HB6_3:=rw_kn g4 HB6_3
 replace HG:=grown_trans HG g4
 refine tl_nil ?_
 refine k1 _ _ ?_
 refine wp_seq_k fun K5 k5=>?_
 refine wp_region_lit ?_
 refine tl_makeFunc sv4 rfl rfl rfl rfl rfl rfl fun a6 sv6=>?_
 refine tl_defer sv6 rfl (dd:={ target:=.fn (.func 139) #[pt B6_3,pt B7_4],args:=#[] }) rfl (by have e1:=sv6.ev (x:=.tmp 9) rfl rfl;simp [execOp,resolve,Deferred.ofValue,e1];try rfl) fun a7 sv7=>?_
 refine tl_nil ?_
 refine k5 _ _ ?_
 refine wp_seq_k fun K8 k8=>?_
 refine wp_seq_k fun K9 k9=>?_
 refine wp_region_lit ?_
 refine sx_hv sv7 6 [(10,.int .i64 ((n:Int))),(11,.bool false),(12,.bool false),(13,.int .i64 ((n:Int))),(14,.bool false),(15,.bool false)]
   ⟨ym r5,ybc r6 (fun _=>rn_lss (decide_eq_false (by omega))),ym r5,ox_move 2 13 (.inl rfl) rfl rfl (gy rfl rfl rfl) (fun _ _ h=>h),ox_bin rfl rfl (gy rfl rfl rfl) (oy rfl rfl) rfl (fun _=>rn_gtr (decide_eq_false (by omega))) (fun _=>rfl),ox_pick rfl rfl trivial (oy rfl rfl) (oy rfl rfl) (fun _=>rfl),trivial⟩ fun a10 w10 g10 sv10=>?_
 refine tl_nil ?_
 refine k9 _ _ ?_
 refine cx_ifF sv10 rfl rfl ?_
 refine wp_skip ?_
 refine k8 _ _ ?_
 refine wp_seq_k fun K11 k11=>?_
 refine wp_region_lit ?_
 refine sx_hv sv10 1 [(16,.int .i64 ((n:Int)))]
   ⟨ym r5,trivial⟩ fun a12 w12 g12 sv12=>?_
 have gc12:=grown_trans g10 g12
 replace HB4_2:=rw_kn gc12 HB4_2
 replace HB6_3:=rw_kn gc12 HB6_3
 replace HB7_4:=rw_kn gc12 HB7_4
 replace HG:=grown_trans HG gc12
 refine tl_make (m:=n) sv12 rfl rfl rfl rfl rfl rfl (by omega) fun a13 w13 B17_13 eq_B17_13 g13 z13 HB17_13 sv13=>?_
 have ne_B17_13_B4_2:=nb_ne HB4_2 eq_B17_13
 have ne_B17_13_B6_3:=nb_ne HB6_3 eq_B17_13
 have ne_B17_13_B7_4:=nb_ne HB7_4 eq_B17_13
 have lo_B17_13:=nb_lo HG eq_B17_13
 replace HB4_2:=rw_kn g13 HB4_2
 replace HB6_3:=rw_kn g13 HB6_3
 replace HB7_4:=rw_kn g13 HB7_4
 replace HG:=grown_trans HG g13
 refine tl_as (v:=.slice ((some ⟨B17_13,0,none⟩)) n n) sv13 r6 fun a14 sv14=>?_
 refine tl_nil ?_
 refine k11 _ _ ?_
 refine wp_seq_k fun K15 k15=>?_
 refine wp_region_lit ?_
 refine sx_hv sv14 2 [(18,.int .u64 284),(19,.slice ((some ⟨B4_2,0,none⟩)) 32 32)]
   ⟨ym r5,ox_slice (l:=none) (u:=none) rfl rfl trivial (oy rfl rfl) trivial trivial (sl_arr B4_2 0) (fun _=>rfl),trivial⟩ fun a16 w16 g16 sv16=>?_
 replace HB4_2:=rw_kn g16 HB4_2
 replace HB6_3:=rw_kn g16 HB6_3
 replace HB7_4:=rw_kn g16 HB7_4
 replace HB17_13:=rw_kn g16 HB17_13
 replace HG:=grown_trans HG g16
 refine tl_call sv16 rfl rfl rfl rfl rfl (c_is (absorb_c (dom:=284) (by decide) rfl hq.2 (by rw [hq.1];decide) (sl_dig hq (rangeAt_row HB4_2)))) (enter_of Tryz.func136 (by kernel_rfl) rfl) fun a17 v17 w17 hR17 sv17=>?_
 obtain ⟨rfl,g17⟩:=hR17
 replace HB4_2:=rw_kn g17 HB4_2
 replace HB6_3:=rw_kn g17 HB6_3
 replace HB7_4:=rw_kn g17 HB7_4
 replace HB17_13:=rw_kn g17 HB17_13
 replace HG:=grown_trans HG g17
 have sv18:Sv 24 [{ target:=.fn (.func 139) #[pt B6_3,pt B7_4],args:=#[] }] [(20,_),(8,_),(17,_),(16,_),(10,_),(11,_),(12,_),(13,_),(14,_),(15,_),(9,_),(7,_),(6,_),(1,_),(2,_)] a17:=sv17.dl [18,19,4,0]
 refine sx_hv sv18 1 [(21,.slice ((some ⟨B17_13,0,none⟩)) n n)]
   ⟨ym r5,trivial⟩ fun a19 w19 g19 sv19=>?_
 replace HB4_2:=rw_kn g19 HB4_2
 replace HB6_3:=rw_kn g19 HB6_3
 replace HB7_4:=rw_kn g19 HB7_4
 replace HB17_13:=rw_kn g19 HB17_13
 replace HG:=grown_trans HG g19
 refine tl_call sv19 rfl rfl rfl rfl rfl (sqz_c (n:=n) (by omega) HB17_13) (enter_of Tryz.func135 (by kernel_rfl) rfl) fun a20 v20 w20 hR20 sv20=>?_
 obtain ⟨rfl,g20,h20⟩:=hR20
 replace HB4_2:=rw_st g20 HB4_2 (Ne.symm ne_B17_13_B4_2)
 replace HB6_3:=rw_st g20 HB6_3 (Ne.symm ne_B17_13_B6_3)
 replace HB7_4:=rw_st g20 HB7_4 (Ne.symm ne_B17_13_B7_4)
 replace HG:=grown_newR HG g20 lo_B17_13
 replace HB17_13:=h20
 refine tl_nil ?_
 refine k15 _ _ ?_
 refine wp_seq_k fun K21 k21=>?_
 refine wp_region_lit ?_
 refine sx_hv sv20 1 [(23,.slice ((some ⟨B17_13,0,none⟩)) n n)]
   ⟨ym r5,trivial⟩ fun a22 w22 g22 sv22=>?_
 refine tl_sw sv22 r7 (tyBys (.slice ((some ⟨B17_13,0,none⟩)) n n) rfl) (rw_kn g22 HB6_3) rfl fun w23 g23 h23=>?_
 replace HB4_2:=rw_s2 g22 g23 HB4_2 (Ne.symm ne_B6_3_B4_2)
 replace HB7_4:=rw_s2 g22 g23 HB7_4 ne_B7_4_B6_3
 replace HB17_13:=rw_s2 g22 g23 HB17_13 ne_B17_13_B6_3
 replace HG:=grown_newR (grown_trans HG g22) g23 lo_B6_3
 replace HB6_3:=h23
 refine tl_sw sv22 r7 (tyE 0) HB7_4 rfl fun w24 g24 h24=>?_
 replace HB4_2:=rw_st g24 HB4_2 (Ne.symm ne_B7_4_B4_2)
 replace HB6_3:=rw_st g24 HB6_3 (Ne.symm ne_B7_4_B6_3)
 replace HB17_13:=rw_st g24 HB17_13 ne_B17_13_B7_4
 replace HG:=grown_newR HG g24 lo_B7_4
 replace HB7_4:=h24
 refine tl_nil ?_
 refine k21 _ _ ?_
 refine wp_ret ?_
 repeat refine then_ret ?_
 have ho:=own_blk (n:=n) HB17_13 (by rw [bv_length];exact str_len q n) (by omega)
 refine cx_retD (fn:=Tryz.f105) sv22 (res_cell2 (p:=6) (q:=7) Tryz.results105 sv22 rfl rfl rfl rfl (tyBys (.slice ((some ⟨B17_13,0,none⟩)) n n) rfl) (tyE 0) HB6_3 HB7_4) (inv_of Tryz.func139 (by kernel_rfl) rfl _ _) (recExpand_walk _ _ _) ?_
 exact ⟨_,rfl,HG,_,_,rfl,ho,fun k hk=>(Option.some.inj hk)▸lo_B17_13⟩
theorem exp_c {w:World} {k:List Nat} (hk:Dg k) {n:Nat} (hn:n≤4096):Calls Tryz.prog 105 #[.int .u64 284,dval k,.int .i64 (n:Int)] w fun e w'=>∃ v,e=.returned v∧(∃ ao cap,v=.tuple #[.slice ao n cap,.int .i64 0]∧w.grownBy w' none∧Own w' 5 1 (.slice ao n cap) n (bv (str_ k n))∧∀ b,fpS (.slice ao n cap) b→w.heap.size≤b):=
 (expand_walk k hk n hn w).mono fun e w' ⟨v,h1,h2,ao,cap,h3,h4,h5⟩=>⟨_,h1,ao,cap,by rw [h3],h2,h4,h5⟩
theorem xor_c {P:Program} {f:Nat} {args:Array Value} {w w1:World} {u:Value} {n:Nat} {xs:List Value} (h:Calls P f args w1 fun e w'=>e=.returned u∧w.grownBy w' none∧Own w' 5 1 u n xs):Calls P f args w1 fun e w'=>∃ v,e=.returned v∧(v=u∧w.grownBy w' none∧Own w' 5 1 u n xs):=h.mono fun e w' ⟨h1,h2,h3⟩=>⟨_,h1,rfl,h2,h3⟩
set_option maxRecDepth 100000 in
set_option maxHeartbeats 4000000 in
theorem crypted_walk (x:List Nat) (bx:By x) (lx:x.length≤4096) (ao:Option Addr) (cap:Nat) (c:List Nat) (hc:Dg c) (w:World) (hx:SlB w 1 (.slice ao x.length cap) x.length (bv x)) :
   Calls Tryz.prog 57 #[.slice ao x.length cap,dval c] w fun e w'=>NwR w w' (cry x c) e:=by
 refine cx_enter Tryz.func57 rfl Tryz.ntmps57 rfl fun a0 sv0=>?_
 have HG:=World.grownBy.refl w none
 replace sv0:Sv 20 [] [(0,.slice ao x.length cap),(1,dval c)] a0:=sv0
 refine wp_seq_k fun K1 k1=>?_
 refine wp_region_lit ?_
 refine tl_box sv0 rfl rfl rfl rfl rfl rfl (tyD c hc.1) fun a2 w2 B3_2 eq_B3_2 g2 z2 HB3_2 sv2=>?_
 have lo_B3_2:=nb_lo HG eq_B3_2
 have ap_hx_B3_2:=nb_ap (hx.lt) eq_B3_2
 replace hx:=hx.kn g2
 replace HG:=grown_trans HG g2
 refine tl_as (v:=.slice none 0 0) sv2 r6 fun a3 sv3=>?_
 refine tl_nil ?_
 refine k1 _ _ ?_
 refine wp_seq_k fun K4 k4=>?_
 refine wp_region_lit ?_
 refine sx_hv sv3 3 [(8,dval c),(9,.slice ao x.length cap),(10,.int .i64 ((x.length:Nat)))]
   ⟨yl r6 (tyD c hc.1) HB3_2,ym r5,ox_len (Tryz.underlying29) rfl rfl trivial (oy rfl rfl) (fun _=>rfl),trivial⟩ fun a5 w5 g5 sv5=>?_
 replace HB3_2:=rw_kn g5 HB3_2
 replace hx:=hx.kn g5
 replace HG:=grown_trans HG g5
 refine tl_call sv5 rfl rfl rfl rfl rfl (exp_c hc (n:=x.length) lx) (enter_of Tryz.func105 (by kernel_rfl) rfl) fun a6 v6 w6 hR6 sv6=>?_
 obtain ⟨ao6,cap6,rfl,g6,hs,fs⟩:=hR6
 have ap_hs_B3_2:=fr_ap fs HB3_2
 have ap_hx_hs:∀ k,fpS (.slice ao x.length cap) k→¬ fpS (.slice ao6 x.length cap6) k:=fun k hzr hk=>absurd (hx.lt k hzr) (Nat.not_lt.2 (fs k hk))
 have lo_hs:∀ k,fpS (.slice ao6 x.length cap6) k→w.heap.size≤k:=fun k hk=>Nat.le_trans HG.size (fs k hk)
 replace HB3_2:=rw_kn g6 HB3_2
 replace hx:=hx.kn g6
 replace HG:=grown_trans HG g6
 have sv7:Sv 20 [] [(11,_),(4,_),(0,_),(1,_)] a6:=sv6.dl [8,9,10,3]
 refine sx_hv sv7 3 [(7,.tuple #[.slice ao6 x.length cap6,.int .i64 0]),(12,.slice ao6 x.length cap6),(13,.int .i64 0)]
   ⟨ym r5,ox_extract rfl rfl rfl trivial (fun _ _ h=>⟨_,_,h,rfl,rfl⟩),ox_extract rfl rfl rfl trivial (fun _ _ h=>⟨_,_,h,rfl,rfl⟩),trivial⟩ fun a8 w8 g8 sv8=>?_
 refine tl_as (v:=.slice ao6 x.length cap6) sv8 r6 fun a9 sv9=>?_
 refine tl_as (v:=.int .i64 0) sv9 r6 fun a10 sv10=>?_
 have sv11:Sv 20 [] [(5,_),(4,_),(0,_),(1,_)] a10:=sv10.dl [6,7,12,13,11]
 refine tl_nil ?_
 refine k4 _ _ ?_
 refine wp_seq_k fun K12 k12=>?_
 refine wp_region_lit ?_
 refine sx_hv sv11 2 [(14,.slice ao x.length cap),(15,.int .i64 ((x.length:Nat)))]
   ⟨ym r5,ox_len (Tryz.underlying29) rfl rfl trivial (oy rfl rfl) (fun _=>rfl),trivial⟩ fun a13 w13 g13 sv13=>?_
 have gc13:=grown_trans g8 g13
 replace HB3_2:=rw_kn gc13 HB3_2
 replace hx:=hx.kn gc13
 replace hs:=hs.kn gc13
 replace HG:=grown_trans HG gc13
 refine tl_make (m:=x.length) sv13 rfl rfl rfl rfl rfl rfl (by omega) fun a14 w14 B16_14 eq_B16_14 g14 z14 HB16_14 sv14=>?_
 have ne_B16_14_B3_2:=nb_ne HB3_2 eq_B16_14
 have lo_B16_14:=nb_lo HG eq_B16_14
 have ap_hx_B16_14:=nb_ap (hx.lt) eq_B16_14
 have ap_hs_B16_14:=nb_ap (Own.ltS hs) eq_B16_14
 replace HB3_2:=rw_kn g14 HB3_2
 replace hx:=hx.kn g14
 replace hs:=hs.kn g14
 replace HG:=grown_trans HG g14
 refine sx_hv sv14 2 [(17,.slice ao x.length cap),(18,.slice ao6 x.length cap6)]
   ⟨ym r5,ym r5,trivial⟩ fun a15 w15 g15 sv15=>?_
 replace HB3_2:=rw_kn g15 HB3_2
 replace HB16_14:=rw_kn g15 HB16_14
 replace hx:=hx.kn g15
 replace hs:=hs.kn g15
 replace HG:=grown_trans HG g15
 have om:=own_blk (n:=x.length) HB16_14 (by rw [bv_length,zs_len]) (by omega)
 have ap_om_B3_2:∀ k,fpS (.slice ((some ⟨B16_14,0,none⟩)) x.length x.length) k→k≠B3_2:=fun k hk e=>ne_B16_14_B3_2 ((Option.some.inj hk).trans e)
 have ap_hx_om:∀ k,fpS (.slice ao x.length cap) k→¬ fpS (.slice ((some ⟨B16_14,0,none⟩)) x.length x.length) k:=fun k hk e=>ap_hx_B16_14 k hk (Option.some.inj e).symm
 have ap_hs_om:∀ k,fpS (.slice ao6 x.length cap6) k→¬ fpS (.slice ((some ⟨B16_14,0,none⟩)) x.length x.length) k:=fun k hk e=>ap_hs_B16_14 k hk (Option.some.inj e).symm
 have lo_om:∀ k,fpS (.slice ((some ⟨B16_14,0,none⟩)) x.length x.length) k→w.heap.size≤k:=fun k hk=>(Option.some.inj hk)▸lo_B16_14
 clear HB16_14
 rw [bv_cb] at om
 have hs2:=(Own.sb hs)
 refine tl_call sv15 rfl rfl rfl rfl rfl (xor_c (xorb_walk x (str_ c x.length) (zs x.length) bx (str_by c _) x.length (by omega) rfl x.length (str_len c _) (Nat.le_refl _) _ _ _ _ _ _ w _ HG om hx hs2 lo_om ap_hx_om ap_hs_om)) (enter_of Tryz.func106 (by kernel_rfl) rfl) fun a16 v16 w16 hR16 sv16=>?_
 obtain ⟨rfl,G,oo⟩:=hR16
 refine tl_as (v:=.slice ((some ⟨B16_14,0,none⟩)) x.length x.length) sv16 r6 fun a17 sv17=>?_
 have sv18:Sv 20 [] [(4,_),(0,_),(1,_)] a17:=sv17.dl [19,17,18,16,14,15,5]
 refine tl_nil ?_
 refine k12 _ _ ?_
 refine wp_ret ?_
 repeat refine then_ret ?_
 refine cx_ret (fn:=Tryz.f57) sv18 (res_tmp (p:=4) Tryz.results57 sv18 rfl rfl) ?_
 exact nwr_of (cry_len x c) G oo lo_om rfl
set_option maxRecDepth 100000 in
set_option maxHeartbeats 4000000 in
theorem cleartag_walk (a:Int) (ha:In64 a) (x:List Nat) (bx:By x) (lx:x.length≤100000) (ao:Option Addr) (cap:Nat) (w:World) (hx:SlB w 1 (.slice ao x.length cap) x.length (bv x)) :
   Calls Tryz.prog 54 #[.int .i64 a,.slice ao x.length cap] w fun e w'=>e=.returned (dval (tgC a x))∧w.grownBy w' none:=by
 have hle:=enc_len ha.1 ha.2
 refine cx_enter Tryz.func54 rfl Tryz.ntmps54 rfl fun a0 sv0=>?_
 have HG:=World.grownBy.refl w none
 replace sv0:Sv 11 [] [(0,.int .i64 a),(1,.slice ao x.length cap)] a0:=sv0
 refine wp_seq_k fun K1 k1=>?_
 refine wp_region_lit ?_
 refine tl_alloc (T:=23) (Z:=(bv zero32)) sv0 rfl rfl rfl (fun a w=>by kernel_rfl) fun a2 w2 B4_2 eq_B4_2 g2 z2 HB4_2 sv2=>?_
 have lo_B4_2:=nb_lo HG eq_B4_2
 have ap_hx_B4_2:=nb_ap (hx.lt) eq_B4_2
 replace hx:=hx.kn g2
 replace HG:=grown_trans HG g2
 refine tl_nil ?_
 refine k1 _ _ ?_
 refine wp_seq_k fun K3 k3=>?_
 refine wp_region_lit ?_
 refine sx_hv sv2 1 [(5,.int .i64 a)]
   ⟨ym r5,trivial⟩ fun a4 w4 g4 sv4=>?_
 replace HB4_2:=rw_kn g4 HB4_2
 replace hx:=hx.kn g4
 replace HG:=grown_trans HG g4
 refine tl_call sv4 rfl rfl rfl rfl rfl (nwr_c (apint_walk a ha _)) (enter_of Tryz.func103 (by kernel_rfl) rfl) fun a5 v5 w5 hR5 sv5=>?_
 obtain ⟨ao5,cap5,rfl,_⟩:=(Sl.of_own hR5.1).shape
 obtain ⟨ow5,fr5⟩:=hR5
 replace fr5:=step_nil fr5
 have g5:=fr5.1
 replace fr5:=fr5.2
 have ap_ow5_B4_2:=fr_ap fr5 HB4_2
 have ap_hx_ow5:∀ k,fpS (.slice ao x.length cap) k→¬ fpS (.slice ao5 ((enc a)).length cap5) k:=fun k hzr hk=>absurd (hx.lt k hzr) (Nat.not_lt.2 (fr5 k hk))
 have lo_ow5:∀ k,fpS (.slice ao5 ((enc a)).length cap5) k→w.heap.size≤k:=fun k hk=>Nat.le_trans HG.size (fr5 k hk)
 replace HB4_2:=rw_kn g5 HB4_2
 replace hx:=hx.kn g5
 replace HG:=grown_trans HG g5
 refine sx_hv sv5 1 [(7,.slice ao x.length cap)]
   ⟨ym r5,trivial⟩ fun a6 w6 g6 sv6=>?_
 replace HB4_2:=rw_kn g6 HB4_2
 replace hx:=hx.kn g6
 replace ow5:=ow5.kn g6
 replace HG:=grown_trans HG g6
 refine tl_lit2 (cs:=[.slice ao5 ((enc a)).length cap5,.slice ao x.length cap]) (e:=29) sv6 rfl rfl rfl rfl rfl rfl rfl rfl (b2sl _ _ _ _ _ _) fun a7 w7 B8_7 eq_B8_7 g7 z7 HB8_7 sv7=>?_
 have ne_B8_7_B4_2:=nb_ne HB4_2 eq_B8_7
 have lo_B8_7:=nb_lo HG eq_B8_7
 have ap_hx_B8_7:=nb_ap (hx.lt) eq_B8_7
 have ap_ow5_B8_7:=nb_ap (Own.ltS ow5) eq_B8_7
 replace HB4_2:=rw_kn g7 HB4_2
 replace hx:=hx.kn g7
 replace ow5:=ow5.kn g7
 replace HG:=grown_trans HG g7
 refine tl_call sv7 rfl rfl rfl rfl rfl (concat_c (Sl.of_own ow5) hx.1 HB8_7 (by omega) (by omega)) (enter_of Tryz.func102 (by kernel_rfl) rfl) fun a8 v8 w8 hR8 sv8=>?_
 obtain ⟨ao8,cap8,rfl,_⟩:=(Sl.of_own hR8.1).shape
 obtain ⟨ow8,fr8⟩:=hR8
 replace fr8:=step_nil fr8
 have g8:=fr8.1
 replace fr8:=fr8.2
 have ap_ow8_B4_2:=fr_ap fr8 HB4_2
 have ap_ow8_B8_7:=fr_ap fr8 HB8_7
 have ap_hx_ow8:∀ k,fpS (.slice ao x.length cap) k→¬ fpS (.slice ao8 ((enc a ++ x)).length cap8) k:=fun k hzr hk=>absurd (hx.lt k hzr) (Nat.not_lt.2 (fr8 k hk))
 have ap_ow8_ow5:∀ k,fpS (.slice ao8 ((enc a ++ x)).length cap8) k→¬ fpS (.slice ao5 ((enc a)).length cap5) k:=fun k hk hzr=>absurd (Own.ltS ow5 k hzr) (Nat.not_lt.2 (fr8 k hk))
 have ap_ow5_ow8:∀ k,fpS (.slice ao5 ((enc a)).length cap5) k→¬ fpS (.slice ao8 ((enc a ++ x)).length cap8) k:=fun k hzr hk=>absurd (Own.ltS ow5 k hzr) (Nat.not_lt.2 (fr8 k hk))
 have lo_ow8:∀ k,fpS (.slice ao8 ((enc a ++ x)).length cap8) k→w.heap.size≤k:=fun k hk=>Nat.le_trans HG.size (fr8 k hk)
 replace HB4_2:=rw_kn g8 HB4_2
 replace HB8_7:=rw_kn g8 HB8_7
 replace hx:=hx.kn g8
 replace ow5:=ow5.kn g8
 replace HG:=grown_trans HG g8
 refine tl_call sv8 rfl rfl rfl rfl rfl (c_is (sum_c (dom:=280) (by decide) rfl (by_app (enc_lt a) bx) (by rw [List.length_append];omega) (Sl.of_own ow8))) (enter_of Tryz.func101 (by kernel_rfl) rfl) fun a9 v9 w9 hR9 sv9=>?_
 obtain ⟨rfl,g9⟩:=hR9
 replace HB4_2:=rw_kn g9 HB4_2
 replace HB8_7:=rw_kn g9 HB8_7
 replace hx:=hx.kn g9
 replace ow5:=ow5.kn g9
 replace ow8:=ow8.kn g9
 replace HG:=grown_trans HG g9
 refine tl_sw sv9 r7 (tyD ((tgC a x)) (tgC_dg a x).1) HB4_2 (lenD (tgC_dg a x)) fun w10 g10 h10=>?_
 replace HB8_7:=rw_st g10 HB8_7 ne_B8_7_B4_2
 replace hx:=hx.offR g10 (no_b ap_hx_B4_2)
 replace ow5:=ow5.offR g10 (no_b ap_ow5_B4_2)
 replace ow8:=ow8.offR g10 (no_b ap_ow8_B4_2)
 replace HG:=grown_newR HG g10 lo_B4_2
 replace HB4_2:=h10
 have sv11:Sv 11 [] [(4,_)] a9:=sv9.dl [10,9,8,7,6,5,0,1]
 refine tl_nil ?_
 refine k3 _ _ ?_
 refine wp_ret ?_
 repeat refine then_ret ?_
 refine cx_ret (fn:=Tryz.f54) sv11 (res_cell (p:=4) Tryz.results54 sv11 rfl rfl (tyD ((tgC a x)) (tgC_dg a x).1) HB4_2) ?_
 exact ⟨rfl,HG⟩
set_option maxRecDepth 100000 in
set_option maxHeartbeats 4000000 in
theorem keyedtag_walk (c:List Nat) (hc:Dg c) (a:Int) (ha:In64 a) (x:List Nat) (bx:By x) (lx:x.length≤100000) (ao:Option Addr) (cap:Nat) (w:World) (hx:SlB w 1 (.slice ao x.length cap) x.length (bv x)) :
   Calls Tryz.prog 58 #[dval c,.int .i64 a,.slice ao x.length cap] w fun e w'=>e=.returned (dval (tgK c a x))∧w.grownBy w' none:=by
 have hle:=enc_len ha.1 ha.2
 refine cx_enter Tryz.func58 rfl Tryz.ntmps58 rfl fun a0 sv0=>?_
 have HG:=World.grownBy.refl w none
 replace sv0:Sv 14 [] [(0,dval c),(1,.int .i64 a),(2,.slice ao x.length cap)] a0:=sv0
 refine wp_seq_k fun K1 k1=>?_
 refine wp_region_lit ?_
 refine tl_box sv0 rfl rfl rfl rfl rfl rfl (tyD c hc.1) fun a2 w2 B3_2 eq_B3_2 g2 z2 HB3_2 sv2=>?_
 have lo_B3_2:=nb_lo HG eq_B3_2
 have ap_hx_B3_2:=nb_ap (hx.lt) eq_B3_2
 replace hx:=hx.kn g2
 replace HG:=grown_trans HG g2
 refine tl_alloc (T:=23) (Z:=(bv zero32)) sv2 rfl rfl rfl (fun a w=>by kernel_rfl) fun a3 w3 B6_3 eq_B6_3 g3 z3 HB6_3 sv3=>?_
 have ne_B6_3_B3_2:=nb_ne HB3_2 eq_B6_3
 have lo_B6_3:=nb_lo HG eq_B6_3
 have ap_hx_B6_3:=nb_ap (hx.lt) eq_B6_3
 replace HB3_2:=rw_kn g3 HB3_2
 replace hx:=hx.kn g3
 replace HG:=grown_trans HG g3
 refine tl_nil ?_
 refine k1 _ _ ?_
 refine wp_seq_k fun K4 k4=>?_
 have gd5:=grown_drew w3
 replace HB3_2:=rw_kn gd5 HB3_2
 replace HB6_3:=rw_kn gd5 HB6_3
 replace hx:=hx.kn gd5
 replace HG:=grown_trans HG gd5
 refine wp_region_noPanic ?_
 refine region_script (fun w'=>w'.heap[B3_2]?=some (.cells (bv c).toArray 23 (0,0))∧True) [0,1,3] [2,4,5,6,7] (by kernel_rfl) (by kernel_rfl) (fun _ _ d _ _ h=>by cases d <;> exact h) rfl (by kernel_rfl) ⟨HB3_2,trivial⟩ ?_
 simp only [List.filterMap_cons,List.filterMap_nil,List.getElem?_toArray,List.getElem?_cons_succ,List.getElem?_cons_zero]
 refine tk_load sv3 rfl rfl rfl rfl ⟨rfl,rfl⟩ (fun w hS=>loadsAt (tyD c hc.1) (rangeAt_row hS.1)) fun a6 sv6=>?_
 refine tk_px (v:=.int .i64 a) w3.drew sv6 rfl (by kernel_rfl) (px_move 1 8 (.inl rfl) rfl rfl trivial (fun _ _ h=>h)) fun a7 sv7=>?_
 refine tk_px (v:=.slice ao x.length cap) w3.drew sv7 rfl (by kernel_rfl) (px_move 2 10 (.inl rfl) rfl rfl trivial (fun _ _ h=>h)) fun a8 sv8=>?_
 change wpList _ _ _ _ _ _
 refine tl_call sv8 rfl rfl rfl rfl rfl (nwr_c (apint_walk a ha _)) (enter_of Tryz.func103 (by kernel_rfl) rfl) fun a9 v9 w9 hR9 sv9=>?_
 obtain ⟨ao9,cap9,rfl,_⟩:=(Sl.of_own hR9.1).shape
 obtain ⟨ow9,fr9⟩:=hR9
 replace fr9:=step_nil fr9
 have g9:=fr9.1
 replace fr9:=fr9.2
 have ap_ow9_B3_2:=fr_ap fr9 HB3_2
 have ap_ow9_B6_3:=fr_ap fr9 HB6_3
 have ap_hx_ow9:∀ k,fpS (.slice ao x.length cap) k→¬ fpS (.slice ao9 ((enc a)).length cap9) k:=fun k hzr hk=>absurd (hx.lt k hzr) (Nat.not_lt.2 (fr9 k hk))
 have lo_ow9:∀ k,fpS (.slice ao9 ((enc a)).length cap9) k→w.heap.size≤k:=fun k hk=>Nat.le_trans HG.size (fr9 k hk)
 replace HB3_2:=rw_kn g9 HB3_2
 replace HB6_3:=rw_kn g9 HB6_3
 replace hx:=hx.kn g9
 replace HG:=grown_trans HG g9
 refine tl_nil ⟨⟨HB3_2,trivial⟩,?_⟩
 change wpList _ _ _ _ _ _
 refine tl_lit2 (cs:=[.slice ao9 ((enc a)).length cap9,.slice ao x.length cap]) (e:=29) sv9 rfl rfl rfl rfl rfl rfl rfl rfl (b2sl _ _ _ _ _ _) fun a10 w10 B11_10 eq_B11_10 g10 z10 HB11_10 sv10=>?_
 have ne_B11_10_B3_2:=nb_ne HB3_2 eq_B11_10
 have ne_B11_10_B6_3:=nb_ne HB6_3 eq_B11_10
 have lo_B11_10:=nb_lo HG eq_B11_10
 have ap_hx_B11_10:=nb_ap (hx.lt) eq_B11_10
 have ap_ow9_B11_10:=nb_ap (Own.ltS ow9) eq_B11_10
 replace HB3_2:=rw_kn g10 HB3_2
 replace HB6_3:=rw_kn g10 HB6_3
 replace hx:=hx.kn g10
 replace ow9:=ow9.kn g10
 replace HG:=grown_trans HG g10
 refine tl_nil ⟨⟨HB3_2,trivial⟩,?_⟩
 change wpList _ _ _ _ _ _
 refine tl_call sv10 rfl rfl rfl rfl rfl (concat_c (Sl.of_own ow9) hx.1 HB11_10 (by omega) (by omega)) (enter_of Tryz.func102 (by kernel_rfl) rfl) fun a11 v11 w11 hR11 sv11=>?_
 obtain ⟨ao11,cap11,rfl,_⟩:=(Sl.of_own hR11.1).shape
 obtain ⟨ow11,fr11⟩:=hR11
 replace fr11:=step_nil fr11
 have g11:=fr11.1
 replace fr11:=fr11.2
 have ap_ow11_B3_2:=fr_ap fr11 HB3_2
 have ap_ow11_B6_3:=fr_ap fr11 HB6_3
 have ap_ow11_B11_10:=fr_ap fr11 HB11_10
 have ap_hx_ow11:∀ k,fpS (.slice ao x.length cap) k→¬ fpS (.slice ao11 ((enc a ++ x)).length cap11) k:=fun k hzr hk=>absurd (hx.lt k hzr) (Nat.not_lt.2 (fr11 k hk))
 have ap_ow11_ow9:∀ k,fpS (.slice ao11 ((enc a ++ x)).length cap11) k→¬ fpS (.slice ao9 ((enc a)).length cap9) k:=fun k hk hzr=>absurd (Own.ltS ow9 k hzr) (Nat.not_lt.2 (fr11 k hk))
 have ap_ow9_ow11:∀ k,fpS (.slice ao9 ((enc a)).length cap9) k→¬ fpS (.slice ao11 ((enc a ++ x)).length cap11) k:=fun k hzr hk=>absurd (Own.ltS ow9 k hzr) (Nat.not_lt.2 (fr11 k hk))
 have lo_ow11:∀ k,fpS (.slice ao11 ((enc a ++ x)).length cap11) k→w.heap.size≤k:=fun k hk=>Nat.le_trans HG.size (fr11 k hk)
 replace HB3_2:=rw_kn g11 HB3_2
 replace HB6_3:=rw_kn g11 HB6_3
 replace HB11_10:=rw_kn g11 HB11_10
 replace hx:=hx.kn g11
 replace ow9:=ow9.kn g11
 replace HG:=grown_trans HG g11
 refine tl_nil ⟨⟨HB3_2,trivial⟩,?_⟩
 change wpList _ _ _ _ _ _
 refine tl_call sv11 rfl rfl rfl rfl rfl (c_is (keyedl_c (dom:=285) (by decide) rfl hc (by_app (enc_lt a) bx) (by rw [List.length_append];omega) (Sl.of_own ow11))) (enter_of Tryz.func66 (by kernel_rfl) rfl) fun a12 v12 w12 hR12 sv12=>?_
 obtain ⟨rfl,g12⟩:=hR12
 replace HB3_2:=rw_kn g12 HB3_2
 replace HB6_3:=rw_kn g12 HB6_3
 replace HB11_10:=rw_kn g12 HB11_10
 replace hx:=hx.kn g12
 replace ow9:=ow9.kn g12
 replace ow11:=ow11.kn g12
 replace HG:=grown_trans HG g12
 refine tl_nil ⟨⟨HB3_2,trivial⟩,?_⟩
 change wpList _ _ _ _ _ _
 refine tl_sw sv12 r7 (tyD ((tgK c a x)) (tgK_dg c a x).1) HB6_3 (lenD (tgK_dg c a x)) fun w13 g13 h13=>?_
 replace HB3_2:=rw_st g13 HB3_2 (Ne.symm ne_B6_3_B3_2)
 replace HB11_10:=rw_st g13 HB11_10 ne_B11_10_B6_3
 replace hx:=hx.offR g13 (no_b ap_hx_B6_3)
 replace ow9:=ow9.offR g13 (no_b ap_ow9_B6_3)
 replace ow11:=ow11.offR g13 (no_b ap_ow11_B6_3)
 replace HG:=grown_newR HG g13 lo_B6_3
 replace HB6_3:=h13
 refine tl_nil ⟨⟨HB3_2,trivial⟩,?_⟩
 refine NoPanic.normal ?_
 have sv14:Sv 14 [] [(6,_),(0,_)] a12:=sv12.dl [13,12,11,9,10,8,7,3,1,2]
 refine k4 _ _ ?_
 refine wp_ret ?_
 repeat refine then_ret ?_
 refine cx_ret (fn:=Tryz.f58) sv14 (res_cell (p:=6) Tryz.results58 sv14 rfl rfl (tyD ((tgK c a x)) (tgK_dg c a x).1) HB6_3) ?_
 exact ⟨rfl,HG⟩
end Go.Proofs.YtbfjfnbcmojpiaaGreat
