import Derived.Test.YtbfjfnbcmojpiaaGreatV1
namespace Go.Proofs.YtbfjfnbcmojpiaaGreat
open Go.RowKit Go.Shelf
set_option linter.unusedSimpArgs false
set_option linter.unusedVariables false
theorem zero32_len:zero32.length=32:=rfl
theorem zero32_dg:Dg zero32:=⟨rfl,by intro x hx;simp [zero32,zs] at hx;omega⟩
theorem RdK.keyX {w:World} {ao:Option Addr} {n cap j:Nat} {ks:List VK} {x:VK} (h:RdK w (.slice ao n cap) ks) (hn:n=ks.length) (hj:j < ks.length) (hx:ks[j]=x):w.rangeAt (bO ao) (oO ao+j * 33) (kcells x):=hx▸h.key hn hj
theorem RdK.ownerX {w:World} {ao:Option Addr} {n cap j:Nat} {ks:List VK} {x:VK} (h:RdK w (.slice ao n cap) ks) (hn:n=ks.length) (hj:j < ks.length) (hx:ks[j]=x):w.rangeAt (bO ao) (oO ao+j * 33) (bv x.o):=hx▸h.owner hn hj
theorem RdK.treeX {w:World} {ao:Option Addr} {n cap j:Nat} {ks:List VK} {x:VK} (h:RdK w (.slice ao n cap) ks) (hn:n=ks.length) (hj:j < ks.length) (hx:ks[j]=x):w.rangeAt (bO ao) (oO ao+j * 33+32) [x.s]:=hx▸h.tree hn hj
set_option maxRecDepth 100000 in
set_option maxHeartbeats 4000000 in
theorem cmpo_walk (x:VK) (o:List Nat) (ho:Dg o) (w:World) :
   Calls Tryz.prog 96 #[kval x,dval o] w fun e w'=>e=.returned (.int .i64 (bcmp x.o o))∧w.grownBy w' none:=by
 refine cx_enter Tryz.func96 rfl Tryz.ntmps96 rfl fun a0 sv0=>?_
 have HG:=World.grownBy.refl w none
 replace sv0:Sv 9 [] [(0,kval x),(1,dval o)] a0:=sv0
 refine wp_seq_k fun K1 k1=>?_
 refine wp_region_lit ?_
 refine tl_box sv0 rfl rfl rfl rfl rfl rfl (tyK x) fun a2 w2 B2_2 eq_B2_2 g2 z2 HB2_2 sv2=>?_
 have lo_B2_2:=nb_lo HG eq_B2_2
 replace HG:=grown_trans HG g2
 refine tl_box sv2 rfl rfl rfl rfl rfl rfl (tyD o ho.1) fun a3 w3 B3_3 eq_B3_3 g3 z3 HB3_3 sv3=>?_
 have ne_B3_3_B2_2:=nb_ne HB2_2 eq_B3_3
 have lo_B3_3:=nb_lo HG eq_B3_3
 replace HB2_2:=rw_kn g3 HB2_2
 replace HG:=grown_trans HG g3
 refine tl_as (v:=.int .i64 0) sv3 r6 fun a4 sv4=>?_
 refine tl_nil ?_
 refine k1 _ _ ?_
 refine wp_seq_k fun K5 k5=>?_
 refine rx_av (sv4.dl [4]) [(5,pt B2_2),(6,.slice ((some ⟨B2_2,0,none⟩)) 32 32),(7,.slice ((some ⟨B3_3,0,none⟩)) 32 32),(8,.int .i64 ((bcmp x.o o))),(4,.int .i64 ((bcmp x.o o)))]
   ⟨yf r6 (fun _=>by kernel_rfl),ox_slice (l:=none) (u:=none) rfl rfl trivial (oy rfl rfl) trivial trivial (sl_arr B2_2 0) (fun _=>rfl),ox_slice (l:=none) (u:=none) rfl rfl trivial (oy rfl rfl) trivial trivial (sl_arr B3_3 0) (fun _=>rfl),ox_call (Sp.is (.int .i64 ((bcmp x.o o)))) [.slice ((some ⟨B2_2,0,none⟩)) 32 32,.slice ((some ⟨B3_3,0,none⟩)) 32 32] rfl rfl trivial ⟨(oy rfl rfl),(oy rfl rfl),trivial⟩ (is_on fun W g=>compare_walk x.ho ho (range_part (L:=[bv x.o,[VK.s x]]) (i:=0) (row_of g HB2_2 (by simp)) rfl rfl) (rangeAt_row (row_of g HB3_3 (by simp)))) (fun _ _ h=>h) (enter_of Tryz.func94 (by kernel_rfl) rfl),ox_move 8 4 (.inr rfl) rfl rfl trivial (fun _ _ h=>h),trivial⟩ fun a6 w6 g6 sv6=>?_
 refine k5 _ _ ?_
 replace HB2_2:=rw_kn g6 HB2_2
 replace HB3_3:=rw_kn g6 HB3_3
 replace HG:=grown_trans HG g6
 refine wp_ret ?_
 repeat refine then_ret ?_
 refine cx_ret (fn:=Tryz.f96) sv6 (res_tmp (p:=4) Tryz.results96 sv6 rfl rfl) ?_
 exact ⟨rfl,HG⟩
theorem blt_step {x y:List Nat} {j:Nat} (h:∀ i,i < j→x[i]?=y[i]?) {a b:Nat} (ha:x[j]?=some a) (hb:y[j]?=some b) (hne:a≠b):blt x y=decide (a < b):=by
 induction x generalizing y j with
 | nil=>simp at ha
 | cons u x ih =>
   cases y with
   | nil=>simp at hb
   | cons v y =>
     cases j with
     | zero =>
       simp at ha hb
       subst ha hb
       have:(u == v)=false:=by simpa using hne
       simp [blt,this]
     | succ j =>
       have h0:=h 0 (by omega)
       simp at h0
       subst h0
       have:=ih (y:=y) (j:=j) (fun i hi=>by have:=h (i+1) (by omega);simpa using this) (by simpa using ha) (by simpa using hb)
       simp [blt,this]
theorem blt_same {x y:List Nat} (hl:x.length=32) (hm:y.length=32) (h:∀ i,i < 32→x[i]?=y[i]?):blt x y=false:=by
 have:x=y:=List.ext_getElem? fun i=>by
   by_cases hi:i < 32
   · exact h i hi
   · rw [List.getElem?_eq_none (by omega),List.getElem?_eq_none (by omega)]
 rw [this,blt_irrefl]
theorem bv_range {w:World} {b o:Nat} {x:List Nat} (h:w.rangeAt b o (bv x)) {j a:Nat} (ha:x[j]?=some a):w.rangeAt b (o+j) [.int .u8 (a:Int)]:=by
 refine rangeAt_one ?_
 refine h j _ ?_
 unfold bv
 rw [List.getElem?_map,ha]
 rfl
theorem tyU8 (x:Int):TY Tryz.prog 5 [.int .u8 x] (.int .u8 x):=TY.one' Tryz.underlying5 rfl (by kernel_rfl) rfl
theorem ix_arr {b j:Nat} (hj:j < 32) (w:World):(Instr.indexAt 23 (.pointer (some ⟨b,0,none⟩)) (.int .i64 (j:Int))).run Tryz.prog w=.ok (.pointer (some ⟨b,j,none⟩)) w:=by
 have h1:(0:Int)≤(j:Int)∧(j:Int) < 32:=⟨by omega,by omega⟩
 rw [run_indexAt_array (P:=Tryz.prog) (w:=w) (t:=23) (a:=⟨b,0,none⟩) (k:=.i64) (i:=(j:Int)) (h:=by kernel_rfl)]
 have e1:Tryz.prog.arrayLen 23=32:=by kernel_rfl
 have e2:(sizeOf (Tryz.prog.elem 23)).run Tryz.prog w=.ok 1 w:=by kernel_rfl
 rw [e1]
 simp [h1,Addr.add,e2,Result.andThen]
 intro h0
 exact h0.symm
set_option maxRecDepth 100000 in
set_option maxHeartbeats 4000000 in
theorem less_walk (x y:List Nat) (hx:Dg x) (hy:Dg y) (w:World) :
   Calls Tryz.prog 86 #[dval x,dval y] w fun e w'=>e=.returned (.bool (blt x y))∧w.grownBy w' none:=by
 refine cx_enter Tryz.func86 rfl Tryz.ntmps86 rfl fun a0 sv0=>?_
 have HG:=World.grownBy.refl w none
 replace sv0:Sv 24 [] [(0,dval x),(1,dval y)] a0:=sv0
 refine wp_seq_k fun K1 k1=>?_
 refine wp_region_lit ?_
 refine tl_box sv0 rfl rfl rfl rfl rfl rfl (tyD x hx.1) fun a2 w2 B2_2 eq_B2_2 g2 z2 HB2_2 sv2=>?_
 have lo_B2_2:=nb_lo HG eq_B2_2
 replace HG:=grown_trans HG g2
 refine tl_box sv2 rfl rfl rfl rfl rfl rfl (tyD y hy.1) fun a3 w3 B3_3 eq_B3_3 g3 z3 HB3_3 sv3=>?_
 have ne_B3_3_B2_2:=nb_ne HB2_2 eq_B3_3
 have lo_B3_3:=nb_lo HG eq_B3_3
 replace HB2_2:=rw_kn g3 HB2_2
 replace HG:=grown_trans HG g3
 refine tl_as (v:=.bool false) sv3 r6 fun a4 sv4=>?_
 refine tl_nil ?_
 refine k1 _ _ ?_
 refine wp_seq_k fun K5 k5=>?_
 refine wp_seq_k fun K6 k6=>?_
 refine wp_region_lit ?_
 refine tl_as (v:=.int .i64 0) sv4 r6 fun a7 sv7=>?_
 refine tl_nil ?_
 refine k6 _ _ ?_
 refine cx_block fun Q8 x8 y8 r8 o8=>?_
 refine wp_loop (fun a w'=>∃ (j:Nat),(j≤32)∧(∀ i,i < j→x[i]?=y[i]?)∧Sv 24 [] [(5,.int .i64 ((j:Int))),(3,pt B3_3),(2,pt B2_2),(0,dval x),(1,dval y)] a∧w.grownBy w' none∧w'.heap[B2_2]?=some (.cells (bv x).toArray 23 (0,0))∧w'.heap[B3_3]?=some (.cells (bv y).toArray 23 (0,0))) (fun a _=>(32 - intOf (a.tmps.getD 5 undef)).toNat) ⟨0,by omega,fun i hi=>by omega,⟨sv7.1,sv7.2.1,sv7.2.2.1,sv7.2.2.2.2.1,sv7.2.2.2.2.2.1,sv7.2.2.2.2.2.2.1,sv7.2.2.2.2.2.2.2.1,trivial⟩,HG,HB2_2,HB3_3⟩ fun a9 w9 hI9=>?_
 clear HB2_2
 clear HB3_3
 clear HG
 obtain ⟨j,hj32,heq,sv9,HG,HB2_2,HB3_3⟩:=hI9
 refine wp_seq_k fun K10 k10=>?_
 refine wp_seq_k fun K11 k11=>?_
 by_cases hj:j < 32
 · obtain ⟨a,hxa⟩:∃ a,x[j]?=some a:=⟨_,List.getElem?_eq_getElem (by rw [hx.1];exact hj)⟩
   obtain ⟨b,hyb⟩:∃ b,y[j]?=some b:=⟨_,List.getElem?_eq_getElem (by rw [hy.1];exact hj)⟩
   refine wp_region_lit ?_
   refine sx_hv sv9 2 [(6,.int .i64 ((j:Int))),(7,.bool true)]
     ⟨ym r5,ybc r6 (fun _=>rn_lss (by simp;omega)),trivial⟩ fun a12 w12 g12 sv12=>?_
   refine tl_nil ?_
   refine k11 _ _ ?_
   refine cx_ifT sv12 rfl rfl ?_
   refine wp_skip ?_
   refine k10 _ _ ?_
   refine wp_seq_k fun K13 k13=>?_
   refine cx_block fun Q14 x14 y14 r14 o14=>?_
   refine wp_seq_k fun K15 k15=>?_
   replace HB2_2:=rw_kn g12 HB2_2
   replace HB3_3:=rw_kn g12 HB3_3
   replace HG:=grown_trans HG g12
   by_cases hab:a=b
   · refine rx_av sv12 [(10,.int .i64 ((j:Int))),(11,pk B2_2 j),(12,.int .u8 ((a:Int))),(13,.int .i64 ((j:Int))),(14,pk B3_3 j),(15,.int .u8 ((b:Int))),(16,.bool false)]
       ⟨ym r5,ox_index rfl rfl trivial (oy rfl rfl) (oy rfl rfl) (fun w=>ix_arr hj w) (fun _=>rfl),ox_load rfl rfl trivial (oy rfl rfl) (fun _ g=>loadsAt (tyU8 (a:Int)) (by simpa using bv_range (o:=0) (rangeAt_row (row_of g HB2_2 (by simp))) hxa)) (fun _=>rfl),ym r5,ox_index rfl rfl trivial (oy rfl rfl) (oy rfl rfl) (fun w=>ix_arr hj w) (fun _=>rfl),ox_load rfl rfl trivial (oy rfl rfl) (fun _ g=>loadsAt (tyU8 (b:Int)) (by simpa using bv_range (o:=0) (rangeAt_row (row_of g HB3_3 (by simp))) hyb)) (fun _=>rfl),ybt r7 (fun _=>rn_neq (by simp [hab])),trivial⟩ fun a16 w16 g16 sv16=>?_
     refine k15 _ _ ?_
     refine cx_ifF sv16 rfl rfl ?_
     refine wp_skip ?_
     refine y14 _ _ ?_
     refine k13 _ _ ?_
     refine wp_region_lit ?_
     refine sx_hv sv16 2 [(8,.int .i64 ((j:Int))),(9,.int .i64 (((j+1:Nat):Int)))]
       ⟨ym r5,ybc r6 (fun _=>rn_add (by rw [wrap_i64 (by omega) (by omega)];omega)),trivial⟩ fun a17 w17 g17 sv17=>?_
     have gc17:=grown_trans g16 g17
     refine tl_as (v:=.int .i64 (((j+1:Nat):Int))) sv17 r6 fun a18 sv18=>?_
     refine tl_nil ?_
     replace HB2_2:=rw_kn gc17 HB2_2
     replace HB3_3:=rw_kn gc17 HB3_3
     replace HG:=grown_trans HG gc17
     exact ⟨⟨j+1,by omega,fun i hi=>by
                 by_cases h:i=j
                 · subst h;rw [hxa,hyb,hab]
                 · exact heq i (by omega),⟨sv18.1,sv18.2.1,sv18.2.2.1,sv18.2.2.2.2.2.2.2.2.2.2.2.2.2.2.1,sv18.2.2.2.2.2.2.2.2.2.2.2.2.2.2.2.1,sv18.2.2.2.2.2.2.2.2.2.2.2.2.2.2.2.2.1,sv18.2.2.2.2.2.2.2.2.2.2.2.2.2.2.2.2.2.1,trivial⟩,HG,HB2_2,HB3_3⟩,by rw [show _=_ from sv18.2.2.1,show _=_ from sv9.2.2.1];simp [intOf];omega⟩
   · refine rx_av sv12 [(10,.int .i64 ((j:Int))),(11,pk B2_2 j),(12,.int .u8 ((a:Int))),(13,.int .i64 ((j:Int))),(14,pk B3_3 j),(15,.int .u8 ((b:Int))),(16,.bool true)]
       ⟨ym r5,ox_index rfl rfl trivial (oy rfl rfl) (oy rfl rfl) (fun w=>ix_arr hj w) (fun _=>rfl),ox_load rfl rfl trivial (oy rfl rfl) (fun _ g=>loadsAt (tyU8 (a:Int)) (by simpa using bv_range (o:=0) (rangeAt_row (row_of g HB2_2 (by simp))) hxa)) (fun _=>rfl),ym r5,ox_index rfl rfl trivial (oy rfl rfl) (oy rfl rfl) (fun w=>ix_arr hj w) (fun _=>rfl),ox_load rfl rfl trivial (oy rfl rfl) (fun _ g=>loadsAt (tyU8 (b:Int)) (by simpa using bv_range (o:=0) (rangeAt_row (row_of g HB3_3 (by simp))) hyb)) (fun _=>rfl),ybt r7 (fun _=>rn_neq (by simpa using fun e=>hab (by omega))),trivial⟩ fun a19 w19 g19 sv19=>?_
     refine k15 _ _ ?_
     refine cx_ifT sv19 rfl rfl ?_
     refine wp_seq_k fun K20 k20=>?_
     replace HB2_2:=rw_kn g19 HB2_2
     replace HB3_3:=rw_kn g19 HB3_3
     replace HG:=grown_trans HG g19
     refine rx_av sv19 [(17,.int .i64 ((j:Int))),(18,pk B2_2 j),(19,.int .u8 ((a:Int))),(20,.int .i64 ((j:Int))),(21,pk B3_3 j),(22,.int .u8 ((b:Int))),(23,.bool (decide (a < b))),(4,.bool (decide (a < b)))]
       ⟨ym r5,ox_index rfl rfl trivial (oy rfl rfl) (oy rfl rfl) (fun w=>ix_arr hj w) (fun _=>rfl),ox_load rfl rfl trivial (oy rfl rfl) (fun _ g=>loadsAt (tyU8 (a:Int)) (by simpa using bv_range (o:=0) (rangeAt_row (row_of g HB2_2 (by simp))) hxa)) (fun _=>rfl),ym r5,ox_index rfl rfl trivial (oy rfl rfl) (oy rfl rfl) (fun w=>ix_arr hj w) (fun _=>rfl),ox_load rfl rfl trivial (oy rfl rfl) (fun _ g=>loadsAt (tyU8 (b:Int)) (by simpa using bv_range (o:=0) (rangeAt_row (row_of g HB3_3 (by simp))) hyb)) (fun _=>rfl),ybt r7 (fun _=>rn_lss (by simp)),ox_move 23 4 (.inr rfl) rfl rfl trivial (fun _ _ h=>h),trivial⟩ fun a21 w21 g21 sv21=>?_
     refine k20 _ _ ?_
     replace HB2_2:=rw_kn g21 HB2_2
     replace HB3_3:=rw_kn g21 HB3_3
     replace HG:=grown_trans HG g21
     refine wp_ret ?_
     repeat refine then_ret ?_
     refine r14 _ _ ?_
     repeat refine then_ret ?_
     refine r8 _ _ ?_
     repeat refine then_ret ?_
     refine cx_ret (fn:=Tryz.f86) sv21 (res_tmp (p:=4) Tryz.results86 sv21 rfl rfl) ?_
     exact ⟨congrArg (fun b=>Ending.returned (.bool b)) (blt_step heq hxa hyb hab).symm,HG⟩
 · have hje:j=32:=by omega
   refine wp_region_lit ?_
   refine sx_hv sv9 2 [(6,.int .i64 ((j:Int))),(7,.bool false)]
     ⟨ym r5,ybc r6 (fun _=>rn_lss (by simp;omega)),trivial⟩ fun a22 w22 g22 sv22=>?_
   refine tl_nil ?_
   refine k11 _ _ ?_
   refine cx_ifF sv22 rfl rfl ?_
   refine wp_exit ?_
   repeat refine then_exit ?_
   refine x8 _ _ ?_
   refine k5 _ _ ?_
   refine wp_seq_k fun K23 k23=>?_
   refine wp_region_lit ?_
   refine tl_as (v:=.bool false) sv22 r6 fun a24 sv24=>?_
   refine tl_nil ?_
   refine k23 _ _ ?_
   replace HB2_2:=rw_kn g22 HB2_2
   replace HB3_3:=rw_kn g22 HB3_3
   replace HG:=grown_trans HG g22
   refine wp_ret ?_
   repeat refine then_ret ?_
   refine cx_ret (fn:=Tryz.f86) sv24 (res_tmp (p:=4) Tryz.results86 sv24 rfl rfl) ?_
   exact ⟨congrArg (fun b=>Ending.returned (.bool b)) (blt_same hx.1 hy.1 (hje▸heq)).symm,HG⟩
end Go.Proofs.YtbfjfnbcmojpiaaGreat

namespace Go.Proofs.YtbfjfnbcmojpiaaGreat
open Go.RowKit Go.Shelf
set_option linter.unusedSimpArgs false
set_option linter.unusedVariables false
theorem wrap_uint {x:Int} (h1:0≤x) (h2:x < 18446744073709551616):IntKind.u64.wrap x=x:=by rw [IntKind.wrap_u64];omega
theorem rn_shr1 {P:Program} {a c:Int} {t:TypeId} {x y:Operand} {w:World} (h:a / 2=c):(do eqGuard .shr t x y (.int .u64 a) (.int .u64 1);binOp .shr t (.int .u64 a) (.int .u64 1):Sem Value).run P w=.ok (.int .u64 c) w:=by
 subst h
 have:min 1 IntKind.u64.bits=1:=by decide
 simp [eqGuard,binOp_shr,shift_shr_any,this]
theorem ret2eq {a b:Int} {p q:Bool} (h1:a=b) (h2:p=q):Ending.returned (.tuple #[.int .i64 a,.bool p])=Ending.returned (.tuple #[.int .i64 b,.bool q]):=by rw [h1,h2]
theorem fnd_is {ks:List VK} {o:List Nat} {i:Nat} (hp:pos (ks.map VK.p) o=i) (hi:i < ks.length) {x:VK} (hx:ks[i]=x):decide (x.o=o)=fnd (ks.map VK.p) o:=by
 unfold fnd
 rw [hp,od_map hi,hx]
 simp [hi]
theorem fnd_end {ks:List VK} {o:List Nat} (h:¬ pos (ks.map VK.p) o < ks.length):false=fnd (ks.map VK.p) o:=by
 unfold fnd
 simp at h ⊢
 omega
set_option maxRecDepth 100000 in
set_option maxHeartbeats 4000000 in
theorem bsearch_walk (ks:List VK) (ao:Option Addr) (cap:Nat) (o:List Nat) (ho:Dg o) (w:World) (hr:RdK w (.slice ao ks.length cap) ks) (hs:Srt (ks.map VK.p)) (h64:ks.length≤64) :
   Calls Tryz.prog 113 #[.slice ao ks.length cap,dval o,.func (.func 96) #[] #[]] w fun e w'=>e=.returned (.tuple #[.int .i64 (pos (ks.map VK.p) o),.bool (fnd (ks.map VK.p) o)])∧w.grownBy w' none:=by
 have hlen:=hr.len
 have hmap:(ks.map VK.p).length=ks.length:=List.length_map _
 refine cx_enter Tryz.func113 rfl Tryz.ntmps113 rfl fun a0 sv0=>?_
 have HG:=World.grownBy.refl w none
 replace sv0:Sv 49 [] [(0,.slice ao ks.length cap),(1,dval o),(2,.func (.func 96) #[] #[])] a0:=sv0
 refine wp_seq_k fun K1 k1=>?_
 refine wp_region_lit ?_
 refine tl_box sv0 rfl rfl rfl rfl rfl rfl (tyD o ho.1) fun a2 w2 B4_2 eq_B4_2 g2 z2 HB4_2 sv2=>?_
 have lo_B4_2:=nb_lo HG eq_B4_2
 have ap_hr_B4_2:=nb_ap (hr.lt) eq_B4_2
 replace hr:=hr.kn g2
 replace HG:=grown_trans HG g2
 refine tl_as (v:=.int .i64 0) sv2 r6 fun a3 sv3=>?_
 refine tl_as (v:=.bool false) sv3 r6 fun a4 sv4=>?_
 refine tl_nil ?_
 refine k1 _ _ ?_
 refine wp_seq_k fun K5 k5=>?_
 refine wp_region_lit ?_
 refine sx_hv sv4 2 [(12,.slice ao ks.length cap),(13,.int .i64 ((ks.length:Nat)))]
   ⟨ym r5,ox_len (Tryz.underlying34) rfl rfl trivial (oy rfl rfl) (fun _=>rfl),trivial⟩ fun a6 w6 g6 sv6=>?_
 refine tl_as (v:=.int .i64 ((ks.length:Nat))) sv6 r6 fun a7 sv7=>?_
 refine tl_nil ?_
 refine k5 _ _ ?_
 refine wp_seq_k fun K8 k8=>?_
 refine wp_region_lit ?_
 refine sx_hv sv7 1 [(14,.int .i64 ((ks.length:Nat)))]
   ⟨ym r5,trivial⟩ fun a9 w9 g9 sv9=>?_
 have gc9:=grown_trans g6 g9
 refine tl_as (v:=.int .i64 0) sv9 r6 fun a10 sv10=>?_
 refine tl_as (v:=.int .i64 ((ks.length:Nat))) sv10 r6 fun a11 sv11=>?_
 refine tl_nil ?_
 refine k8 _ _ ?_
 refine wp_seq_k fun K12 k12=>?_
 refine cx_block fun Q13 x13 y13 r13 o13=>?_
 replace HB4_2:=rw_kn gc9 HB4_2
 replace hr:=hr.kn gc9
 replace HG:=grown_trans HG gc9
 refine wp_loop (fun a w'=>∃ (i:Nat) (j:Nat),(i≤j)∧(j≤ks.length)∧(∀ k,k < i→blt (od (ks.map VK.p) k) o=true)∧(∀ k,j≤k→k < ks.length→blt (od (ks.map VK.p) k) o=false)∧Sv 49 [] [(9,.int .i64 ((i:Int))),(10,.int .i64 ((j:Int))),(14,.int .i64 ((ks.length:Nat))),(8,.int .i64 ((ks.length:Nat))),(12,.slice ao ks.length cap),(13,.int .i64 ((ks.length:Nat))),(7,.bool false),(6,.int .i64 0),(4,pt B4_2),(0,.slice ao ks.length cap),(1,dval o),(2,.func (.func 96) #[] #[])] a∧w.grownBy w' none∧w'.heap[B4_2]?=some (.cells (bv o).toArray 23 (0,0))∧RdK w' (.slice ao ks.length cap) ks) (fun a _=>(intOf (a.tmps.getD 10 undef) - intOf (a.tmps.getD 9 undef)).toNat) ⟨0,ks.length,Nat.zero_le _,Nat.le_refl _,fun k hk=>by omega,fun k h1 h2=>by omega,⟨sv11.1,sv11.2.1,sv11.2.2.2.1,sv11.2.2.1,sv11.2.2.2.2.1,sv11.2.2.2.2.2.1,sv11.2.2.2.2.2.2.1,sv11.2.2.2.2.2.2.2.1,sv11.2.2.2.2.2.2.2.2.1,sv11.2.2.2.2.2.2.2.2.2.1,sv11.2.2.2.2.2.2.2.2.2.2.1,sv11.2.2.2.2.2.2.2.2.2.2.2.1,sv11.2.2.2.2.2.2.2.2.2.2.2.2.1,sv11.2.2.2.2.2.2.2.2.2.2.2.2.2.1,trivial⟩,HG,HB4_2,hr⟩ fun a14 w14 hI14=>?_
 clear HB4_2
 clear hr
 clear HG
 obtain ⟨i,j,hij,hjn,hb,ha,sv14,HG,HB4_2,hr⟩:=hI14
 refine wp_seq_k fun K15 k15=>?_
 refine wp_seq_k fun K16 k16=>?_
 by_cases hlt:i < j
 · obtain ⟨m,hm⟩:∃ m,m=(i+j) / 2:=⟨_,rfl⟩
   have hmi:i≤m∧m < j∧m < ks.length:=by omega
   have hm3:=hmi.2.2
   obtain ⟨x,hx_x⟩:∃ x,ks[m]'hm3=x:=⟨_,rfl⟩
   have hod:od (ks.map VK.p) m=x.o:=by rw [od_map hm3,hx_x]
   refine wp_region_lit ?_
   refine sx_hv sv14 3 [(15,.int .i64 ((i:Int))),(16,.int .i64 ((j:Int))),(17,.bool true)]
     ⟨ym r5,ym r5,ybt r7 (fun _=>rn_lss (by simp;omega)),trivial⟩ fun a17 w17 g17 sv17=>?_
   refine tl_nil ?_
   refine k16 _ _ ?_
   refine cx_ifT sv17 rfl rfl ?_
   refine wp_skip ?_
   refine k15 _ _ ?_
   refine cx_block fun Q18 x18 y18 r18 o18=>?_
   refine wp_seq_k fun K19 k19=>?_
   refine wp_region_lit ?_
   refine sx_hv sv17 6 [(18,.int .i64 ((i:Int))),(19,.int .i64 ((j:Int))),(20,.int .i64 (((i+j:Nat):Int))),(21,.int .u64 (((i+j:Nat):Int))),(22,.int .u64 ((m:Int))),(23,.int .i64 ((m:Int)))]
     ⟨ym r5,ym r5,ybt r7 (fun _=>rn_add (by rw [wrap_i64 (by omega) (by omega)];omega)),ox_conv rfl rfl trivial (oy rfl rfl) (fun _=>rn_conv Tryz.underlying3 Tryz.underlying48 (wrap_uint (by omega) (by omega))) (fun _=>rfl),ybc r6 (fun _=>rn_shr1 (by omega)),ox_conv rfl rfl trivial (oy rfl rfl) (fun _=>rn_conv Tryz.underlying48 Tryz.underlying3 (wrap_i64 (by omega) (by omega))) (fun _=>rfl),trivial⟩ fun a20 w20 g20 sv20=>?_
   have gc20:=grown_trans g17 g20
   refine tl_as (v:=.int .i64 ((m:Int))) sv20 r6 fun a21 sv21=>?_
   have sv22:Sv 49 [] [(11,_),(15,_),(16,_),(17,_),(9,_),(10,_),(14,_),(8,_),(12,_),(13,_),(7,_),(6,_),(4,_),(0,_),(1,_),(2,_)] a21:=sv21.dl [18,19,20,21,22,23]
   refine tl_nil ?_
   refine k19 _ _ ?_
   refine wp_seq_k fun K23 k23=>?_
   replace HB4_2:=rw_kn gc20 HB4_2
   replace hr:=hr.kn gc20
   replace HG:=grown_trans HG gc20
   by_cases hc:blt x.o o=true
   · refine rx_av sv22 [(24,.func (.func 96) #[] #[]),(25,.slice ao ks.length cap),(26,.int .i64 ((m:Int))),(27,pk ((bO ao)) (oO ao+m * 33)),(28,kval x),(29,dval o),(30,.int .i64 ((bcmp x.o o))),(31,.bool true)]
       ⟨ym r5,ym r5,ym r5,ox_index rfl rfl trivial (oy rfl rfl) (oy rfl rfl) (fun w=>ix_sl Tryz.underlying34 (by kernel_rfl) (hr.1.1) (by omega) (rfl) w) (fun _=>rfl),ox_load rfl rfl trivial (oy rfl rfl) (fun _ g=>loadsAt (tyK x) (RdK.keyX (hr.kn g) rfl hm3 hx_x)) (fun _=>rfl),yl r6 (tyD o ho.1) HB4_2,ox_callV (Sp.is (.int .i64 ((bcmp x.o o)))) [kval x,dval o] rfl rfl trivial (oy rfl rfl) ⟨(oy rfl rfl),(oy rfl rfl),trivial⟩ (is_on fun W g=>cmpo_walk x o ho W) (fun _ _ h=>h) (enter_of Tryz.func96 (by kernel_rfl) rfl),ybc r6 (fun _=>rn_lss (by rw [bcmp_lt,hc])),trivial⟩ fun a24 w24 g24 sv24=>?_
     refine k23 _ _ ?_
     refine cx_ifT sv24 rfl rfl ?_
     refine wp_region_lit ?_
     refine sx_hv sv24 2 [(32,.int .i64 ((m:Int))),(33,.int .i64 (((m+1:Nat):Int)))]
       ⟨ym r5,ybc r6 (fun _=>rn_add (by rw [wrap_i64 (by omega) (by omega)];omega)),trivial⟩ fun a25 w25 g25 sv25=>?_
     have gc25:=grown_trans g24 g25
     refine tl_as (v:=.int .i64 (((m+1:Nat):Int))) sv25 r6 fun a26 sv26=>?_
     refine tl_nil ?_
     refine y18 _ _ ?_
     replace HB4_2:=rw_kn gc25 HB4_2
     replace hr:=hr.kn gc25
     replace HG:=grown_trans HG gc25
     exact ⟨⟨m+1,j,by omega,by omega,fun k hk=>if e:k=m then (by rw [e,hod,hc]) else blt_trans (hs.lt (i:=k) (j:=m) (by omega) (by rw [hmap];omega)) (hod.symm▸hc),ha,⟨sv26.1,sv26.2.1,sv26.2.2.1,sv26.2.2.2.2.2.2.2.2.2.2.2.2.2.2.2.2.2.1,sv26.2.2.2.2.2.2.2.2.2.2.2.2.2.2.2.2.2.2.1,sv26.2.2.2.2.2.2.2.2.2.2.2.2.2.2.2.2.2.2.2.1,sv26.2.2.2.2.2.2.2.2.2.2.2.2.2.2.2.2.2.2.2.2.1,sv26.2.2.2.2.2.2.2.2.2.2.2.2.2.2.2.2.2.2.2.2.2.1,sv26.2.2.2.2.2.2.2.2.2.2.2.2.2.2.2.2.2.2.2.2.2.2.1,sv26.2.2.2.2.2.2.2.2.2.2.2.2.2.2.2.2.2.2.2.2.2.2.2.1,sv26.2.2.2.2.2.2.2.2.2.2.2.2.2.2.2.2.2.2.2.2.2.2.2.2.1,sv26.2.2.2.2.2.2.2.2.2.2.2.2.2.2.2.2.2.2.2.2.2.2.2.2.2.1,sv26.2.2.2.2.2.2.2.2.2.2.2.2.2.2.2.2.2.2.2.2.2.2.2.2.2.2.1,sv26.2.2.2.2.2.2.2.2.2.2.2.2.2.2.2.2.2.2.2.2.2.2.2.2.2.2.2.1,trivial⟩,HG,HB4_2,hr⟩,by rw [show _=_ from sv26.2.2.1,show _=_ from sv26.2.2.2.2.2.2.2.2.2.2.2.2.2.2.2.2.2.1,show _=_ from sv14.2.2.1,show _=_ from sv14.2.2.2.1];simp [intOf];omega⟩
   · refine rx_av sv22 [(24,.func (.func 96) #[] #[]),(25,.slice ao ks.length cap),(26,.int .i64 ((m:Int))),(27,pk ((bO ao)) (oO ao+m * 33)),(28,kval x),(29,dval o),(30,.int .i64 ((bcmp x.o o))),(31,.bool false)]
       ⟨ym r5,ym r5,ym r5,ox_index rfl rfl trivial (oy rfl rfl) (oy rfl rfl) (fun w=>ix_sl Tryz.underlying34 (by kernel_rfl) (hr.1.1) (by omega) (rfl) w) (fun _=>rfl),ox_load rfl rfl trivial (oy rfl rfl) (fun _ g=>loadsAt (tyK x) (RdK.keyX (hr.kn g) rfl hm3 hx_x)) (fun _=>rfl),yl r6 (tyD o ho.1) HB4_2,ox_callV (Sp.is (.int .i64 ((bcmp x.o o)))) [kval x,dval o] rfl rfl trivial (oy rfl rfl) ⟨(oy rfl rfl),(oy rfl rfl),trivial⟩ (is_on fun W g=>cmpo_walk x o ho W) (fun _ _ h=>h) (enter_of Tryz.func96 (by kernel_rfl) rfl),ybc r6 (fun _=>rn_lss (by rw [bcmp_lt];simpa using hc)),trivial⟩ fun a27 w27 g27 sv27=>?_
     refine k23 _ _ ?_
     refine cx_ifF sv27 rfl rfl ?_
     refine wp_region_lit ?_
     refine sx_hv sv27 1 [(34,.int .i64 ((m:Int)))]
       ⟨ym r5,trivial⟩ fun a28 w28 g28 sv28=>?_
     have gc28:=grown_trans g27 g28
     refine tl_as (v:=.int .i64 ((m:Int))) sv28 r6 fun a29 sv29=>?_
     refine tl_nil ?_
     refine y18 _ _ ?_
     replace HB4_2:=rw_kn gc28 HB4_2
     replace hr:=hr.kn gc28
     replace HG:=grown_trans HG gc28
     exact ⟨⟨i,m,by omega,by omega,hb,fun k h1 h2=>if e:k=m then (by rw [e,hod];simpa using hc) else Bool.eq_false_iff.2 fun hh=>hc (hod▸blt_trans (hs.lt (i:=m) (j:=k) (by omega) (by rw [hmap];omega)) hh),⟨sv29.1,sv29.2.1,sv29.2.2.2.2.2.2.2.2.2.2.2.2.2.2.2.2.1,sv29.2.2.1,sv29.2.2.2.2.2.2.2.2.2.2.2.2.2.2.2.2.2.1,sv29.2.2.2.2.2.2.2.2.2.2.2.2.2.2.2.2.2.2.1,sv29.2.2.2.2.2.2.2.2.2.2.2.2.2.2.2.2.2.2.2.1,sv29.2.2.2.2.2.2.2.2.2.2.2.2.2.2.2.2.2.2.2.2.1,sv29.2.2.2.2.2.2.2.2.2.2.2.2.2.2.2.2.2.2.2.2.2.1,sv29.2.2.2.2.2.2.2.2.2.2.2.2.2.2.2.2.2.2.2.2.2.2.1,sv29.2.2.2.2.2.2.2.2.2.2.2.2.2.2.2.2.2.2.2.2.2.2.2.1,sv29.2.2.2.2.2.2.2.2.2.2.2.2.2.2.2.2.2.2.2.2.2.2.2.2.1,sv29.2.2.2.2.2.2.2.2.2.2.2.2.2.2.2.2.2.2.2.2.2.2.2.2.2.1,sv29.2.2.2.2.2.2.2.2.2.2.2.2.2.2.2.2.2.2.2.2.2.2.2.2.2.2.1,trivial⟩,HG,HB4_2,hr⟩,by rw [show _=_ from sv29.2.2.2.2.2.2.2.2.2.2.2.2.2.2.2.2.1,show _=_ from sv29.2.2.1,show _=_ from sv14.2.2.1,show _=_ from sv14.2.2.2.1];simp [intOf];omega⟩
 · have hie:i=j:=by omega
   have hpos:pos (ks.map VK.p) o=i:=pos_uniq (by omega) hb fun h=>ha i (by omega) (by omega)
   refine wp_region_lit ?_
   refine sx_hv sv14 3 [(15,.int .i64 ((i:Int))),(16,.int .i64 ((j:Int))),(17,.bool false)]
     ⟨ym r5,ym r5,ybt r7 (fun _=>rn_lss (by simp;omega)),trivial⟩ fun a30 w30 g30 sv30=>?_
   refine tl_nil ?_
   refine k16 _ _ ?_
   refine cx_ifF sv30 rfl rfl ?_
   refine wp_exit ?_
   repeat refine then_exit ?_
   refine x13 _ _ ?_
   refine k12 _ _ ?_
   refine wp_seq_k fun K31 k31=>?_
   replace HB4_2:=rw_kn g30 HB4_2
   replace hr:=hr.kn g30
   replace HG:=grown_trans HG g30
   by_cases hin:i < ks.length
   · obtain ⟨y,hx_y⟩:∃ x,ks[i]'hin=x:=⟨_,rfl⟩
     refine rx_av (sv30.dl [7,6]) [(35,.int .i64 ((i:Int))),(36,.int .i64 ((i:Int))),(37,.int .i64 ((ks.length:Nat))),(38,.bool true),(39,.bool true),(40,.func (.func 96) #[] #[]),(41,.slice ao ks.length cap),(42,.int .i64 ((i:Int))),(43,pk ((bO ao)) (oO ao+i * 33)),(44,kval y),(45,dval o),(46,.int .i64 ((bcmp y.o o))),(47,.bool (decide (y.o=o))),(48,.bool (decide (y.o=o))),(6,.int .i64 ((i:Int))),(7,.bool (decide (y.o=o)))]
       ⟨ym r5,ym r5,ym r5,ybt r7 (fun _=>rn_lss (by simp;omega)),ym r5,ox_move 2 40 (.inl rfl) rfl rfl (gy rfl rfl rfl) (fun _ _ h=>h),ox_move 0 41 (.inl rfl) rfl rfl (gy rfl rfl rfl) (fun _ _ h=>h),ox_move 9 42 (.inl rfl) rfl rfl (gy rfl rfl rfl) (fun _ _ h=>h),ox_index rfl rfl (gy rfl rfl rfl) (oy rfl rfl) (oy rfl rfl) (fun w=>ix_sl Tryz.underlying34 (by kernel_rfl) (hr.1.1) (by omega) (rfl) w) (fun _=>rfl),ox_load rfl rfl (gy rfl rfl rfl) (oy rfl rfl) (fun _ g=>loadsAt (tyK y) (RdK.keyX (hr.kn g) rfl hin hx_y)) (fun _=>rfl),ox_load rfl rfl (gy rfl rfl rfl) (oy rfl rfl) (fun _ g=>loadsAt (tyD o ho.1) (rangeAt_row (row_of g HB4_2 (by simp)))) (fun _=>rfl),ox_callV (Sp.is (.int .i64 ((bcmp y.o o)))) [kval y,dval o] rfl rfl (gy rfl rfl rfl) (oy rfl rfl) ⟨(oy rfl rfl),(oy rfl rfl),trivial⟩ (is_on fun W g=>cmpo_walk y o ho W) (fun _ _ h=>h) (enter_of Tryz.func96 (by kernel_rfl) rfl),ox_bin rfl rfl (gy rfl rfl rfl) (oy rfl rfl) rfl (fun _=>rn_eql bcmp_eq) (fun _=>rfl),ox_pick rfl rfl trivial (oy rfl rfl) (oy rfl rfl) (fun _=>rfl),ox_move 35 6 (.inr rfl) rfl rfl trivial (fun _ _ h=>h),ox_move 48 7 (.inr rfl) rfl rfl trivial (fun _ _ h=>h),trivial⟩ fun a32 w32 g32 sv32=>?_
     refine k31 _ _ ?_
     replace HB4_2:=rw_kn g32 HB4_2
     replace hr:=hr.kn g32
     replace HG:=grown_trans HG g32
     refine wp_ret ?_
     repeat refine then_ret ?_
     refine cx_ret (fn:=Tryz.f113) sv32 (res_tmp2 (p:=6) (q:=7) Tryz.results113 sv32 rfl rfl rfl rfl) ?_
     exact ⟨ret2eq (by rw [hpos]) (fnd_is hpos hin hx_y),HG⟩
   · refine rx_av (sv30.dl [7,6]) [(35,.int .i64 ((i:Int))),(36,.int .i64 ((i:Int))),(37,.int .i64 ((ks.length:Nat))),(38,.bool false),(39,.bool false),(40,undef),(41,undef),(42,undef),(43,undef),(44,undef),(45,undef),(46,undef),(47,undef),(48,.bool false),(6,.int .i64 ((i:Int))),(7,.bool false)]
       ⟨ym r5,ym r5,ym r5,ybt r7 (fun _=>rn_lss (by simp;omega)),ym r5,ox_off (gn rfl rfl rfl) rfl (fun _=>rfl),ox_off (gn rfl rfl rfl) rfl (fun _=>rfl),ox_off (gn rfl rfl rfl) rfl (fun _=>rfl),ox_off (gn rfl rfl rfl) rfl (fun _=>rfl),ox_off (gn rfl rfl rfl) rfl (fun _=>rfl),ox_off (gn rfl rfl rfl) rfl (fun _=>rfl),ox_off (gn rfl rfl rfl) rfl (fun _=>rfl),ox_off (gn rfl rfl rfl) rfl (fun _=>rfl),ox_pick rfl rfl trivial (oy rfl rfl) rfl (fun _=>rfl),ox_move 35 6 (.inr rfl) rfl rfl trivial (fun _ _ h=>h),ox_move 48 7 (.inr rfl) rfl rfl trivial (fun _ _ h=>h),trivial⟩ fun a33 w33 g33 sv33=>?_
     refine k31 _ _ ?_
     replace HB4_2:=rw_kn g33 HB4_2
     replace hr:=hr.kn g33
     replace HG:=grown_trans HG g33
     refine wp_ret ?_
     repeat refine then_ret ?_
     refine cx_ret (fn:=Tryz.f113) sv33 (res_tmp2 (p:=6) (q:=7) Tryz.results113 sv33 rfl rfl rfl rfl) ?_
     exact ⟨ret2eq (by rw [hpos]) (fnd_end (by rw [hpos];exact hin)),HG⟩
end Go.Proofs.YtbfjfnbcmojpiaaGreat
