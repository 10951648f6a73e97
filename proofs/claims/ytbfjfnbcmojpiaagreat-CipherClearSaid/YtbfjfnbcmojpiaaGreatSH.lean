import Derived.Test.YtbfjfnbcmojpiaaGreatV5
import Derived.Test.YtbfjfnbcmojpiaaGreatV1
import Derived.Laws.MakeOwn
import Derived.Lib.LazyBuf
namespace Go.Proofs.YtbfjfnbcmojpiaaGreat
open Go.RowKit Go.Shelf
set_option linter.unusedSimpArgs false
set_option linter.unusedVariables false
def kd (n:Nat) (k:List Nat):List Nat:=keyed (BitVec.ofNat 64 n) k []
theorem kd_dg (n:Nat) (k:List Nat):Dg (kd n k):=⟨dig_len _ _,dig_lt _ _⟩
theorem keyed_c {n:Nat} (hn:n < 1000) {c:Int} (hc:c=(n:Int)) {k:List Nat} (hk:Dg k) (w:World):Calls Tryz.prog 66 #[.int .u64 c,dval k,.slice none 0 0] w fun e w'=>e=.returned (dval (kd n k))∧w.grownBy w' none:=by
 have e:c=wi (BitVec.ofNat 64 n):=by rw [hc,← u64_wi,IntKind.wrap_u64];omega
 rw [e]
 exact keyed_walk (BitVec.ofNat 64 n) k [] hk.1 hk.2 (by simp) (by simp) _ w (Sl.nil w 1)
theorem rkeyed_c {n:Nat} (hn:n < 1000) {c:Int} (hc:c=(n:Int)) {k:List Nat} (hk:Dg k) (w:World):Calls Tryz.prog 35 #[.int .u64 c,dval k,.slice none 0 0] w fun e w'=>e=.returned (dval (kd n k))∧w.grownBy w' none:=by
 have e:c=wi (BitVec.ofNat 64 n):=by rw [hc,← u64_wi,IntKind.wrap_u64];omega
 rw [e]
 exact rkeyed_walk (BitVec.ofNat 64 n) k [] hk.1 hk.2 (by simp) (by simp) _ w (Sl.nil w 1)
theorem bV0 (w:World):(Instr.build 36 #[]).run Tryz.prog w=.ok (vval zero32 zero32 (.slice none 0 0)) w:=by kernel_rfl
theorem bV2 {sa po:List Nat} (hs:Dg sa) (hp:Dg po) (w:World):(Instr.build 36 #[(0,dval sa),(1,dval po)]).run Tryz.prog w=.ok (vval sa po (.slice none 0 0)) w:=by
 obtain ⟨x0,x1,x2,x3,x4,x5,x6,x7,x8,x9,x10,x11,x12,x13,x14,x15,x16,x17,x18,x19,x20,x21,x22,x23,x24,x25,x26,x27,x28,x29,x30,x31,rfl⟩:=list32 _ hs.1
 obtain ⟨y0,y1,y2,y3,y4,y5,y6,y7,y8,y9,y10,y11,y12,y13,y14,y15,y16,y17,y18,y19,y20,y21,y22,y23,y24,y25,y26,y27,y28,y29,y30,y31,rfl⟩:=list32 _ hp.1
 kernel_rfl
theorem bV3 {sa po:List Nat} (hs:Dg sa) (hp:Dg po) (ao:Option Addr) (n cap:Nat) (w:World):(Instr.build 36 #[(0,dval sa),(1,dval po),(2,.slice ao n cap)]).run Tryz.prog w=.ok (vval sa po (.slice ao n cap)) w:=by
 obtain ⟨x0,x1,x2,x3,x4,x5,x6,x7,x8,x9,x10,x11,x12,x13,x14,x15,x16,x17,x18,x19,x20,x21,x22,x23,x24,x25,x26,x27,x28,x29,x30,x31,rfl⟩:=list32 _ hs.1
 obtain ⟨y0,y1,y2,y3,y4,y5,y6,y7,y8,y9,y10,y11,y12,y13,y14,y15,y16,y17,y18,y19,y20,y21,y22,y23,y24,y25,y26,y27,y28,y29,y30,y31,rfl⟩:=list32 _ hp.1
 kernel_rfl
theorem bK2' {o:List Nat} (ho:Dg o) (ao:Option Addr) (n cap:Nat) (w:World):(Instr.build 58 #[(0,dval o),(1,.agg #[.slice ao n cap])]).run Tryz.prog w=.ok (.agg ([bv o,[.slice ao n cap]].flatten).toArray) w:=by
 obtain ⟨x0,x1,x2,x3,x4,x5,x6,x7,x8,x9,x10,x11,x12,x13,x14,x15,x16,x17,x18,x19,x20,x21,x22,x23,x24,x25,x26,x27,x28,x29,x30,x31,rfl⟩:=list32 _ ho.1
 kernel_rfl
theorem bK2 {k:VK} (w:World):(Instr.build 58 #[(0,dval k.o),(1,.agg #[k.s])]).run Tryz.prog w=.ok (kval k) w:=bK2' k.ho k.ao k.l.length k.cap w
theorem bT1s (ao:Option Addr) (n cap:Nat) (w:World):(Instr.build 56 #[(0,.slice ao n cap)]).run Tryz.prog w=.ok (.agg #[.slice ao n cap]) w:=by kernel_rfl
theorem isaddr_B {a:Int} {b:Bool} (h:isAddr a=b) (w:World):Calls Tryz.prog 75 #[.int .i64 a] w fun e w'=>e=.returned (.bool b)∧w.grownBy w' none:=(isAddress_walk a w).mono fun e w' ⟨h1,h2⟩=>⟨h▸h1,h2▸World.grownBy.refl _ _⟩
theorem vvalid_B {w:World} {ks:List VK} {ao:Option Addr} {cap:Nat} {sa po:List Nat} (hsa:Dg sa) (hpo:Dg po) (hr:RdK w (.slice ao ks.length cap) ks) {b:Bool} (hb:vldV (ks.map VK.p)=b):Calls Tryz.prog 51 #[vval sa po (.slice ao ks.length cap)] w fun e w'=>e=.returned (.bool b)∧w.grownBy w' none:=hb▸vvalid_walk ks ao cap sa po hsa hpo w hr
theorem rvvalid_B {w:World} {ks:List VK} {ao:Option Addr} {cap:Nat} {sa po:List Nat} (hsa:Dg sa) (hpo:Dg po) (hr:RdK w (.slice ao ks.length cap) ks) {b:Bool} (hb:vldV (ks.map VK.p)=b):Calls Tryz.prog 40 #[vval sa po (.slice ao ks.length cap)] w fun e w'=>e=.returned (.bool b)∧w.grownBy w' none:=hb▸rvvalid_walk ks ao cap sa po hsa hpo w hr
theorem find_B {w:World} {ks:List VK} {ao:Option Addr} {cap:Nat} {sa po o:List Nat} (hsa:Dg sa) (hpo:Dg po) (ho:Dg o) (hr:RdK w (.slice ao ks.length cap) ks) (hv:vldV (ks.map VK.p)=true) {b:Bool} (hb:fnd (ks.map VK.p) o=b) {i:Nat} (hi:pos (ks.map VK.p) o=i):Calls Tryz.prog 71 #[vval sa po (.slice ao ks.length cap),dval o] w fun e w'=>e=.returned (.tuple #[.int .i64 (i:Int),.bool b])∧w.grownBy w' none:=
 hb▸hi▸find_walk ks ao cap sa po hsa hpo o ho w hr (Srt.of hv) (by have:=(vldV_iff.1 hv).1;simpa using this)
theorem at_B {w:World} {ks:List VK} {ao:Option Addr} {cap:Nat} {sa po o:List Nat} (hsa:Dg sa) (hpo:Dg po) (ho:Dg o) (hr:RdK w (.slice ao ks.length cap) ks) (hv:vldV (ks.map VK.p)=true) {c:Int} (hc:atV (ks.map VK.p) o=c):Calls Tryz.prog 84 #[vval sa po (.slice ao ks.length cap),dval o] w fun e w'=>e=.returned (.int .i64 c)∧w.grownBy w' none:=
 hc▸at_walk ks ao cap sa po hsa hpo o ho w hr (Srt.of hv)
theorem at_yes {P:List VP} {o:List Nat} (h:fnd P o=true) {i:Nat} (hi:pos P o=i):atV P o=(i:Int):=by unfold atV;rw [h,hi];rfl
theorem at_no {P:List VP} {o:List Nat} (h:fnd P o=false):atV P o=-1:=by unfold atV;rw [h];rfl
theorem retK {x y:List Nat×Int} (h:x=y):Ending.returned (.tuple #[dval x.1,.int .i64 x.2])=Ending.returned (.tuple #[dval y.1,.int .i64 y.2]):=by rw [h]
theorem retK' {x:List Nat} {c:Int} {y:List Nat×Int} (h:y=(x,c)):Ending.returned (.tuple #[dval x,.int .i64 c])=Ending.returned (.tuple #[dval y.1,.int .i64 y.2]):=by rw [h]
theorem keyO_bad {P:List VP} {o:List Nat} {a:Int} (h:isAddr a=false∨vldV P=false):keyO P o a=(zero32,1):=by
 unfold keyO
 rcases h with h | h <;> simp [h]
theorem keyO_none {P:List VP} {o:List Nat} {a:Int} (h1:isAddr a=true) (h2:vldV P=true) (h3:fnd P o=false):keyO P o a=(zero32,10):=by
 unfold keyO
 simp [h1,h2,h3]
theorem keyO_leaf {P:List VP} {o:List Nat} {a:Int} (h1:isAddr a=true) (h2:vldV P=true) (h3:fnd P o=true) {i:Nat} (hi:pos P o=i) {l:List Nd} (hl:tr P i=l):keyO P o a=leafOf l a:=by
 unfold keyO
 simp [h1,h2,h3,hi,hl]
theorem isAddr_yes {a:Int} (h:isAddr a=true):0≤a∧a < 17179869184:=by
 unfold isAddr at h
 simpa using h
set_option maxRecDepth 100000 in
set_option maxHeartbeats 4000000 in
theorem newv_walk (k:List Nat) (hk:Dg k) (w:World) :
   Calls Tryz.prog 24 #[dval k] w fun e w'=>e=.returned (vval (kd 273 k) (kd 274 k) (.slice none 0 0))∧w.grownBy w' none:=by
 refine cx_enterD Tryz.func24 rfl Tryz.ntmps24 rfl fun a0 sv0=>?_
 have HG:=World.grownBy.refl w none
 replace sv0:Sv 8 [] [(0,dval k)] a0:=sv0
 refine wp_seq_k fun K1 k1=>?_
 refine wp_region_lit ?_
 refine tl_box sv0 rfl rfl rfl rfl rfl rfl (tyD k hk.1) fun a2 w2 B1_2 eq_B1_2 g2 z2 HB1_2 sv2=>?_
 have lo_B1_2:=nb_lo HG eq_B1_2
 replace HG:=grown_trans HG g2
 refine tl_alloc (T:=36) (Z:=([bv zero32,bv zero32,[.slice none 0 0]].flatten)) sv2 rfl rfl rfl (fun a w=>by kernel_rfl) fun a3 w3 B2_3 eq_B2_3 g3 z3 HB2_3 sv3=>?_
 have ne_B2_3_B1_2:=nb_ne HB1_2 eq_B2_3
 have lo_B2_3:=nb_lo HG eq_B2_3
 replace HB1_2:=rw_kn g3 HB1_2
 replace HG:=grown_trans HG g3
 refine tl_nil ?_
 refine k1 _ _ ?_
 refine wp_seq_k fun K4 k4=>?_
 refine wp_region_lit ?_
 refine tl_defer sv3 rfl (dd:={ target:=.fn (.func 65) #[],args:=#[] }) rfl (by simp [execOp,resolve,Deferred.ofValue];try rfl) fun a5 sv5=>?_
 refine tl_nil ?_
 refine k4 _ _ ?_
 refine wp_seq_k fun K6 k6=>?_
 refine rx_tail (sv5.st w3) (by kernel_rfl) 5 [(3,Sp.is (dval k)),(4,Sp.is (dval ((kd 273 k)))),(5,Sp.is (dval k)),(6,Sp.is (dval ((kd 274 k)))),(7,Sp.is (vval ((kd 273 k)) ((kd 274 k)) (.slice none 0 0)))] rfl (by kernel_rfl) (by kernel_rfl) (by kernel_rfl) [] (by kernel_rfl)
   ⟨yl r6 (tyD k hk.1) HB1_2,ox_call (Sp.is (dval ((kd 273 k)))) [.int .u64 273,dval k,.slice none 0 0] rfl rfl trivial ⟨rfl,(oy rfl rfl),rfl,trivial⟩ (is_on fun W g=>keyed_c (n:=273) (by decide) rfl hk W) (fun _ _ h=>h) (enter_of Tryz.func66 (by kernel_rfl) rfl),yl r6 (tyD k hk.1) HB1_2,ox_call (Sp.is (dval ((kd 274 k)))) [.int .u64 274,dval k,.slice none 0 0] rfl rfl trivial ⟨rfl,(oy rfl rfl),rfl,trivial⟩ (is_on fun W g=>keyed_c (n:=274) (by decide) rfl hk W) (fun _ _ h=>h) (enter_of Tryz.func66 (by kernel_rfl) rfl),ox_build (vs:=[dval ((kd 273 k)),dval ((kd 274 k))]) rfl rfl trivial ⟨(oy rfl rfl),(oy rfl rfl),trivial⟩ (fun _=>bV2 (kd_dg _ _) (kd_dg _ _) _) (fun _=>rfl),trivial⟩ trivial
   [] (by kernel_rfl) trivial ⟨.inl rfl,.inl rfl,.inl rfl,.inl rfl,.inl rfl,trivial⟩ (by kernel_rfl) fun a7 w7 g7 st7 nd7=>?_
 obtain ⟨hn7,hd7,e7_3,e7_4,e7_5,e7_6,e7_7,e7_2,e7_1,e7_0,-⟩:=st7
 have sv7:Sv 8 [{ target:=.fn (.func 65) #[],args:=#[] }] [(2,_),(1,_),(0,_),(7,_)] a7:=⟨hn7,hd7,e7_2,e7_1,e7_0,e7_7,trivial⟩
 refine tl_sw sv7 r7 (tyVa (kd_dg _ _) (kd_dg _ _) (.slice none 0 0) rfl) (rw_kn g7 HB2_3) (by first | rfl | simp [kcells,bv_length,zero32_len,(kd_dg _ _).1,(kd_dg _ _).1]) fun w8 g8 h8=>?_
 replace HB1_2:=rw_s2 g7 g8 HB1_2 (Ne.symm ne_B2_3_B1_2)
 replace HG:=grown_newR (grown_trans HG g7) g8 lo_B2_3
 replace HB2_3:=h8
 refine tl_nil ?_
 refine k6 _ _ ?_
 refine wp_ret ?_
 repeat refine then_ret ?_
 refine cx_retD (fn:=Tryz.f24) sv7 (res_cell (p:=2) Tryz.results24 sv7 rfl rfl (tyVa (kd_dg _ _) (kd_dg _ _) (.slice none 0 0) rfl) HB2_3) (inv_of Tryz.func65 (by kernel_rfl) rfl _ _) (recNewVault_walk _) ?_
 exact ⟨rfl,HG⟩
set_option maxRecDepth 100000 in
set_option maxHeartbeats 4000000 in
theorem rnewv_walk (k:List Nat) (hk:Dg k) (w:World) :
   Calls Tryz.prog 38 #[dval k] w fun e w'=>e=.returned (vval (kd 273 k) (kd 274 k) (.slice none 0 0))∧w.grownBy w' none:=by
 refine cx_enter Tryz.func38 rfl Tryz.ntmps38 rfl fun a0 sv0=>?_
 have HG:=World.grownBy.refl w none
 replace sv0:Sv 8 [] [(0,dval k)] a0:=sv0
 refine wp_seq_k fun K1 k1=>?_
 refine wp_region_lit ?_
 refine tl_box sv0 rfl rfl rfl rfl rfl rfl (tyD k hk.1) fun a2 w2 B1_2 eq_B1_2 g2 z2 HB1_2 sv2=>?_
 have lo_B1_2:=nb_lo HG eq_B1_2
 replace HG:=grown_trans HG g2
 refine tl_alloc (T:=36) (Z:=([bv zero32,bv zero32,[.slice none 0 0]].flatten)) sv2 rfl rfl rfl (fun a w=>by kernel_rfl) fun a3 w3 B2_3 eq_B2_3 g3 z3 HB2_3 sv3=>?_
 have ne_B2_3_B1_2:=nb_ne HB1_2 eq_B2_3
 have lo_B2_3:=nb_lo HG eq_B2_3
 replace HB1_2:=rw_kn g3 HB1_2
 replace HG:=grown_trans HG g3
 refine tl_nil ?_
 refine k1 _ _ ?_
 refine wp_seq_k fun K4 k4=>?_
 refine rx_tail (sv3.st w3) (by kernel_rfl) 5 [(3,Sp.is (dval k)),(4,Sp.is (dval ((kd 273 k)))),(5,Sp.is (dval k)),(6,Sp.is (dval ((kd 274 k)))),(7,Sp.is (vval ((kd 273 k)) ((kd 274 k)) (.slice none 0 0)))] rfl (by kernel_rfl) (by kernel_rfl) (by kernel_rfl) [] (by kernel_rfl)
   ⟨yl r6 (tyD k hk.1) HB1_2,ox_call (Sp.is (dval ((kd 273 k)))) [.int .u64 273,dval k,.slice none 0 0] rfl rfl trivial ⟨rfl,(oy rfl rfl),rfl,trivial⟩ (is_on fun W g=>rkeyed_c (n:=273) (by decide) rfl hk W) (fun _ _ h=>h) (enter_of Tryz.func35 (by kernel_rfl) rfl),yl r6 (tyD k hk.1) HB1_2,ox_call (Sp.is (dval ((kd 274 k)))) [.int .u64 274,dval k,.slice none 0 0] rfl rfl trivial ⟨rfl,(oy rfl rfl),rfl,trivial⟩ (is_on fun W g=>rkeyed_c (n:=274) (by decide) rfl hk W) (fun _ _ h=>h) (enter_of Tryz.func35 (by kernel_rfl) rfl),ox_build (vs:=[dval ((kd 273 k)),dval ((kd 274 k))]) rfl rfl trivial ⟨(oy rfl rfl),(oy rfl rfl),trivial⟩ (fun _=>bV2 (kd_dg _ _) (kd_dg _ _) _) (fun _=>rfl),trivial⟩ trivial
   [] (by kernel_rfl) trivial ⟨.inl rfl,.inl rfl,.inl rfl,.inl rfl,.inl rfl,trivial⟩ (by kernel_rfl) fun a5 w5 g5 st5 nd5=>?_
 obtain ⟨hn5,hd5,e5_3,e5_4,e5_5,e5_6,e5_7,e5_2,e5_1,e5_0,-⟩:=st5
 have sv5:Sv 8 [] [(2,_),(1,_),(0,_),(7,_)] a5:=⟨hn5,hd5,e5_2,e5_1,e5_0,e5_7,trivial⟩
 refine tl_sw sv5 r7 (tyVa (kd_dg _ _) (kd_dg _ _) (.slice none 0 0) rfl) (rw_kn g5 HB2_3) (by first | rfl | simp [kcells,bv_length,zero32_len,(kd_dg _ _).1,(kd_dg _ _).1]) fun w6 g6 h6=>?_
 replace HB1_2:=rw_s2 g5 g6 HB1_2 (Ne.symm ne_B2_3_B1_2)
 replace HG:=grown_newR (grown_trans HG g5) g6 lo_B2_3
 replace HB2_3:=h6
 refine tl_nil ?_
 refine k4 _ _ ?_
 refine wp_ret ?_
 repeat refine then_ret ?_
 refine cx_ret (fn:=Tryz.f38) sv5 (res_cell (p:=2) Tryz.results38 sv5 rfl rfl (tyVa (kd_dg _ _) (kd_dg _ _) (.slice none 0 0) rfl) HB2_3) ?_
 exact ⟨rfl,HG⟩
set_option maxRecDepth 100000 in
set_option maxHeartbeats 4000000 in
theorem key_walk (ks:List VK) (ao:Option Addr) (cap:Nat) (sa po:List Nat) (hsa:Dg sa) (hpo:Dg po) (o:List Nat) (ho:Dg o) (a:Int) (w:World) (hr:RdK w (.slice ao ks.length cap) ks) :
   Calls Tryz.prog 32 #[vval sa po (.slice ao ks.length cap),dval o,.int .i64 a] w fun e w'=>e=.returned (.tuple #[dval (keyO (ks.map VK.p) o a).1,.int .i64 (keyO (ks.map VK.p) o a).2])∧w.grownBy w' none:=by
 refine cx_enterD Tryz.func32 rfl Tryz.ntmps32 rfl fun a0 sv0=>?_
 have HG:=World.grownBy.refl w none
 replace sv0:Sv 39 [] [(0,vval sa po (.slice ao ks.length cap)),(1,dval o),(2,.int .i64 a)] a0:=sv0
 refine wp_seq_k fun K1 k1=>?_
 refine wp_region_lit ?_
 refine tl_box sv0 rfl rfl rfl rfl rfl rfl (tyVa hsa hpo (.slice ao ks.length cap) rfl) fun a2 w2 B3_2 eq_B3_2 g2 z2 HB3_2 sv2=>?_
 have lo_B3_2:=nb_lo HG eq_B3_2
 have ap_hr_B3_2:=nb_ap (hr.lt) eq_B3_2
 replace hr:=hr.kn g2
 replace HG:=grown_trans HG g2
 refine tl_box sv2 rfl rfl rfl rfl rfl rfl (tyD o ho.1) fun a3 w3 B4_3 eq_B4_3 g3 z3 HB4_3 sv3=>?_
 have ne_B4_3_B3_2:=nb_ne HB3_2 eq_B4_3
 have lo_B4_3:=nb_lo HG eq_B4_3
 have ap_hr_B4_3:=nb_ap (hr.lt) eq_B4_3
 replace HB3_2:=rw_kn g3 HB3_2
 replace hr:=hr.kn g3
 replace HG:=grown_trans HG g3
 refine tl_alloc (T:=23) (Z:=(bv zero32)) sv3 rfl rfl rfl (fun a w=>by kernel_rfl) fun a4 w4 B6_4 eq_B6_4 g4 z4 HB6_4 sv4=>?_
 have ne_B6_4_B3_2:=nb_ne HB3_2 eq_B6_4
 have ne_B6_4_B4_3:=nb_ne HB4_3 eq_B6_4
 have lo_B6_4:=nb_lo HG eq_B6_4
 have ap_hr_B6_4:=nb_ap (hr.lt) eq_B6_4
 replace HB3_2:=rw_kn g4 HB3_2
 replace HB4_3:=rw_kn g4 HB4_3
 replace hr:=hr.kn g4
 replace HG:=grown_trans HG g4
 refine tl_alloc (T:=38) (Z:=[.int .i64 0]) sv4 rfl rfl rfl (fun a w=>by kernel_rfl) fun a5 w5 B7_5 eq_B7_5 g5 z5 HB7_5 sv5=>?_
 have ne_B7_5_B3_2:=nb_ne HB3_2 eq_B7_5
 have ne_B7_5_B4_3:=nb_ne HB4_3 eq_B7_5
 have ne_B7_5_B6_4:=nb_ne HB6_4 eq_B7_5
 have lo_B7_5:=nb_lo HG eq_B7_5
 have ap_hr_B7_5:=nb_ap (hr.lt) eq_B7_5
 replace HB3_2:=rw_kn g5 HB3_2
 replace HB4_3:=rw_kn g5 HB4_3
 replace HB6_4:=rw_kn g5 HB6_4
 replace hr:=hr.kn g5
 replace HG:=grown_trans HG g5
 refine tl_nil ?_
 refine k1 _ _ ?_
 refine wp_seq_k fun K6 k6=>?_
 refine wp_region_lit ?_
 refine tl_makeFunc sv5 rfl rfl rfl rfl rfl rfl fun a7 sv7=>?_
 refine tl_defer sv7 rfl (dd:={ target:=.fn (.func 77) #[pt B6_4,pt B7_5],args:=#[] }) rfl (by have e1:=sv7.ev (x:=.tmp 10) rfl rfl;simp [execOp,resolve,Deferred.ofValue,e1];try rfl) fun a8 sv8=>?_
 refine tl_nil ?_
 refine k6 _ _ ?_
 refine wp_seq_k fun K9 k9=>?_
 refine wp_seq_k fun K10 k10=>?_
 rcases (show isAddr a=false∨(isAddr a=true∧vldV (ks.map VK.p)=false)∨(isAddr a=true∧vldV (ks.map VK.p)=true) by cases isAddr a <;> cases vldV (ks.map VK.p) <;> simp) with ha | ⟨ha,hv⟩ | ⟨ha,hv⟩
 · refine wp_region_lit ?_
   refine sx_hv sv8 8 [(11,.int .i64 a),(12,.bool false),(13,.bool true),(14,.bool true),(15,undef),(16,undef),(17,undef),(18,.bool true)]
     ⟨ym r5,ox_call (Sp.is (.bool false)) [.int .i64 a] rfl rfl trivial ⟨(oy rfl rfl),trivial⟩ (is_on fun W g=>isaddr_B ha W) (fun _ _ h=>h) (enter_of Tryz.func75 (by kernel_rfl) rfl),ox_un rfl rfl trivial (oy rfl rfl) (fun _=>rn_not) (fun _=>rfl),ym r5,ox_off (gn rfl rfl rfl) rfl (fun _=>rfl),ox_off (gn rfl rfl rfl) rfl (fun _=>rfl),ox_off (gn rfl rfl rfl) rfl (fun _=>rfl),ox_pick rfl rfl trivial (oy rfl rfl) rfl (fun _=>rfl),trivial⟩ fun a11 w11 g11 sv11=>?_
   refine tl_nil ?_
   refine k10 _ _ ?_
   refine cx_ifT sv11 rfl rfl ?_
   refine wp_seq_k fun K12 k12=>?_
   refine wp_region_lit ?_
   replace HB3_2:=rw_kn g11 HB3_2
   replace HB4_3:=rw_kn g11 HB4_3
   replace HB6_4:=rw_kn g11 HB6_4
   replace HB7_5:=rw_kn g11 HB7_5
   replace hr:=hr.kn g11
   replace HG:=grown_trans HG g11
   refine sx_hv sv11 1 [(19,dval zero32)]
     ⟨ox_build (vs:=[]) rfl rfl trivial trivial (fun _=>bD0 _) (fun _=>rfl),trivial⟩ fun a13 w13 g13 sv13=>?_
   refine tl_sw sv13 r7 (tyD zero32 zero32_dg.1) (rw_kn g13 HB6_4) (lenD zero32_dg) fun w14 g14 h14=>?_
   replace HB3_2:=rw_s2 g13 g14 HB3_2 (Ne.symm ne_B6_4_B3_2)
   replace HB4_3:=rw_s2 g13 g14 HB4_3 (Ne.symm ne_B6_4_B4_3)
   replace HB7_5:=rw_s2 g13 g14 HB7_5 ne_B7_5_B6_4
   replace hr:=(hr.kn g13).offR g14 (no_b ap_hr_B6_4)
   replace HG:=grown_newR (grown_trans HG g13) g14 lo_B6_4
   replace HB6_4:=h14
   refine tl_sw sv13 r7 (tyE 1) HB7_5 rfl fun w15 g15 h15=>?_
   replace HB3_2:=rw_st g15 HB3_2 (Ne.symm ne_B7_5_B3_2)
   replace HB4_3:=rw_st g15 HB4_3 (Ne.symm ne_B7_5_B4_3)
   replace HB6_4:=rw_st g15 HB6_4 (Ne.symm ne_B7_5_B6_4)
   replace hr:=hr.offR g15 (no_b ap_hr_B7_5)
   replace HG:=grown_newR HG g15 lo_B7_5
   replace HB7_5:=h15
   refine tl_nil ?_
   refine k12 _ _ ?_
   refine wp_ret ?_
   repeat refine then_ret ?_
   refine cx_retD (fn:=Tryz.f32) sv13 (res_cell2 (p:=6) (q:=7) Tryz.results32 sv13 rfl rfl rfl rfl (tyD zero32 zero32_dg.1) (tyE 1) HB6_4 HB7_5) (inv_of Tryz.func77 (by kernel_rfl) rfl _ _) (recKey_walk _ _ _) ?_
   exact ⟨retK' (keyO_bad (.inl ha)),HG⟩
 · refine wp_region_lit ?_
   refine sx_hv sv8 8 [(11,.int .i64 a),(12,.bool true),(13,.bool false),(14,.bool false),(15,vval sa po (.slice ao ks.length cap)),(16,.bool false),(17,.bool true),(18,.bool true)]
     ⟨ym r5,ox_call (Sp.is (.bool true)) [.int .i64 a] rfl rfl trivial ⟨(oy rfl rfl),trivial⟩ (is_on fun W g=>isaddr_B ha W) (fun _ _ h=>h) (enter_of Tryz.func75 (by kernel_rfl) rfl),ox_un rfl rfl trivial (oy rfl rfl) (fun _=>rn_not) (fun _=>rfl),ym r5,ox_load rfl rfl (gy rfl rfl rfl) (oy rfl rfl) (fun _ g=>loadsAt (tyVa hsa hpo (.slice ao ks.length cap) rfl) (rangeAt_row (row_of g HB3_2 (by simp)))) (fun _=>rfl),ox_call (Sp.is (.bool false)) [vval sa po (.slice ao ks.length cap)] rfl rfl (gy rfl rfl rfl) ⟨(oy rfl rfl),trivial⟩ (is_on fun W g=>vvalid_B hsa hpo (hr.kn g) hv) (fun _ _ h=>h) (enter_of Tryz.func51 (by kernel_rfl) rfl),ox_un rfl rfl (gy rfl rfl rfl) (oy rfl rfl) (fun _=>rn_not) (fun _=>rfl),ox_pick rfl rfl trivial (oy rfl rfl) (oy rfl rfl) (fun _=>rfl),trivial⟩ fun a16 w16 g16 sv16=>?_
   refine tl_nil ?_
   refine k10 _ _ ?_
   refine cx_ifT sv16 rfl rfl ?_
   refine wp_seq_k fun K17 k17=>?_
   refine wp_region_lit ?_
   replace HB3_2:=rw_kn g16 HB3_2
   replace HB4_3:=rw_kn g16 HB4_3
   replace HB6_4:=rw_kn g16 HB6_4
   replace HB7_5:=rw_kn g16 HB7_5
   replace hr:=hr.kn g16
   replace HG:=grown_trans HG g16
   refine sx_hv sv16 1 [(19,dval zero32)]
     ⟨ox_build (vs:=[]) rfl rfl trivial trivial (fun _=>bD0 _) (fun _=>rfl),trivial⟩ fun a18 w18 g18 sv18=>?_
   refine tl_sw sv18 r7 (tyD zero32 zero32_dg.1) (rw_kn g18 HB6_4) (lenD zero32_dg) fun w19 g19 h19=>?_
   replace HB3_2:=rw_s2 g18 g19 HB3_2 (Ne.symm ne_B6_4_B3_2)
   replace HB4_3:=rw_s2 g18 g19 HB4_3 (Ne.symm ne_B6_4_B4_3)
   replace HB7_5:=rw_s2 g18 g19 HB7_5 ne_B7_5_B6_4
   replace hr:=(hr.kn g18).offR g19 (no_b ap_hr_B6_4)
   replace HG:=grown_newR (grown_trans HG g18) g19 lo_B6_4
   replace HB6_4:=h19
   refine tl_sw sv18 r7 (tyE 1) HB7_5 rfl fun w20 g20 h20=>?_
   replace HB3_2:=rw_st g20 HB3_2 (Ne.symm ne_B7_5_B3_2)
   replace HB4_3:=rw_st g20 HB4_3 (Ne.symm ne_B7_5_B4_3)
   replace HB6_4:=rw_st g20 HB6_4 (Ne.symm ne_B7_5_B6_4)
   replace hr:=hr.offR g20 (no_b ap_hr_B7_5)
   replace HG:=grown_newR HG g20 lo_B7_5
   replace HB7_5:=h20
   refine tl_nil ?_
   refine k17 _ _ ?_
   refine wp_ret ?_
   repeat refine then_ret ?_
   refine cx_retD (fn:=Tryz.f32) sv18 (res_cell2 (p:=6) (q:=7) Tryz.results32 sv18 rfl rfl rfl rfl (tyD zero32 zero32_dg.1) (tyE 1) HB6_4 HB7_5) (inv_of Tryz.func77 (by kernel_rfl) rfl _ _) (recKey_walk _ _ _) ?_
   exact ⟨retK' (keyO_bad (.inr hv)),HG⟩
 · obtain ⟨i,hi⟩:∃ i,pos (ks.map VK.p) o=i:=⟨_,rfl⟩
   have h64:ks.length≤64:=by have:=(vldV_iff.1 hv).1;simpa using this
   refine wp_region_lit ?_
   refine sx_hv sv8 8 [(11,.int .i64 a),(12,.bool true),(13,.bool false),(14,.bool false),(15,vval sa po (.slice ao ks.length cap)),(16,.bool true),(17,.bool false),(18,.bool false)]
     ⟨ym r5,ox_call (Sp.is (.bool true)) [.int .i64 a] rfl rfl trivial ⟨(oy rfl rfl),trivial⟩ (is_on fun W g=>isaddr_B ha W) (fun _ _ h=>h) (enter_of Tryz.func75 (by kernel_rfl) rfl),ox_un rfl rfl trivial (oy rfl rfl) (fun _=>rn_not) (fun _=>rfl),ym r5,ox_load rfl rfl (gy rfl rfl rfl) (oy rfl rfl) (fun _ g=>loadsAt (tyVa hsa hpo (.slice ao ks.length cap) rfl) (rangeAt_row (row_of g HB3_2 (by simp)))) (fun _=>rfl),ox_call (Sp.is (.bool true)) [vval sa po (.slice ao ks.length cap)] rfl rfl (gy rfl rfl rfl) ⟨(oy rfl rfl),trivial⟩ (is_on fun W g=>vvalid_B hsa hpo (hr.kn g) hv) (fun _ _ h=>h) (enter_of Tryz.func51 (by kernel_rfl) rfl),ox_un rfl rfl (gy rfl rfl rfl) (oy rfl rfl) (fun _=>rn_not) (fun _=>rfl),ox_pick rfl rfl trivial (oy rfl rfl) (oy rfl rfl) (fun _=>rfl),trivial⟩ fun a21 w21 g21 sv21=>?_
   refine tl_nil ?_
   refine k10 _ _ ?_
   refine cx_ifF sv21 rfl rfl ?_
   refine wp_skip ?_
   refine k9 _ _ ?_
   refine wp_seq_k fun K22 k22=>?_
   replace HB3_2:=rw_kn g21 HB3_2
   replace HB4_3:=rw_kn g21 HB4_3
   replace HB6_4:=rw_kn g21 HB6_4
   replace HB7_5:=rw_kn g21 HB7_5
   replace hr:=hr.kn g21
   replace HG:=grown_trans HG g21
   cases hf:fnd (ks.map VK.p) o
   · refine wp_region_lit ?_
     refine sx_hv sv21 6 [(21,vval sa po (.slice ao ks.length cap)),(22,dval o),(23,.tuple #[.int .i64 ((i:Int)),.bool false]),(20,.tuple #[.int .i64 ((i:Int)),.bool false]),(24,.int .i64 ((i:Int))),(25,.bool false)]
       ⟨yl r6 (tyVa hsa hpo (.slice ao ks.length cap) rfl) HB3_2,yl r6 (tyD o ho.1) HB4_3,ox_call (Sp.is (.tuple #[.int .i64 ((i:Int)),.bool false])) [vval sa po (.slice ao ks.length cap),dval o] rfl rfl trivial ⟨(oy rfl rfl),(oy rfl rfl),trivial⟩ (is_on fun W g=>find_B hsa hpo ho (hr.kn g) hv hf hi) (fun _ _ h=>h) (enter_of Tryz.func71 (by kernel_rfl) rfl),ym r5,ox_extract rfl rfl rfl trivial (fun _ _ h=>⟨_,_,h,rfl,rfl⟩),ox_extract rfl rfl rfl trivial (fun _ _ h=>⟨_,_,h,rfl,rfl⟩),trivial⟩ fun a23 w23 g23 sv23=>?_
     refine tl_as (v:=.int .i64 ((i:Int))) sv23 r6 fun a24 sv24=>?_
     refine tl_as (v:=.bool false) sv24 r6 fun a25 sv25=>?_
     have sv26:Sv 39 [{ target:=.fn (.func 77) #[pt B6_4,pt B7_5],args:=#[] }] [(9,_),(8,_),(11,_),(12,_),(13,_),(14,_),(15,_),(16,_),(17,_),(18,_),(10,_),(7,_),(6,_),(3,_),(0,_),(1,_),(2,_)] a25:=sv25.dl [21,22,23,20,24,25,4]
     refine tl_nil ?_
     refine k22 _ _ ?_
     refine wp_seq_k fun K27 k27=>?_
     refine wp_seq_k fun K28 k28=>?_
     refine wp_region_lit ?_
     refine sx_hv sv26 2 [(26,.bool false),(27,.bool true)]
       ⟨ym r5,ox_un rfl rfl trivial (oy rfl rfl) (fun _=>rn_not) (fun _=>rfl),trivial⟩ fun a29 w29 g29 sv29=>?_
     have gc29:=grown_trans g23 g29
     refine tl_nil ?_
     refine k28 _ _ ?_
     refine cx_ifT sv29 rfl rfl ?_
     refine wp_seq_k fun K30 k30=>?_
     refine wp_region_lit ?_
     replace HB3_2:=rw_kn gc29 HB3_2
     replace HB4_3:=rw_kn gc29 HB4_3
     replace HB6_4:=rw_kn gc29 HB6_4
     replace HB7_5:=rw_kn gc29 HB7_5
     replace hr:=hr.kn gc29
     replace HG:=grown_trans HG gc29
     refine sx_hv sv29 1 [(28,dval zero32)]
       ⟨ox_build (vs:=[]) rfl rfl trivial trivial (fun _=>bD0 _) (fun _=>rfl),trivial⟩ fun a31 w31 g31 sv31=>?_
     refine tl_sw sv31 r7 (tyD zero32 zero32_dg.1) (rw_kn g31 HB6_4) (lenD zero32_dg) fun w32 g32 h32=>?_
     replace HB3_2:=rw_s2 g31 g32 HB3_2 (Ne.symm ne_B6_4_B3_2)
     replace HB4_3:=rw_s2 g31 g32 HB4_3 (Ne.symm ne_B6_4_B4_3)
     replace HB7_5:=rw_s2 g31 g32 HB7_5 ne_B7_5_B6_4
     replace hr:=(hr.kn g31).offR g32 (no_b ap_hr_B6_4)
     replace HG:=grown_newR (grown_trans HG g31) g32 lo_B6_4
     replace HB6_4:=h32
     refine tl_sw sv31 r7 (tyE 10) HB7_5 rfl fun w33 g33 h33=>?_
     replace HB3_2:=rw_st g33 HB3_2 (Ne.symm ne_B7_5_B3_2)
     replace HB4_3:=rw_st g33 HB4_3 (Ne.symm ne_B7_5_B4_3)
     replace HB6_4:=rw_st g33 HB6_4 (Ne.symm ne_B7_5_B6_4)
     replace hr:=hr.offR g33 (no_b ap_hr_B7_5)
     replace HG:=grown_newR HG g33 lo_B7_5
     replace HB7_5:=h33
     refine tl_nil ?_
     refine k30 _ _ ?_
     refine wp_ret ?_
     repeat refine then_ret ?_
     refine cx_retD (fn:=Tryz.f32) sv31 (res_cell2 (p:=6) (q:=7) Tryz.results32 sv31 rfl rfl rfl rfl (tyD zero32 zero32_dg.1) (tyE 10) HB6_4 HB7_5) (inv_of Tryz.func77 (by kernel_rfl) rfl _ _) (recKey_walk _ _ _) ?_
     exact ⟨retK' (keyO_none ha hv hf),HG⟩
   · have hil:i < ks.length:=by have:=(fnd_at hf).1;rw [hi] at this;simpa using this
     obtain ⟨x,hx_x⟩:∃ x,ks[i]'hil=x:=⟨_,rfl⟩
     have htr:tr (ks.map VK.p) i=x.l:=by rw [tr_map hil,hx_x]
     refine wp_region_lit ?_
     refine sx_hv sv21 6 [(21,vval sa po (.slice ao ks.length cap)),(22,dval o),(23,.tuple #[.int .i64 ((i:Int)),.bool true]),(20,.tuple #[.int .i64 ((i:Int)),.bool true]),(24,.int .i64 ((i:Int))),(25,.bool true)]
       ⟨yl r6 (tyVa hsa hpo (.slice ao ks.length cap) rfl) HB3_2,yl r6 (tyD o ho.1) HB4_3,ox_call (Sp.is (.tuple #[.int .i64 ((i:Int)),.bool true])) [vval sa po (.slice ao ks.length cap),dval o] rfl rfl trivial ⟨(oy rfl rfl),(oy rfl rfl),trivial⟩ (is_on fun W g=>find_B hsa hpo ho (hr.kn g) hv hf hi) (fun _ _ h=>h) (enter_of Tryz.func71 (by kernel_rfl) rfl),ym r5,ox_extract rfl rfl rfl trivial (fun _ _ h=>⟨_,_,h,rfl,rfl⟩),ox_extract rfl rfl rfl trivial (fun _ _ h=>⟨_,_,h,rfl,rfl⟩),trivial⟩ fun a34 w34 g34 sv34=>?_
     refine tl_as (v:=.int .i64 ((i:Int))) sv34 r6 fun a35 sv35=>?_
     refine tl_as (v:=.bool true) sv35 r6 fun a36 sv36=>?_
     have sv37:Sv 39 [{ target:=.fn (.func 77) #[pt B6_4,pt B7_5],args:=#[] }] [(9,_),(8,_),(11,_),(12,_),(13,_),(14,_),(15,_),(16,_),(17,_),(18,_),(10,_),(7,_),(6,_),(3,_),(0,_),(1,_),(2,_)] a36:=sv36.dl [21,22,23,20,24,25,4]
     refine tl_nil ?_
     refine k22 _ _ ?_
     refine wp_seq_k fun K38 k38=>?_
     refine wp_seq_k fun K39 k39=>?_
     refine wp_region_lit ?_
     refine sx_hv sv37 2 [(26,.bool true),(27,.bool false)]
       ⟨ym r5,ox_un rfl rfl trivial (oy rfl rfl) (fun _=>rn_not) (fun _=>rfl),trivial⟩ fun a40 w40 g40 sv40=>?_
     have gc40:=grown_trans g34 g40
     refine tl_nil ?_
     refine k39 _ _ ?_
     refine cx_ifF sv40 rfl rfl ?_
     refine wp_skip ?_
     refine k38 _ _ ?_
     refine wp_seq_k fun K41 k41=>?_
     refine wp_region_lit ?_
     replace HB3_2:=rw_kn gc40 HB3_2
     replace HB4_3:=rw_kn gc40 HB4_3
     replace HB6_4:=rw_kn gc40 HB6_4
     replace HB7_5:=rw_kn gc40 HB7_5
     replace hr:=hr.kn gc40
     replace HG:=grown_trans HG gc40
     refine sx_hv sv40 10 [(29,pk B3_2 64),(30,.slice ao ks.length cap),(31,.int .i64 ((i:Int))),(32,pk ((bO ao)) (oO ao+i * 33)),(33,pk ((bO ao)) (oO ao+i * 33+32)),(34,.agg #[VK.s x]),(35,.int .i64 a),(36,.tuple #[dval ((leafOf x.l a).1),.int .i64 ((leafOf x.l a).2)]),(37,dval ((leafOf x.l a).1)),(38,.int .i64 ((leafOf x.l a).2))]
       ⟨yf r6 (fun _=>by kernel_rfl),yp (i:=2) r6 (tyKs (.slice ao ks.length cap) rfl) HB3_2 rfl (by simp [bv_length,zero32_len,hsa.1,hpo.1]),ym r5,ox_index rfl rfl trivial (oy rfl rfl) (oy rfl rfl) (fun w=>ix_sl Tryz.underlying34 (by kernel_rfl) (hr.1.1) (by omega) (rfl) w) (fun _=>rfl),yf r6 (fun _=>by kernel_rfl),ox_load rfl rfl trivial (oy rfl rfl) (fun _ g=>loadsAt (tyT (VK.s x) rfl) (RdK.treeX (hr.kn g) rfl hil hx_x)) (fun _=>rfl),ym r5,ox_call (Sp.is (.tuple #[dval ((leafOf x.l a).1),.int .i64 ((leafOf x.l a).2)])) [.agg #[VK.s x],.int .i64 a] rfl rfl trivial ⟨(oy rfl rfl),(oy rfl rfl),trivial⟩ (is_on fun W g=>leaf_call rfl ((hr.kn g).kt hil hx_x)) (fun _ _ h=>h) (enter_of Tryz.func78 (by kernel_rfl) rfl),ox_extract rfl rfl rfl trivial (fun _ _ h=>⟨_,_,h,rfl,rfl⟩),ox_extract rfl rfl rfl trivial (fun _ _ h=>⟨_,_,h,rfl,rfl⟩),trivial⟩ fun a42 w42 g42 sv42=>?_
     refine tl_sw sv42 r7 (tyD ((leafOf x.l a).1) (leafOf_dg ((hr.kt hil hx_x).2.1) a).1) (rw_kn g42 HB6_4) (lenD (leafOf_dg ((hr.kt hil hx_x).2.1) a)) fun w43 g43 h43=>?_
     replace HB3_2:=rw_s2 g42 g43 HB3_2 (Ne.symm ne_B6_4_B3_2)
     replace HB4_3:=rw_s2 g42 g43 HB4_3 (Ne.symm ne_B6_4_B4_3)
     replace HB7_5:=rw_s2 g42 g43 HB7_5 ne_B7_5_B6_4
     replace hr:=(hr.kn g42).offR g43 (no_b ap_hr_B6_4)
     replace HG:=grown_newR (grown_trans HG g42) g43 lo_B6_4
     replace HB6_4:=h43
     refine tl_sw sv42 r7 (tyE ((leafOf x.l a).2)) HB7_5 rfl fun w44 g44 h44=>?_
     replace HB3_2:=rw_st g44 HB3_2 (Ne.symm ne_B7_5_B3_2)
     replace HB4_3:=rw_st g44 HB4_3 (Ne.symm ne_B7_5_B4_3)
     replace HB6_4:=rw_st g44 HB6_4 (Ne.symm ne_B7_5_B6_4)
     replace hr:=hr.offR g44 (no_b ap_hr_B7_5)
     replace HG:=grown_newR HG g44 lo_B7_5
     replace HB7_5:=h44
     have sv45:Sv 39 [{ target:=.fn (.func 77) #[pt B6_4,pt B7_5],args:=#[] }] [(26,_),(27,_),(9,_),(11,_),(12,_),(13,_),(14,_),(15,_),(16,_),(17,_),(18,_),(10,_),(7,_),(6,_),(3,_),(0,_),(1,_),(2,_)] a42:=sv42.dl [29,30,31,32,33,34,35,36,37,38,8]
     refine tl_nil ?_
     refine k41 _ _ ?_
     refine wp_ret ?_
     repeat refine then_ret ?_
     refine cx_retD (fn:=Tryz.f32) sv45 (res_cell2 (p:=6) (q:=7) Tryz.results32 sv45 rfl rfl rfl rfl (tyD ((leafOf x.l a).1) (leafOf_dg ((hr.kt hil hx_x).2.1) a).1) (tyE ((leafOf x.l a).2)) HB6_4 HB7_5) (inv_of Tryz.func77 (by kernel_rfl) rfl _ _) (recKey_walk _ _ _) ?_
     exact ⟨retK (keyO_leaf ha hv hf hi htr).symm,HG⟩
end Go.Proofs.YtbfjfnbcmojpiaaGreat

namespace Go.Proofs.YtbfjfnbcmojpiaaGreat
open Go.RowKit
set_option linter.unusedSimpArgs false
set_option linter.unusedVariables false
def Sp.made (B:Nat) (e:TypeId) (sz n:Nat) (xs:List Value):Sp:=⟨fun w v=>∃ A,v=.slice (some ⟨A,0,none⟩) n n∧Own w e sz (.slice (some ⟨A,0,none⟩) n n) n xs∧B≤A,fun _ _ _ hg ⟨A,h1,h2,h3⟩=>⟨A,h1,h2.kn hg,h3⟩⟩
section
variable {P:Program} {ops:Array Oper} {L:Nat→Sp} {n:Nat} {w0:World} {o:Oper}
theorem made_rep {z:Value} {sz:Nat} (hz:z.cells.size=sz) (hp:0 < sz) (m:Nat):(madeCells z.cells (m * sz)).toList=(List.replicate m ()).flatMap fun _=>z.cells.toList:=by
 refine List.ext_getElem? fun i=>?_
 have hl:((List.replicate m ()).flatMap fun _=>z.cells.toList).length=m * sz:=by rw [fl_len (sz:=sz) (fun _=>by simpa using hz)];simp
 by_cases hi:i < m * sz
 · have h1:i / sz < m:=(Nat.div_lt_iff_lt_mul hp).2 hi
   have h2:i % sz < sz:=Nat.mod_lt _ hp
   have e1:(madeCells z.cells (m * sz)).toList[i]?=some z.cells[i % sz]!:=by rw [← hz] at hi ⊢;simp [madeCells,hi]
   have e2:((List.replicate m ()).flatMap fun _=>z.cells.toList)[i]?=some (z.cells[i % sz]'(by omega)):=by
     have hsp:=fl_split (c:=fun _=>z.cells.toList) (L:=List.replicate m ()) (j:=i / sz) (by simpa using h1)
     rw [hsp,List.getElem?_append_right (by rw [fl_len (sz:=sz) (fun _=>by simpa using hz),List.length_take,List.length_replicate,Nat.min_eq_left (Nat.le_of_lt h1)];exact Nat.div_mul_le_self i sz),fl_len (sz:=sz) (fun _=>by simpa using hz),List.length_take,List.length_replicate,Nat.min_eq_left (Nat.le_of_lt h1)]
     have e3:i - i / sz * sz=i % sz:=by have:=Nat.div_add_mod i sz;rw [Nat.mul_comm] at this;omega
     rw [e3,List.getElem?_append_left (by simpa [hz] using h2),Array.getElem?_toList,Array.getElem?_eq_getElem (by omega)]
   rw [e1,e2,getElem!_pos z.cells _ (by omega)]
 · rw [List.getElem?_eq_none (by simp [madeCells];omega),List.getElem?_eq_none (by omega)]
theorem ox_make {t e:TypeId} {z:Value} {size bytes d B m:Nat} {x:Operand} {xs:List Value} (E:ET P t e z size bytes) (ho:o.op=.makeSlice t x x) (hd:o.dst=some d) (hg:GX ops L n o.guard) (hB:B≤w0.heap.size)
   (hx:OpX L n x (.int .i64 (m:Int))) (hm:m≤1000000) (hxs:xs=(List.replicate m ()).flatMap fun _=>z.cells.toList)
   (h:∀ w v,(Sp.made B e size m xs).on w v→(L d).on w v):OX P ops L n w0 o:=by
 intro a w hw hl hs
 unfold OpSays
 rw [if_pos (hg.wanted hl hs)]
 have e1:=hx.eval (o:=o) (a:=a) (w:=w) (by simp [ho,Op.operands]) hl
 obtain ⟨i,hi,hz,rfl,hby⟩:=E.inf
 have hb:=E.bnd
 have hbytes:(i.bytes:Int) * (m:Int)≤281474976710656:=by
   have h1:i.bytes * m≤128 * 1000000:=Nat.mul_le_mul (by omega) hm
   have h2:((i.bytes * m:Nat):Int)≤((128 * 1000000:Nat):Int):=by omega
   rw [Int.natCast_mul] at h2
   omega
 have hr:=run_make (P:=P) w t e i z E.und hi hz .i64 .i64 (m:Int) (m:Int) (by omega) (by omega) hbytes (by omega)
 have hrr:(execOp a.eval o).run P w=.ok (.value (.slice (some ⟨w.heap.size,0,none⟩) m m)) (w.alloc (.cells (madeCells z.cells (m * i.size)) e)):=by
   simp only [execOp,ho,e1,Sem.run_bind,Sem.run_pure,Result.andThen_ok,hr,Int.toNat_natCast]
 rw [hrr]
 refine ⟨World.grownBy_alloc _ _ _,dst_on hd (h _ _ ⟨_,rfl,?_,Nat.le_trans hB hw.size⟩)⟩
 have hcl:(madeCells z.cells (m * i.size)).size=m * i.size:=size_madeCells _ _
 refine ⟨by rw [hxs,← made_rep E.zsz E.pos,Array.length_toList,hcl],.inr ⟨w.heap.size,m,_,rfl,Nat.zero_le _,heap_at rfl,Nat.le_refl _,by unfold maxLen;omega,hcl,?_⟩⟩
 rw [hxs,← made_rep E.zsz E.pos,List.take_of_length_le (by rw [Array.length_toList,hcl];exact Nat.le_refl _)]
theorem rn_nil {t e:TypeId} (ht:P.underlying t=some (.slice e)) {x y:Operand} {ao:Option Addr} {l c:Nat} {r:Bool} (hr:ao.isNone=r) {w:World}:(do eqGuard .eql t x y (.slice ao l c) (.slice none 0 0);binOp .eql t (.slice ao l c) (.slice none 0 0):Sem Value).run P w=.ok (.bool r) w:=by
 subst hr
 have:=run_eql_slice_nil (P:=P) w t e ao l c ht
 simp [eqGuard,this]
end
def zkey:VK:=⟨zero32,zero32_dg,none,0,[]⟩
theorem zkeys (m:Nat):((List.replicate m ()).flatMap fun _=>zK.cells.toList)=(List.replicate m zkey).flatMap kcells:=by
 induction m with
 | zero=>rfl
 | succ m ih=>rw [List.replicate_succ,List.replicate_succ,List.flatMap_cons,List.flatMap_cons,ih];rfl
theorem KsR.rep (w:World) (m:Nat):KsR w (List.replicate m zkey):=fun k hk=>by
 obtain ⟨_,rfl⟩:=List.mem_replicate.1 hk
 exact RdT.nil w
theorem fpKs_rep (m b:Nat):¬ fpKs (List.replicate m zkey) b:=by
 rintro ⟨k,hk,h⟩
 obtain ⟨_,rfl⟩:=List.mem_replicate.1 hk
 simp [fpT,VK.s,zkey,Value.ownBlock] at h
theorem KsR.set {w:World} {ms:List VK} (h:KsR w ms) {x:VK} (hx:RdT w x.s x.l) (i:Nat):KsR w (ms.set i x):=fun k hk=>(List.mem_or_eq_of_mem_set hk).elim (h k) fun e=>e▸hx
theorem fpKs_set {ms:List VK} {x:VK} {i b:Nat} (h:fpKs (ms.set i x) b):fpKs ms b∨fpT x.s b:=by
 obtain ⟨k,hk,hb⟩:=h
 exact (List.mem_or_eq_of_mem_set hk).elim (fun h=>.inl ⟨k,h,hb⟩) fun e=>.inr (e▸hb)
def KsT (w:World) (ms:List VK):Prop:=KsR w ms∧∀ k,fpKs ms k→TagB w k
section
variable {w w':World} {ms:List VK}
theorem KsT.kn (h:KsT w ms) (g:w.grownBy w' none):KsT w' ms:=⟨h.1.kn g,fun k hk=>(h.2 k hk).keep g (by simp)⟩
theorem KsT.offR (h:KsT w ms) {row:Option Nat} (g:w.grownBy w' row) (hb:∀ k,fpKs ms k→row≠some k):KsT w' ms:=⟨h.1.offR g hb,fun k hk=>(h.2 k hk).keep g (hb k hk)⟩
theorem KsT.lt (h:KsT w ms):∀ k,fpKs ms k→k < w.heap.size:=h.1.lt
theorem KsT.rep (w:World) (m:Nat):KsT w (List.replicate m zkey):=⟨KsR.rep w m,fun k hk=>(fpKs_rep m k hk).elim⟩
theorem KsT.set (h:KsT w ms) {x:VK} (hx:RdTg w x.s x.l) (i:Nat):KsT w (ms.set i x):=⟨h.1.set hx.1 i,fun k hk=>(fpKs_set hk).elim (h.2 k) (hx.2 k)⟩
end
def Sp.ck (B:Nat) (o:List Nat) (l:List Nd):Sp:=⟨fun w v=>∃ x:VK,v=kval x∧x.o=o∧x.l=l∧RdTg w x.s x.l∧∀ k,fpT x.s k→B≤k,fun _ _ _ hg ⟨x,h1,h2,h3,h4,h5⟩=>⟨x,h1,h2,h3,h4.kn hg,h5⟩⟩
section
variable {ops:Array Oper} {L:Nat→Sp} {n:Nat} {w0:World} {o:Oper}
theorem ct_of {B:Nat} {l:List Nd} {w:World} {u:Value} (h:(Sp.cl B l).on w u):∃ v,(Instr.build 56 #[(0,u)]).run Tryz.prog w=.ok v w∧(Sp.ct B l).on w v:=by
 obtain ⟨ao,cap,rfl,h2,h3⟩:=h
 exact ⟨_,bT1s ao _ cap w,ao,cap,rfl,h2,h3⟩
theorem ck_of {B:Nat} {l:List Nd} {x:List Nat} (hx:Dg x) {w:World} {u t:Value} (hu:u=dval x) (h:(Sp.ct B l).on w t):∃ v,(Instr.build 58 #[(0,u),(1,t)]).run Tryz.prog w=.ok v w∧(Sp.ck B x l).on w v:=by
 obtain ⟨ao,cap,rfl,h2,h3⟩:=h
 subst hu
 exact ⟨_,bK2 (k:=⟨x,hx,ao,cap,l⟩) w,⟨x,hx,ao,cap,l⟩,rfl,rfl,rfl,h2,h3⟩
end
set_option maxRecDepth 100000 in
theorem bS1k (x:VK) (w:World):(Instr.buildSlice 34 1 #[(0,kval x)]).run Tryz.prog w=.ok (.slice (some ⟨w.heap.size,0,none⟩) 1 1) (w.alloc (.cells (kcells x).toArray 58)):=by
 obtain ⟨o,ho,ao,cap,l⟩:=x
 obtain ⟨x0,x1,x2,x3,x4,x5,x6,x7,x8,x9,x10,x11,x12,x13,x14,x15,x16,x17,x18,x19,x20,x21,x22,x23,x24,x25,x26,x27,x28,x29,x30,x31,rfl⟩:=list32 _ ho.1
 kernel_rfl
theorem cl_step {ks ms:List VK} {i:Nat} {x y:VK} (hl:ms.length=ks.length) (hi:i < ks.length) (hx:ks[i]=x) (ho:y.o=x.o) (hll:y.l=x.l) (h:∀ j,j < i→(ms.map VK.p)[j]?=(ks.map VK.p)[j]?):∀ j,j < i+1→((ms.set i y).map VK.p)[j]?=(ks.map VK.p)[j]?:=by
 intro j hj
 rw [List.getElem?_map,List.getElem?_set]
 by_cases e:i=j
 · subst e
   rw [if_pos rfl,if_pos (by omega),List.getElem?_map,List.getElem?_eq_getElem hi,hx]
   simp [VK.p,ho,hll]
 · rw [if_neg e,← List.getElem?_map]
   exact h j (by omega)
theorem cl_end {ks ms:List VK} {i:Nat} (hl:ms.length=ks.length) (hi:¬ i < ks.length) (h:∀ j,j < i→(ms.map VK.p)[j]?=(ks.map VK.p)[j]?):ms.map VK.p=ks.map VK.p:=by
 refine List.ext_getElem? fun j=>?_
 by_cases hj:j < ks.length
 · exact h j (by omega)
 · rw [List.getElem?_eq_none (by simpa [hl] using hj),List.getElem?_eq_none (by simpa using hj)]
end Go.Proofs.YtbfjfnbcmojpiaaGreat
