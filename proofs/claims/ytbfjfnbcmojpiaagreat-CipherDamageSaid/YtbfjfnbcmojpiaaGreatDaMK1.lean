import Derived.Test.YtbfjfnbcmojpiaaGreatDaMD
import Derived.Test.YtbfjfnbcmojpiaaGreatDaMA
import Derived.Deep.QuietTactic
import Derived.BigQuiet
import Derived.RangeFuncNested
import Derived.RangeFuncBound
import Derived.RangeFuncCalls
import Derived.RangeFuncLeaves
import Derived.OrdersIn
import Derived.TacticsIn
import Derived.Shelf.Abstract
import Derived.Shelf.RegionOpen
import Derived.OwnWalkIn
import Derived.TacticsInMore
import Derived.LoopNIn
import Derived.LoopIn
import Derived.RecoverIn
import Derived.DefersIn
set_option linter.unusedSimpArgs false
set_option linter.unusedVariables false
set_option maxRecDepth 100000
set_option maxHeartbeats 4000000
namespace Go.Proofs.YtbfjfnbcmojpiaaGreat
section
open Go.RowKit
structure Nd where
 d:Int
 p:Int
 k:List Nat
def Dg (k:List Nat):Prop:=k.length=32∧∀x∈k,x<256
def DA (n:Nd):List Value:=.int .i64 n.d::.int .i64 n.p::bv n.k
def Hr (n:Nd):Value:=.agg (DA n).toArray
def Pg (n:Nd):Bool:=decide (0≤n.d)&&decide (n.d≤34)&&decide (0≤n.p)&&decide (n.p<2^n.d.toNat)
def lo (n:Nd):Int:=n.p*2^(34-n.d).toNat
def hi (n:Nd):Int:=(n.p+1)*2^(34-n.d).toNat
def Hn (n:Nd):Int×Int:=if Pg n=true then (lo n,hi n) else (0,0)
def Og (s:Int×Int):Value:=.agg #[.int .i64 s.1,.int .i64 s.2]
theorem ZP (n:Nd) (h:n.k.length=32):TY Tryz.prog 132 (DA n) (Hr n):=by
 refine TY.agg Tryz.underlying132 rfl ?_ ?_
 · unfold DA
   rw[List.length_cons,List.length_cons,AO,h]
   kernel_rfl
 · intro c hc
   unfold DA at hc
   rcases List.mem_cons.1 hc with rfl|hc
   · rfl
   rcases List.mem_cons.1 hc with rfl|hc
   · rfl
   exact JR _ c hc
theorem Qn (a b:Int):TY Tryz.prog 137 [.int .i64 a,.int .i64 b] (.agg #[.int .i64 a,.int .i64 b]):=TY.agg Tryz.underlying137 rfl (by kernel_rfl) (by simp[Value.oneCell'])
theorem bS0 (w:World):(Instr.build 137 #[]).run Tryz.prog w=.ok (.agg #[.int .i64 0,.int .i64 0]) w:=by kernel_rfl
theorem Rp {K:World→Prop} {w:World} {C:List Value} {Z:Array Value} {T T2:TypeId} (h:∀W:World,Hid (w.grownBy W none)→Hid (W.heap[w.heap.size]?=some (.cells C.toArray T (0,0)))→Hid (W.heap[w.heap.size+1]?=some (.cells Z T2 (0,0)))→K W) :
  K ((w.alloc (.cells C.toArray T)).alloc (.cells Z T2)):=
 h _ (AK (AA (World.grownBy_alloc _ _ _) (World.grownBy_alloc _ _ _))) (AK (by rw[BZ (by simp),Ak rfl])) (AK (by rw[Ak (by simp)]))
theorem Zk (n:Nd) (hk:Dg n.k) (hd:-9223372036854775808≤n.d∧n.d≤9223372036854775807) (hp:-9223372036854775808≤n.p∧n.p≤9223372036854775807) (w:World) :
   Calls Tryz.prog 144 #[Hr n] w fun e w'=>e=.returned (Og (Hn n))∧w.grownBy w' none:=by
 obtain⟨d,p,k⟩:=n
 obtain⟨C,hC⟩:∃C,C=bv k:=⟨_,rfl⟩
 have HC:=AK hC
 obtain⟨r,hr⟩:∃r,r=Hn ⟨d,p,k⟩:=⟨_,rfl⟩
 rw[←hr]
 simp only at hd hp hk
 unfold Hn Pg lo hi at hr
 simp only at hr
 have HR:=AK hr
 unfold Hr DA
 simp only
 rw[←hC]
 clear hC hr hk
 have P2:∀m:Nat,m<35→wrap64 ((2:Int)^m)=2^m:=by decide +kernel
 by_cases h1:d<0
 · have HZ:=AK (show r=(0,0) by rw[HR.out,if_neg (by simp;omega)])
   have t1:decide (d<0)=true:=by simp;omega
   clear h1 P2
   clear HR hd hp
   go_enter Tryz.func144,Tryz.ntmps144
   go_wp2
   refine Rp (C:=.int .i64 d::.int .i64 p::C) fun W GW B0 B1=>?_
   have c0:W.cell? ⟨w.heap.size,0,none⟩=some (.int .i64 d):=by rw[AOS _ _ _ _ _ _ B0.out];rfl
   have c1:W.cell? ⟨w.heap.size,1,none⟩=some (.int .i64 p):=by rw[AOS _ _ _ _ _ _ B0.out];rfl
   have y0:=AOR c0
   go_wp2
   go_quiet (fail)
   have B1:=AK (show(W.drewN nq).heap[w.heap.size+1]?=some (.cells #[.int .i64 0,.int .i64 0] 137 (0,0)) from B1.out)
   clear c0 c1 y0
   go_wp2_with (first
    | (refine Bw rfl 137 _ rfl #[] (by simp) (bS0 _) ?_)
    | (refine AY rfl 137 (.tmp 2) (.tmp 25) rfl rfl rfl (Qn 0 0) B1.out rfl ?_;intro w2 g2 h2;have G2:=AK g2;have H2:=AK h2;clear g2 h2)
    | fail)
   exact CU (b:=w.heap.size+1) rfl rfl (Qn 0 0) H2.out rfl ⟨by rw[HZ.out];rfl,AE (AA GW.out (CI _ _)) G2.out (Nat.le_succ _)⟩
 by_cases h2:34<d
 · have HZ:=AK (show r=(0,0) by rw[HR.out,if_neg (by simp;omega)])
   have t1:decide (d<0)=false:=by simp;omega
   have t2:decide (34<d)=true:=by simp;omega
   clear h1 h2 P2
   clear HR hd hp
   go_enter Tryz.func144,Tryz.ntmps144
   go_wp2
   refine Rp (C:=.int .i64 d::.int .i64 p::C) fun W GW B0 B1=>?_
   have c0:W.cell? ⟨w.heap.size,0,none⟩=some (.int .i64 d):=by rw[AOS _ _ _ _ _ _ B0.out];rfl
   have c1:W.cell? ⟨w.heap.size,1,none⟩=some (.int .i64 p):=by rw[AOS _ _ _ _ _ _ B0.out];rfl
   have y0:=AOR c0
   go_wp2
   go_quiet (fail)
   have B1:=AK (show(W.drewN nq).heap[w.heap.size+1]?=some (.cells #[.int .i64 0,.int .i64 0] 137 (0,0)) from B1.out)
   clear c0 c1 y0
   go_wp2_with (first
    | (refine Bw rfl 137 _ rfl #[] (by simp) (bS0 _) ?_)
    | (refine AY rfl 137 (.tmp 2) (.tmp 25) rfl rfl rfl (Qn 0 0) B1.out rfl ?_;intro w2 g2 h2;have G2:=AK g2;have H2:=AK h2;clear g2 h2)
    | fail)
   exact CU (b:=w.heap.size+1) rfl rfl (Qn 0 0) H2.out rfl ⟨by rw[HZ.out];rfl,AE (AA GW.out (CI _ _)) G2.out (Nat.le_succ _)⟩
 by_cases h3:p<0
 · have HZ:=AK (show r=(0,0) by rw[HR.out,if_neg (by simp;omega)])
   have t1:decide (d<0)=false:=by simp;omega
   have t2:decide (34<d)=false:=by simp;omega
   have t3:decide (p<0)=true:=by simp;omega
   clear h1 h2 h3 P2
   clear HR hd hp
   go_enter Tryz.func144,Tryz.ntmps144
   go_wp2
   refine Rp (C:=.int .i64 d::.int .i64 p::C) fun W GW B0 B1=>?_
   have c0:W.cell? ⟨w.heap.size,0,none⟩=some (.int .i64 d):=by rw[AOS _ _ _ _ _ _ B0.out];rfl
   have c1:W.cell? ⟨w.heap.size,1,none⟩=some (.int .i64 p):=by rw[AOS _ _ _ _ _ _ B0.out];rfl
   have y0:=AOR c0
   go_wp2
   go_quiet (fail)
   have B1:=AK (show(W.drewN nq).heap[w.heap.size+1]?=some (.cells #[.int .i64 0,.int .i64 0] 137 (0,0)) from B1.out)
   clear c0 c1 y0
   go_wp2_with (first
    | (refine Bw rfl 137 _ rfl #[] (by simp) (bS0 _) ?_)
    | (refine AY rfl 137 (.tmp 2) (.tmp 25) rfl rfl rfl (Qn 0 0) B1.out rfl ?_;intro w2 g2 h2;have G2:=AK g2;have H2:=AK h2;clear g2 h2)
    | fail)
   exact CU (b:=w.heap.size+1) rfl rfl (Qn 0 0) H2.out rfl ⟨by rw[HZ.out];rfl,AE (AA GW.out (CI _ _)) G2.out (Nat.le_succ _)⟩
 obtain⟨m,rfl⟩:∃m:Nat,d=m:=⟨d.toNat,by omega⟩
 have hm:m≤34:=by omega
 have t1:decide ((m:Int)<0)=false:=by simp
 have t2:decide ((34:Int)<(m:Int))=false:=by simp;omega
 have t3:decide (p<0)=false:=by simp;omega
 have i1:(0:Int)≤(m:Int):=by omega
 have i2:(m:Int)≤34:=by omega
 have hp2:=P2 m (by omega)
 by_cases h4:(2:Int)^m≤p
 · have HZ:=AK (show r=(0,0) by rw[HR.out,if_neg (by simp[h4])])
   have t4:decide (wrap64 ((2:Int)^m)≤p)=true:=by rw[hp2];simp[h4]
   clear HR hd h1 h2 h3 h4 hp2 P2
   go_enter Tryz.func144,Tryz.ntmps144
   go_wp2
   refine Rp (C:=.int .i64 (m:Int)::.int .i64 p::C) fun W GW B0 B1=>?_
   have c0:W.cell? ⟨w.heap.size,0,none⟩=some (.int .i64 (m:Int)):=by rw[AOS _ _ _ _ _ _ B0.out];rfl
   have c1:W.cell? ⟨w.heap.size,1,none⟩=some (.int .i64 p):=by rw[AOS _ _ _ _ _ _ B0.out];rfl
   have y0:=AOR c0
   go_wp2
   go_quiet (fail)
   have B1:=AK (show(W.drewN nq).heap[w.heap.size+1]?=some (.cells #[.int .i64 0,.int .i64 0] 137 (0,0)) from B1.out)
   clear c0 c1 y0
   go_wp2_with (first
    | (refine Bw rfl 137 _ rfl #[] (by simp) (bS0 _) ?_)
    | (refine AY rfl 137 (.tmp 2) (.tmp 25) rfl rfl rfl (Qn 0 0) B1.out rfl ?_;intro w2 g2 h2;have G2:=AK g2;have H2:=AK h2;clear g2 h2)
    | fail)
   exact CU (b:=w.heap.size+1) rfl rfl (Qn 0 0) H2.out rfl ⟨by rw[HZ.out];rfl,AE (AA GW.out (CI _ _)) G2.out (Nat.le_succ _)⟩
 · have t4:decide (wrap64 ((2:Int)^m)≤p)=false:=by rw[hp2];simp;omega
   have i3:(0:Int)≤p:=by omega
   have i4:p≤17179869184:=by
    have:(2:Int)^m≤2^34:=by exact_mod_cast Nat.pow_le_pow_right (n:=2) (by decide) hm
    omega
   have HV:=AK (show r=(p*2^(34-m),(p+1)*2^(34-m)) by
    rw[HR.out,if_pos (by simp;omega)]
    rw[show(34-(m:Int)).toNat=34-m by omega])
   have hb1:p*2^(34-m)≤17179869184∧0≤p*2^(34-m)∧(p+1)*2^(34-m)≤17179869184∧0≤(p+1)*2^(34-m):=by
    have hq:(0:Int)≤2^(34-m):=Int.le_of_lt (Int.pow_pos (by decide))
    have h5:(p+1)*2^(34-m)≤2^m*2^(34-m):=Int.mul_le_mul_of_nonneg_right (by omega) hq
    rw[←Int.pow_add,show m+(34-m)=34 by omega] at h5
    have h6:0≤p*2^(34-m):=Int.mul_nonneg i3 hq
    have h7:(p+1)*2^(34-m)=p*2^(34-m)+2^(34-m):=by rw[Int.add_mul,Int.one_mul]
    omega
   have w1:IntKind.i64.wrap (p+1)=p+1:=by rw[IntKind.wrap_i64];omega
   have HW:=AK (show IntKind.i64.wrap (p*2^(34-m))=p*2^(34-m)∧IntKind.i64.wrap (IntKind.i64.wrap (p+1)*2^(34-m))=(p+1)*2^(34-m) by
    rw[w1,IntKind.wrap_i64,IntKind.wrap_i64]
    omega)
   have j1:(34-(m:Int)).toNat=34-m:=by omega
   have j2:(0:Int)≤34-(m:Int):=by omega
   have j3:34-(m:Int)<64:=by omega
   clear HR hd h1 h2 h3 h4 hp2 P2 hb1 w1
   go_enter Tryz.func144,Tryz.ntmps144
   go_wp2
   refine Rp (C:=.int .i64 (m:Int)::.int .i64 p::C) fun W GW B0 B1=>?_
   have c0:W.cell? ⟨w.heap.size,0,none⟩=some (.int .i64 (m:Int)):=by rw[AOS _ _ _ _ _ _ B0.out];rfl
   have c1:W.cell? ⟨w.heap.size,1,none⟩=some (.int .i64 p):=by rw[AOS _ _ _ _ _ _ B0.out];rfl
   have y0:=AOR c0
   go_wp2
   go_quiet (fail)
   have B1:=AK (show(W.drewN nq).heap[w.heap.size+1]?=some (.cells #[.int .i64 0,.int .i64 0] 137 (0,0)) from B1.out)
   go_wp2
   refine CJ 10 (by kernel_rfl) (by kernel_rfl) ?_
   simp only[List.take_succ_cons,List.take_zero,List.drop_succ_cons,List.drop_zero]
   repeat (quiet_step (fail))
   refine wpQuiet_nil ?_
   intro _ hwq
   obtain⟨nr,hwq⟩:=hwq
   subst hwq
   have B2:=AK (show((W.drewN nq).drewN nr).heap[w.heap.size+1]?=some (.cells #[.int .i64 0,.int .i64 0] 137 (0,0)) from B1.out)
   clear c0 c1 y0
   go_wp2_with (first
    | (refine AY rfl 137 (.tmp 2) (.tmp 38) rfl rfl rfl (Qn _ _) B2.out rfl ?_;intro w2 g2 h2;have G2:=AK g2;have H2:=AK h2;clear g2 h2)
    | fail)
   exact CU (b:=w.heap.size+1) rfl rfl (Qn _ _) H2.out rfl ⟨by rw[HV.out,HW.out.1,HW.out.2];rfl,AE (AA GW.out (AA (CI _ _) (CI _ _))) G2.out (Nat.le_succ _)⟩
end
section
open Go.RowKit
def ck (r:Bool) (k:List Nat):List Nat:=Nq (if r then 271 else 270) k []
def CH (n:Nd) (r:Bool):Nd:=⟨n.d+1,2*n.p+(if r then 1 else 0),ck r n.k⟩
theorem WH (r:Bool) (k:List Nat):Dg (ck r k):=⟨Io _ _,Pj _ _⟩
theorem Rq {D:Int} (dom:BitVec 64) (hD:D=wi dom) (k:List Nat) (hk:Dg k) (w:World) :
  Calls Tryz.prog 66 #[.int .u64 D,AQ k,.slice none 0 0] w fun e w'=>e=.returned (AQ (Nq dom k []))∧w.grownBy w' none:=by
 subst hD
 exact N9 dom k [] hk.1 hk.2 (by simp) (by simp) _ w (Sl.nil w 1)
theorem Zl {D:Int} (dom:BitVec 64) (hD:D=wi dom) (k:List Nat) (hk:Dg k) (w:World) :
  Calls Tryz.prog 35 #[.int .u64 D,AQ k,.slice none 0 0] w fun e w'=>e=.returned (AQ (Nq dom k []))∧w.grownBy w' none:=by
 subst hD
 exact Mi dom k [] hk.1 hk.2 (by simp) (by simp) _ w (Sl.nil w 1)
theorem AGq:wi (270:BitVec 64)=270∧wi (271:BitVec 64)=271:=by decide
theorem bN (d p:Int) (w:World):(Instr.build 132 #[(0,.int .i64 d),(1,.int .i64 p)]).run Tryz.prog w=.ok (Hr ⟨d,p,zs 32⟩) w:=by kernel_rfl
theorem tyI (x:Int):TY Tryz.prog 2 [.int .i64 x] (.int .i64 x):=TY.one' Tryz.underlying2 rfl (by kernel_rfl) rfl
theorem CV (n:Nd) (h:n.k.length=32):(DA n).length=34:=by unfold DA;rw[List.length_cons,List.length_cons,AO,h]
theorem XB (l:List Nat) (h:l.length=32):(bv l).length=32:=by rw[AO,h]
theorem AEB {K:World→Prop} {w:World} {C:List Value} (h:∀W:World,Hid (w.grownBy W none)→Hid (W.heap[w.heap.size]?=some (.cells C.toArray 132 (0,0)))→Hid (W.heap[w.heap.size+1]?=some (.cells (DA ⟨0,0,zs 32⟩).toArray 132 (0,0)))→Hid (W.heap.size=w.heap.size+2)→K W) :
  K ((w.alloc (.cells C.toArray 132)).alloc (.cells #[.int .i64 0,.int .i64 0,.int .u8 0,.int .u8 0,.int .u8 0,.int .u8 0,.int .u8 0,.int .u8 0,.int .u8 0,.int .u8 0,.int .u8 0,.int .u8 0,.int .u8 0,.int .u8 0,.int .u8 0,.int .u8 0,.int .u8 0,.int .u8 0,.int .u8 0,.int .u8 0,.int .u8 0,.int .u8 0,.int .u8 0,.int .u8 0,.int .u8 0,.int .u8 0,.int .u8 0,.int .u8 0,.int .u8 0,.int .u8 0,.int .u8 0,.int .u8 0,.int .u8 0,.int .u8 0] 132)):=
 h _ (AK (AA (World.grownBy_alloc _ _ _) (World.grownBy_alloc _ _ _))) (AK (by rw[BZ (by simp),Ak rfl])) (AK (by rw[Ak (by simp)];rfl)) (AK (by simp))
theorem LO {w:World} {b:Nat} {n:Nd} {t:TypeId} {fr:Nat×Nat} (h:w.heap[b]?=some (.cells (DA n).toArray t fr)):w.rangeAt b 2 (bv n.k):=
 AE6 h 2 _ (by show((bv n.k)).take (bv n.k).length=bv n.k;exact List.take_length)
theorem AEC (a b:Int) (k:List Nat) (h:k.length=32):(DA ⟨a,b,zs 32⟩).take 2++(bv k++(DA ⟨a,b,zs 32⟩).drop (2+(bv k).length))=DA ⟨a,b,k⟩:=by
 rw[XB k h]
 have e:(DA ⟨a,b,zs 32⟩).drop (2+32)=[]:=List.drop_of_length_le (by rw[CV _ (by simp[zs])];exact Nat.le_refl _)
 rw[e,List.append_nil]
 rfl
theorem ACd (n:Nd) (r:Bool) (hk:Dg n.k) (hd:0≤n.d∧n.d≤34) (hp:0≤n.p∧n.p≤17179869184) (w:World) :
  Calls Tryz.prog 120 #[Hr n,.bool r] w fun e w'=>e=.returned (Hr (CH n r))∧w.grownBy w' none:=by
 obtain⟨d,p,k⟩:=n
 obtain⟨i1,i2⟩:=hd
 obtain⟨i3,i4⟩:=hp
 simp only at i1 i2 i3 i4 hk
 have HK:=AK hk
 obtain⟨C,hC⟩:∃C,C=DA ⟨d,p,k⟩:=⟨_,rfl⟩
 unfold Hr
 rw[←hC]
 have HC:=AK hC
 clear hk hC
 go_enter Tryz.func120,Tryz.ntmps120
 refine AOQ fun K1 k1=>?_
 have HK1:=AK k1
 clear k1
 go_wp2
 refine HK1.out _ _ ?_
 clear HK1
 refine AEB fun W GW B0 B1 HSZ=>?_
 rw[HC.out] at B0
 have c0:W.cell? ⟨w.heap.size,0,none⟩=some (.int .i64 d):=by rw[AOS _ _ _ _ _ _ B0.out];rfl
 have c1:W.cell? ⟨w.heap.size,1,none⟩=some (.int .i64 p):=by rw[AOS _ _ _ _ _ _ B0.out];rfl
 have y0:=AOR c0
 have TN:=AK (ZP ⟨d+1,2*p,zs 32⟩ (by simp[zs]))
 have BN:=AK (bN (d+1) (2*p))
 obtain⟨V0,hV0⟩:∃V,V=Hr ⟨d+1,2*p,zs 32⟩:=⟨_,rfl⟩
 rw[←hV0] at TN BN
 clear hV0
 refine AOQ fun K2 k2=>?_
 have HK2:=AK k2
 clear k2
 go_wp2_with (first
  | (refine Bw rfl 132 _ rfl #[(0,.int .i64 (d+1)),(1,.int .i64 (2*p))] (by simp only[List.map_toArray,List.map_cons,List.map_nil,Act.eval];rfl) (BN.out _) ?_)
  | (refine AY rfl 132 (.tmp 5) (.tmp 13) rfl rfl rfl TN.out (Ak rfl) rfl ?_;intro W2 g2 h2;have G2:=AK (AE (World.grownBy_alloc W _ none) g2 (Nat.le_refl _));have H2:=AK h2;clear g2 h2)
  | fail)
 refine HK2.out _ _ ?_
 clear HK2 c0 c1 y0 TN BN
 replace B0:=AK (AF G2.out B0.out (by simp))
 replace B1:=AK (AF G2.out B1.out (by simp))
 replace GW:=AK (AA GW.out G2.out)
 clear G2
 cases r with
 | false =>
  have H3:=H2
  have G3:=GW
  clear H2 GW
  go_wp2_with (first
   | (refine EH rfl 23 (.tmp 20) rfl rfl (Bb k HK.out.1) (LO B0.out) ?_)
   | fail)
  refine(Rq 270 AGq.1.symm k HK.out _).mono ?_
  rintro e W4 ⟨rfl,g4⟩
  have H4:=AK (AF g4 H3.out (by simp))
  have B4:=AK (AF g4 B1.out (by simp))
  have G4:=AK (AA G3.out g4)
  have KL:=AK (WH false k)
  clear g4 H3 G3 B0 B1
  go_wp2_with (first
   | (refine Dc rfl 23 (.tmp 23) (.tmp 22) rfl rfl rfl (Bb (ck false k) KL.out.1) H4.out (by rw[XB _ KL.out.1,CV _ (by simp[zs])];exact Nat.le_refl _) ?_;intro W5 g5 h5;rw[AEC _ _ _ KL.out.1] at h5;have H5:=AK h5;have B5:=AK (AF g5 B4.out (by simp[HSZ.out]));have G5:=AK (AE G4.out g5 (by have:=HSZ.out;omega));clear g5 h5)
   | (refine CP rfl 132 (.tmp 5) rfl rfl (ZP _ KL.out.1) H5.out ?_)
   | (refine AY rfl 132 (.tmp 4) (.tmp 24) rfl rfl rfl (ZP ⟨d+1,2*p,ck false k⟩ KL.out.1) B5.out (by rw[CV _ KL.out.1];rfl) ?_;intro W6 g6 h6;have G6:=AK g6;have H6:=AK h6;clear g6 h6)
   | fail)
  exact CU (b:=w.heap.size+1) rfl rfl (ZP ⟨d+1,2*p,ck false k⟩ KL.out.1) H6.out rfl ⟨by unfold CH;simp;rfl,AE G5.out G6.out (Nat.le_succ _)⟩
 | true =>
  have c3:W2.cell? ⟨W.heap.size,1,none⟩=some (.int .i64 (2*p)):=by rw[AOS _ _ _ _ _ _ H2.out];rfl
  have y3:=AOR c3
  refine AOQ fun K3 k3=>?_
  have HK3:=AK k3
  clear k3
  go_wp2
  refine HK3.out _ _ ?_
  clear HK3
  refine AOQ fun K4 k4=>?_
  have HK4:=AK k4
  clear k4
  go_wp2_with (first
   | (refine Dc rfl 2 (.tmp 18) (.tmp 17) rfl rfl rfl (tyI (2*p+1)) H2.out (by rw[CV _ (by simp[zs])];simp) ?_;intro W3 g3 h3;have H3:=AK (show W3.heap[W.heap.size]?=some (.cells (DA ⟨d+1,2*p+1,zs 32⟩).toArray 132 (0,0)) from h3);have G3:=AK (AE GW.out g3 (by have:=HSZ.out;omega));have B03:=AK (AF g3 B0.out (by simp[HSZ.out]));have B13:=AK (AF g3 B1.out (by simp[HSZ.out]));clear g3 h3)
   | fail)
  refine HK4.out _ _ ?_
  clear HK4 c3 y3 H2 GW B0 B1
  have B0:=B03
  have B1:=B13
  clear B03 B13
  go_wp2_with (first
   | (refine EH rfl 23 (.tmp 20) rfl rfl (Bb k HK.out.1) (LO B0.out) ?_)
   | fail)
  refine(Rq 271 AGq.2.symm k HK.out _).mono ?_
  rintro e W4 ⟨rfl,g4⟩
  have H4:=AK (AF g4 H3.out (by simp))
  have B4:=AK (AF g4 B1.out (by simp))
  have G4:=AK (AA G3.out g4)
  have KL:=AK (WH true k)
  clear g4 H3 G3 B0 B1
  go_wp2_with (first
   | (refine Dc rfl 23 (.tmp 23) (.tmp 22) rfl rfl rfl (Bb (ck true k) KL.out.1) H4.out (by rw[XB _ KL.out.1,CV _ (by simp[zs])];exact Nat.le_refl _) ?_;intro W5 g5 h5;rw[AEC _ _ _ KL.out.1] at h5;have H5:=AK h5;have B5:=AK (AF g5 B4.out (by simp[HSZ.out]));have G5:=AK (AE G4.out g5 (by have:=HSZ.out;omega));clear g5 h5)
   | (refine CP rfl 132 (.tmp 5) rfl rfl (ZP _ KL.out.1) H5.out ?_)
   | (refine AY rfl 132 (.tmp 4) (.tmp 24) rfl rfl rfl (ZP ⟨d+1,2*p+1,ck true k⟩ KL.out.1) B5.out (by rw[CV _ KL.out.1];rfl) ?_;intro W6 g6 h6;have G6:=AK g6;have H6:=AK h6;clear g6 h6)
   | fail)
  exact CU (b:=w.heap.size+1) rfl rfl (ZP ⟨d+1,2*p+1,ck true k⟩ KL.out.1) H6.out rfl ⟨rfl,AE G5.out G6.out (Nat.le_succ _)⟩
end
section
open Go.RowKit
def Gw (w:World):Type:={ w':World // w.grownBy w' none }
def Gw.val {w:World} (s:Gw w):World:=s.1
theorem Gw.g {w:World} (s:Gw w):w.grownBy s.val none:=s.2
instance (w:World):Nonempty (Gw w):=⟨⟨w,World.grownBy.refl w none⟩⟩
theorem Gw.cell {w:World} (s:Gw w) {a:Addr} {v:Value} (h:w.cell? a=some v):s.val.cell? a=some v:=s.g.cell h (by simp)
theorem Calls.grown_of {P:Program} {f:FuncId} {args:Array Value} {w:World} {s:Gw w} {v:Value}
  (h:Calls P f args s.val fun e w'=>e=.returned v∧s.val.grownBy w' none):Calls P f args s.val fun e w''=>e=.returned v∧∃s':Gw w,w''=s'.val:=
 h.mono fun _ w'' ⟨he,hg⟩=>⟨he,⟨w'',AA s.g hg⟩,rfl⟩
theorem Calls.grown_of_same {P:Program} {f:FuncId} {args:Array Value} {w:World} {s:Gw w} {v:Value}
  (h:Calls P f args s.val fun e w'=>e=.returned v∧w'=s.val):Calls P f args s.val fun e w''=>e=.returned v∧∃s':Gw w,w''=s'.val:=
 h.mono fun _ w'' ⟨he,hg⟩=>⟨he,s,hg⟩
theorem F7 {P:Program} {ops:Array Oper} {C:World→Prop} {Q:Act→Prop} {a:Act} {o:Oper} {rest:List Oper} (hgd:o.guard=none) (T:TypeId) (x:Operand) (ho:o.op=.load T x) {p v:Value} (hx:a.eval x=p)
  (hr:∀w,C w→(Instr.loadAt T p).run P w=.ok v w) (h:wpQuiet P ops C Q rest (a.put o.dst v)):wpQuiet P ops C Q (o::rest) a:=by
 unfold wpQuiet
 have hw:Region.wanted o (yielded ops a.tmps)=true:=by simp[Region.wanted,hgd]
 rw[if_pos hw]
 refine⟨v,fun w hC=>?_,h⟩
 unfold Oper.quietAt execOp
 simp only[ho,hx,Sem.run_bind,Sem.run_pure,Result.andThen_ok,hr w hC,Oper.quietUpon]
 exact⟨trivial,AOW⟩
theorem UR {P:Program} {ops:Array Oper} {C:World→Prop} {Q:Act→Prop} {a:Act} {o:Oper} {rest:List Oper} (hgd:o.guard=none) (t:TypeId) (parts:Array (Nat×Operand)) (ho:o.op=.build t parts)
  (vs:Array (Nat×Value)) (hv:(parts.map fun(i,x)=>(i,a.eval x))=vs) {v:Value}
  (hr:∀w,(Instr.build t vs).run P w=.ok v w) (h:wpQuiet P ops C Q rest (a.put o.dst v)):wpQuiet P ops C Q (o::rest) a:=by
 unfold wpQuiet
 have hw:Region.wanted o (yielded ops a.tmps)=true:=by simp[Region.wanted,hgd]
 rw[if_pos hw]
 refine⟨v,fun w _=>?_,h⟩
 unfold Oper.quietAt execOp
 simp only[ho,hv,Sem.run_bind,Sem.run_pure,Result.andThen_ok,hr w,Oper.quietUpon]
 exact⟨trivial,AOW⟩
section
variable {P:Program}
theorem I0 {id:Nat} {Q:Exit→Act→World→Prop} {a:Act} {w:World} {l:List Oper} (n:Nat) (hm:P.follows .mixedOrders=true) (hB:Region.lexTailB .any l.toArray n=true)
  (h:wpQuiet P l.toArray (fun w'=>∃s:Gw w,w'=s.val) (fun a'=>∀w',(∃s:Gw w,w'=s.val)→wpList P l.toArray Q (l.drop n) a' w') (l.take n) a):(Code.region id l.toArray true).wp P Q a w:=by
 simp only[Region.lexTailB,Bool.and_eq_true,decide_eq_true_eq] at hB
 obtain⟨⟨⟨⟨hsel,hn⟩,hs⟩,hc⟩,hlex⟩:=hB
 have hn':n<l.length:=by simpa using hn
 have htl:(l.take n).length=n:=by simp;omega
 have hdl:(l.drop n).length=l.toArray.size-n:=by simp
 have inv0:HeadInv .any l.toArray n (Array.replicate l.toArray.size false):=
  ⟨by simp,fun j oj _ hl=>(by rw[getD_replicate_false] at hl;cases hl),fun t _ ht=>getD_in (by simpa using ht) (getD_replicate_false _ _)⟩
 have H:=Iy (md:=.any) (g:=l.toArray.size-n) hsel hs hc hn (l.take n) 0 _ a (fun j hj=>by
  have hj':j<n:=by rw[htl] at hj;exact hj
  simp[hj']) (by simpa using htl) inv0 (by rw[htl];exact hlex) h
 refine wp_region_any hm ?_
 have:=Hp (Q':=Q) (g:=l.toArray.size-n) (fun listed a' w' hw' hL=>by
  have:=wpAny_of_seq (md:=.any) (Q':=Q) (l.drop n) n listed a' w' (fun j=>by simp[List.getElem?_drop]) (by rw[hdl];exact hL.1) (hL.2 w' hw')
  rwa [hdl] at this) _ _ _ { w with drawn:=w.drawn+1 } ⟨⟨_,Cz w⟩,rfl⟩ H
 rw[htl,show n+(l.toArray.size-n)=l.toArray.size by omega] at this
 exact this
end
end
section
open Go.RowKit
def UJ (n:Nd) (a:Int):Bool:=decide (a/2^(33-n.d).toNat%2=1)
theorem AI9 {x:Int} (h:0≤x∧x<9223372036854775808):bits .and .i64 x 1=x%2:=by
 have e:bits .and .i64 x 1=IntKind.i64.wrap (((BitVec.ofInt 64 x) &&& (BitVec.ofInt 64 1)).toNat:Int):=rfl
 rw[e,BitVec.toNat_and,show(BitVec.ofInt 64 1).toNat=1 from rfl,Nat.and_one_is_mod,BitVec.toNat_ofInt,IntKind.wrap_i64]
 omega
theorem AED {K:World→Prop} {w:World} {o:Obj} (h:∀W:World,Hid (w.grownBy W none)→Hid (W.heap[w.heap.size]?=some o)→K W):K (w.alloc o):=
 h _ (AK (World.grownBy_alloc _ _ _)) (AK (Ak rfl))
theorem Lv {w:World} {b:Nat} {n:Nd} {t:TypeId} {fr:Nat×Nat} (h:w.heap[b]?=some (.cells (DA n).toArray t fr)):w.cell? ⟨b,0,none⟩=some (.int .i64 n.d)∧w.cell? ⟨b,1,none⟩=some (.int .i64 n.p)∧b<w.heap.size:=by
 have c0:w.cell? ⟨b,0,none⟩=some (.int .i64 n.d):=by rw[AOS _ _ _ _ _ _ h];rfl
 exact⟨c0,by rw[AOS _ _ _ _ _ _ h];rfl,AOR c0⟩
theorem AGr {a:Int} (h:0≤a∧a<17179869184) (k:Nat):0≤a/2^k∧a/2^k<17179869184:=by
 have hq:(0:Int)<2^k:=Int.pow_pos (by decide)
 refine⟨Int.ediv_nonneg h.1 (Int.le_of_lt hq),Int.lt_of_le_of_lt (Int.ediv_le_self _ h.1) h.2⟩
theorem XC (n:Nd) (a:Int) (hd:0≤n.d∧n.d≤33) (ha:0≤a∧a<17179869184) (w:World) :
  Calls Tryz.prog 121 #[Hr n,.int .i64 a] w fun e w'=>e=.returned (.bool (UJ n a))∧w.grownBy w' none:=by
 obtain⟨d,p,k⟩:=n
 simp only at hd
 obtain⟨m,rfl⟩:∃m:Nat,d=m:=⟨d.toNat,by omega⟩
 have hdb:=AGr ha (33-m)
 have HA:=AK (AI9 (x:=a/2^(33-m)) (by omega))
 have HB:=AK (show UJ ⟨(m:Int),p,k⟩ a=(a/2^(33-m)%2 == 1) by
  unfold UJ
  simp only
  rw[show(33-(m:Int)).toNat=33-m by omega]
  rw[Bool.eq_iff_iff]
  simp)
 obtain⟨b,hb⟩:∃b,b=UJ ⟨(m:Int),p,k⟩ a:=⟨_,rfl⟩
 rw[←hb] at HB ⊢
 obtain⟨C,hC⟩:∃C,C=DA ⟨(m:Int),p,k⟩:=⟨_,rfl⟩
 unfold Hr
 rw[←hC]
 have HC:=AK hC
 have i1:(0:Int)≤(m:Int):=by omega
 have i2:(m:Int)≤33:=by omega
 have j0:34-(m:Int)-1=33-(m:Int):=by omega
 have j1:(34-(m:Int)-1).toNat=33-m:=by omega
 have j2:(0:Int)≤34-(m:Int)-1:=by omega
 have j3:34-(m:Int)-1<64:=by omega
 clear hC hb hdb hd j0
 go_enter Tryz.func121,Tryz.ntmps121
 refine AOQ fun K1 k1=>?_
 have HK1:=AK k1
 clear k1
 go_wp2
 refine HK1.out _ _ ?_
 clear HK1
 refine AED fun W GW B0=>?_
 rw[HC.out] at B0
 obtain⟨c0,c1,y0⟩:=Lv B0.out
 go_wp2
 go_ret
 exact⟨by rw[HB.out,←HA.out];rfl,GW.out⟩
theorem Jf (m:Nat) (hm:m≤34) (w:World):Calls Tryz.prog 126 #[.int .i64 (m:Int)] w fun e w'=>e=.returned (.int .i64 (2^(34-m)))∧w'=w:=by
 have i1:(0:Int)≤(m:Int):=by omega
 have i2:(m:Int)≤34:=by omega
 have j1:(34-(m:Int)).toNat=34-m:=by omega
 have j2:(0:Int)≤34-(m:Int):=by omega
 have j3:34-(m:Int)<64:=by omega
 have P2:∀m:Nat,m<35→wrap64 ((2:Int)^m)=2^m:=by decide +kernel
 have HP:=AK (P2 (34-m) (by omega))
 clear P2
 go_enter Tryz.func126,Tryz.ntmps126
 go_wp2
 go_ret
 exact⟨by rw[HP.out];rfl,rfl⟩
theorem Ad {P:Program} {T:TypeId} {cs:List Value} {v:Value} (t:TY P T cs v) {w:World} {b k:Nat} (hr:w.rangeAt b k cs):(Instr.loadAt T (.pointer (some ⟨b,k,none⟩))).run P w=.ok v w:=by
 have hl:=t.load w b k hr
 simp only[Instr.loadAt,Instr.sureAddr,Sem.run_bind,Sem.run_pure,Result.andThen_ok,hl]
theorem Jq (l:List Nat) (h:l.length=32):∃x0 x1 x2 x3 x4 x5 x6 x7 x8 x9 x10 x11 x12 x13 x14 x15 x16 x17 x18 x19 x20 x21 x22 x23 x24 x25 x26 x27 x28 x29 x30 x31,l=[x0,x1,x2,x3,x4,x5,x6,x7,x8,x9,x10,x11,x12,x13,x14,x15,x16,x17,x18,x19,x20,x21,x22,x23,x24,x25,x26,x27,x28,x29,x30,x31]:=by
 match l,h with
 | [x0,x1,x2,x3,x4,x5,x6,x7,x8,x9,x10,x11,x12,x13,x14,x15,x16,x17,x18,x19,x20,x21,x22,x23,x24,x25,x26,x27,x28,x29,x30,x31],_=>exact⟨_,_,_,_,_,_,_,_,_,_,_,_,_,_,_,_,_,_,_,_,_,_,_,_,_,_,_,_,_,_,_,_,rfl⟩
def IT (n:Nd) (a:Int):Bool:=decide (a/2^(34-n.d).toNat=n.p)
theorem Zm (n:Nd) (a:Int) (hd:0≤n.d∧n.d≤34) (ha:0≤a∧a<17179869184) (w:World) :
  Calls Tryz.prog 148 #[Hr n,.int .i64 a] w fun e w'=>e=.returned (.bool (IT n a))∧w.grownBy w' none:=by
 obtain⟨d,p,k⟩:=n
 simp only at hd
 obtain⟨m,rfl⟩:∃m:Nat,d=m:=⟨d.toNat,by omega⟩
 have HB:=AK (show IT ⟨(m:Int),p,k⟩ a=(a/2^(34-m) == p) by
  unfold IT
  simp only
  rw[show(34-(m:Int)).toNat=34-m by omega]
  rfl)
 obtain⟨b,hb⟩:∃b,b=IT ⟨(m:Int),p,k⟩ a:=⟨_,rfl⟩
 rw[←hb] at HB ⊢
 obtain⟨C,hC⟩:∃C,C=DA ⟨(m:Int),p,k⟩:=⟨_,rfl⟩
 unfold Hr
 rw[←hC]
 have HC:=AK hC
 have hq:(0:Int)<2^(34-m):=Int.pow_pos (by decide)
 obtain⟨q,hqq⟩:∃q:Int,q=2^(34-m):=⟨_,rfl⟩
 rw[←hqq] at HB hq
 have HQ:=AK hqq
 have HS:=AK (fun w=>Jf m (by omega) w)
 rw[←hqq] at HS
 have a1:0≤a:=ha.1
 have a2:a<17179869184:=ha.2
 clear hC hb hd hqq ha
 go_enter Tryz.func148,Tryz.ntmps148
 refine AOQ fun K1 k1=>?_
 have HK1:=AK k1
 clear k1
 go_wp2
 refine HK1.out _ _ ?_
 clear HK1
 refine AED fun W GW B0=>?_
 rw[HC.out] at B0
 obtain⟨c0,c1,y0⟩:=Lv B0.out
 go_wp2
 go_quiet ((exact Calls.quiet_of_same (HS.out _)))
 go_wp2
 go_ret
 exact⟨by rw[HB.out];rfl,AA GW.out (CI _ _)⟩
theorem bN3 (d p:Int) (l:List Nat) (hl:l.length=32) (w:World):(Instr.build 132 #[(0,.int .i64 d),(1,.int .i64 p),(2,AQ l)]).run Tryz.prog w=.ok (Hr ⟨d,p,l⟩) w:=by
 obtain⟨x0,x1,x2,x3,x4,x5,x6,x7,x8,x9,x10,x11,x12,x13,x14,x15,x16,x17,x18,x19,x20,x21,x22,x23,x24,x25,x26,x27,x28,x29,x30,x31,rfl⟩:=Jq l hl
 kernel_rfl
theorem Zn (n:Nd) (r:Bool) {R:Int} (hr:R=if r then 1 else 0) (hk:Dg n.k) (hd:0≤n.d∧n.d≤34) (hp:0≤n.p∧n.p≤17179869184) (w:World) :
  Calls Tryz.prog 128 #[Hr n,.int .i64 R] w fun e w'=>e=.returned (Hr (CH n r))∧w.grownBy w' none:=by
 obtain⟨d,p,k⟩:=n
 obtain⟨i1,i2⟩:=hd
 obtain⟨i3,i4⟩:=hp
 simp only at i1 i2 i3 i4 hk
 have HK:=AK hk
 obtain⟨C,hC⟩:∃C,C=DA ⟨d,p,k⟩:=⟨_,rfl⟩
 unfold Hr
 rw[←hC]
 have HC:=AK hC
 have r1:0≤R:=by rw[hr];split<;>omega
 have r2:R≤1:=by rw[hr];split<;>omega
 obtain⟨KK,hKK⟩:∃K,K=ck r k:=⟨_,rfl⟩
 have HW:=AK (show IntKind.u64.wrap (IntKind.i64.wrap (270+R))=wi (if r then 271 else 270) by rw[hr];cases r<;>decide)
 have w1:IntKind.i64.wrap (d+1)=d+1:=by rw[IntKind.wrap_i64];omega
 have w2:IntKind.i64.wrap (IntKind.i64.wrap (2*p)+R)=2*p+R:=by rw[IntKind.wrap_i64,IntKind.wrap_i64];omega
 have HCH:=AK (show CH ⟨d,p,k⟩ r=⟨IntKind.i64.wrap (d+1),IntKind.i64.wrap (IntKind.i64.wrap (2*p)+R),KK⟩ by rw[w1,w2,hKK];unfold CH;rw[hr])
 have KL:=AK (show Dg KK by rw[hKK];exact WH r k)
 have HCL:=AK (show ∀W:World,Calls Tryz.prog 35 #[.int .u64 (IntKind.u64.wrap (IntKind.i64.wrap (270+R))),AQ k,.slice none 0 0] W fun e w'=>e=.returned (AQ KK)∧W.grownBy w' none from fun W=>by rw[hKK];exact Zl _ HW.out k HK.out W)
 clear hk hC hr w1 w2 HW hKK
 go_enter Tryz.func128,Tryz.ntmps128
 refine AOQ fun K1 k1=>?_
 have HK1:=AK k1
 clear k1
 go_wp2
 refine HK1.out _ _ ?_
 clear HK1
 refine AEB fun W GW B0 B1 HSZ=>?_
 rw[HC.out] at B0
 have c0:∀s:Gw W,s.val.cell? ⟨w.heap.size,0,none⟩=some (.int .i64 d):=fun s=>s.cell (Lv B0.out).1
 have c1:∀s:Gw W,s.val.cell? ⟨w.heap.size,1,none⟩=some (.int .i64 p):=fun s=>s.cell (Lv B0.out).2.1
 have HL:=AK (show ∀w',(∃s:Gw W,w'=s.val)→(Instr.loadAt 23 (.pointer (some ⟨w.heap.size,2,none⟩))).run Tryz.prog w'=.ok (AQ k) w' from fun w' ⟨s,e⟩=>by subst e;exact Ad (Bb k HK.out.1) (LO (AF s.g B0.out (by simp))))
 refine AOQ fun K2 k2=>?_
 have HK2:=AK k2
 clear k2
 refine I0 15 (by kernel_rfl) (by kernel_rfl) ?_
 simp only[List.take_succ_cons,List.take_zero,List.drop_succ_cons,List.drop_zero]
 iterate 12 (quiet_step (fail))
 refine F7 rfl 23 (.tmp 16) rfl rfl HL.out ?_
 quiet_step ((exact Calls.grown_of (HCL.out _)))
 refine UR rfl 132 _ rfl #[(0,.int .i64 (IntKind.i64.wrap (d+1))),(1,.int .i64 (IntKind.i64.wrap (IntKind.i64.wrap (2*p)+R))),(2,AQ (KK))] (by simp only[List.map_toArray,List.map_cons,List.map_nil,Act.eval];rfl) (bN3 _ _ _ KL.out.1) ?_
 refine wpQuiet_nil ?_
 rintro _ ⟨s,rfl⟩
 have B2:=AK (AF s.g B1.out (by simp))
 have GS:=AK s.g
 generalize s.val=W3 at *
 clear c0 c1 HL
 go_wp2_with (first
  | (refine AY rfl 132 (.tmp 4) (.tmp 19) rfl rfl rfl (ZP ⟨IntKind.i64.wrap (d+1),IntKind.i64.wrap (IntKind.i64.wrap (2*p)+R),KK⟩ KL.out.1) B2.out (by rw[CV _ KL.out.1];rfl) ?_;intro W6 g6 h6;have G6:=AK g6;have H6:=AK h6;clear g6 h6)
  | fail)
 refine HK2.out _ _ ?_
 go_wp2
 exact CU (b:=w.heap.size+1) rfl rfl (ZP ⟨IntKind.i64.wrap (d+1),IntKind.i64.wrap (IntKind.i64.wrap (2*p)+R),KK⟩ KL.out.1) H6.out rfl ⟨by rw[HCH.out];rfl,AE (AA GW.out GS.out) G6.out (Nat.le_succ _)⟩
end
section
open Go.RowKit
abbrev Wd (ro:Option Nat):Fence:={ Fence.wide with round:=ro }
section
variable {P:Program} {Q:Exit→Act→World→Prop} {ops:Array Oper} {ro:Option Nat} {n:Nat}
theorem AJA {row:String} {args:Array Value} {w:World} {R:Value→World→Prop} (h:Rows P row args w R):RowsIn (Wd ro) n P row args w R:=
 fun c cs _=>let ⟨v,w',r,s⟩:=h c cs;⟨v,w',r,stepsIn_wide.2 s⟩
theorem XD {o:Oper} {a:Act} {w:World} {K:Act→World→Prop} (hd:∀c,o.op≠.defer c) (h:o.wp P a w K Q):o.wpIn (Wd ro) n P a w K Q:=by
 refine⟨fun _ _=>trivial,?_⟩
 rw[Oper.semAt_eq _ _ _ hd]
 unfold Oper.wp at h
 generalize (execOp a.eval o).run P w=r at *
 cases r with
 | ok x w' =>
  cases x<;>simp only[Oper.upon] at h<;>simp only[Oper.uponIn]
  case value=>exact h
  case skip=>exact h
  case defer=>exact h
  case enter=>exact⟨fun h=>(by simp[Fence.wide] at h),callsIn_wide.2 h⟩
  case row=>exact⟨fun h=>(by simp[Fence.wide] at h),AJA h⟩
 | halt x w'=>cases x<;>simp only[Oper.upon] at h<;>simp only[Oper.uponIn]<;>exact h
def Hs (l:List Oper):Bool:=l.all fun o=>match o.op with|.defer _=>false|_=>true
theorem Lw {l:List Oper} (h:Hs l=true) {o:Oper} (ho:o∈l):∀c,o.op≠.defer c:=by
 intro c hc
 have:=List.all_eq_true.1 h o ho
 simp[hc] at this
theorem Pk (hout:¬LetsOut Q):∀(l:List Oper) (a:Act) (w:World),Hs l=true→wpList P ops Q l a w→wpListIn (Wd ro) n P ops Q l a w
 | [],_,_,_,h=>h
 | o::rest,a,w,hd,h=>by
  have hd1:=Lw hd (List.mem_cons_self ..)
  have hd2:Hs rest=true:=by unfold Hs at *;rw[List.all_cons,Bool.and_eq_true] at hd;exact hd.2
  unfold wpListIn
  unfold wpList at h
  split
  · rename_i hw
    rw[if_pos hw] at h
    rcases h with h|⟨_,h⟩
    · exact Oper.wpIn_mono (fun a w h=>Pk hout rest a w hd2 h) (XD hd1 h)
    · exact absurd h hout
  · rename_i hw
    rw[if_neg hw] at h
    exact⟨fun _ _=>trivial,Pk hout rest _ _ hd2 h⟩
theorem AJB (hout:¬LetsOut Q) {i:Nat} {K:Act→World→Prop} {a:Act} {w:World} (hd:Hs ops.toList=true) (h:wpOp P ops Q i K a w):wpOpIn (Wd ro) n P ops Q i K a w:=by
 unfold wpOpIn
 unfold wpOp at h
 split
 · rename_i ho;simp only[ho] at h;exact h
 · rename_i o ho
   simp only[ho] at h
   have hm:o∈ops.toList:=by
     have:=Array.mem_of_getElem? ho
     simpa using this
   split
   · rename_i hw
     simp only[hw,if_true] at h
     rcases h with h|⟨_,h⟩
     · exact XD (Lw hd hm) h
     · exact absurd h hout
   · rename_i hw
     simp only[hw] at h
     exact⟨fun _ _=>trivial,h⟩
theorem Zo (hout:¬LetsOut Q) {md:Region.Mode} (hd:Hs ops.toList=true):∀(fuel:Nat) (listed:Array Bool) (a:Act) (w:World),wpAny P md ops Q fuel listed a w→wpAnyIn (Wd ro) n P md ops Q fuel listed a w
 | 0,_,_,_,h=>h
 | fuel+1,_,_,_,h=>⟨h.1,fun i hi=>wpOpIn_mono (fun a w h=>Zo hout hd fuel _ a w h) (AJB hout hd (h.2 i hi))⟩
theorem F8 {id:Nat} {l:List Oper} {a:Act} {w:World} (hout:¬LetsOut Q) (hd:Hs l=true) (h:wpList P l.toArray Q l a w):(Code.region id l.toArray false).wpIn (Wd ro) n P Q a w:=
 wpIn_region_lit (Pk hout l a w hd h)
theorem Qo {id:Nat} {a:Act} {w:World} {l:List Oper} (hout:¬LetsOut Q) (hd:Hs l=true) (k:Nat) (hm:P.follows .mixedOrders=true) (hB:Region.lexTailB .any l.toArray k=true)
  (h:wpQuiet P l.toArray (fun w'=>∃s:Gw w,w'=s.val) (fun a'=>∀w',(∃s:Gw w,w'=s.val)→wpList P l.toArray Q (l.drop k) a' w') (l.take k) a):(Code.region id l.toArray true).wpIn (Wd ro) n P Q a w:=by
 simp only[Region.lexTailB,Bool.and_eq_true,decide_eq_true_eq] at hB
 obtain⟨⟨⟨⟨hsel,hn⟩,hs⟩,hc⟩,hlex⟩:=hB
 have hn':k<l.length:=by simpa using hn
 have htl:(l.take k).length=k:=by simp;omega
 have hdl:(l.drop k).length=l.toArray.size-k:=by simp
 have inv0:HeadInv .any l.toArray k (Array.replicate l.toArray.size false):=
  ⟨by simp,fun j oj _ hl=>(by rw[getD_replicate_false] at hl;cases hl),fun t _ ht=>getD_in (by simpa using ht) (getD_replicate_false _ _)⟩
 have H:=Iy (md:=.any) (g:=l.toArray.size-k) hsel hs hc hn (l.take k) 0 _ a (fun j hj=>by
  have hj':j<k:=by rw[htl] at hj;exact hj
  simp[hj']) (by simpa using htl) inv0 (by rw[htl];exact hlex) h
 refine wpIn_region_any hm (Zo hout (by simpa using hd) _ _ _ _ ?_)
 have:=Hp (Q':=Q) (g:=l.toArray.size-k) (fun listed a' w' hw' hL=>by
  have:=wpAny_of_seq (md:=.any) (Q':=Q) (l.drop k) k listed a' w' (fun j=>by simp[List.getElem?_drop]) (by rw[hdl];exact hL.1) (hL.2 w' hw')
  rwa [hdl] at this) _ _ _ { w with drawn:=w.drawn+1 } ⟨⟨_,Cz w⟩,rfl⟩ H
 rw[htl,show k+(l.toArray.size-k)=l.toArray.size by omega] at this
 exact this
theorem EI {x y:Code} {a:Act} {w:World} (h:∀K:Act→World→Prop,(∀a w,y.wpIn (Wd ro) n P Q a w→K a w)→x.wpIn (Wd ro) n P (Exit.then K Q) a w):(Code.seq x y).wpIn (Wd ro) n P Q a w:=
 wpIn_seq (h _ fun _ _ h=>h)
end
end
section
open Go.RowKit Go.Shelf
attribute [local go_sem] Oper.semAt_some
section
variable {P:Program} {ops:Array Oper} {md:Region.Mode} {C:World→Prop} {ro:Option Nat} {n:Nat}
theorem US {Q':Exit→Act→World→Prop} {i:Nat} {a:Act} {K:Act→Prop} {K':Act→World→Prop} {w:World} (hd:Hs ops.toList=true) (hC:C w) (h:∀a w',C w'→K a→K' a w') (hh:qOp P ops C i K a):wpOpIn (Wd ro) n P ops Q' i K' a w:=by
 unfold qOp at hh
 unfold wpOpIn
 split
 · rename_i ho;simp only[ho] at hh;exact h _ _ hC hh
 · rename_i o ho
   simp only[ho] at hh
   have hm:o∈ops.toList:=by
     have:=Array.mem_of_getElem? ho
     simpa using this
   split
   · rename_i hw;simp only[hw,if_true] at hh;exact XD (Lw hd hm) (Oper.wp_of_quiet hC h hh)
   · rename_i hw;simp only[hw] at hh;exact⟨fun _ _=>trivial,h _ _ hC hh⟩
theorem LP {k g:Nat} {L:Array Bool→Act→Prop} {Q':Exit→Act→World→Prop} (hd:Hs ops.toList=true) (hL:∀listed a w,C w→L listed a→wpAnyIn (Wd ro) n P md ops Q' g listed a w) :
  ∀(f:Nat) (listed:Array Bool) (a:Act) (w:World),C w→NM P md ops C k L f listed a→wpAnyIn (Wd ro) n P md ops Q' (f+g) listed a w
 | 0,listed,a,w,hw,h=>by rw[Nat.zero_add];exact hL _ _ _ hw h
 | f+1,listed,a,w,hw,h=>by
  rw[show f+1+g=(f+g)+1 by omega]
  exact⟨fun h0=>absurd h0 h.1,fun i hi=>US hd hw (fun a' w' hw' h'=>LP hd hL f _ a' w' hw' h') (h.2 i hi).2⟩
theorem Mj {Q':Exit→Act→World→Prop}:∀(l:List Oper) (k:Nat) (listed:Array Bool) (a:Act) (w:World),(∀j,l[j]?=ops[k+j]?) →
  Region.seqB md ops l.length k listed=true→wpListIn (Wd ro) n P ops Q' l a w→wpAnyIn (Wd ro) n P md ops Q' l.length listed a w
 | [],_,_,_,_,_,hB,h=>⟨by simpa [Region.seqB] using hB,h⟩
 | o::l,k,listed,a,w,hl,hB,h=>by
  have h0:ops[k]?=some o:=by simpa using(hl 0).symm
  simp only[List.length_cons,Region.seqB,Bool.and_eq_true,decide_eq_true_eq] at hB
  refine⟨fun h1=>(by rw[hB.1] at h1;cases h1),fun i hi=>?_⟩
  rw[hB.1] at hi
  have hik:i=k:=by simpa using hi
  subst hik
  have hw:wpOpIn (Wd ro) n P ops Q' i (wpListIn (Wd ro) n P ops Q' l) a w:=by unfold wpOpIn;simp only[h0];exact h
  exact wpOpIn_mono (fun a' w' h'=>Mj l (i+1) _ a' w' (fun j=>by have:=hl (j+1);simpa [Nat.add_assoc,Nat.add_comm 1 j] using this) hB.2 h') hw
theorem Ng {id:Nat} {Q:Exit→Act→World→Prop} {a:Act} {w:World} {l:List Oper} (k:Nat) (hd:Hs l=true) (hm:P.follows .mixedOrders=true) (hB:Region.lexTailB .any l.toArray k=true)
  (h:wpQuiet P l.toArray (fun w'=>∃s:Gw w,w'=s.val) (fun a'=>∀w',(∃s:Gw w,w'=s.val)→wpListIn (Wd ro) n P l.toArray Q (l.drop k) a' w') (l.take k) a):(Code.region id l.toArray true).wpIn (Wd ro) n P Q a w:=by
 simp only[Region.lexTailB,Bool.and_eq_true,decide_eq_true_eq] at hB
 obtain⟨⟨⟨⟨hsel,hn⟩,hs⟩,hc⟩,hlex⟩:=hB
 have hn':k<l.length:=by simpa using hn
 have htl:(l.take k).length=k:=by simp;omega
 have hdl:(l.drop k).length=l.toArray.size-k:=by simp
 have inv0:HeadInv .any l.toArray k (Array.replicate l.toArray.size false):=
  ⟨by simp,fun j oj _ hl=>(by rw[getD_replicate_false] at hl;cases hl),fun t _ ht=>getD_in (by simpa using ht) (getD_replicate_false _ _)⟩
 have H:=Iy (md:=.any) (g:=l.toArray.size-k) hsel hs hc hn (l.take k) 0 _ a (fun j hj=>by
  have hj':j<k:=by rw[htl] at hj;exact hj
  simp[hj']) (by simpa using htl) inv0 (by rw[htl];exact hlex) h
 refine wpIn_region_any hm ?_
 have:=LP (ro:=ro) (n:=n) (Q':=Q) (g:=l.toArray.size-k) (by simpa using hd) (fun listed a' w' hw' hL=>by
  have:=Mj (ro:=ro) (n:=n) (md:=.any) (Q':=Q) (l.drop k) k listed a' w' (fun j=>by simp[List.getElem?_drop]) (by rw[hdl];exact hL.1) (hL.2 w' hw')
  rwa [hdl] at this) _ _ _ { w with drawn:=w.drawn+1 } ⟨⟨_,Cz w⟩,rfl⟩ H
 rw[htl,show k+(l.toArray.size-k)=l.toArray.size by omega] at this
 exact this
end
def Nok (n:Nd):Prop:=Dg n.k∧(-9223372036854775808≤n.d∧n.d≤9223372036854775807)∧(-9223372036854775808≤n.p∧n.p≤9223372036854775807)
abbrev Rr:={ n:Nd // Nok n }
def AJC (x:Rr):Array Value:=#[Og (Hn x.1),Hr x.1]
def IU (l:List Nd):List Value:=l.flatMap DA
theorem ACe {l:List Nd} (h:∀n∈l,Nok n):(IU l).length=l.length*34:=by
 induction l with
 | nil=>rfl
 | cons x l ih =>
  unfold IU at *
  rw[List.flatMap_cons,List.length_append,ih (fun n hn=>h n (List.mem_cons_of_mem _ hn)),CV _ (h x (List.mem_cons_self ..)).1.1,List.length_cons]
  omega
theorem AFE {l:List Nd} (h:∀n∈l,Nok n) {i:Nat} (hi:i<l.length):((IU l).drop (i*34)).take 34=DA l[i]:=by
 induction l generalizing i with
 | nil=>simp at hi
 | cons x l ih =>
  have hx:=CV _ (h x (List.mem_cons_self ..)).1.1
  unfold IU at *
  rw[List.flatMap_cons]
  cases i with
  | zero=>rw[Nat.zero_mul,List.drop_zero,List.take_left' hx];rfl
  | succ i =>
   rw[show(i+1)*34=34+i*34 by omega,←List.drop_drop,List.drop_left' hx]
   exact ih (fun n hn=>h n (List.mem_cons_of_mem _ hn)) (by simpa using hi)
def RdN (w:World) (s:Value) (l:List Nd):Prop:=Sl w 34 s l.length (IU l)∧∀n∈l,Nok n
theorem RdN.kn {w w':World} {s:Value} {l:List Nd} (h:RdN w s l) (g:w.grownBy w' none):RdN w' s l:=⟨Sl.kn h.1 g,h.2⟩
theorem RdN.range {w:World} {ao:Option Addr} {n cap:Nat} {l:List Nd} (h:RdN w (.slice ao n cap) l) {i:Nat} (hi:i<l.length):∃b off,ao=some ⟨b,off,none⟩∧w.rangeAt b (off+i*34) (DA l[i]):=by
 have hl:=ACe h.2
 obtain⟨b,off,hb,hc⟩:=Sl.at h.1 0 (by rw[hl];omega)
 refine⟨b,off,hb,fun j v hj=>?_⟩
 have hjl:=(List.getElem?_eq_some_iff.1 hj).1
 have hx:=CV _ (h.2 l[i] (List.getElem_mem hi)).1.1
 have hk:i*34+j<(IU l).length:=by rw[hl];omega
 rw[Nat.add_assoc,hc _ hk]
 rw[←AFE h.2 hi,List.getElem?_take,if_pos (by omega),List.getElem?_drop,List.getElem?_eq_getElem hk] at hj
 exact hj
theorem UT {P:Program} {fn:Func} (h:fn.results=#[]) (tmps:Array Value) (w:World):(results fn tmps).run P w=.ok (.tuple #[]) w:=by simp[results,h]
theorem QM (n n0 Bx:Nat) (l:List Rr) (s:Value) (w:World) (hB:w.cell? ⟨Bx,0,none⟩=some s) (hs:RdN w s (l.map (·.1))) (hl:l.length≤1099511627776) (hn0:∀k,OZ s k→k<n0) (hw:n0≤w.heap.size) :
  SeqStopsK Fence.wide n Tryz.prog 143 #[.pointer (some ⟨Bx,0,none⟩)] AJC (Below n0) (fun xs=>xs=l) (fun FM=>FM <+: l) l.length w:=fun lp J Jx W hW hJ hJx hY h0=>by
 have hBW:=hW.cell (p:=⟨Bx,0,none⟩) (AOR hB)
 rw[hB] at hBW
 have hsW:RdN W s (l.map (·.1)):=⟨Sl.belowT hs.1 hW (fun k hk=>Nat.lt_of_lt_of_le (hn0 k hk) hw),hs.2⟩
 obtain⟨ao,cap,rfl,p1,p2⟩:=Sl.shape hsW.1
 rw[List.length_map] at p1
 have HY:=AK hY
 have y0:=AOR hBW
 have HL:=AK (show(l.map (·.1)).length=l.length from List.length_map _)
 obtain⟨m,hm⟩:∃m,m=(l.map (·.1)).length:=⟨_,rfl⟩
 rw[←hm] at hBW HL
 have p0:m≤cap:=by rw[HL.out];exact p1
 have m0:m≤1099511627776:=by rw[HL.out];exact hl
 have HS:=AK (show RdN W (.slice ao m cap) (l.map (·.1)) by rw[hm];exact hsW)
 have HN:=AK (show ∀k,OZ (Value.slice ao m cap) k→k<n0 by rw[hm];exact hn0)
 refine callsIn_of_wp Tryz.func143 rfl trivial ?_ rfl
 simp only[Tryz.ntmps143,List.size_toArray,List.length_cons,List.length_nil,Nat.reduceAdd,Nat.reduceSub,Array.replicate_succ,Array.replicate_zero,List.push_toArray,List.append_toArray,List.nil_append,List.cons_append]
 refine wpIn_wide.2 ?_
 have hWs:=hW.size
 clear hY hs hsW hn0 hB hm hW hl p1
 go_wp2
 go_loopw [8] (fun i wr=>∃k:Nat,k≤m∧i=.int .i64 k∧Hid (J (l.take k) wr)∧Hid (Below n0 W wr)) (fun i _=>(m-intOf i).toNat)
 case atStart=>exact⟨0,by omega,rfl,AK h0,AK (Below.refl _ _)⟩
 case round =>
  clear hBW y0
  obtain⟨k,hk,rfl,HJ,HBl⟩:=hrel
  by_cases hlt:k<m
  · have hkl:k<l.length:=by rw[←HL.out];exact hlt
    have hkl2:k<(l.map (·.1)).length:=by simpa using hkl
    have hsr:RdN wr (.slice ao m cap) (l.map (·.1)):=⟨Sl.belowT HS.out.1 HBl.out HN.out,HS.out.2⟩
    obtain⟨b,off,rfl,hrg⟩:=hsr.range hkl2
    have HX:=AK (show(l.map (·.1))[k]=(l[k]).1 by simp)
    rw[HX.out] at hrg
    have HRG:=AK hrg
    have HTK:=AK (show l.take (k+1)=l.take k++[l[k]] from List.take_succ_eq_append_getElem hkl)
    have HYk:=AK (fun W1 h=>HY.out (l.take k) l[k] W1 h (by rw[List.length_take];omega))
    have HNK:=AK (l[k]).2
    generalize l[k]=x at *
    have TN:=AK (ZP x.1 HNK.out.1.1)
    have i0:(0:Int)≤(k:Int):=by omega
    have i1:(k:Int)<(m:Int):=by omega
    clear hsr hrg hkl hkl2 HX
    have NL:=AK (CV x.1 HNK.out.1.1)
    go_wp2_with (first
      | (refine EH rfl 132 (.tmp 10) rfl rfl TN.out HRG.out ?_)
      | (refine AY rfl 132 (.tmp 4) (.tmp 11) rfl rfl rfl TN.out (Ak rfl) (by rw[NL.out];rfl) ?_;intro W2 g2 h2;have G2:=AK (AE (World.grownBy_alloc wr _ none) g2 (Nat.le_refl _));have H2:=AK h2;clear g2 h2)
      | fail)
    go_frame
    refine(wpIn_wide (n:=n)).1 ?_
    change (Code.region _ _ _).wpIn (Wd none) n _ _ _ _
    refine Ng (ro:=none) 4 (by kernel_rfl) (by kernel_rfl) (by kernel_rfl) ?_
    simp only[List.take_succ_cons,List.take_zero,List.drop_succ_cons,List.drop_zero]
    have HLD:=AK (show ∀w',(∃s:Gw W2,w'=s.val)→(Instr.loadAt 132 (.pointer (some ⟨wr.heap.size,0,none⟩))).run Tryz.prog w'=.ok (Hr x.1) w' from fun w' ⟨s,e⟩=>by subst e;exact Ad TN.out (Av (AF s.g H2.out (by simp))))
    quiet_step (fail)
    refine F7 rfl 132 (.tmp 4) rfl rfl HLD.out ?_
    quiet_step ((exact Calls.grown_of (Zk x.1 HNK.out.1 HNK.out.2.1 HNK.out.2.2 _)))
    refine F7 rfl 132 (.tmp 4) rfl rfl HLD.out ?_
    refine wpQuiet_nil ?_
    rintro _ ⟨s,rfl⟩
    have GS:=AK (AA G2.out s.g)
    generalize s.val=W3 at *
    obtain⟨fn,tmps,assign,body,hy,hR⟩:=HYk.out W3 (hJ _ _ _ none HJ.out GS.out (fun r e=>by cases e))
    dsimp only[AJC] at hy
    gi_wp2
    refine⟨fun h=>(by simp[Fence.wide] at h),?_⟩
    refine hR.mono ?_
    have HKB:=AK (HBl.out.grown GS.out (Nat.le_trans hw (Nat.le_trans hWs HBl.out.size)) (fun k e=>by cases e))
    rintro e W4 (⟨rfl,hJ4,hk4⟩|⟨rfl,hJx4⟩)
    · have HJ4:=AK hJ4
      have HK4:=AK (HKB.out.trans hk4)
      clear hJ4 hk4
      gi_wp2
      go_wp2
      go_roundw
      case rel=>exact⟨k+1,by omega,by go_num,AK (by rw[HTK.out];exact HJ4.out),HK4⟩
      case measure=>simp[intOf];omega
    · have HJ4:=AK hJx4
      clear hJx4
      gi_wp2
      go_wp2
      refine bodyPost_ret (UT rfl _ _) rfl ?_
      exact⟨⟨_,rfl⟩,.inr ⟨l.take (k+1),List.take_prefix _ _,by rw[HTK.out];exact HJ4.out⟩⟩
  · obtain rfl:k=m:=by omega
    go_wp2
    go_end0
    exact⟨⟨_,rfl⟩,.inl ⟨l,rfl,by have:=HJ.out;rwa [List.take_of_length_le (by rw[HL.out];exact Nat.le_refl _)] at this⟩⟩
end
section
open Go.RowKit Go.Shelf
attribute [local go_sem] Oper.semAt_some
section
variable {P:Program} {n:Nat}
theorem JS {fn:Func} {tmps:Array Value} {R:Ending→World→Prop} {D:Nat} {ds:List Deferred} {w:World} (hK:w.heap[D]?=some (.deferred (some [])))
  (h:LeavesInM Fence.wide n P fn tmps R ds .returning (w.putObj D (.deferred none))):LeavesInM Fence.wide n P fn tmps R ({ target:=.collected D,args:=#[] }::ds) .returning w:=
 ⟨by simp,.inl ⟨_,_,rfl,run_takeDeferred hK,h⟩⟩
theorem Gz {fn:Func} {tmps:Array Value} {R:Ending→World→Prop} {fv:Fn} {cap dargs:Array Value} {ds:List Deferred} {w:World} {f:FuncId} {args:Array Value} (hi:(invoke (.fn fv cap) dargs).run P w=.ok (.enter f args) w)
  (h:CallsDIn Fence.wide (n-1) P f args .returning w fun e u' w'=>(∃v,e=.returned v)∧u'=.returning∧LeavesInM Fence.wide n P fn tmps R ds .returning w') :
  LeavesInM Fence.wide n P fn tmps R ({ target:=.fn fv cap,args:=dargs }::ds) .returning w:=
 ⟨by simp,.inr ⟨fun h=>(by simp[Fence.wide] at h),fv,cap,f,args,rfl,hi,fun _ _=>trivial,h.mono fun e u' w' ⟨⟨v,hv⟩,hu,hl⟩=>by subst hv hu;exact hl⟩⟩
theorem Ft {fn:Func} {tmps:Array Value} {R:Ending→World→Prop} {w:World} {v:Value} (hr:(results fn tmps).run P w=.ok v w) (h:R (.returned v) w):LeavesInM Fence.wide n P fn tmps R [] .returning w:=
 ⟨v,hr,h⟩
end
theorem Kq (n:Nat) (w:World):CallsDIn Fence.wide n Tryz.prog 130 #[] .returning w fun e u' w'=>e=.returned (.tuple #[])∧u'=.returning∧w'=w:=by
 refine callsDIn_of_wpSIn Tryz.func130 rfl trivial fun c₀ cs hu=>?_
 apply wpSIn_region
 simp[wpOpsSIn,go_sem,recoverD,hu,Tryz.ntmps130]
 cases c₀
 simp_all [bodyPostS,results,Tryz.results130]
theorem JT (n:Nat) (p q:Value) (w:World):CallsDIn Fence.wide n Tryz.prog 119 #[p,q] .returning w fun e u' w'=>e=.returned (.tuple #[])∧u'=.returning∧w'=w:=by
 refine callsDIn_of_wpSIn Tryz.func119 rfl trivial fun c₀ cs hu=>?_
 apply wpSIn_seq
 apply wpSIn_region
 simp[wpOpsSIn,go_sem,recoverD,hu,Tryz.ntmps119,Exit.thenS]
 refine wpSIn_cond (t:=false) (by simp[Act.eval,Array.replicate]) ?_
 simp only[Bool.false_eq_true,if_false]
 refine wpSIn_of_wpIn rfl (wpIn_skip ?_)
 cases c₀
 simp_all [bodyPostS,results,Tryz.results119]
theorem WI (ao:Option Addr) (n cap:Nat) (w:World):Calls Tryz.prog 116 #[.agg #[.slice ao n cap]] w fun e w'=>e=.returned (.func (.func 143) #[] #[.pointer (some ⟨w.heap.size,0,none⟩)])∧w'=w.alloc (.cells #[.slice ao n cap] 56):=by
 have hmf:∀(fn:Fn) (first cap:Array Value) (w:World),(Instr.makeFunc fn first cap).run Tryz.prog w=.ok (.func fn first cap) w:=fun _ _ _ _=>rfl
 go_enter Tryz.func116,Tryz.ntmps116
 go_wp2
 go_ret
 exact⟨rfl,rfl⟩
theorem UV (a b x:Int) (w:World):Calls Tryz.prog 117 #[Og (a,b),.int .i64 x] w fun e w'=>e=.returned (.bool (decide (a≤x)&&decide (x<b)))∧w.grownBy w' none:=by
 unfold Og
 simp only
 by_cases h1:a≤x
 · have t1:decide (a≤x)=true:=decide_eq_true h1
   go_enter Tryz.func117,Tryz.ntmps117
   go_wp2
   go_ret
   exact⟨by rw[t1];rfl,World.grownBy_alloc _ _ _⟩
 · have t1:decide (a≤x)=false:=decide_eq_false h1
   go_enter Tryz.func117,Tryz.ntmps117
   go_wp2
   go_ret
   exact⟨rfl,World.grownBy_alloc _ _ _⟩
def Ci (a:Int):Bool:=decide (0≤a)&&decide (a<17179869184)
theorem Ml (a:Int) (w:World):Calls Tryz.prog 75 #[.int .i64 a] w fun e w'=>e=.returned (.bool (Ci a))∧w'=w:=by
 unfold Ci
 by_cases h1:0≤a
 · have t1:decide (0≤a)=true:=decide_eq_true h1
   go_enter Tryz.func75,Tryz.ntmps75
   go_wp2
   go_ret
   exact⟨by rw[t1];rfl,rfl⟩
 · have t1:decide (0≤a)=false:=decide_eq_false h1
   go_enter Tryz.func75,Tryz.ntmps75
   go_wp2
   go_ret
   exact⟨rfl,rfl⟩
end
end Go.Proofs.YtbfjfnbcmojpiaaGreat
