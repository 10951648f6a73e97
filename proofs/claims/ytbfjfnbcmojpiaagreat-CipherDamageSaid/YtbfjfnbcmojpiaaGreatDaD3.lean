import Derived.Test.YtbfjfnbcmojpiaaGreatDaD2
import Derived.Test.YtbfjfnbcmojpiaaGreatDaMA
import Derived.LoopN
set_option linter.unusedSimpArgs false
set_option linter.unusedVariables false
set_option maxRecDepth 100000
set_option maxHeartbeats 8000000
namespace Go.Proofs.YtbfjfnbcmojpiaaGreat
open Go.RowKit
theorem Kp {K:Act→World→Prop} {a:Act} {w:World} {R i:Nat} {n:Int} (h:∀(X:Int) (w':World),Hid (X=n)→Hid (w.grownBy w' (some R))→Hid (w'=(w.setCell ⟨R,i,none⟩ (.int .u64 X)).drew)→K a w'):K a ((w.setCell ⟨R,i,none⟩ (.int .u64 n)).drew):=
 h n _ (AK rfl) (AK (AA (BE w ⟨R,i,none⟩ (.int .u64 n)) (E2 (Cz _)))) (AK rfl)
theorem AK2 {K:Act→World→Prop} {a:Act} {w:World} {o:Obj} (h:∀(w':World),Hid (w.grownBy w' none)→Hid (w'.heap[w.heap.size]?=some o)→K a w'):K a (w.alloc o):=
 h _ (AK (World.grownBy_alloc _ _ _)) (AK (Ak rfl))
theorem Rk {K:Act→World→Prop} {a:Act} {w:World} {R i m:Nat} {n:Int} (h:∀(X:Int) (w':World),Hid (X=n)→Hid (w.grownBy w' (some R))→Hid (w'=((w.drewN m).setCell ⟨R,i,none⟩ (.int .u64 X)))→K a w'):K a ((w.drewN m).setCell ⟨R,i,none⟩ (.int .u64 n)):=
 h n _ (AK rfl) (AK (AA (E2 (CI _ _)) (BE (w.drewN m) ⟨R,i,none⟩ (.int .u64 n)))) (AK rfl)
theorem LM {w w':World} {R m i:Nat} {n:Int} {o:Obj} (e:w'=((w.drewN m).setCell ⟨R,i,none⟩ (.int .u64 n))) (h:((w.drewN m).setCell ⟨R,i,none⟩ (.int .u64 n)).heap[R]?=some o):w'.heap[R]?=some o:=by subst e;exact h
theorem Rl {X A:Int} {x:BitVec 64} {p q:Nat} (hX:X=bits .xor .u64 (bits .xor .u64 A (wi (rot x p))) (wi (rot x q))) (hA:A=wi x):X=wi (Wq x p q):=by
 subst hA hX
 rw[Jl,Jl];rfl
theorem bI5 (a b c d e:Int) (w:World):(Instr.build 160 #[(0,.int .i64 a),(1,.int .i64 b),(2,.int .i64 c),(3,.int .i64 d),(4,.int .i64 e)]).run Tryz.prog w=.ok (.agg #[.int .i64 a,.int .i64 b,.int .i64 c,.int .i64 d,.int .i64 e]) w:=by kernel_rfl
theorem AMF (a b c d e:Int):TY Tryz.prog 160 [.int .i64 a,.int .i64 b,.int .i64 c,.int .i64 d,.int .i64 e] (.agg #[.int .i64 a,.int .i64 b,.int .i64 c,.int .i64 d,.int .i64 e]):=TY.agg Tryz.underlying160 rfl (by kernel_rfl) (by simp[Value.oneCell'])
theorem Gd {w w':World} {R:Nat} {o:Obj} (e:w'=w.drew) (h:w.heap[R]?=some o):w'.heap[R]?=some o:=by subst e;exact h
theorem ACU (x:BitVec 64) (k:Nat) (hk:k<64) (w:World):Calls Tryz.prog 146 #[.int .u64 (wi x),.int .i64 k] w fun e w'=>e=.returned (.int .u64 (wi (rot x k)))∧∃m,w'=w.drewN m:=by
 have e:bits .or .u64 (wi x/2^k) (IntKind.u64.wrap (wi x*2^(64-k)))=wi (rot x k):=by
  rw[ACV,ACW,Wr]
  rfl
 have HE:=AK e
 clear e
 generalize wi x=X at *
 go_enter Tryz.func146,Tryz.ntmps146
 go_wp2
 go_region
 all_goals go_wp2
 all_goals go_ret
 all_goals exact⟨by rw[HE.out];rfl,1,rfl⟩
theorem FX {X:Int} (x:BitVec 64) (hX:X=wi x) (k:Nat) (n:Int) (hn:n=(k:Int)) (hk:k<64) (w:World):Calls Tryz.prog 146 #[.int .u64 X,.int .i64 n] w fun e w'=>e=.returned (.int .u64 (wi (rot x k)))∧∃m,w'=w.drewN m:=by
 subst hX hn
 exact ACU x k hk w
theorem N3 (s:St) (w:World):Calls Tryz.prog 122 #[Lp s] w fun e w'=>e=.returned (Lp (Jm s))∧w.grownBy w' none:=by
 unfold Lp
 obtain⟨R,hR⟩:∃R,R=w.heap.size:=⟨_,rfl⟩
 have HRR:=AK hR
 go_enter Tryz.func122,Tryz.ntmps122
 go_wp2
 rw[←hR]
 have hR2:=AK hR
 clear hR
 go_loopw [3] (fun i wr=>∃(k:Nat) (S:St),k≤12∧i=.int .i64 k∧Hid (S=(List.range k).foldl (fun s k=>rnd k s) s)∧Hid (w.grownBy wr none)∧Hid (wr.heap[R+1]?=some (.cells #[.int .u64 0,.int .u64 0,.int .u64 0,.int .u64 0,.int .u64 0] 105 (0,0)))∧Hid (wr.heap[R]?=some (.cells #[.int .u64 (wi S.a),.int .u64 (wi S.b),.int .u64 (wi S.c),.int .u64 (wi S.d),.int .u64 (wi S.e)] 105 (0,0)))) (fun i _=>12-(intOf i).toNat)
 case atStart =>
  rw[hR2.out]
  exact⟨0,s,by omega,rfl,AK rfl,AK (AA (World.grownBy_alloc _ _ _) (World.grownBy_alloc _ _ _)),AK (Ak (by simp)),AK (by rw[BZ (by simp),Ak rfl])⟩
 case round =>
  obtain⟨k,S,hk,rfl,HS,HG,HZ,HB⟩:=hrel
  by_cases hlt:k<12
  · have t1:decide ((k:Int)<12)=true:=by simp;omega
    have i1:(0:Int)≤(k:Int):=by omega
    have i2:(k:Int)<12:=by omega
    obtain⟨A,HA⟩:∃A,Hid (A=wi S.a):=⟨_,AK rfl⟩
    obtain⟨B,HBB⟩:∃B,Hid (B=wi S.b):=⟨_,AK rfl⟩
    obtain⟨C,HC⟩:∃C,Hid (C=wi S.c):=⟨_,AK rfl⟩
    obtain⟨D,HD⟩:∃D,Hid (D=wi S.d):=⟨_,AK rfl⟩
    obtain⟨E,HE⟩:∃E,Hid (E=wi S.e):=⟨_,AK rfl⟩
    rw[←HA.out,←HBB.out,←HC.out,←HD.out,←HE.out] at HB
    refine AOQ fun K1 k1=>?_
    have HK1:=AK k1
    clear k1
    go_wp2
    refine HK1.out _ _ ?_
    clear HK1
    refine AOQ fun K3 k3=>?_
    have HK3:=AK k3
    clear k3
    refine wp_block ?_
    have c0:=AZ 0 A HB.out rfl
    have c1:=AZ 1 B HB.out rfl
    have c2:=AZ 2 C HB.out rfl
    have c3:=AZ 3 D HB.out rfl
    have c4:=AZ 4 E HB.out rfl
    have f0:=Ax 0 HB.out
    have f1:=Ax 1 HB.out
    have f2:=Ax 2 HB.out
    have f3:=Ax 3 HB.out
    have f4:=Ax 4 HB.out
    have y0:R<wr.heap.size:=AOR c0
    refine AOQ fun K5 k5=>?_
    have HK5:=AK k5
    clear k5
    go_wp2
    refine Ew fun C_5 v5 HX5 HG5 HW5=>?_
    clear c0 c1 c2 c3 c4 f0 f1 f2 f3 f4 y0
    replace HB:=AK (Qm (v:=.int .u64 C_5) HB.out)
    rw[←HW5.out] at HB
    replace HZ:=AK (AF HG5.out HZ.out (by simp))
    replace HG:=AK (AE HG.out HG5.out (by rw[HRR.out];exact Nat.le_refl _))
    clear HG5 HW5
    refine HK5.out _ _ ?_
    clear HK5
    have c0:=AZ 0 A HB.out rfl
    have c1:=AZ 1 B HB.out rfl
    have c2:=AZ 2 C_5 HB.out rfl
    have c3:=AZ 3 D HB.out rfl
    have c4:=AZ 4 E HB.out rfl
    have f0:=Ax 0 HB.out
    have f1:=Ax 1 HB.out
    have f2:=Ax 2 HB.out
    have f3:=Ax 3 HB.out
    have f4:=Ax 4 HB.out
    have y0:R<v5.heap.size:=AOR c0
    refine AOQ fun K6 k6=>?_
    have HK6:=AK k6
    clear k6
    go_wp2
    refine Ew fun A_6 v6 HX6 HG6 HW6=>?_
    clear c0 c1 c2 c3 c4 f0 f1 f2 f3 f4 y0
    replace HB:=AK (Rj (v:=.int .u64 A_6) HB.out)
    rw[←HW6.out] at HB
    replace HZ:=AK (AF HG6.out HZ.out (by simp))
    replace HG:=AK (AE HG.out HG6.out (by rw[HRR.out];exact Nat.le_refl _))
    clear HG6 HW6
    refine HK6.out _ _ ?_
    clear HK6
    have c0:=AZ 0 A_6 HB.out rfl
    have c1:=AZ 1 B HB.out rfl
    have c2:=AZ 2 C_5 HB.out rfl
    have c3:=AZ 3 D HB.out rfl
    have c4:=AZ 4 E HB.out rfl
    have f0:=Ax 0 HB.out
    have f1:=Ax 1 HB.out
    have f2:=Ax 2 HB.out
    have f3:=Ax 3 HB.out
    have f4:=Ax 4 HB.out
    have y0:R<v6.heap.size:=AOR c0
    refine AOQ fun K7 k7=>?_
    have HK7:=AK k7
    clear k7
    go_wp2
    refine Ew fun E_7 v7 HX7 HG7 HW7=>?_
    clear c0 c1 c2 c3 c4 f0 f1 f2 f3 f4 y0
    replace HB:=AK (ZV (v:=.int .u64 E_7) HB.out)
    rw[←HW7.out] at HB
    replace HZ:=AK (AF HG7.out HZ.out (by simp))
    replace HG:=AK (AE HG.out HG7.out (by rw[HRR.out];exact Nat.le_refl _))
    clear HG7 HW7
    refine HK7.out _ _ ?_
    clear HK7
    have c0:=AZ 0 A_6 HB.out rfl
    have c1:=AZ 1 B HB.out rfl
    have c2:=AZ 2 C_5 HB.out rfl
    have c3:=AZ 3 D HB.out rfl
    have c4:=AZ 4 E_7 HB.out rfl
    have f0:=Ax 0 HB.out
    have f1:=Ax 1 HB.out
    have f2:=Ax 2 HB.out
    have f3:=Ax 3 HB.out
    have f4:=Ax 4 HB.out
    have y0:R<v7.heap.size:=AOR c0
    refine AOQ fun K8 k8=>?_
    have HK8:=AK k8
    clear k8
    go_wp2
    refine Ew fun C_8 v8 HX8 HG8 HW8=>?_
    clear c0 c1 c2 c3 c4 f0 f1 f2 f3 f4 y0
    replace HB:=AK (Qm (v:=.int .u64 C_8) HB.out)
    rw[←HW8.out] at HB
    replace HZ:=AK (AF HG8.out HZ.out (by simp))
    replace HG:=AK (AE HG.out HG8.out (by rw[HRR.out];exact Nat.le_refl _))
    clear HG8 HW8
    as_aux_lemma =>
     refine HK8.out _ _ ?_
     clear HK8
     refine AOQ fun K9 k9=>?_
     have HK9:=AK k9
     clear k9
     have y0:R<v8.heap.size:=AOR (by rw[AOS _ _ _ _ _ _ HB.out];rfl:v8.cell? ⟨R,0,none⟩=some (.int .u64 A_6))
     have y2:R+1<v8.heap.size:=AOR (by rw[AOS _ _ _ _ _ _ HZ.out];rfl:v8.cell? ⟨R+1,0,none⟩=some (.int .u64 0))
     go_wp2
     refine AK2 fun v9 HG9 HT=>?_
     obtain⟨Tb,hTb⟩:∃b,b=v8.heap.size:=⟨_,rfl⟩
     rw[←hTb] at HT ⊢
     have hTR:¬Tb=R:=by omega
     have hRT:¬R=Tb:=by omega
     have hTZ:¬R+1=Tb:=by omega
     have hTw:w.heap.size≤Tb:=by have:=HRR.out;omega
     have HTb:=AK hTb
     clear hTb y0 y2
     replace HB:=AK (AF HG9.out HB.out (by simp))
     replace HZ:=AK (AF HG9.out HZ.out (by simp))
     replace HG:=AK (AA HG.out HG9.out)
     clear HG9 HTb
     refine HK9.out _ _ ?_
     clear HK9
     refine AOQ fun Kl1 kl1=>?_
     have HKl1:=AK kl1
     clear kl1
     go_wp2
     refine wp_loop_rounds 6 ?_
     rw[rounds_succ]
     have c0:=AZ 0 A_6 HB.out rfl
     have c1:=AZ 1 B HB.out rfl
     have c2:=AZ 2 C_8 HB.out rfl
     have c3:=AZ 3 D HB.out rfl
     have c4:=AZ 4 E_7 HB.out rfl
     have y0:R<v9.heap.size:=AOR c0
     have t_0:=AZ 0 0 HT.out rfl
     have t_1:=AZ 1 0 HT.out rfl
     have t_2:=AZ 2 0 HT.out rfl
     have t_3:=AZ 3 0 HT.out rfl
     have t_4:=AZ 4 0 HT.out rfl
     have y1:Tb<v9.heap.size:=AOR t_0
     have g0:=Ax 0 HT.out
     have g1:=Ax 1 HT.out
     have g2:=Ax 2 HT.out
     have g3:=Ax 3 HT.out
     have g4:=Ax 4 HT.out
     go_wp2
     go_region
     go_wp2
     refine Kp fun T0_10 v10 HX10 HG10 HW10=>?_
     clear c0 c1 c2 c3 c4 y0 t_0 t_1 t_2 t_3 t_4 y1 g0 g1 g2 g3 g4
     replace HT:=AK (Gd HW10.out (Rj (v:=.int .u64 T0_10) HT.out))
     replace HZ:=AK (AF HG10.out HZ.out (by simp[hTZ]))
     replace HB:=AK (AF HG10.out HB.out (by simp[hRT]))
     replace HG:=AK (AE HG.out HG10.out hTw)
     clear HG10 HW10
     try clear h
     go_wp2
     rw[rounds_succ]
     have c0:=AZ 0 A_6 HB.out rfl
     have c1:=AZ 1 B HB.out rfl
     have c2:=AZ 2 C_8 HB.out rfl
     have c3:=AZ 3 D HB.out rfl
     have c4:=AZ 4 E_7 HB.out rfl
     have y0:R<v10.heap.size:=AOR c0
     have t_0:=AZ 0 T0_10 HT.out rfl
     have t_1:=AZ 1 0 HT.out rfl
     have t_2:=AZ 2 0 HT.out rfl
     have t_3:=AZ 3 0 HT.out rfl
     have t_4:=AZ 4 0 HT.out rfl
     have y1:Tb<v10.heap.size:=AOR t_0
     have g0:=Ax 0 HT.out
     have g1:=Ax 1 HT.out
     have g2:=Ax 2 HT.out
     have g3:=Ax 3 HT.out
     have g4:=Ax 4 HT.out
     go_wp2
     go_region
     go_wp2
     refine Kp fun T1_11 v11 HX11 HG11 HW11=>?_
     clear c0 c1 c2 c3 c4 y0 t_0 t_1 t_2 t_3 t_4 y1 g0 g1 g2 g3 g4
     replace HT:=AK (Gd HW11.out (ZT (v:=.int .u64 T1_11) HT.out))
     replace HZ:=AK (AF HG11.out HZ.out (by simp[hTZ]))
     replace HB:=AK (AF HG11.out HB.out (by simp[hRT]))
     replace HG:=AK (AE HG.out HG11.out hTw)
     clear HG11 HW11
     as_aux_lemma =>
      try clear h
      go_wp2
      rw[rounds_succ]
      have c0:=AZ 0 A_6 HB.out rfl
      have c1:=AZ 1 B HB.out rfl
      have c2:=AZ 2 C_8 HB.out rfl
      have c3:=AZ 3 D HB.out rfl
      have c4:=AZ 4 E_7 HB.out rfl
      have y0:R<v11.heap.size:=AOR c0
      have t_0:=AZ 0 T0_10 HT.out rfl
      have t_1:=AZ 1 T1_11 HT.out rfl
      have t_2:=AZ 2 0 HT.out rfl
      have t_3:=AZ 3 0 HT.out rfl
      have t_4:=AZ 4 0 HT.out rfl
      have y1:Tb<v11.heap.size:=AOR t_0
      have g0:=Ax 0 HT.out
      have g1:=Ax 1 HT.out
      have g2:=Ax 2 HT.out
      have g3:=Ax 3 HT.out
      have g4:=Ax 4 HT.out
      go_wp2
      go_region
      go_wp2
      refine Kp fun T2_12 v12 HX12 HG12 HW12=>?_
      clear c0 c1 c2 c3 c4 y0 t_0 t_1 t_2 t_3 t_4 y1 g0 g1 g2 g3 g4
      replace HT:=AK (Gd HW12.out (Qm (v:=.int .u64 T2_12) HT.out))
      replace HZ:=AK (AF HG12.out HZ.out (by simp[hTZ]))
      replace HB:=AK (AF HG12.out HB.out (by simp[hRT]))
      replace HG:=AK (AE HG.out HG12.out hTw)
      clear HG12 HW12
      try clear h
      go_wp2
      rw[rounds_succ]
      have c0:=AZ 0 A_6 HB.out rfl
      have c1:=AZ 1 B HB.out rfl
      have c2:=AZ 2 C_8 HB.out rfl
      have c3:=AZ 3 D HB.out rfl
      have c4:=AZ 4 E_7 HB.out rfl
      have y0:R<v12.heap.size:=AOR c0
      have t_0:=AZ 0 T0_10 HT.out rfl
      have t_1:=AZ 1 T1_11 HT.out rfl
      have t_2:=AZ 2 T2_12 HT.out rfl
      have t_3:=AZ 3 0 HT.out rfl
      have t_4:=AZ 4 0 HT.out rfl
      have y1:Tb<v12.heap.size:=AOR t_0
      have g0:=Ax 0 HT.out
      have g1:=Ax 1 HT.out
      have g2:=Ax 2 HT.out
      have g3:=Ax 3 HT.out
      have g4:=Ax 4 HT.out
      go_wp2
      go_region
      go_wp2
      refine Kp fun T3_13 v13 HX13 HG13 HW13=>?_
      clear c0 c1 c2 c3 c4 y0 t_0 t_1 t_2 t_3 t_4 y1 g0 g1 g2 g3 g4
      replace HT:=AK (Gd HW13.out (ZU (v:=.int .u64 T3_13) HT.out))
      replace HZ:=AK (AF HG13.out HZ.out (by simp[hTZ]))
      replace HB:=AK (AF HG13.out HB.out (by simp[hRT]))
      replace HG:=AK (AE HG.out HG13.out hTw)
      clear HG13 HW13
      as_aux_lemma =>
       try clear h
       go_wp2
       rw[rounds_succ]
       have c0:=AZ 0 A_6 HB.out rfl
       have c1:=AZ 1 B HB.out rfl
       have c2:=AZ 2 C_8 HB.out rfl
       have c3:=AZ 3 D HB.out rfl
       have c4:=AZ 4 E_7 HB.out rfl
       have y0:R<v13.heap.size:=AOR c0
       have t_0:=AZ 0 T0_10 HT.out rfl
       have t_1:=AZ 1 T1_11 HT.out rfl
       have t_2:=AZ 2 T2_12 HT.out rfl
       have t_3:=AZ 3 T3_13 HT.out rfl
       have t_4:=AZ 4 0 HT.out rfl
       have y1:Tb<v13.heap.size:=AOR t_0
       have g0:=Ax 0 HT.out
       have g1:=Ax 1 HT.out
       have g2:=Ax 2 HT.out
       have g3:=Ax 3 HT.out
       have g4:=Ax 4 HT.out
       go_wp2
       go_region
       go_wp2
       refine Kp fun T4_14 v14 HX14 HG14 HW14=>?_
       clear c0 c1 c2 c3 c4 y0 t_0 t_1 t_2 t_3 t_4 y1 g0 g1 g2 g3 g4
       replace HT:=AK (Gd HW14.out (ZV (v:=.int .u64 T4_14) HT.out))
       replace HZ:=AK (AF HG14.out HZ.out (by simp[hTZ]))
       replace HB:=AK (AF HG14.out HB.out (by simp[hRT]))
       replace HG:=AK (AE HG.out HG14.out hTw)
       clear HG14 HW14
       try clear h
       go_wp2
       rw[rounds_succ]
       go_wp2
       refine HKl1.out _ _ ?_
       clear HKl1
       rename_i Ka ha
       clear ha
       as_aux_lemma =>
        refine AOQ fun Kl2 kl2=>?_
        have HKl2:=AK kl2
        clear kl2
        go_wp2
        refine wp_loop_rounds 6 ?_
        rw[rounds_succ]
        have c0:=AZ 0 A_6 HB.out rfl
        have c1:=AZ 1 B HB.out rfl
        have c2:=AZ 2 C_8 HB.out rfl
        have c3:=AZ 3 D HB.out rfl
        have c4:=AZ 4 E_7 HB.out rfl
        have f0:=Ax 0 HB.out
        have f1:=Ax 1 HB.out
        have f2:=Ax 2 HB.out
        have f3:=Ax 3 HB.out
        have f4:=Ax 4 HB.out
        have y0:R<v14.heap.size:=AOR c0
        have t_0:=AZ 0 T0_10 HT.out rfl
        have t_1:=AZ 1 T1_11 HT.out rfl
        have t_2:=AZ 2 T2_12 HT.out rfl
        have t_3:=AZ 3 T3_13 HT.out rfl
        have t_4:=AZ 4 T4_14 HT.out rfl
        have y1:Tb<v14.heap.size:=AOR t_0
        go_wp2
        go_region
        go_wp2
        refine Kp fun A_15 v15 HX15 HG15 HW15=>?_
        clear c0 c1 c2 c3 c4 f0 f1 f2 f3 f4 y0 t_0 t_1 t_2 t_3 t_4 y1
        replace HB:=AK (Gd HW15.out (Rj (v:=.int .u64 A_15) HB.out))
        replace HZ:=AK (AF HG15.out HZ.out (by simp))
        replace HT:=AK (AF HG15.out HT.out (by simp[hTR]))
        replace HG:=AK (AE HG.out HG15.out (by rw[HRR.out];exact Nat.le_refl _))
        clear HG15 HW15
        go_wp2
        rw[rounds_succ]
        have c0:=AZ 0 A_15 HB.out rfl
        have c1:=AZ 1 B HB.out rfl
        have c2:=AZ 2 C_8 HB.out rfl
        have c3:=AZ 3 D HB.out rfl
        have c4:=AZ 4 E_7 HB.out rfl
        have f0:=Ax 0 HB.out
        have f1:=Ax 1 HB.out
        have f2:=Ax 2 HB.out
        have f3:=Ax 3 HB.out
        have f4:=Ax 4 HB.out
        have y0:R<v15.heap.size:=AOR c0
        have t_0:=AZ 0 T0_10 HT.out rfl
        have t_1:=AZ 1 T1_11 HT.out rfl
        have t_2:=AZ 2 T2_12 HT.out rfl
        have t_3:=AZ 3 T3_13 HT.out rfl
        have t_4:=AZ 4 T4_14 HT.out rfl
        have y1:Tb<v15.heap.size:=AOR t_0
        go_wp2
        go_region
        go_wp2
        refine Kp fun B_16 v16 HX16 HG16 HW16=>?_
        clear c0 c1 c2 c3 c4 f0 f1 f2 f3 f4 y0 t_0 t_1 t_2 t_3 t_4 y1
        replace HB:=AK (Gd HW16.out (ZT (v:=.int .u64 B_16) HB.out))
        replace HZ:=AK (AF HG16.out HZ.out (by simp))
        replace HT:=AK (AF HG16.out HT.out (by simp[hTR]))
        replace HG:=AK (AE HG.out HG16.out (by rw[HRR.out];exact Nat.le_refl _))
        clear HG16 HW16
        go_wp2
        as_aux_lemma =>
         rw[rounds_succ]
         have c0:=AZ 0 A_15 HB.out rfl
         have c1:=AZ 1 B_16 HB.out rfl
         have c2:=AZ 2 C_8 HB.out rfl
         have c3:=AZ 3 D HB.out rfl
         have c4:=AZ 4 E_7 HB.out rfl
         have f0:=Ax 0 HB.out
         have f1:=Ax 1 HB.out
         have f2:=Ax 2 HB.out
         have f3:=Ax 3 HB.out
         have f4:=Ax 4 HB.out
         have y0:R<v16.heap.size:=AOR c0
         have t_0:=AZ 0 T0_10 HT.out rfl
         have t_1:=AZ 1 T1_11 HT.out rfl
         have t_2:=AZ 2 T2_12 HT.out rfl
         have t_3:=AZ 3 T3_13 HT.out rfl
         have t_4:=AZ 4 T4_14 HT.out rfl
         have y1:Tb<v16.heap.size:=AOR t_0
         go_wp2
         go_region
         go_wp2
         refine Kp fun C_17 v17 HX17 HG17 HW17=>?_
         clear c0 c1 c2 c3 c4 f0 f1 f2 f3 f4 y0 t_0 t_1 t_2 t_3 t_4 y1
         replace HB:=AK (Gd HW17.out (Qm (v:=.int .u64 C_17) HB.out))
         replace HZ:=AK (AF HG17.out HZ.out (by simp))
         replace HT:=AK (AF HG17.out HT.out (by simp[hTR]))
         replace HG:=AK (AE HG.out HG17.out (by rw[HRR.out];exact Nat.le_refl _))
         clear HG17 HW17
         go_wp2
         rw[rounds_succ]
         have c0:=AZ 0 A_15 HB.out rfl
         have c1:=AZ 1 B_16 HB.out rfl
         have c2:=AZ 2 C_17 HB.out rfl
         have c3:=AZ 3 D HB.out rfl
         have c4:=AZ 4 E_7 HB.out rfl
         have f0:=Ax 0 HB.out
         have f1:=Ax 1 HB.out
         have f2:=Ax 2 HB.out
         have f3:=Ax 3 HB.out
         have f4:=Ax 4 HB.out
         have y0:R<v17.heap.size:=AOR c0
         have t_0:=AZ 0 T0_10 HT.out rfl
         have t_1:=AZ 1 T1_11 HT.out rfl
         have t_2:=AZ 2 T2_12 HT.out rfl
         have t_3:=AZ 3 T3_13 HT.out rfl
         have t_4:=AZ 4 T4_14 HT.out rfl
         have y1:Tb<v17.heap.size:=AOR t_0
         go_wp2
         go_region
         go_wp2
         refine Kp fun D_18 v18 HX18 HG18 HW18=>?_
         clear c0 c1 c2 c3 c4 f0 f1 f2 f3 f4 y0 t_0 t_1 t_2 t_3 t_4 y1
         replace HB:=AK (Gd HW18.out (ZU (v:=.int .u64 D_18) HB.out))
         replace HZ:=AK (AF HG18.out HZ.out (by simp))
         replace HT:=AK (AF HG18.out HT.out (by simp[hTR]))
         replace HG:=AK (AE HG.out HG18.out (by rw[HRR.out];exact Nat.le_refl _))
         clear HG18 HW18
         go_wp2
         as_aux_lemma =>
          rw[rounds_succ]
          have c0:=AZ 0 A_15 HB.out rfl
          have c1:=AZ 1 B_16 HB.out rfl
          have c2:=AZ 2 C_17 HB.out rfl
          have c3:=AZ 3 D_18 HB.out rfl
          have c4:=AZ 4 E_7 HB.out rfl
          have f0:=Ax 0 HB.out
          have f1:=Ax 1 HB.out
          have f2:=Ax 2 HB.out
          have f3:=Ax 3 HB.out
          have f4:=Ax 4 HB.out
          have y0:R<v18.heap.size:=AOR c0
          have t_0:=AZ 0 T0_10 HT.out rfl
          have t_1:=AZ 1 T1_11 HT.out rfl
          have t_2:=AZ 2 T2_12 HT.out rfl
          have t_3:=AZ 3 T3_13 HT.out rfl
          have t_4:=AZ 4 T4_14 HT.out rfl
          have y1:Tb<v18.heap.size:=AOR t_0
          go_wp2
          go_region
          go_wp2
          refine Kp fun E_19 v19 HX19 HG19 HW19=>?_
          clear c0 c1 c2 c3 c4 f0 f1 f2 f3 f4 y0 t_0 t_1 t_2 t_3 t_4 y1
          replace HB:=AK (Gd HW19.out (ZV (v:=.int .u64 E_19) HB.out))
          replace HZ:=AK (AF HG19.out HZ.out (by simp))
          replace HT:=AK (AF HG19.out HT.out (by simp[hTR]))
          replace HG:=AK (AE HG.out HG19.out (by rw[HRR.out];exact Nat.le_refl _))
          clear HG19 HW19
          go_wp2
          rw[rounds_succ]
          go_wp2
          refine HKl2.out _ _ ?_
          clear HKl2
          rename_i Ka ha
          clear ha
          clear HT hTR hRT hTZ hTw
          have c0:=AZ 0 A_15 HB.out rfl
          have c1:=AZ 1 B_16 HB.out rfl
          have c2:=AZ 2 C_17 HB.out rfl
          have c3:=AZ 3 D_18 HB.out rfl
          have c4:=AZ 4 E_19 HB.out rfl
          have f0:=Ax 0 HB.out
          have f1:=Ax 1 HB.out
          have f2:=Ax 2 HB.out
          have f3:=Ax 3 HB.out
          have f4:=Ax 4 HB.out
          have y0:R<v19.heap.size:=AOR c0
          refine AOQ fun K20 k20=>?_
          have HK20:=AK k20
          clear k20
          go_wp2
          refine Ew fun B_20 v20 HX20 HG20 HW20=>?_
          clear c0 c1 c2 c3 c4 f0 f1 f2 f3 f4 y0
          replace HB:=AK (ZT (v:=.int .u64 B_20) HB.out)
          rw[←HW20.out] at HB
          replace HZ:=AK (AF HG20.out HZ.out (by simp))
          replace HG:=AK (AE HG.out HG20.out (by rw[HRR.out];exact Nat.le_refl _))
          clear HG20 HW20
          as_aux_lemma =>
           refine HK20.out _ _ ?_
           clear HK20
           have c0:=AZ 0 A_15 HB.out rfl
           have c1:=AZ 1 B_20 HB.out rfl
           have c2:=AZ 2 C_17 HB.out rfl
           have c3:=AZ 3 D_18 HB.out rfl
           have c4:=AZ 4 E_19 HB.out rfl
           have f0:=Ax 0 HB.out
           have f1:=Ax 1 HB.out
           have f2:=Ax 2 HB.out
           have f3:=Ax 3 HB.out
           have f4:=Ax 4 HB.out
           have y0:R<v20.heap.size:=AOR c0
           refine AOQ fun K21 k21=>?_
           have HK21:=AK k21
           clear k21
           go_wp2
           refine Ew fun A_21 v21 HX21 HG21 HW21=>?_
           clear c0 c1 c2 c3 c4 f0 f1 f2 f3 f4 y0
           replace HB:=AK (Rj (v:=.int .u64 A_21) HB.out)
           rw[←HW21.out] at HB
           replace HZ:=AK (AF HG21.out HZ.out (by simp))
           replace HG:=AK (AE HG.out HG21.out (by rw[HRR.out];exact Nat.le_refl _))
           clear HG21 HW21
           refine HK21.out _ _ ?_
           clear HK21
           have c0:=AZ 0 A_21 HB.out rfl
           have c1:=AZ 1 B_20 HB.out rfl
           have c2:=AZ 2 C_17 HB.out rfl
           have c3:=AZ 3 D_18 HB.out rfl
           have c4:=AZ 4 E_19 HB.out rfl
           have f0:=Ax 0 HB.out
           have f1:=Ax 1 HB.out
           have f2:=Ax 2 HB.out
           have f3:=Ax 3 HB.out
           have f4:=Ax 4 HB.out
           have y0:R<v21.heap.size:=AOR c0
           refine AOQ fun K22 k22=>?_
           have HK22:=AK k22
           clear k22
           go_wp2
           refine Ew fun D_22 v22 HX22 HG22 HW22=>?_
           clear c0 c1 c2 c3 c4 f0 f1 f2 f3 f4 y0
           replace HB:=AK (ZU (v:=.int .u64 D_22) HB.out)
           rw[←HW22.out] at HB
           replace HZ:=AK (AF HG22.out HZ.out (by simp))
           replace HG:=AK (AE HG.out HG22.out (by rw[HRR.out];exact Nat.le_refl _))
           clear HG22 HW22
           refine HK22.out _ _ ?_
           clear HK22
           have c0:=AZ 0 A_21 HB.out rfl
           have c1:=AZ 1 B_20 HB.out rfl
           have c2:=AZ 2 C_17 HB.out rfl
           have c3:=AZ 3 D_22 HB.out rfl
           have c4:=AZ 4 E_19 HB.out rfl
           have f0:=Ax 0 HB.out
           have f1:=Ax 1 HB.out
           have f2:=Ax 2 HB.out
           have f3:=Ax 3 HB.out
           have f4:=Ax 4 HB.out
           have y0:R<v22.heap.size:=AOR c0
           refine AOQ fun K23 k23=>?_
           have HK23:=AK k23
           clear k23
           go_wp2
           refine Ew fun C_23 v23 HX23 HG23 HW23=>?_
           clear c0 c1 c2 c3 c4 f0 f1 f2 f3 f4 y0
           replace HB:=AK (Qm (v:=.int .u64 C_23) HB.out)
           rw[←HW23.out] at HB
           replace HZ:=AK (AF HG23.out HZ.out (by simp))
           replace HG:=AK (AE HG.out HG23.out (by rw[HRR.out];exact Nat.le_refl _))
           clear HG23 HW23
           refine HK23.out _ _ ?_
           clear HK23
           refine AOQ fun K24 k24=>?_
           have HK24:=AK k24
           clear k24
           have y0:R<v23.heap.size:=AOR (by rw[AOS _ _ _ _ _ _ HB.out];rfl:v23.cell? ⟨R,0,none⟩=some (.int .u64 A_21))
           have y2:R+1<v23.heap.size:=AOR (by rw[AOS _ _ _ _ _ _ HZ.out];rfl:v23.cell? ⟨R+1,0,none⟩=some (.int .u64 0))
           go_wp2_with (first|(refine Bw rfl 160 _ rfl #[(0,.int .i64 19),(1,.int .i64 61),(2,.int .i64 1),(3,.int .i64 10),(4,.int .i64 7)] (by simp only[List.map_toArray,List.map_cons,List.map_nil,Act.eval]) (bI5 19 61 1 10 7 _) ?_)|(refine AY rfl 160 (.tmp 7) (.tmp 93) rfl rfl rfl (AMF 19 61 1 10 7) (Ak rfl) rfl ?_;intro v24 g2 h2;have HG24:=AK (AE (World.grownBy_alloc _ _ _) g2 (Nat.le_refl _));have HAb:=AK h2;clear g2 h2)|fail)
           obtain⟨Aqb,hAb⟩:∃b,b=v23.heap.size:=⟨_,rfl⟩
           rw[←hAb] at HAb ⊢
           have hAR:¬Aqb=R:=by omega
           have HAq:=AK hAb
           clear hAb y0 y2
           replace HB:=AK (AF HG24.out HB.out (by simp))
           replace HZ:=AK (AF HG24.out HZ.out (by simp))
           replace HG:=AK (AA HG.out HG24.out)
           clear HG24 HAq
           refine HK24.out _ _ ?_
           clear HK24
           as_aux_lemma =>
            refine AOQ fun K25 k25=>?_
            have HK25:=AK k25
            clear k25
            have y0:R<v24.heap.size:=AOR (by rw[AOS _ _ _ _ _ _ HB.out];rfl:v24.cell? ⟨R,0,none⟩=some (.int .u64 A_21))
            have y2:R+1<v24.heap.size:=AOR (by rw[AOS _ _ _ _ _ _ HZ.out];rfl:v24.cell? ⟨R+1,0,none⟩=some (.int .u64 0))
            go_wp2_with (first|(refine Bw rfl 160 _ rfl #[(0,.int .i64 28),(1,.int .i64 39),(2,.int .i64 6),(3,.int .i64 17),(4,.int .i64 41)] (by simp only[List.map_toArray,List.map_cons,List.map_nil,Act.eval]) (bI5 28 39 6 17 41 _) ?_)|(refine AY rfl 160 (.tmp 8) (.tmp 94) rfl rfl rfl (AMF 28 39 6 17 41) (Ak rfl) rfl ?_;intro v25 g2 h2;have HG25:=AK (AE (World.grownBy_alloc _ _ _) g2 (Nat.le_refl _));have HBb:=AK h2;clear g2 h2)|fail)
            obtain⟨Bqb,hBb⟩:∃b,b=v24.heap.size:=⟨_,rfl⟩
            rw[←hBb] at HBb ⊢
            have hBR:¬Bqb=R:=by omega
            have HBq:=AK hBb
            clear hBb y0 y2
            replace HB:=AK (AF HG25.out HB.out (by simp))
            replace HZ:=AK (AF HG25.out HZ.out (by simp))
            replace HAb:=AK (AF HG25.out HAb.out (by simp))
            replace HG:=AK (AA HG.out HG25.out)
            clear HG25 HBq
            refine HK25.out _ _ ?_
            clear HK25
            obtain⟨e0,e1,e2,e3,e4⟩:=AGZ hlt S HA.out HBB.out HC.out HD.out HE.out HX5.out HX6.out HX7.out HX8.out ⟨HX10.out,HX11.out,HX12.out,HX13.out,HX14.out⟩ HX15.out HX16.out HX17.out HX18.out HX19.out HX20.out HX21.out HX22.out HX23.out
            have HP0:=AK e0
            have HP1:=AK e1
            have HP2:=AK e2
            have HP3:=AK e3
            have HP4:=AK e4
            clear e0 e1 e2 e3 e4 HX5 HX6 HX7 HX8 HX10 HX11 HX12 HX13 HX14 HX15 HX16 HX17 HX18 HX19 HX20 HX21 HX22 HX23
            as_aux_lemma =>
             go_wp2
             refine wp_loop_rounds 6 ?_
             rw[rounds_succ]
             have c0:=AZ 0 A_21 HB.out rfl
             have f0:=Ax 0 HB.out
             have y0:R<v25.heap.size:=AOR c0
             have a_0:v25.cell? ⟨Aqb,0,none⟩=some (.int .i64 19):=by rw[AOS _ _ _ _ _ _ HAb.out];rfl
             have ya:Aqb<v25.heap.size:=AOR a_0
             have b_0:v25.cell? ⟨Bqb,0,none⟩=some (.int .i64 28):=by rw[AOS _ _ _ _ _ _ HBb.out];rfl
             have yb:Bqb<v25.heap.size:=AOR b_0
             go_wp2
             refine CJ 20 (by kernel_rfl) (by kernel_rfl) ?_
             simp only[List.take_succ_cons,List.take_zero,List.drop_succ_cons,List.drop_zero]
             repeat (quiet_step (fail))
             quiet_step ((exact Calls.quiet_of (FX _ HP0.out 19 _ rfl (by decide) _)))
             repeat (quiet_step (fail))
             quiet_step ((exact Calls.quiet_of (FX _ HP0.out 28 _ rfl (by decide) _)))
             repeat (quiet_step (fail))
             refine wpQuiet_nil ?_
             intro _ hwq
             obtain⟨nq,hwq⟩:=hwq
             subst hwq
             go_wp2
             refine Rk fun A_26 v26 HX26 HG26 HW26=>?_
             clear c0 f0 y0 a_0 ya b_0 yb
             replace HB:=AK (LM HW26.out (Rj (v:=.int .u64 A_26) (w:=v25.drewN _) HB.out))
             replace HZ:=AK (AF HG26.out HZ.out (by simp))
             replace HAb:=AK (AF HG26.out HAb.out (by simp[hAR]))
             replace HBb:=AK (AF HG26.out HBb.out (by simp[hBR]))
             replace HG:=AK (AE HG.out HG26.out (by rw[HRR.out];exact Nat.le_refl _))
             clear HG26 HW26
             go_wp2
             as_aux_lemma =>
              rw[rounds_succ]
              have c1:=AZ 1 B_20 HB.out rfl
              have f1:=Ax 1 HB.out
              have y0:R<v26.heap.size:=AOR c1
              have a_1:v26.cell? ⟨Aqb,1,none⟩=some (.int .i64 61):=by rw[AOS _ _ _ _ _ _ HAb.out];rfl
              have ya:Aqb<v26.heap.size:=AOR a_1
              have b_1:v26.cell? ⟨Bqb,1,none⟩=some (.int .i64 39):=by rw[AOS _ _ _ _ _ _ HBb.out];rfl
              have yb:Bqb<v26.heap.size:=AOR b_1
              go_wp2
              refine CJ 20 (by kernel_rfl) (by kernel_rfl) ?_
              simp only[List.take_succ_cons,List.take_zero,List.drop_succ_cons,List.drop_zero]
              repeat (quiet_step (fail))
              quiet_step ((exact Calls.quiet_of (FX _ HP1.out 61 _ rfl (by decide) _)))
              repeat (quiet_step (fail))
              quiet_step ((exact Calls.quiet_of (FX _ HP1.out 39 _ rfl (by decide) _)))
              repeat (quiet_step (fail))
              refine wpQuiet_nil ?_
              intro _ hwq
              obtain⟨nq,hwq⟩:=hwq
              subst hwq
              go_wp2
              refine Rk fun B_27 v27 HX27 HG27 HW27=>?_
              clear c1 f1 y0 a_1 ya b_1 yb
              replace HB:=AK (LM HW27.out (ZT (v:=.int .u64 B_27) (w:=v26.drewN _) HB.out))
              replace HZ:=AK (AF HG27.out HZ.out (by simp))
              replace HAb:=AK (AF HG27.out HAb.out (by simp[hAR]))
              replace HBb:=AK (AF HG27.out HBb.out (by simp[hBR]))
              replace HG:=AK (AE HG.out HG27.out (by rw[HRR.out];exact Nat.le_refl _))
              clear HG27 HW27
              go_wp2
              rw[rounds_succ]
              have c2:=AZ 2 C_23 HB.out rfl
              have f2:=Ax 2 HB.out
              have y0:R<v27.heap.size:=AOR c2
              have a_2:v27.cell? ⟨Aqb,2,none⟩=some (.int .i64 1):=by rw[AOS _ _ _ _ _ _ HAb.out];rfl
              have ya:Aqb<v27.heap.size:=AOR a_2
              have b_2:v27.cell? ⟨Bqb,2,none⟩=some (.int .i64 6):=by rw[AOS _ _ _ _ _ _ HBb.out];rfl
              have yb:Bqb<v27.heap.size:=AOR b_2
              go_wp2
              refine CJ 20 (by kernel_rfl) (by kernel_rfl) ?_
              simp only[List.take_succ_cons,List.take_zero,List.drop_succ_cons,List.drop_zero]
              repeat (quiet_step (fail))
              quiet_step ((exact Calls.quiet_of (FX _ HP2.out 1 _ rfl (by decide) _)))
              repeat (quiet_step (fail))
              quiet_step ((exact Calls.quiet_of (FX _ HP2.out 6 _ rfl (by decide) _)))
              repeat (quiet_step (fail))
              refine wpQuiet_nil ?_
              intro _ hwq
              obtain⟨nq,hwq⟩:=hwq
              subst hwq
              go_wp2
              refine Rk fun C_28 v28 HX28 HG28 HW28=>?_
              clear c2 f2 y0 a_2 ya b_2 yb
              replace HB:=AK (LM HW28.out (Qm (v:=.int .u64 C_28) (w:=v27.drewN _) HB.out))
              replace HZ:=AK (AF HG28.out HZ.out (by simp))
              replace HAb:=AK (AF HG28.out HAb.out (by simp[hAR]))
              replace HBb:=AK (AF HG28.out HBb.out (by simp[hBR]))
              replace HG:=AK (AE HG.out HG28.out (by rw[HRR.out];exact Nat.le_refl _))
              clear HG28 HW28
              go_wp2
              as_aux_lemma =>
               rw[rounds_succ]
               have c3:=AZ 3 D_22 HB.out rfl
               have f3:=Ax 3 HB.out
               have y0:R<v28.heap.size:=AOR c3
               have a_3:v28.cell? ⟨Aqb,3,none⟩=some (.int .i64 10):=by rw[AOS _ _ _ _ _ _ HAb.out];rfl
               have ya:Aqb<v28.heap.size:=AOR a_3
               have b_3:v28.cell? ⟨Bqb,3,none⟩=some (.int .i64 17):=by rw[AOS _ _ _ _ _ _ HBb.out];rfl
               have yb:Bqb<v28.heap.size:=AOR b_3
               go_wp2
               refine CJ 20 (by kernel_rfl) (by kernel_rfl) ?_
               simp only[List.take_succ_cons,List.take_zero,List.drop_succ_cons,List.drop_zero]
               repeat (quiet_step (fail))
               quiet_step ((exact Calls.quiet_of (FX _ HP3.out 10 _ rfl (by decide) _)))
               repeat (quiet_step (fail))
               quiet_step ((exact Calls.quiet_of (FX _ HP3.out 17 _ rfl (by decide) _)))
               repeat (quiet_step (fail))
               refine wpQuiet_nil ?_
               intro _ hwq
               obtain⟨nq,hwq⟩:=hwq
               subst hwq
               go_wp2
               refine Rk fun D_29 v29 HX29 HG29 HW29=>?_
               clear c3 f3 y0 a_3 ya b_3 yb
               replace HB:=AK (LM HW29.out (ZU (v:=.int .u64 D_29) (w:=v28.drewN _) HB.out))
               replace HZ:=AK (AF HG29.out HZ.out (by simp))
               replace HAb:=AK (AF HG29.out HAb.out (by simp[hAR]))
               replace HBb:=AK (AF HG29.out HBb.out (by simp[hBR]))
               replace HG:=AK (AE HG.out HG29.out (by rw[HRR.out];exact Nat.le_refl _))
               clear HG29 HW29
               go_wp2
               rw[rounds_succ]
               have c4:=AZ 4 E_19 HB.out rfl
               have f4:=Ax 4 HB.out
               have y0:R<v29.heap.size:=AOR c4
               have a_4:v29.cell? ⟨Aqb,4,none⟩=some (.int .i64 7):=by rw[AOS _ _ _ _ _ _ HAb.out];rfl
               have ya:Aqb<v29.heap.size:=AOR a_4
               have b_4:v29.cell? ⟨Bqb,4,none⟩=some (.int .i64 41):=by rw[AOS _ _ _ _ _ _ HBb.out];rfl
               have yb:Bqb<v29.heap.size:=AOR b_4
               go_wp2
               refine CJ 20 (by kernel_rfl) (by kernel_rfl) ?_
               simp only[List.take_succ_cons,List.take_zero,List.drop_succ_cons,List.drop_zero]
               repeat (quiet_step (fail))
               quiet_step ((exact Calls.quiet_of (FX _ HP4.out 7 _ rfl (by decide) _)))
               repeat (quiet_step (fail))
               quiet_step ((exact Calls.quiet_of (FX _ HP4.out 41 _ rfl (by decide) _)))
               repeat (quiet_step (fail))
               refine wpQuiet_nil ?_
               intro _ hwq
               obtain⟨nq,hwq⟩:=hwq
               subst hwq
               go_wp2
               refine Rk fun E_30 v30 HX30 HG30 HW30=>?_
               clear c4 f4 y0 a_4 ya b_4 yb
               replace HB:=AK (LM HW30.out (ZV (v:=.int .u64 E_30) (w:=v29.drewN _) HB.out))
               replace HZ:=AK (AF HG30.out HZ.out (by simp))
               replace HAb:=AK (AF HG30.out HAb.out (by simp[hAR]))
               replace HBb:=AK (AF HG30.out HBb.out (by simp[hBR]))
               replace HG:=AK (AE HG.out HG30.out (by rw[HRR.out];exact Nat.le_refl _))
               clear HG30 HW30
               go_wp2
               as_aux_lemma =>
                rw[rounds_succ]
                go_wp2
                have HM0:=AK (Rl HX26.out HP0.out)
                have HM1:=AK (Rl HX27.out HP1.out)
                have HM2:=AK (Rl HX28.out HP2.out)
                have HM3:=AK (Rl HX29.out HP3.out)
                have HM4:=AK (Rl HX30.out HP4.out)
                rw[HM0.out,HM1.out,HM2.out,HM3.out,HM4.out] at HB
                refine HK3.out _ _ ?_
                go_wp2
                go_roundw
                case rel=>exact⟨k+1,rnd k S,by omega,by go_num,AK (by rw[HS.out];exact(WC k s).symm),HG,HZ,HB⟩
                case measure=>simp[intOf];omega
  · obtain rfl:k=12:=by omega
    have t1:decide (((12:Nat):Int)<12)=false:=by decide
    have c0:=AZ 0 (wi S.a) HB.out rfl
    have c1:=AZ 1 (wi S.b) HB.out rfl
    have c2:=AZ 2 (wi S.c) HB.out rfl
    have c3:=AZ 3 (wi S.d) HB.out rfl
    have c4:=AZ 4 (wi S.e) HB.out rfl
    have z0:=AZ 0 0 HZ.out rfl
    have f0:=Ax 0 HZ.out
    have z1:=AZ 1 0 HZ.out rfl
    have f1:=Ax 1 HZ.out
    have z2:=AZ 2 0 HZ.out rfl
    have f2:=Ax 2 HZ.out
    have z3:=AZ 3 0 HZ.out rfl
    have f3:=Ax 3 HZ.out
    have z4:=AZ 4 0 HZ.out rfl
    have f4:=Ax 4 HZ.out
    clear z0 z1 z2 z3 z4 f0 f1 f2 f3 f4 c0 c1 c2 c3 c4
    go_wp2_with (first
     | (refine CP rfl 105 (.tmp 1) rfl rfl (KP S) HB.out ?_)
     | (refine AY rfl 105 (.tmp 2) (.tmp 120) rfl rfl rfl (KP S) HZ.out rfl ?_;intro w2 g2 h2;have G2:=AK g2;have H2:=AK h2;clear g2 h2)
     | fail)
    have hP:S=Jm s:=HS.out
    subst hP
    exact CU (b:=R+1) rfl rfl (KP (Jm s)) H2.out rfl ⟨rfl,AE HG.out G2.out (by rw[HRR.out];exact Nat.le_succ _)⟩
end Go.Proofs.YtbfjfnbcmojpiaaGreat
