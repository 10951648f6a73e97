import Derived.Test.YtbfjfnbcmojpiaaGreatDaVE
import Derived.Test.YtbfjfnbcmojpiaaGreatDaMK6
import Derived.Test.YtbfjfnbcmojpiaaGreatDaV3
set_option linter.unusedSimpArgs false
set_option linter.unusedVariables false
set_option maxRecDepth 100000
set_option maxHeartbeats 4000000
namespace Go.Proofs.YtbfjfnbcmojpiaaGreat
open Go.RowKit Go.Shelf
theorem AM0 (n:Int) (w:World):(Instr.build 25 #[(0,.int .i64 1),(1,.int .i64 n)]).run Tryz.prog w=.ok (Br ⟨1,n,⟨#[]⟩⟩) w:=by kernel_rfl
def KV (n:Int):V:=(⟨1,n,⟨#[]⟩⟩:V).clean
def JO (x:V) (n:Int) (b:Bool) (a:Int):Value:=.agg ([vc x,[.int .i64 n],[.bool b],[.int .i64 a]].flatten).toArray
theorem AKx (s:ByteArray):TY Tryz.prog 9 [.string s] (.string s):=TY.one' Tryz.underlying9 rfl (by kernel_rfl) rfl
theorem AEs {P:Program} {ops:Array Oper} {L:Nat→Sp} {n:Nat} {w0:World} {o:Oper} {x:Operand} {t:TypeId} {d:Nat} {s:ByteArray} (he:P.underlying t=some .string) (ho:o.op=.call { callee:=.builtin .len,args:=#[x],argTypes:=#[t] }) (hd:o.dst=some d) (hg:GX ops L n o.guard) (hx:OpX L n x (.string s)) (h:∀w,(L d).on w (.int .i64 s.size)):OX P ops L n w0 o:=
 Fv hg fun a w hw hl hsz=>⟨.int .i64 s.size,by
  have e:=hx.eval (o:=o) (a:=a) (w:=w) (by simp[ho,Op.operands,Call.operands]) hl
  simp only[execOp,ho,resolve,Sem.run_bind,Sem.run_pure,Result.andThen_ok,List.map_toArray,List.map_cons,List.map_nil,e]
  simp[invoke,builtin,Builtin.len_,run_underlying he,goInt],Da hd (h w)⟩
theorem AM1 (x:V):TY Tryz.prog 25 ([[.int .i64 x.kind],[.int .i64 x.int],[.string x.text]].flatten) (Br x):=C6 x
def Yz (n:Int):Int:=bits .and .i64 n 17179869183
theorem AKy (m:Nat) (hm:m<9223372036854775808) (n:Int) (h63:(BitVec.ofInt 64 (m:Int)).toNat=m):∃k:Nat,k≤m∧bits .and .i64 n (m:Int)=(k:Int):=by
 have h:bits .and .i64 n (m:Int)=IntKind.i64.wrap (((BitVec.ofInt 64 n) &&& (BitVec.ofInt 64 (m:Int))).toNat:Int):=rfl
 have h2:((BitVec.ofInt 64 n) &&& (BitVec.ofInt 64 (m:Int))).toNat≤m:=by rw[BitVec.toNat_and,h63];exact Nat.and_le_right
 exact⟨_,h2,by rw[h];exact BT (by omega) (by omega)⟩
theorem Qf (n:Int):Ci (Yz n)=true:=by
 obtain⟨k,hk,e⟩:=AKy 17179869183 (by decide) n (by decide)
 have e':Yz n=(k:Int):=e
 rw[e']
 unfold Ci
 rw[decide_eq_true (by omega),decide_eq_true (by omega)]
 rfl
theorem AGM (x:V) (n:Int) (b:Bool) (a:Int):TY Tryz.prog 27 ([vc x,[.int .i64 n],[.bool b],[.int .i64 a]].flatten) (JO x n b a):=by
 refine TY.agg Tryz.underlying27 rfl (by kernel_rfl) ?_
 intro c hc
 simp[vc] at hc
 rcases hc with rfl|rfl|rfl|rfl|rfl|rfl<;>rfl
theorem AEt {P:Program} {a c:Int} {t:TypeId} {x y:Operand} {w:World} (i:Nat) (hi:i<64) (h:a/2^i=c):(do eqGuard .shr t x y (.int .i64 a) (.int .u64 (i:Int));binOp .shr t (.int .i64 a) (.int .u64 (i:Int)):Sem Value).run P w=.ok (.int .i64 c) w:=by
 subst h
 have h1:min i IntKind.i64.bits=i:=Nat.min_eq_left (by show i≤64;omega)
 simp[eqGuard,binOp_shr,shift_shr_any,h1]
def LD (n:Nat):List Nat:=(n%6)::(zs 30++[7*(n%6)])
theorem PZ (n:Nat):Dg (LD n):=by
 refine⟨rfl,fun x hx=>?_⟩
 simp[LD,zs] at hx
 omega
theorem AEu {n:Nat} (h:n<6):LD n=n::(zs 30++[7*n]):=by unfold LD;rw[Nat.mod_eq_of_lt h]
def Qg (n:Nat):DD:=⟨LD n,PZ n⟩
def ACC (n:Int) (i:Nat):Int:=bits .and .i64 (n/2^i) 1
def Gb (n:Int):Nat→List DD
 | 0=>[]
 | i+1=>if ACC n i=1 then Gb n i++[Qg i] else Gb n i
theorem Rh (n:Int):∀i,(Gb n i).length≤i
 | 0=>Nat.le_refl _
 | i+1=>by
  have:=Rh n i
  unfold Gb
  split<;>simp<;>omega
def jt (b:Bool):Int:=if b then 1 else 0
theorem ADo (x:V) (b:Bool) (hb:decide (x.text.size≤100)=b) (w:World) :
   Calls Tryz.prog 12 #[Br x] w fun e w'=>e=.returned (.bool b)∧w.grownBy w' none:=by
 refine BV Tryz.func12 rfl Tryz.ntmps12 rfl fun a0 sv0=>?_
 have HG:=World.grownBy.refl w none
 replace sv0:Sv 7 [] [(0,Br x)] a0:=sv0
 refine AOQ fun K1 k1=>?_
 refine AOP ?_
 refine Bi sv0 r6 (AM1 x) fun a2 w2 B8 Gx g2 z2 Ac sv2=>?_
 replace HG:=AA HG g2
 refine AS (v:=.bool false) sv2 r6 fun a3 sv3=>?_
 refine AD ?_
 refine k1 _ _ ?_
 refine AOQ fun K4 k4=>?_
 cases b
 · refine AOP ?_
   refine AH sv3 4 [(3,pk B8 2),(4,.string x.text),(5,.int .i64 ((x.text.size:Nat))),(6,.bool false)]
    ⟨yf r6 (fun _=>by kernel_rfl),yp (i:=2) r6 (AKx x.text) Ac rfl rfl,AEs (Tryz.underlying9) rfl rfl trivial (oy rfl rfl) (fun _=>rfl),Ce r6 (fun _=>Jv (by rw[←hb];exact decide_eq_decide.2 (by omega))),AOW⟩ fun a5 w5 g5 sv5=>?_
   refine AS (v:=.bool false) sv5 r6 fun a6 sv6=>?_
   have sv7:Sv _ _ [_,_] _:=sv6.dl [3,4,5,6,1]
   refine AD ?_
   refine k4 _ _ ?_
   replace Ac:=AC g5 Ac
   replace HG:=AA HG g5
   refine AOT ?_
   repeat refine AM ?_
   refine Ap (fn:=Tryz.f12) sv7 (BK (p:=2) Tryz.results12 sv7 rfl rfl) ?_
   exact⟨rfl,HG⟩
 · refine AOP ?_
   refine AH sv3 4 [(3,pk B8 2),(4,.string x.text),(5,.int .i64 ((x.text.size:Nat))),(6,.bool true)]
    ⟨yf r6 (fun _=>by kernel_rfl),yp (i:=2) r6 (AKx x.text) Ac rfl rfl,AEs (Tryz.underlying9) rfl rfl trivial (oy rfl rfl) (fun _=>rfl),Ce r6 (fun _=>Jv (by rw[←hb];exact decide_eq_decide.2 (by omega))),AOW⟩ fun a8 w8 g8 sv8=>?_
   refine AS (v:=.bool true) sv8 r6 fun a9 sv9=>?_
   have Bt:Sv _ _ [_,_] _:=sv9.dl [3,4,5,6,1]
   refine AD ?_
   refine k4 _ _ ?_
   replace HG:=AA HG g8
   refine AOT ?_
   repeat refine AM ?_
   refine Ap (fn:=Tryz.f12) Bt (BK (p:=2) Tryz.results12 Bt rfl rfl) ?_
   exact⟨rfl,HG⟩
theorem Tw (n:Nat) (hn:n<6) (w:World) :
  Calls Tryz.prog 30 #[.int .i64 ((n:Int))] w fun e w'=>e=.returned (AQ (LD n))∧w.grownBy w' none:=by
 have hdg:Dg (n::(zs 30++[7*n])):=AEu hn▸PZ n
 rw[AEu hn]
 refine BV Tryz.func30 rfl Tryz.ntmps30 rfl fun a0 sv0=>?_
 have HG:=World.grownBy.refl w none
 replace sv0:Sv 9 [] [(0,.int .i64 ((n:Int)))] a0:=sv0
 refine AOQ fun K1 k1=>?_
 refine AOP ?_
 refine A9 (T:=23) (Z:=(bv AR)) sv0 rfl rfl rfl (fun a w=>by kernel_rfl) fun a2 w2 Cp Dt g2 z2 AJ sv2=>?_
 have GD:=Bq HG Dt
 refine AD ?_
 refine k1 _ _ ?_
 refine AOQ fun K3 k3=>?_
 refine AOP ?_
 refine AH sv2 6 [(3,.int .i64 ((n:Int))),(4,.int .u8 ((n:Int))),(5,.int .i64 ((n:Int))),(6,.int .i64 (((7*n:Nat):Int))),(7,.int .u8 (((7*n:Nat):Int))),(8,AQ ((n::(zs 30++[7*n]))))]
  ⟨ym r5,Hu r6 (fun _=>Hv Tryz.underlying3 Tryz.underlying5 (AEN (by omega) (by omega))),ym r5,Mp rfl rfl trivial rfl (oy rfl rfl) (fun _=>ALV (by rw[BT (by omega) (by omega)];omega)) (fun _=>rfl),Hu r6 (fun _=>Hv Tryz.underlying3 Tryz.underlying5 (AEN (by omega) (by omega))),BG (vs:=[.int .u8 ((n:Int)),.int .u8 (((7*n:Nat):Int))]) rfl rfl trivial ⟨(oy rfl rfl),(oy rfl rfl),AOW⟩ (fun _=>ANU n (7*n) _) (fun _=>rfl),AOW⟩ fun a4 w4 g4 sv4=>?_
 refine Aq sv4 r7 (Bb ((n::(zs 30++[7*n]))) hdg.1) (AC g4 AJ) (EM hdg) fun w5 g5 h5=>?_
 replace HG:=AE (AA (AA HG g2) g4) g5 GD
 replace AJ:=h5
 have sv6:Sv _ _ [_] _:=sv4.dl [3,4,5,6,7,8,0]
 refine AD ?_
 refine k3 _ _ ?_
 refine AOT ?_
 repeat refine AM ?_
 refine Ap (fn:=Tryz.f30) sv6 (EE (p:=2) Tryz.results30 sv6 rfl rfl (Bb ((n::(zs 30++[7*n]))) hdg.1) AJ) ?_
 exact⟨rfl,HG⟩
theorem ADp (x:V) (n a:Int) (w:World) :
  Calls Tryz.prog 18 #[JO x n true a] w fun e w'=>e=.returned (.int .i64 1)∧w.grownBy w' none:=by
 refine BV Tryz.func18 rfl Tryz.ntmps18 rfl fun a0 sv0=>?_
 have HG:=World.grownBy.refl w none
 replace sv0:Sv 5 [] [(0,JO x n true a)] a0:=sv0
 refine AOQ fun K1 k1=>?_
 refine AOP ?_
 refine Bi sv0 r6 (AGM x n true a) fun a2 w2 B8 Gx g2 z2 Ac sv2=>?_
 refine AS (v:=.int .i64 0) sv2 r6 fun a3 sv3=>?_
 refine AD ?_
 refine k1 _ _ ?_
 refine AOQ fun K4 k4=>?_
 refine AOQ fun K5 k5=>?_
 refine AOP ?_
 refine AH sv3 2 [(3,pk B8 4),(4,.bool true)]
  ⟨yf r6 (fun _=>by kernel_rfl),yp (i:=2) r6 (ACf true) Ac rfl rfl,AOW⟩ fun a6 w6 g6 sv6=>?_
 refine AD ?_
 refine k5 _ _ ?_
 refine Am sv6 rfl rfl ?_
 refine AOQ fun K7 k7=>?_
 refine AOP ?_
 refine AS (v:=.int .i64 1) sv6 r6 fun a8 sv8=>?_
 refine AD ?_
 refine k7 _ _ ?_
 replace HG:=AA (AA HG g2) g6
 refine AOT ?_
 repeat refine AM ?_
 refine Ap (fn:=Tryz.f18) sv8 (BK (p:=2) Tryz.results18 sv8 rfl rfl) ?_
 exact⟨rfl,HG⟩
theorem ACD (x:V) (n a:Int) (w:World) :
  Calls Tryz.prog 18 #[JO x n false a] w fun e w'=>e=.returned (.int .i64 0)∧w.grownBy w' none:=by
 refine BV Tryz.func18 rfl Tryz.ntmps18 rfl fun a0 sv0=>?_
 have HG:=World.grownBy.refl w none
 replace sv0:Sv 5 [] [(0,JO x n false a)] a0:=sv0
 refine AOQ fun K1 k1=>?_
 refine AOP ?_
 refine Bi sv0 r6 (AGM x n false a) fun a2 w2 B8 Gx g2 z2 Ac sv2=>?_
 refine AS (v:=.int .i64 0) sv2 r6 fun a3 sv3=>?_
 refine AD ?_
 refine k1 _ _ ?_
 refine AOQ fun K4 k4=>?_
 refine AOQ fun K5 k5=>?_
 refine AOP ?_
 refine AH sv3 2 [(3,pk B8 4),(4,.bool false)]
  ⟨yf r6 (fun _=>by kernel_rfl),yp (i:=2) r6 (ACf false) Ac rfl rfl,AOW⟩ fun a6 w6 g6 sv6=>?_
 refine AD ?_
 refine k5 _ _ ?_
 refine Au sv6 rfl rfl ?_
 refine AOU ?_
 refine k4 _ _ ?_
 refine AOQ fun K7 k7=>?_
 refine AOP ?_
 refine AS (v:=.int .i64 0) sv6 r6 fun a8 sv8=>?_
 refine AD ?_
 refine k7 _ _ ?_
 replace HG:=AA (AA HG g2) g6
 refine AOT ?_
 repeat refine AM ?_
 refine Ap (fn:=Tryz.f18) sv8 (BK (p:=2) Tryz.results18 sv8 rfl rfl) ?_
 exact⟨rfl,HG⟩
theorem ADq (x:V) (n:Int) (b:Bool) (a:Int) (w:World):Calls Tryz.prog 18 #[JO x n b a] w fun e w'=>e=.returned (.int .i64 (jt b))∧w.grownBy w' none:=by
 cases b
 · exact ACD x n a w
 · exact ADp x n a w
theorem AGN (x:V) (n:Int) (b:Bool) (a:Int) (w:World) :
  Calls Tryz.prog 19 #[JO x n b a] w fun e w'=>e=.returned (.int .i64 (Yz a))∧w.grownBy w' none:=by
 refine BV Tryz.func19 rfl Tryz.ntmps19 rfl fun a0 sv0=>?_
 have HG:=World.grownBy.refl w none
 replace sv0:Sv 6 [] [(0,JO x n b a)] a0:=sv0
 refine AOQ fun K1 k1=>?_
 refine AOP ?_
 refine Bi sv0 r6 (AGM x n b a) fun a2 w2 B8 Gx g2 z2 Ac sv2=>?_
 refine AS (v:=.int .i64 0) sv2 r6 fun a3 sv3=>?_
 refine AD ?_
 refine k1 _ _ ?_
 refine AOQ fun K4 k4=>?_
 refine AOP ?_
 refine AH sv3 3 [(3,pk B8 5),(4,.int .i64 a),(5,.int .i64 ((Yz a)))]
  ⟨yf r6 (fun _=>by kernel_rfl),yp (i:=3) r6 (D9 a) Ac rfl rfl,Ce r6 (fun _=>R7 rfl),AOW⟩ fun a5 w5 g5 sv5=>?_
 refine AS (v:=.int .i64 ((Yz a))) sv5 r6 fun a6 sv6=>?_
 have sv7:Sv _ _ [_,_] _:=sv6.dl [3,4,5,1]
 refine AD ?_
 refine k4 _ _ ?_
 replace HG:=AA (AA HG g2) g5
 refine AOT ?_
 repeat refine AM ?_
 refine Ap (fn:=Tryz.f19) sv7 (BK (p:=2) Tryz.results19 sv7 rfl rfl) ?_
 exact⟨rfl,HG⟩
theorem QE (n:Int) (w:World) :
  Calls Tryz.prog 37 #[.int .i64 n] w fun e w'=>e=.returned (Br (KV n))∧w.grownBy w' none:=by
 refine BV Tryz.func37 rfl Tryz.ntmps37 rfl fun a0 sv0=>?_
 have HG:=World.grownBy.refl w none
 replace sv0:Sv 6 [] [(0,.int .i64 n)] a0:=sv0
 refine AOQ fun K1 k1=>?_
 refine AOP ?_
 refine A9 (T:=25) (Z:=[.int .i64 0,.int .i64 0,.string ⟨#[]⟩]) sv0 rfl rfl rfl (fun a w=>by kernel_rfl) fun a2 w2 Cp Dt g2 z2 AJ sv2=>?_
 have GD:=Bq HG Dt
 refine AD ?_
 refine k1 _ _ ?_
 refine AOQ fun K3 k3=>?_
 refine AOP ?_
 refine AH sv2 3 [(3,.int .i64 n),(4,Br ((⟨1,n,⟨#[]⟩⟩:V))),(5,Br ((KV n)))]
  ⟨ym r5,BG (vs:=[.int .i64 1,.int .i64 n]) rfl rfl trivial ⟨rfl,(oy rfl rfl),AOW⟩ (fun _=>AM0 n _) (fun _=>rfl),Ag [Br ((⟨1,n,⟨#[]⟩⟩:V))] Tryz.func25 (by kernel_rfl) rq4 ⟨(oy rfl rfl),AOW⟩ (A1 fun W g=>QH _ W),AOW⟩ fun a4 w4 g4 sv4=>?_
 refine Aq sv4 r7 (C6 ((KV n))) (AC g4 AJ) rfl fun w5 g5 h5=>?_
 replace HG:=AE (AA (AA HG g2) g4) g5 GD
 replace AJ:=h5
 have sv6:Sv _ _ [_] _:=sv4.dl [3,4,5,0]
 refine AD ?_
 refine k3 _ _ ?_
 refine AOT ?_
 repeat refine AM ?_
 refine Ap (fn:=Tryz.f37) sv6 (EE (p:=2) Tryz.results37 sv6 rfl rfl (C6 ((KV n))) AJ) ?_
 exact⟨rfl,HG⟩
theorem AIa (n:Int) (w:World) :
   Calls Tryz.prog 17 #[.int .i64 n] w fun e w'=>∃v,e=.returned v∧w.grownBy w' none∧(Sp.row w.heap.size 23 32 (Gb n 6).length ((Gb n 6).flatMap Ja)).on w' v:=by
 refine BV Tryz.func17 rfl Tryz.ntmps17 rfl fun a0 sv0=>?_
 have HG:=World.grownBy.refl w none
 replace sv0:Sv 21 [] [(0,.int .i64 n)] a0:=sv0
 refine AOQ fun K1 k1=>?_
 refine AOP ?_
 refine AS (v:=.slice none 0 0) sv0 r6 fun a2 sv2=>?_
 refine AD ?_
 refine k1 _ _ ?_
 refine AOQ fun K3 k3=>?_
 refine AOP ?_
 refine AS (v:=.slice none 0 0) sv2 r6 fun a4 sv4=>?_
 refine AD ?_
 refine k3 _ _ ?_
 refine AOQ fun K5 k5=>?_
 refine AOQ fun K6 k6=>?_
 refine AOP ?_
 refine AS (v:=.int .i64 0) sv4 r6 fun a7 sv7=>?_
 refine AD ?_
 refine k6 _ _ ?_
 refine BH fun Q8 x8 y8 rt8 o8=>?_
 have okk:=Own.nil w 23 32
 have lo_okk:=UZ w
 refine wp_loop (fun a w'=>∃(i:Nat) (so:Option Addr) (sc:Nat) (m:Nat) (L:List DD),(i≤6)∧(L=Gb n i)∧(L.length=m)∧Sv 21 [] [(4,.int .i64 ((i:Int))),(3,.slice so m sc),(2,.slice none 0 0),(0,.int .i64 n)] a∧w.grownBy w' none∧Own w' 23 32 (.slice so m sc) m (L.flatMap Ja)∧(∀k,BC (.slice so m sc) k→w.heap.size≤k)) (fun a _=>(6-intOf (a.tmps.getD 4 undef)).toNat) ⟨0,none,0,0,[],Nat.zero_le _,rfl,rfl,⟨sv7.1,sv7.2.1,sv7.2.2.1,sv7.2.2.2.1,sv7.2.2.2.2.1,sv7.2.2.2.2.2.1,AOW⟩,HG,okk,lo_okk⟩ fun a9 w9 hI9=>?_
 clear okk
 clear HG
 obtain⟨i,so,sc,m,L,hi6,hL,hm,sv9,HG,okk,lo_okk⟩:=hI9
 refine AOQ fun K10 k10=>?_
 refine AOQ fun K11 k11=>?_
 by_cases hi:i<6
 · refine AOP ?_
   refine AH sv9 2 [(5,.int .i64 ((i:Int))),(6,.bool true)]
     ⟨ym r5,Ce r6 (fun _=>BR (decide_eq_true (by omega))),AOW⟩ fun a12 w12 g12 DF=>?_
   refine AD ?_
   refine k11 _ _ ?_
   refine Am DF rfl rfl ?_
   refine AOU ?_
   refine k10 _ _ ?_
   refine AOQ fun K13 k13=>?_
   refine BH fun Q14 x14 y14 rt14 o14=>?_
   refine AOQ fun K15 k15=>?_
   replace okk:=okk.kn g12
   replace HG:=AA HG g12
   by_cases hb:ACC n i=1
   · have hLl:=Rh n i
     rw[←hL,hm] at hLl
     have hL1:L++[Qg i]=Gb n (i+1):=by rw[show Gb n (i+1)=Gb n i++[Qg i] from if_pos hb,hL]
     refine AOP ?_
     refine AH DF 6 [(9,.int .i64 n),(10,.int .i64 ((i:Int))),(11,.int .u64 ((i:Int))),(12,.int .i64 ((n/2^i))),(13,.int .i64 ((ACC n i))),(14,.bool true)]
      ⟨ym r5,ym r5,Hu r6 (fun _=>Hv Tryz.underlying3 Tryz.underlying48 (Pp (by omega) (by omega))),Fg r7 (fun _=>AEt i (by omega) rfl),Ce r6 (fun _=>R7 rfl),Ce r6 (fun _=>BM (by rw[hb];rfl)),AOW⟩ fun a16 w16 g16 DG=>?_
     refine AD ?_
     refine k15 _ _ ?_
     refine Am DG rfl rfl ?_
     refine AOP ?_
     refine AH DG 3 [(15,.slice so m sc),(16,.int .i64 ((i:Int))),(17,AQ ((LD i)))]
      ⟨ym r5,ym r5,Ag [.int .i64 ((i:Int))] Tryz.func30 (by kernel_rfl) rq4 ⟨(oy rfl rfl),AOW⟩ (A1 fun W g=>Tw i hi W),AOW⟩ fun a17 w17 g17 EK=>?_
     refine Jc (cs:=bv ((LD i))) (e:=23) EK rfl rfl rfl rfl rfl rfl (Up (PZ i)) fun a18 w18 ANi AMC g18 z18 AKI CY=>?_
     replace okk:=((okk.kn g16).kn g17).kn g18
     replace HG:=AA (AA (AA HG g16) g17) g18
     refine GZ dsT CY rfl rfl rfl rfl rfl rfl rfl rfl okk (Iv AKI (PZ i)) (Dk _) (by omega) fun a19 ao19 cap19 w19 owx19 Bk Dq=>?_
     have AIb:=Oq Bk.2 lo_okk HG
     replace HG:=Bu HG Bk.1 fun k e=>lo_okk k (e)
     rw[show bv (LD i)=bv (Qg i).x from rfl,OP L (Qg i)] at owx19
     refine AS (v:=.slice ao19 (m+1) cap19) Dq r6 fun a20 Du=>?_
     have Dl:Sv _ _ [_,_,_,_,_,_,_,_,_,_,_,_] _:=Du.dl [19,18,15,16,17]
     refine AD ?_
     refine y14 _ _ ?_
     refine k13 _ _ ?_
     refine AOP ?_
     refine AH Dl 2 [(7,.int .i64 ((i:Int))),(8,.int .i64 (((i+1:Nat):Int)))]
      ⟨ym r5,Ce r6 (fun _=>Dd (by rw[BT (by omega) (by omega)];omega)),AOW⟩ fun a22 w22 g22 B7=>?_
     refine AS (v:=.int .i64 (((i+1:Nat):Int))) B7 r6 fun a23 Cc=>?_
     refine AD ?_
     replace owx19:=owx19.kn g22
     replace HG:=AA HG g22
     exact⟨⟨i+1,ao19,cap19,m+1,(L++[Qg i]),by omega,hL1,by rw[List.length_append,hm];rfl,⟨Cc.1,Cc.2.1,Cc.2.2.1,Cc.2.2.2.2.2.1,(AG Cc).2.2.2.2.2.2.1,(AG Cc).2.2.2.2.2.2.2.1,AOW⟩,HG,owx19,AIb⟩,by rw[show _=_ from Cc.2.2.1,show _=_ from sv9.2.2.1];simp[intOf];omega⟩
   · have hL1:L=Gb n (i+1):=by rw[show Gb n (i+1)=Gb n i from if_neg hb,hL]
     refine AOP ?_
     refine AH DF 6 [(9,.int .i64 n),(10,.int .i64 ((i:Int))),(11,.int .u64 ((i:Int))),(12,.int .i64 ((n/2^i))),(13,.int .i64 ((ACC n i))),(14,.bool false)]
      ⟨ym r5,ym r5,Hu r6 (fun _=>Hv Tryz.underlying3 Tryz.underlying48 (Pp (by omega) (by omega))),Fg r7 (fun _=>AEt i (by omega) rfl),Ce r6 (fun _=>R7 rfl),Ce r6 (fun _=>BM (by simpa using hb)),AOW⟩ fun a24 w24 g24 EN=>?_
     refine AD ?_
     refine k15 _ _ ?_
     refine Au EN rfl rfl ?_
     refine AOU ?_
     refine y14 _ _ ?_
     refine k13 _ _ ?_
     refine AOP ?_
     refine AH EN 2 [(7,.int .i64 ((i:Int))),(8,.int .i64 (((i+1:Nat):Int)))]
      ⟨ym r5,Ce r6 (fun _=>Dd (by rw[BT (by omega) (by omega)];omega)),AOW⟩ fun a25 w25 g25 DR=>?_
     have JJ:=AA g24 g25
     refine AS (v:=.int .i64 (((i+1:Nat):Int))) DR r6 fun a26 DH=>?_
     refine AD ?_
     replace okk:=okk.kn JJ
     replace HG:=AA HG JJ
     exact⟨⟨i+1,so,sc,m,L,by omega,hL1,hm,⟨DH.1,DH.2.1,DH.2.2.1,(AG DH).2.2.2.2.2.1,(AG DH).2.2.2.2.2.2.1,(AG DH).2.2.2.2.2.2.2.1,AOW⟩,HG,okk,lo_okk⟩,by rw[show _=_ from DH.2.2.1,show _=_ from sv9.2.2.1];simp[intOf];omega⟩
 · obtain rfl:i=6:=by omega
   refine AOP ?_
   refine AH sv9 2 [(5,.int .i64 (((6:Nat):Int))),(6,.bool false)]
     ⟨ym r5,Ce r6 (fun _=>BR (by simp)),AOW⟩ fun a27 w27 g27 HU=>?_
   refine AD ?_
   refine k11 _ _ ?_
   refine Au HU rfl rfl ?_
   refine wp_exit ?_
   repeat refine CA ?_
   refine x8 _ _ ?_
   refine k5 _ _ ?_
   refine AOQ fun K28 k28=>?_
   refine AOP ?_
   refine AH HU 1 [(20,.slice so m sc)]
     ⟨ym r5,AOW⟩ fun a29 w29 g29 Ck=>?_
   have La:=AA g27 g29
   refine AS (v:=.slice so m sc) Ck r6 fun a30 EF=>?_
   refine AD ?_
   refine k28 _ _ ?_
   replace okk:=okk.kn La
   replace HG:=AA HG La
   refine AOT ?_
   repeat refine AM ?_
   subst hL hm
   refine Ap (fn:=Tryz.f17) EF (BK (p:=2) Tryz.results17 EF rfl rfl) ?_
   exact⟨_,rfl,HG,_,_,rfl,okk,lo_okk⟩
end Go.Proofs.YtbfjfnbcmojpiaaGreat
namespace Go.Proofs.YtbfjfnbcmojpiaaGreat
open Go.ChangeShapes Go.WideShapes Go.ChangeAt Go.RowKit Go.Deep
theorem ACS {a b:World} (h:a.grownBy b none):Below a.heap.size a b:=
 ⟨h.os,h.tape,h.output,h.size,fun i hi=>h.block i hi (by simp)⟩
theorem Wp:laidOutB Tryz.prog=true:=by kernel_rfl
theorem WD:Tryz.prog.cellsOf 25=3:=by kernel_rfl
theorem AGb:Tryz.prog.cellsOf 27=6:=by kernel_rfl
theorem AE3:Tryz.prog.cellsOf 9=1:=by kernel_rfl
theorem AIz:Tryz.prog.cellsOf 4=1:=by kernel_rfl
theorem AD2:Tryz.prog.cellsOf 3=1:=by kernel_rfl
theorem ZW:Tryz.prog.cellsOf 2=1:=by kernel_rfl
theorem AK3 {H:Type} {enc:TypeId×Value→H} {W:World} {b0:Nat}:∀fuel cs y,DataW.trod enc Tryz.prog W b0 (fun _=>true) true fuel 25 cs=some y→∃x:V,cs=vc x:=by
 intro fuel cs y h
 obtain⟨xs,k,_,_,hl,hxl,hf⟩:=DataW.trod_struct Tryz.underlying25 h
 rw[WD] at hl
 match cs,hl with
 | [a,b,c],_ =>
  obtain⟨y0,h0⟩:=N5 hxl hf 0 _ rfl 3 rfl 1 AD2
  obtain⟨y1,h1⟩:=N5 hxl hf 1 _ rfl 2 rfl 1 ZW
  obtain⟨y2,h2⟩:=N5 hxl hf 2 _ rfl 9 rfl 1 AE3
  obtain⟨n0,e0,_,r0⟩:=DataW.trod_int Tryz.underlying3 h0
  obtain⟨n1,e1,_,r1⟩:=DataW.trod_int Tryz.underlying2 h1
  obtain⟨s2,e2,_,r2⟩:=DataW.trod_string Tryz.underlying9 h2
  simp at e0 e1 e2
  subst e0 e1 e2
  exact⟨⟨n0,n1,s2⟩,rfl⟩
theorem AE2 {H:Type} {enc:TypeId×Value→H} {W:World} {r:Reach} {base b0:Nat} {v:Value} {d:DataW H} {p:List MemPlace} (hv:Value.okWide Tryz.prog W r base 27 v) (h:DataW.Trod enc Tryz.prog W b0 (fun _=>true) true 27 v d p):∃(x:V) (n:Int) (b:Bool) (a:Int),v=JO x n b a∧True:=by
 obtain⟨cs,rfl,hcell⟩:=UM Tryz.underlying27 hv
 obtain⟨fuel,hf⟩:=h
 have hf':DataW.trod enc Tryz.prog W b0 (fun _=>true) true fuel 27 cs.toList=some (d,p):=hf
 obtain⟨xs,k,_,_,hl,hxl,hf⟩:=DataW.trod_struct Tryz.underlying27 hf'
 rw[AGb] at hl
 obtain⟨l⟩:=cs
 match l,hl with
 | [a,b,c,e,f,g],_ =>
  obtain⟨y0,t0⟩:=N5 hxl hf 0 _ rfl 25 rfl 3 WD
  obtain⟨y1,t1⟩:=N5 hxl hf 1 _ rfl 3 rfl 1 AD2
  obtain⟨y2,t2⟩:=N5 hxl hf 2 _ rfl 4 rfl 1 AIz
  obtain⟨y3,t3⟩:=N5 hxl hf 3 _ rfl 2 rfl 1 ZW
  obtain⟨v0,e0⟩:=AK3 _ _ _ t0
  obtain⟨n1,e1,_,_⟩:=DataW.trod_int Tryz.underlying3 t1
  obtain⟨b2,e2,_⟩:=DataW.trod_bool Tryz.underlying4 t2
  obtain⟨n3,e3,_,_⟩:=DataW.trod_int Tryz.underlying2 t3
  simp[vc] at e0 e1 e2 e3
  obtain⟨rfl,rfl,rfl⟩:=e0
  subst e1 e2 e3
  exact⟨v0,n1,b2,n3,rfl,AOW⟩
end Go.Proofs.YtbfjfnbcmojpiaaGreat
namespace Go.Proofs.YtbfjfnbcmojpiaaGreat
open Go.RowKit Go.Shelf
theorem AEv {w:World} {k b:Nat} {c:Array Value} {T:TypeId} {fr:Nat×Nat} (h:TagV w k) (hb:w.heap[b]?=some (.cells c T fr)) (hT:T≠132∧T≠58):k≠b:=by
 rcases h with h|⟨c',fr',h1⟩
 · exact AHM h hb hT.1
 · rintro rfl
   rw[hb] at h1
   simp only[Option.some.injEq,Obj.cells.injEq] at h1
   exact hT.2 h1.2.1
theorem ANj {w:World} {p:Nat→Prop} {b:Nat} {c:Array Value} {T:TypeId} {fr:Nat×Nat} (hf:∀k,p k→(fun _=>False) k∨TagV w k) (hb:w.heap[b]?=some (.cells c T fr)) (hT:T≠132∧T≠58):∀k,p k→k≠b:=fun k hk=>(hf k hk).elim (fun h=>h.elim) fun t=>AEv t hb hT
theorem ADr {w:World} {p q:Nat→Prop} {b:Nat} {c:Array Value} {T:TypeId} {fr:Nat×Nat} (hf:∀k,p k→q k∨TagV w k) (ha:∀k,q k→k≠b) (hb:w.heap[b]?=some (.cells c T fr)) (hT:T≠132∧T≠58):∀k,p k→k≠b:=fun k hk=>(hf k hk).elim (ha k) fun t=>AEv t hb hT
def Sp.vv (V:VV) (fp:Nat→Prop):Sp:=⟨fun w v=>∃ao cap ks,v=Ay V.2.1 V.2.2 (.slice ao (List.length ks) cap)∧ks.map VK.p=V.1∧RdK w (.slice ao (List.length ks) cap) ks∧∀k,KO (.slice ao (List.length ks) cap) ks k→fp k∨TagV w k,fun _ _ _ hg ⟨ao,cap,ks,h1,h2,h3,h4⟩=>⟨ao,cap,ks,h1,h2,h3.kn hg,Sc hg h4⟩⟩
theorem ACE {r:VV×Int} {fp:Nat→Prop} (w:World) (u:Value) (h:(Sp.vt r fp).on w u):∃vs v,u=.tuple vs∧vs[0]?=some v∧(Sp.vv r.1 fp).on w v:=by
 obtain⟨ao,cap,ks,h1,h2⟩:=h
 exact⟨_,_,h1,rfl,ao,cap,ks,rfl,h2⟩
theorem ADs {r:VV×Int} {fp:Nat→Prop} (w:World) (u:Value) (h:(Sp.vt r fp).on w u):∃vs v,u=.tuple vs∧vs[1]?=some v∧(Sp.is (.int .i64 r.2)).on w v:=by
 obtain⟨ao,cap,ks,h1,h2⟩:=h
 exact⟨_,_,h1,rfl,rfl⟩
def TgF (w:World) (p q:Nat→Prop):Prop:=∀k,p k→q k∨TagV w k
theorem TgF.kn {w w':World} {p q:Nat→Prop} (h:TgF w p q) (g:w.grownBy w' none):TgF w' p q:=Sc g h
theorem TgF.offR {w w':World} {p q:Nat→Prop} (h:TgF w p q) {row:Option Nat} (g:w.grownBy w' row) (hb:∀k,p k→row≠some k):TgF w' p q:=fun k hk=>(h k hk).imp id (·.keep g (hb k hk))
theorem TgF.join {w:World} {p q r:Nat→Prop} (h:TgF w p q) (h2:TgF w q r):TgF w p r:=fun k hk=>(h k hk).elim (h2 k) .inr
theorem TgF.none (w:World):TgF w (KO (.slice none 0 0) []) (fun _=>False):=fun k hk=>(Ov k hk).elim
theorem AKJ {i j:Nat} (hi:i<6) (hj:j<6) (h:LD i=LD j):i=j:=by
 have:=(List.cons.inj h).1
 omega
def pjC (seed:List Nat):Nat→List Nat
 | 0=>kd 274 seed
 | j+1=>kd 276 (pjC seed j)
theorem JN (seed:List Nat):∀j,Dg (pjC seed j)
 | 0=>Bp _ _
 | _+1=>Bp _ _
def Tsd (seed:List Nat) (j:Nat):List Nd:=tree (kd 275 (pjC seed j)) []
def Tx (seed:List Nat):Nat→List VP
 | 0=>[]
 | i+1=>OE (Tx seed i) (LD i) (Tsd seed i)
def OV (T:Nat→List Nd) (P:List VP) (i:Nat):Prop:=Co P=true∧P.length=i∧∀x,x∈P↔∃j,j<i∧x=(LD j,T j)
theorem OV.not {T:Nat→List Nd} {P:List VP} {i:Nat} (h:OV T P i) (hi:i<6):Ly P (LD i)=false:=AJL (Srt.of h.1) fun hm=>by
 obtain⟨x,hx,e⟩:=List.mem_map.1 hm
 obtain⟨j,hj,rfl⟩:=(h.2.2 x).1 hx
 have:=AKJ (by omega) hi e
 omega
theorem OV.succ {T:Nat→List Nd} {P:List VP} {i:Nat} (h:OV T P i) (hi:i<6) (hT:∀j,I1 (T j)=true):OV T (OE P (LD i) (T i)) (i+1):=by
 refine⟨AAi h.1 (h.not hi) (by rw[h.2.1];omega) (hT i),by rw[AJM,h.2.1],fun x=>?_⟩
 rw[AEL,h.2.2 x]
 constructor
 · rintro (rfl|⟨j,hj,rfl⟩)
   · exact⟨i,by omega,rfl⟩
   · exact⟨j,by omega,rfl⟩
 · rintro ⟨j,hj,rfl⟩
   by_cases e:j=i
   · subst e;exact .inl rfl
   · exact .inr ⟨j,by omega,rfl⟩
theorem AKK (seed:List Nat) (j:Nat):I1 (Tsd seed j)=true:=Lz _
theorem Pa (seed:List Nat):∀i,i≤6→OV (Tsd seed) (Tx seed i) i
 | 0,_=>⟨rfl,rfl,by simp[Tx]⟩
 | i+1,h=>(Pa seed i (by omega)).succ (by omega) (AKK seed)
def V6 (seed:List Nat):VV:=(Tx seed 6,kd 273 seed,pjC seed 6)
theorem ALw {seed:List Nat} {i:Nat} {P:List VP} (hP:P=Tx seed i) (hi:i<6):Nj (P,kd 273 seed,pjC seed i) (LD i) (Tsd seed i) (kd 276 (pjC seed i))=((Tx seed (i+1),kd 273 seed,pjC seed (i+1)),0):=by
 subst hP
 have h:=Pa seed i (by omega)
 exact Z7 h.1 (h.not hi) (by rw[h.2.1];omega)
def KH (a b c:Value) (k:Nat):Prop:=BC a k∨BC b k∨BC c k
def SdF (w:World) (s:Sd) (own wr:List DD) (ao wo bo:Option Addr) (ac wc bc:Nat):Prop:=own.map DD.x=s.own∧wr.map DD.x=s.wr ∧
 Own w 23 32 (.slice ao own.length ac) own.length (own.flatMap Ja)∧Own w 23 32 (.slice wo wr.length wc) wr.length (wr.flatMap Ja)∧Own w 5 1 (.slice bo s.body.length bc) s.body.length (bv s.body) ∧
 (∀k,BC (.slice ao own.length ac) k→¬BC (.slice wo wr.length wc) k)∧Dg s.tag∧By s.body
section
variable {w w':World} {s:Sd} {own wr:List DD} {ao wo bo:Option Addr} {ac wc bc:Nat}
theorem SdF.kn (h:SdF w s own wr ao wo bo ac wc bc) (g:w.grownBy w' none):SdF w' s own wr ao wo bo ac wc bc:=by
 obtain⟨h1,h2,h3,h4,h5,h6⟩:=h
 exact⟨h1,h2,h3.kn g,h4.kn g,h5.kn g,h6⟩
theorem SdF.offR (h:SdF w s own wr ao wo bo ac wc bc) {row:Option Nat} (g:w.grownBy w' row) (hb:∀k,KH (.slice ao own.length ac) (.slice wo wr.length wc) (.slice bo s.body.length bc) k→row≠some k):SdF w' s own wr ao wo bo ac wc bc:=by
 obtain⟨h1,h2,h3,h4,h5,h6⟩:=h
 exact⟨h1,h2,h3.offR g fun k hk=>hb k (.inl hk),h4.offR g fun k hk=>hb k (.inr (.inl hk)),h5.offR g fun k hk=>hb k (.inr (.inr hk)),h6⟩
theorem SdF.lt (h:SdF w s own wr ao wo bo ac wc bc):∀k,KH (.slice ao own.length ac) (.slice wo wr.length wc) (.slice bo s.body.length bc) k→k<w.heap.size:=by
 obtain⟨h1,h2,h3,h4,h5,h6⟩:=h
 rintro k (hk|hk|hk)
 · exact Own.ltS h3 k hk
 · exact Own.ltS h4 k hk
 · exact Own.ltS h5 k hk
theorem SdF.ap (h:SdF w s own wr ao wo bo ac wc bc) {b:Nat} {c:Array Value} {T:TypeId} {fr:Nat×Nat} (hb:w.heap[b]?=some (.cells c T fr)) (hT:T≠23∧T≠5):∀k,KH (.slice ao own.length ac) (.slice wo wr.length wc) (.slice bo s.body.length bc) k→k≠b:=by
 obtain⟨h1,h2,h3,h4,h5,h6⟩:=h
 rintro k (hk|hk|hk) rfl
 · exact Own.ne h3 hb (Ne.symm hT.1) hk
 · exact Own.ne h4 hb (Ne.symm hT.1) hk
 · exact Own.ne h5 hb (Ne.symm hT.2) hk
theorem SdF.ro (h:SdF w s own wr ao wo bo ac wc bc):RdD w (.slice ao own.length ac) own:=Own.sb h.2.2.1
theorem SdF.rw (h:SdF w s own wr ao wo bo ac wc bc):RdD w (.slice wo wr.length wc) wr:=Own.sb h.2.2.2.1
theorem SdF.rb (h:SdF w s own wr ao wo bo ac wc bc):SlB w 1 (.slice bo s.body.length bc) s.body.length (bv s.body):=Own.sb h.2.2.2.2.1
theorem SdF.tg (h:SdF w s own wr ao wo bo ac wc bc):Dg s.tag:=h.2.2.2.2.2.2.1
theorem SdF.by (h:SdF w s own wr ao wo bo ac wc bc):By s.body:=h.2.2.2.2.2.2.2
theorem SdF.sd (h:SdF w s own wr ao wo bo ac wc bc):(⟨s.addr,own.map DD.x,s.joint,wr.map DD.x,s.body,s.tag⟩:Sd)=s:=by rw[h.1,h.2.1]
end
def Sp.sr (B:Nat) (r:Sd×Int):Sp:=⟨fun w v=>∃own wr ao wo bo ac wc bc,v=.tuple #[Bv r.1.addr (.slice ao (List.length own) ac) r.1.joint (.slice wo (List.length wr) wc) (.slice bo r.1.body.length bc) r.1.tag,.int .i64 r.2]∧SdF w r.1 own wr ao wo bo ac wc bc∧∀k,KH (.slice ao (List.length own) ac) (.slice wo (List.length wr) wc) (.slice bo r.1.body.length bc) k→B≤k,
 fun _ _ _ hg ⟨own,wr,ao,wo,bo,ac,wc,bc,h1,h2,h3⟩=>⟨own,wr,ao,wo,bo,ac,wc,bc,h1,h2.kn hg,h3⟩⟩
def Sp.sl (B:Nat) (s:Sd):Sp:=⟨fun w v=>∃own wr ao wo bo ac wc bc,v=Bv s.addr (.slice ao (List.length own) ac) s.joint (.slice wo (List.length wr) wc) (.slice bo s.body.length bc) s.tag∧SdF w s own wr ao wo bo ac wc bc∧∀k,KH (.slice ao (List.length own) ac) (.slice wo (List.length wr) wc) (.slice bo s.body.length bc) k→B≤k,
 fun _ _ _ hg ⟨own,wr,ao,wo,bo,ac,wc,bc,h1,h2,h3⟩=>⟨own,wr,ao,wo,bo,ac,wc,bc,h1,h2.kn hg,h3⟩⟩
theorem AIc {B:Nat} {r:Sd×Int} (w:World) (u:Value) (h:(Sp.sr B r).on w u):∃vs v,u=.tuple vs∧vs[0]?=some v∧(Sp.sl B r.1).on w v:=by
 obtain⟨own,wr,ao,wo,bo,ac,wc,bc,h1,h2⟩:=h
 exact⟨_,_,h1,rfl,own,wr,ao,wo,bo,ac,wc,bc,rfl,h2⟩
theorem QF {B:Nat} {r:Sd×Int} (w:World) (u:Value) (h:(Sp.sr B r).on w u):∃vs v,u=.tuple vs∧vs[1]?=some v∧(Sp.is (.int .i64 r.2)).on w v:=by
 obtain⟨own,wr,ao,wo,bo,ac,wc,bc,h1,h2⟩:=h
 exact⟨_,_,h1,rfl,rfl⟩
theorem SRes.sr {w w':World} {B:Nat} {r:Sd×Int} {e:Ending} (h:SRes w w' r e) (hB:B≤w.heap.size):∃v,e=.returned v∧w.grownBy w' none∧(Sp.sr B r).on w' v:=by
 obtain⟨own,wr,ao,wo,bo,ac,wc,bc,h1,h2,h3,h4,h5,h6,f1,f2,f3,f4,h7,h8,h9⟩:=h
 refine⟨_,h1,h9,own,wr,ao,wo,bo,ac,wc,bc,rfl,⟨h2,h3,h4,h5,h6,f4,h7,h8⟩,?_⟩
 rintro k (hk|hk|hk)
 · exact Nat.le_trans hB (f1 k hk)
 · exact Nat.le_trans hB (f2 k hk)
 · exact Nat.le_trans hB (f3 k hk)
theorem AId {W:World} {B:Nat} {ks:List VK} {vo:Option Addr} {vc_:Nat} {sa po:List Nat} (hsa:Dg sa) (hpo:Dg po) {P:List VP} {ds:List DD} {v:Value} {joint ad:Int} {x:V} {r:Sd×Int} (hr:RdK W (.slice vo ks.length vc_) ks) (hP:ks.map VK.p=P) (ho:RdD W v ds) (hdl:ds.length≤1000) (hB:B≤W.heap.size) (hres:Gk P (ds.map DD.x) joint ad x=r) :
  Calls Tryz.prog 20 #[Ay sa po (.slice vo ks.length vc_),v,.int .i64 joint,.int .i64 ad,Br x] W fun e w'=>∃v,e=.returned v∧W.grownBy w' none∧(Sp.sr B r).on w' v:=by
 obtain⟨ao,cap,rfl⟩:=ho.shape
 subst hP hres
 exact(AF3 ks vo vc_ sa po hsa hpo ds ao cap joint ad x W hr ho hdl).mono fun e w' h=>h.sr hB
theorem AKL {W:World} {B:Nat} {ks:List VK} {vo:Option Addr} {vc_:Nat} {sa po:List Nat} (hsa:Dg sa) (hpo:Dg po) {P:List VP} {ds:List DD} {v:Value} {joint ad:Int} {x:V} {r:Sd×Int} (hr:RdK W (.slice vo ks.length vc_) ks) (hP:ks.map VK.p=P) (ho:RdD W v ds) (hdl:ds.length≤1000) (hB:B≤W.heap.size) (hres:Gk P (ds.map DD.x) joint ad x=r) :
  Calls Tryz.prog 16 #[Ay sa po (.slice vo ks.length vc_),v,.int .i64 joint,.int .i64 ad,Br x] W fun e w'=>∃v,e=.returned v∧W.grownBy w' none∧(Sp.sr B r).on w' v:=by
 obtain⟨ao,cap,rfl⟩:=ho.shape
 subst hP hres
 exact(ADa ks vo vc_ sa po hsa hpo ds ao cap joint ad x W hr ho hdl).mono fun e w' h=>h.sr hB
def Wm (P:List VP) (x:V) (n:Int) (b:Bool) (a:Int):Sd×Int:=Gk P ((Gb n 6).map DD.x) (jt b) (Yz a) x
theorem ALx (n:Int) {w0 W:World} (g:w0.grownBy W none):Calls Tryz.prog 17 #[.int .i64 n] W fun e w'=>∃v,e=.returned v∧W.grownBy w' none∧(Sp.row w0.heap.size 23 32 (Gb n 6).length ((Gb n 6).flatMap Ja)).on w' v:=
 (AIa n W).mono fun e w' ⟨v,h1,h2,ao,cap,h3,h4,h5⟩=>⟨v,h1,h2,ao,cap,h3,h4,fun k hk=>Nat.le_trans g.size (h5 k hk)⟩
theorem AM2 {W:World} {B:Nat} {ds:List DD} {v:Value} (h:(Sp.row B 23 32 ds.length (ds.flatMap Ja)).on W v):RdD W v ds:=by
 obtain⟨ao,cap,rfl,h2,_⟩:=h
 exact Own.sb h2
theorem ADt (seed:List Nat) (hse:Dg seed) (w:World) :
   Calls Tryz.prog 14 #[AQ seed] w fun e w'=>∃v,e=.returned v∧w.grownBy w' none∧(Sp.vv (V6 seed) (fun _=>False)).on w' v:=by
 refine BV Tryz.func14 rfl Tryz.ntmps14 rfl fun a0 sv0=>?_
 have HG:=World.grownBy.refl w none
 replace sv0:Sv 19 [] [(0,AQ seed)] a0:=sv0
 refine AOQ fun K1 k1=>?_
 refine AOP ?_
 refine Bi sv0 r6 (Bb seed hse.1) fun a2 w2 B8 Gx g2 z2 Ac sv2=>?_
 replace HG:=AA HG g2
 refine A9 (T:=36) (Z:=([bv AR,bv AR,[.slice none 0 0]].flatten)) sv2 rfl rfl rfl (fun a w=>by kernel_rfl) fun a3 w3 Pt Kh g3 z3 Cy sv3=>?_
 have L9:=Bq HG Kh
 replace Ac:=AC g3 Ac
 refine AD ?_
 refine k1 _ _ ?_
 refine AOQ fun K4 k4=>?_
 refine AOP ?_
 refine AH sv3 2 [(5,AQ seed),(6,Ay ((kd 273 seed)) ((pjC seed 0)) (.slice none 0 0))]
   ⟨yl r6 (Bb seed hse.1) Ac,Ag [AQ seed] Tryz.func38 (by kernel_rfl) rq4 ⟨(oy rfl rfl),AOW⟩ (A1 fun W g=>AC3 seed hse W),AOW⟩ fun a5 w5 g5 sv5=>?_
 replace Ac:=AC g5 Ac
 replace Cy:=AC g5 Cy
 replace HG:=AA (AA HG g3) g5
 refine A9 (T:=36) (Z:=([bv AR,bv AR,[.slice none 0 0]].flatten)) sv5 rfl rfl rfl (fun a w=>by kernel_rfl) fun a6 w6 AKM Y0 g6 z6 KI sv6=>?_
 have Pb:=Ao Ac Y0
 have Pc:=Ao Cy Y0
 have AEw:=Bq HG Y0
 refine Aq sv6 r7 (B6 (Bp _ _) (JN seed 0) (.slice none 0 0) rfl) KI (by first|rfl|simp[Ar,AO,Af,(Bp _ _).1,(JN seed 0).1]) fun w7 g7 h7=>?_
 replace Ac:=Aa g7 (AC g6 Ac) (Ne.symm Pb)
 replace Cy:=Aa g7 (AC g6 Cy) (Ne.symm Pc)
 replace HG:=AE (AA HG g6) g7 AEw
 replace KI:=h7
 refine AD ?_
 refine k4 _ _ ?_
 refine AOQ fun K8 k8=>?_
 refine AOQ fun K9 k9=>?_
 refine AOP ?_
 refine AS (v:=.int .i64 0) sv6 r6 fun a10 Bt=>?_
 refine AD ?_
 refine k9 _ _ ?_
 refine BH fun Q11 x11 y11 rt11 o11=>?_
 have hr:=RdK.nil w7
 have OY:∀k,KO (.slice none 0 0) [] k→k≠B8:=fun k hk=>(Ov k hk).elim
 have KJ:∀k,KO (.slice none 0 0) [] k→k≠Pt:=fun k hk=>(Ov k hk).elim
 have KM:∀k,KO (.slice none 0 0) [] k→k≠AKM:=fun k hk=>(Ov k hk).elim
 have ht:=TgF.none w7
 refine wp_loop (fun a w'=>∃(i:Nat) (ks:List VK) (ao:Option Addr) (cap:Nat),(i≤6)∧(ks.map VK.p=Tx seed i)∧Sv 19 [] [(4,.int .i64 ((i:Int))),(3,pt AKM),(5,AQ seed),(6,Ay ((kd 273 seed)) ((pjC seed 0)) (.slice none 0 0)),(2,pt Pt),(1,pt B8),(0,AQ seed)] a∧w.grownBy w' none∧w'.heap[B8]?=some (.cells (bv seed).toArray 23 (0,0))∧w'.heap[Pt]?=some (.cells (([bv AR,bv AR,[.slice none 0 0]].flatten)).toArray 36 (0,0))∧w'.heap[AKM]?=some (.cells ([bv ((kd 273 seed)),bv ((pjC seed i)),[.slice ao ks.length cap]].flatten).toArray 36 (0,0))∧RdK w' (.slice ao ks.length cap) ks∧TgF w' (KO (.slice ao ks.length cap) ks) (fun _=>False)∧(∀k,KO (.slice ao ks.length cap) ks k→k≠B8)∧(∀k,KO (.slice ao ks.length cap) ks k→k≠Pt)∧(∀k,KO (.slice ao ks.length cap) ks k→k≠AKM)) (fun a _=>(6-intOf (a.tmps.getD 4 undef)).toNat) ⟨0,[],none,0,by omega,rfl,⟨Bt.1,Bt.2.1,Bt.2.2.1,Bt.2.2.2.1,Bt.2.2.2.2.1,Bt.2.2.2.2.2.1,Bt.2.2.2.2.2.2.1,Bt.2.2.2.2.2.2.2.1,(AG Bt).1,AOW⟩,HG,Ac,Cy,KI,hr,ht,OY,KJ,KM⟩ fun a12 w12 hI12=>?_
 clear Ac
 clear Cy
 clear KI
 clear hr
 clear ht
 clear HG
 obtain⟨i,ks,ao,cap,hi6,hP,DF,HG,Ac,Cy,KI,hr,ht,OY,KJ,KM⟩:=hI12
 refine AOQ fun K13 k13=>?_
 refine AOQ fun K14 k14=>?_
 by_cases hi:i<6
 · refine AOP ?_
   refine AH DF 2 [(7,.int .i64 ((i:Int))),(8,.bool true)]
    ⟨ym r5,Ce r6 (fun _=>BR (decide_eq_true (by omega))),AOW⟩ fun a15 w15 g15 Fp=>?_
   refine AD ?_
   refine k14 _ _ ?_
   refine Am Fp rfl rfl ?_
   refine AOU ?_
   refine k13 _ _ ?_
   refine AOQ fun K16 k16=>?_
   refine BH fun Q17 x17 y17 rt17 o17=>?_
   replace KI:=AC g15 KI
   replace hr:=hr.kn g15
   refine DP (Fp.st w15) (by kernel_rfl) 7 [(12,Sp.is (Ay ((kd 273 seed)) ((pjC seed i)) (.slice ao ks.length cap))),(13,Sp.is (.int .i64 ((i:Int)))),(14,Sp.is (AQ ((LD i)))),(15,Sp.vt ((Tx seed (i+1),(kd 273 seed),(pjC seed (i+1))),(0:Int)) (KO (.slice ao ks.length cap) ks)),(11,Sp.vt ((Tx seed (i+1),(kd 273 seed),(pjC seed (i+1))),(0:Int)) (KO (.slice ao ks.length cap) ks)),(16,Sp.vv (Tx seed (i+1),(kd 273 seed),(pjC seed (i+1))) (KO (.slice ao ks.length cap) ks)),(17,Sp.is (.int .i64 0))] rfl (by kernel_rfl) (by kernel_rfl) (by kernel_rfl) [6] (by kernel_rfl)
    ⟨yl r6 (B6 (Bp _ _) (JN seed i) (.slice ao ks.length cap) rfl) KI,ym r5,Ag [.int .i64 ((i:Int))] Tryz.func30 (by kernel_rfl) rq4 ⟨(oy rfl rfl),AOW⟩ (A1 fun W g=>Tw i hi W),Ag [Ay ((kd 273 seed)) ((pjC seed i)) (.slice ao ks.length cap),AQ ((LD i))] Tryz.func39 (by kernel_rfl) rq4 ⟨(oy rfl rfl),(oy rfl rfl),AOW⟩ (AJn (Bp _ _) (JN seed i) (PZ i) hr rfl (T:=Tsd seed i) rfl (ALw hP hi)),ym r5,Bh rq4 (fun w u h=>ACE w u h),Bh rq4 (fun w u h=>ADs w u h),AOW⟩ ⟨fun o ho=>by obtain rfl:=Option.some.inj ho;exact HH rfl rfl rfl trivial (fun w u h=>ADs w u h),AOW⟩
    [] (by kernel_rfl) trivial ⟨.inl rfl,.inl rfl,.inl rfl,.inl rfl,.inl rfl,.inl rfl,.inl rfl,AOW⟩ (by kernel_rfl) fun a18 w18 g18 st18 nd18=>?_
   obtain⟨hn18,hd18,e18_12,e18_13,e18_14,e18_15,e18_11,e18_16,e18_17,e18_7,e18_8,e18_4,e18_3,e18_5,e18_6,e18_2,e18_1,e18_0,-⟩:=st18
   obtain⟨ao19,cap19,ks19,e18_16q,hp19,hk19,hf19⟩:=e18_16
   replace Ac:=AC g18 (AC g15 Ac)
   replace Cy:=AC g18 (AC g15 Cy)
   replace KI:=AC g18 KI
   have ZA:=ADr hf19 OY Ac (by decide)
   have ZB:=ADr hf19 KJ Cy (by decide)
   have MS:=ADr hf19 KM KI (by decide)
   have CY:Sv 19 [] [(7,_),(8,_),(4,_),(3,_),(5,_),(6,_),(2,_),(1,_),(0,_),(16,_)] a18:=⟨hn18,hd18,e18_7,e18_8,e18_4,e18_3,e18_5,e18_6,e18_2,e18_1,e18_0,e18_16q,AOW⟩
   refine Aq CY r7 (B6 (Bp _ _) (JN seed (i+1)) (.slice ao19 ks19.length cap19) rfl) KI (by first|rfl|simp[Ar,AO,Af,(Bp _ _).1,(JN seed (i+1)).1,(Bp _ _).1,(JN seed i).1]) fun w20 g20 h20=>?_
   refine AD ?_
   refine y17 _ _ ?_
   refine k16 _ _ ?_
   refine AOP ?_
   refine AH CY 2 [(9,.int .i64 ((i:Int))),(10,.int .i64 (((i+1:Nat):Int)))]
    ⟨ym r5,Ce r6 (fun _=>Dd (by rw[BT (by omega) (by omega)];omega)),AOW⟩ fun a21 w21 g21 Dl=>?_
   refine AS (v:=.int .i64 (((i+1:Nat):Int))) Dl r6 fun a22 B7=>?_
   refine AD ?_
   replace Ac:=AC g21 (Aa g20 Ac (Ne.symm Pb))
   replace Cy:=AC g21 (Aa g20 Cy (Ne.symm Pc))
   replace KI:=AC g21 h20
   replace hr:=((hr.kn g18).offR g20 (AP KM)).kn g21
   replace ht:=TgF.kn (TgF.offR (TgF.kn (TgF.kn ht g15) g18) g20 (AP KM)) g21
   replace hk19:=(hk19.offR g20 (AP MS)).kn g21
   replace hf19:=TgF.kn (TgF.offR hf19 g20 (AP MS)) g21
   replace HG:=AA (AE (AA (AA HG g15) g18) g20 AEw) g21
   have htn:=hf19.join ht
   exact⟨⟨i+1,ks19,ao19,cap19,by omega,hp19,⟨B7.1,B7.2.1,B7.2.2.1,B7.2.2.2.2.2.2.2.1,(AG B7).1,(AG B7).2.1,(AG B7).2.2.1,(AG B7).2.2.2.1,(AG B7).2.2.2.2.1,AOW⟩,HG,Ac,Cy,KI,hk19,htn,ZA,ZB,MS⟩,by rw[show _=_ from B7.2.2.1,show _=_ from DF.2.2.1];simp[intOf];omega⟩
 · obtain rfl:i=6:=by omega
   refine AOP ?_
   refine AH DF 2 [(7,.int .i64 (((6:Nat):Int))),(8,.bool false)]
    ⟨ym r5,Ce r6 (fun _=>BR (by simp)),AOW⟩ fun a23 w23 g23 Cc=>?_
   refine AD ?_
   refine k14 _ _ ?_
   refine Au Cc rfl rfl ?_
   refine wp_exit ?_
   repeat refine CA ?_
   refine x11 _ _ ?_
   refine k8 _ _ ?_
   refine AOQ fun K24 k24=>?_
   refine AOP ?_
   refine AH Cc 1 [(18,Ay ((kd 273 seed)) ((pjC seed 6)) (.slice ao ks.length cap))]
    ⟨yl r6 (B6 (Bp _ _) (JN seed 6) (.slice ao ks.length cap) rfl) (AC g23 KI),AOW⟩ fun a25 w25 g25 DR=>?_
   have JJ:=AA g23 g25
   refine Aq DR r7 (B6 (Bp _ _) (JN seed 6) (.slice ao ks.length cap) rfl) (AC JJ Cy) (by first|rfl|simp[Ar,AO,Af,(Bp _ _).1,(JN seed 6).1]) fun w26 g26 h26=>?_
   replace hr:=(hr.kn JJ).offR g26 (AP KJ)
   replace ht:=TgF.offR (TgF.kn ht JJ) g26 (AP KJ)
   replace HG:=AE (AA HG JJ) g26 L9
   replace Cy:=h26
   refine AD ?_
   refine k24 _ _ ?_
   refine AOT ?_
   repeat refine AM ?_
   refine Ap (fn:=Tryz.f14) DR (EE (p:=2) Tryz.results14 DR rfl rfl (B6 (Bp _ _) (JN seed 6) (.slice ao ks.length cap) rfl) Cy) ?_
   exact⟨_,rfl,HG,ao,cap,ks,rfl,hP,hr,ht⟩
end Go.Proofs.YtbfjfnbcmojpiaaGreat
namespace Go.Proofs.YtbfjfnbcmojpiaaGreat
open Go.ChangeShapes Go.WideShapes Go.ChangeAt Go.RowKit Go.Deep
theorem AGc:Tryz.prog.cellsOf 47=3:=by kernel_rfl
theorem ACQ {H:Type} {enc:TypeId×Value→H} {W:World} {r:Reach} {base b0:Nat} {v:Value} {d:DataW H} {p:List MemPlace} (hv:Value.okWide Tryz.prog W r base 47 v) (h:DataW.Trod enc Tryz.prog W b0 (fun _=>true) true 47 v d p):∃a b c:Int,v=.agg #[.int .i64 a,.int .i64 b,.int .i64 c]∧AGd a∧AGd b∧AGd c:=by
 obtain⟨cs,rfl⟩:=Ob Tryz.underlying47 hv
 obtain⟨fuel,hf⟩:=h
 have hf':DataW.trod enc Tryz.prog W b0 (fun _=>true) true fuel 47 cs.toList=some (d,p):=hf
 obtain⟨xs,k,_,_,hl,hxl,hf⟩:=DataW.trod_array Tryz.underlying47 hf'
 rw[AGc] at hl
 rw[AGe] at hf
 obtain⟨l⟩:=cs
 match l,hl with
 | [a,b,c],_ =>
  have t0:=hf 0 (by decide)
  have t1:=hf 1 (by decide)
  have t2:=hf 2 (by decide)
  rw[List.getElem?_eq_getElem (by omega)] at t0 t1 t2
  obtain⟨n0,e0,_,w0⟩:=ACX _ _ _ t0
  obtain⟨n1,e1,_,w1⟩:=ACX _ _ _ t1
  obtain⟨n2,e2,_,w2⟩:=ACX _ _ _ t2
  simp at e0 e1 e2
  subst e0 e1 e2
  exact⟨n0,n1,n2,rfl,w0,w1,w2⟩
end Go.Proofs.YtbfjfnbcmojpiaaGreat
