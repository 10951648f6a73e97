import Derived.Test.YtbfjfnbcmojpiaaGreatOtVE
import Derived.Test.YtbfjfnbcmojpiaaGreatOtMK6
import Derived.Test.YtbfjfnbcmojpiaaGreatOtV3
set_option linter.unusedSimpArgs false
set_option linter.unusedVariables false
set_option maxRecDepth 100000
set_option maxHeartbeats 4000000
namespace Go.Proofs.YtbfjfnbcmojpiaaGreat
open Go.RowKit Go.Shelf
theorem AKW (n:Int) (w:World):(Instr.build 25 #[(0,.int .i64 1),(1,.int .i64 n)]).run Tryz.prog w=.ok (CE ⟨1,n,⟨#[]⟩⟩) w:=by kernel_rfl
def I9 (n:Int):V:=(⟨1,n,⟨#[]⟩⟩:V).clean
def D9 (x:V) (n:Int) (b:Bool) (a:Int):Value:=.agg ([vc x,[.int .i64 n],[.bool b],[.int .i64 a]].flatten).toArray
theorem AH1 (s:ByteArray):TY Tryz.prog 9 [.string s] (.string s):=TY.one' Tryz.underlying9 rfl (by kernel_rfl) rfl
theorem ABd {P:Program} {ops:Array Oper} {L:Nat→Sp} {n:Nat} {w0:World} {o:Oper} {x:Operand} {t:TypeId} {d:Nat} {s:ByteArray} (he:P.underlying t=some .string) (ho:o.op=.call { callee:=.builtin .len,args:=#[x],argTypes:=#[t] }) (hd:o.dst=some d) (hg:GX ops L n o.guard) (hx:OpX L n x (.string s)) (h:∀w,(L d).on w (.int .i64 s.size)):OX P ops L n w0 o:=
 FP hg fun a w hw hl hsz=>⟨.int .i64 s.size,by
  have e:=hx.eval (o:=o) (a:=a) (w:=w) (by simp[ho,Op.operands,Call.operands]) hl
  simp only[execOp,ho,resolve,Sem.run_bind,Sem.run_pure,Result.andThen_ok,List.map_toArray,List.map_cons,List.map_nil,e]
  simp[invoke,builtin,Builtin.len_,run_underlying he,goInt],DH hd (h w)⟩
theorem AKX (x:V):TY Tryz.prog 25 ([[.int .i64 x.kind],[.int .i64 x.int],[.string x.text]].flatten) (CE x):=EP x
def Kw (n:Int):Int:=bits .and .i64 n 17179869183
theorem AKY (m:Nat) (hm:m<9223372036854775808) (n:Int) (h63:(BitVec.ofInt 64 (m:Int)).toNat=m):∃k:Nat,k≤m∧bits .and .i64 n (m:Int)=(k:Int):=by
 have h:bits .and .i64 n (m:Int)=IntKind.i64.wrap (((BitVec.ofInt 64 n) &&& (BitVec.ofInt 64 (m:Int))).toNat:Int):=rfl
 have h2:((BitVec.ofInt 64 n) &&& (BitVec.ofInt 64 (m:Int))).toNat≤m:=by rw[BitVec.toNat_and,h63];exact Nat.and_le_right
 exact⟨_,h2,by rw[h];exact BA (by omega) (by omega)⟩
theorem FA (n:Int):Bn (Kw n)=true:=by
 obtain⟨k,hk,e⟩:=AKY 17179869183 (by decide) n (by decide)
 have e':Kw n=(k:Int):=e
 rw[e']
 unfold Bn
 rw[decide_eq_true (by omega),decide_eq_true (by omega)]
 rfl
theorem Tj (x:V) (n:Int) (b:Bool) (a:Int):TY Tryz.prog 27 ([vc x,[.int .i64 n],[.bool b],[.int .i64 a]].flatten) (D9 x n b a):=by
 refine TY.agg Tryz.underlying27 rfl (by kernel_rfl) ?_
 intro c hc
 simp[vc] at hc
 rcases hc with rfl|rfl|rfl|rfl|rfl|rfl<;>rfl
theorem QS {P:Program} {a c:Int} {t:TypeId} {x y:Operand} {w:World} (i:Nat) (hi:i<64) (h:a/2^i=c):(do eqGuard .shr t x y (.int .i64 a) (.int .u64 (i:Int));binOp .shr t (.int .i64 a) (.int .u64 (i:Int)):Sem Value).run P w=.ok (.int .i64 c) w:=by
 subst h
 have h1:min i IntKind.i64.bits=i:=Nat.min_eq_left (by show i≤64;omega)
 simp[eqGuard,binOp_shr,shift_shr_any,h1]
def Ek (n:Nat):List Nat:=(n%6)::(zs 30++[7*(n%6)])
theorem KX (n:Nat):Dg (Ek n):=by
 refine⟨rfl,fun x hx=>?_⟩
 simp[Ek,zs] at hx
 omega
theorem ABe {n:Nat} (h:n<6):Ek n=n::(zs 30++[7*n]):=by unfold Ek;rw[Nat.mod_eq_of_lt h]
def PU (n:Nat):DD:=⟨Ek n,KX n⟩
def KY (n:Int) (i:Nat):Int:=bits .and .i64 (n/2^i) 1
def Ev (n:Int):Nat→List DD
 | 0=>[]
 | i+1=>if KY n i=1 then Ev n i++[PU i] else Ev n i
theorem QT (n:Int):∀i,(Ev n i).length≤i
 | 0=>Nat.le_refl _
 | i+1=>by
  have:=QT n i
  unfold Ev
  split<;>simp<;>omega
def jt (b:Bool):Int:=if b then 1 else 0
theorem AAb (x:V) (b:Bool) (hb:decide (x.text.size≤100)=b) (w:World) :
   Calls Tryz.prog 12 #[CE x] w fun e w'=>e=.returned (.bool b)∧w.grownBy w' none:=by
 refine Be Tryz.func12 rfl Tryz.ntmps12 rfl fun a0 sv0=>?_
 have HG:=World.grownBy.refl w none
 replace sv0:Sv 7 [] [(0,CE x)] a0:=sv0
 refine ALl fun K1 k1=>?_
 refine ALk ?_
 refine Bm sv0 r6 (AKX x) fun a2 w2 CO F7 g2 z2 Ac sv2=>?_
 replace HG:=AA HG g2
 refine Aa (v:=.bool false) sv2 r6 fun a3 sv3=>?_
 refine AE ?_
 refine k1 _ _ ?_
 refine ALl fun K4 k4=>?_
 cases b
 · refine ALk ?_
   refine AK sv3 4 [(3,pk CO 2),(4,.string x.text),(5,.int .i64 ((x.text.size:Nat))),(6,.bool false)]
    ⟨yf r6 (fun _=>by kernel_rfl),yp (i:=2) r6 (AH1 x.text) Ac rfl rfl,ABd (Tryz.underlying9) rfl rfl trivial (oy rfl rfl) (fun _=>rfl),Cq r6 (fun _=>AEM (by rw[←hb];exact decide_eq_decide.2 (by omega))),ALr⟩ fun a5 w5 g5 sv5=>?_
   refine Aa (v:=.bool false) sv5 r6 fun a6 sv6=>?_
   have sv7:Sv _ _ [_,_] _:=sv6.dl [3,4,5,6,1]
   refine AE ?_
   refine k4 _ _ ?_
   replace Ac:=AC g5 Ac
   replace HG:=AA HG g5
   refine ALo ?_
   repeat refine AM ?_
   refine BQ (fn:=Tryz.f12) sv7 (BT (p:=2) Tryz.results12 sv7 rfl rfl) ?_
   exact⟨rfl,HG⟩
 · refine ALk ?_
   refine AK sv3 4 [(3,pk CO 2),(4,.string x.text),(5,.int .i64 ((x.text.size:Nat))),(6,.bool true)]
    ⟨yf r6 (fun _=>by kernel_rfl),yp (i:=2) r6 (AH1 x.text) Ac rfl rfl,ABd (Tryz.underlying9) rfl rfl trivial (oy rfl rfl) (fun _=>rfl),Cq r6 (fun _=>AEM (by rw[←hb];exact decide_eq_decide.2 (by omega))),ALr⟩ fun a8 w8 g8 sv8=>?_
   refine Aa (v:=.bool true) sv8 r6 fun a9 sv9=>?_
   have Cj:Sv _ _ [_,_] _:=sv9.dl [3,4,5,6,1]
   refine AE ?_
   refine k4 _ _ ?_
   replace HG:=AA HG g8
   refine ALo ?_
   repeat refine AM ?_
   refine BQ (fn:=Tryz.f12) Cj (BT (p:=2) Tryz.results12 Cj rfl rfl) ?_
   exact⟨rfl,HG⟩
theorem KZ (n:Nat) (hn:n<6) (w:World) :
  Calls Tryz.prog 30 #[.int .i64 ((n:Int))] w fun e w'=>e=.returned (AR (Ek n))∧w.grownBy w' none:=by
 have hdg:Dg (n::(zs 30++[7*n])):=ABe hn▸KX n
 rw[ABe hn]
 refine Be Tryz.func30 rfl Tryz.ntmps30 rfl fun a0 sv0=>?_
 have HG:=World.grownBy.refl w none
 replace sv0:Sv 9 [] [(0,.int .i64 ((n:Int)))] a0:=sv0
 refine ALl fun K1 k1=>?_
 refine ALk ?_
 refine Ax (T:=23) (Z:=(bv AS)) sv0 rfl rfl rfl (fun a w=>by kernel_rfl) fun a2 w2 Cf DV g2 z2 AJ sv2=>?_
 have Ey:=B7 HG DV
 refine AE ?_
 refine k1 _ _ ?_
 refine ALl fun K3 k3=>?_
 refine ALk ?_
 refine AK sv2 6 [(3,.int .i64 ((n:Int))),(4,.int .u8 ((n:Int))),(5,.int .i64 ((n:Int))),(6,.int .i64 (((7*n:Nat):Int))),(7,.int .u8 (((7*n:Nat):Int))),(8,AR ((n::(zs 30++[7*n]))))]
  ⟨ym r5,JF r6 (fun _=>JG Tryz.underlying3 Tryz.underlying5 (AA9 (by omega) (by omega))),ym r5,OZ rfl rfl trivial rfl (oy rfl rfl) (fun _=>AIX (by rw[BA (by omega) (by omega)];omega)) (fun _=>rfl),JF r6 (fun _=>JG Tryz.underlying3 Tryz.underlying5 (AA9 (by omega) (by omega))),BV (vs:=[.int .u8 ((n:Int)),.int .u8 (((7*n:Nat):Int))]) rfl rfl trivial ⟨(oy rfl rfl),(oy rfl rfl),ALr⟩ (fun _=>AK1 n (7*n) _) (fun _=>rfl),ALr⟩ fun a4 w4 g4 sv4=>?_
 refine Ap sv4 r7 (CB ((n::(zs 30++[7*n]))) hdg.1) (AC g4 AJ) (Hq hdg) fun w5 g5 h5=>?_
 replace HG:=AD (AA (AA HG g2) g4) g5 Ey
 replace AJ:=h5
 have sv6:Sv _ _ [_] _:=sv4.dl [3,4,5,6,7,8,0]
 refine AE ?_
 refine k3 _ _ ?_
 refine ALo ?_
 repeat refine AM ?_
 refine BQ (fn:=Tryz.f30) sv6 (E4 (p:=2) Tryz.results30 sv6 rfl rfl (CB ((n::(zs 30++[7*n]))) hdg.1) AJ) ?_
 exact⟨rfl,HG⟩
theorem AAc (x:V) (n a:Int) (w:World) :
  Calls Tryz.prog 18 #[D9 x n true a] w fun e w'=>e=.returned (.int .i64 1)∧w.grownBy w' none:=by
 refine Be Tryz.func18 rfl Tryz.ntmps18 rfl fun a0 sv0=>?_
 have HG:=World.grownBy.refl w none
 replace sv0:Sv 5 [] [(0,D9 x n true a)] a0:=sv0
 refine ALl fun K1 k1=>?_
 refine ALk ?_
 refine Bm sv0 r6 (Tj x n true a) fun a2 w2 CO F7 g2 z2 Ac sv2=>?_
 refine Aa (v:=.int .i64 0) sv2 r6 fun a3 sv3=>?_
 refine AE ?_
 refine k1 _ _ ?_
 refine ALl fun K4 k4=>?_
 refine ALl fun K5 k5=>?_
 refine ALk ?_
 refine AK sv3 2 [(3,pk CO 4),(4,.bool true)]
  ⟨yf r6 (fun _=>by kernel_rfl),yp (i:=2) r6 (ZU true) Ac rfl rfl,ALr⟩ fun a6 w6 g6 sv6=>?_
 refine AE ?_
 refine k5 _ _ ?_
 refine Ar sv6 rfl rfl ?_
 refine ALl fun K7 k7=>?_
 refine ALk ?_
 refine Aa (v:=.int .i64 1) sv6 r6 fun a8 sv8=>?_
 refine AE ?_
 refine k7 _ _ ?_
 replace HG:=AA (AA HG g2) g6
 refine ALo ?_
 repeat refine AM ?_
 refine BQ (fn:=Tryz.f18) sv8 (BT (p:=2) Tryz.results18 sv8 rfl rfl) ?_
 exact⟨rfl,HG⟩
theorem Yy (x:V) (n a:Int) (w:World) :
  Calls Tryz.prog 18 #[D9 x n false a] w fun e w'=>e=.returned (.int .i64 0)∧w.grownBy w' none:=by
 refine Be Tryz.func18 rfl Tryz.ntmps18 rfl fun a0 sv0=>?_
 have HG:=World.grownBy.refl w none
 replace sv0:Sv 5 [] [(0,D9 x n false a)] a0:=sv0
 refine ALl fun K1 k1=>?_
 refine ALk ?_
 refine Bm sv0 r6 (Tj x n false a) fun a2 w2 CO F7 g2 z2 Ac sv2=>?_
 refine Aa (v:=.int .i64 0) sv2 r6 fun a3 sv3=>?_
 refine AE ?_
 refine k1 _ _ ?_
 refine ALl fun K4 k4=>?_
 refine ALl fun K5 k5=>?_
 refine ALk ?_
 refine AK sv3 2 [(3,pk CO 4),(4,.bool false)]
  ⟨yf r6 (fun _=>by kernel_rfl),yp (i:=2) r6 (ZU false) Ac rfl rfl,ALr⟩ fun a6 w6 g6 sv6=>?_
 refine AE ?_
 refine k5 _ _ ?_
 refine Av sv6 rfl rfl ?_
 refine ALp ?_
 refine k4 _ _ ?_
 refine ALl fun K7 k7=>?_
 refine ALk ?_
 refine Aa (v:=.int .i64 0) sv6 r6 fun a8 sv8=>?_
 refine AE ?_
 refine k7 _ _ ?_
 replace HG:=AA (AA HG g2) g6
 refine ALo ?_
 repeat refine AM ?_
 refine BQ (fn:=Tryz.f18) sv8 (BT (p:=2) Tryz.results18 sv8 rfl rfl) ?_
 exact⟨rfl,HG⟩
theorem AAd (x:V) (n:Int) (b:Bool) (a:Int) (w:World):Calls Tryz.prog 18 #[D9 x n b a] w fun e w'=>e=.returned (.int .i64 (jt b))∧w.grownBy w' none:=by
 cases b
 · exact Yy x n a w
 · exact AAc x n a w
theorem Oz (x:V) (n:Int) (b:Bool) (a:Int) (w:World) :
  Calls Tryz.prog 19 #[D9 x n b a] w fun e w'=>e=.returned (.int .i64 (Kw a))∧w.grownBy w' none:=by
 refine Be Tryz.func19 rfl Tryz.ntmps19 rfl fun a0 sv0=>?_
 have HG:=World.grownBy.refl w none
 replace sv0:Sv 6 [] [(0,D9 x n b a)] a0:=sv0
 refine ALl fun K1 k1=>?_
 refine ALk ?_
 refine Bm sv0 r6 (Tj x n b a) fun a2 w2 CO F7 g2 z2 Ac sv2=>?_
 refine Aa (v:=.int .i64 0) sv2 r6 fun a3 sv3=>?_
 refine AE ?_
 refine k1 _ _ ?_
 refine ALl fun K4 k4=>?_
 refine ALk ?_
 refine AK sv3 3 [(3,pk CO 5),(4,.int .i64 a),(5,.int .i64 ((Kw a)))]
  ⟨yf r6 (fun _=>by kernel_rfl),yp (i:=3) r6 (GF a) Ac rfl rfl,Cq r6 (fun _=>OU rfl),ALr⟩ fun a5 w5 g5 sv5=>?_
 refine Aa (v:=.int .i64 ((Kw a))) sv5 r6 fun a6 sv6=>?_
 have sv7:Sv _ _ [_,_] _:=sv6.dl [3,4,5,1]
 refine AE ?_
 refine k4 _ _ ?_
 replace HG:=AA (AA HG g2) g5
 refine ALo ?_
 repeat refine AM ?_
 refine BQ (fn:=Tryz.f19) sv7 (BT (p:=2) Tryz.results19 sv7 rfl rfl) ?_
 exact⟨rfl,HG⟩
theorem O0 (n:Int) (w:World) :
  Calls Tryz.prog 37 #[.int .i64 n] w fun e w'=>e=.returned (CE (I9 n))∧w.grownBy w' none:=by
 refine Be Tryz.func37 rfl Tryz.ntmps37 rfl fun a0 sv0=>?_
 have HG:=World.grownBy.refl w none
 replace sv0:Sv 6 [] [(0,.int .i64 n)] a0:=sv0
 refine ALl fun K1 k1=>?_
 refine ALk ?_
 refine Ax (T:=25) (Z:=[.int .i64 0,.int .i64 0,.string ⟨#[]⟩]) sv0 rfl rfl rfl (fun a w=>by kernel_rfl) fun a2 w2 Cf DV g2 z2 AJ sv2=>?_
 have Ey:=B7 HG DV
 refine AE ?_
 refine k1 _ _ ?_
 refine ALl fun K3 k3=>?_
 refine ALk ?_
 refine AK sv2 3 [(3,.int .i64 n),(4,CE ((⟨1,n,⟨#[]⟩⟩:V))),(5,CE ((I9 n)))]
  ⟨ym r5,BV (vs:=[.int .i64 1,.int .i64 n]) rfl rfl trivial ⟨rfl,(oy rfl rfl),ALr⟩ (fun _=>AKW n _) (fun _=>rfl),Ad [CE ((⟨1,n,⟨#[]⟩⟩:V))] Tryz.func25 (by kernel_rfl) rq4 ⟨(oy rfl rfl),ALr⟩ (As fun W g=>O9 _ W),ALr⟩ fun a4 w4 g4 sv4=>?_
 refine Ap sv4 r7 (EP ((I9 n))) (AC g4 AJ) rfl fun w5 g5 h5=>?_
 replace HG:=AD (AA (AA HG g2) g4) g5 Ey
 replace AJ:=h5
 have sv6:Sv _ _ [_] _:=sv4.dl [3,4,5,0]
 refine AE ?_
 refine k3 _ _ ?_
 refine ALo ?_
 repeat refine AM ?_
 refine BQ (fn:=Tryz.f37) sv6 (E4 (p:=2) Tryz.results37 sv6 rfl rfl (EP ((I9 n))) AJ) ?_
 exact⟨rfl,HG⟩
theorem AFO (n:Int) (w:World) :
   Calls Tryz.prog 17 #[.int .i64 n] w fun e w'=>∃v,e=.returned v∧w.grownBy w' none∧(Sp.row w.heap.size 23 32 (Ev n 6).length ((Ev n 6).flatMap Lf)).on w' v:=by
 refine Be Tryz.func17 rfl Tryz.ntmps17 rfl fun a0 sv0=>?_
 have HG:=World.grownBy.refl w none
 replace sv0:Sv 21 [] [(0,.int .i64 n)] a0:=sv0
 refine ALl fun K1 k1=>?_
 refine ALk ?_
 refine Aa (v:=.slice none 0 0) sv0 r6 fun a2 sv2=>?_
 refine AE ?_
 refine k1 _ _ ?_
 refine ALl fun K3 k3=>?_
 refine ALk ?_
 refine Aa (v:=.slice none 0 0) sv2 r6 fun a4 sv4=>?_
 refine AE ?_
 refine k3 _ _ ?_
 refine ALl fun K5 k5=>?_
 refine ALl fun K6 k6=>?_
 refine ALk ?_
 refine Aa (v:=.int .i64 0) sv4 r6 fun a7 sv7=>?_
 refine AE ?_
 refine k6 _ _ ?_
 refine BF fun Q8 x8 y8 rt8 o8=>?_
 have okk:=Own.nil w 23 32
 have lo_okk:=ACO w
 refine wp_loop (fun a w'=>∃(i:Nat) (so:Option Addr) (sc:Nat) (m:Nat) (L:List DD),(i≤6)∧(L=Ev n i)∧(L.length=m)∧Sv 21 [] [(4,.int .i64 ((i:Int))),(3,.slice so m sc),(2,.slice none 0 0),(0,.int .i64 n)] a∧w.grownBy w' none∧Own w' 23 32 (.slice so m sc) m (L.flatMap Lf)∧(∀k,Bi (.slice so m sc) k→w.heap.size≤k)) (fun a _=>(6-intOf (a.tmps.getD 4 undef)).toNat) ⟨0,none,0,0,[],Nat.zero_le _,rfl,rfl,⟨sv7.1,sv7.2.1,sv7.2.2.1,sv7.2.2.2.1,sv7.2.2.2.2.1,sv7.2.2.2.2.2.1,ALr⟩,HG,okk,lo_okk⟩ fun a9 w9 hI9=>?_
 clear okk
 clear HG
 obtain⟨i,so,sc,m,L,hi6,hL,hm,sv9,HG,okk,lo_okk⟩:=hI9
 refine ALl fun K10 k10=>?_
 refine ALl fun K11 k11=>?_
 by_cases hi:i<6
 · refine ALk ?_
   refine AK sv9 2 [(5,.int .i64 ((i:Int))),(6,.bool true)]
     ⟨ym r5,Cq r6 (fun _=>Bk (decide_eq_true (by omega))),ALr⟩ fun a12 w12 g12 Df=>?_
   refine AE ?_
   refine k11 _ _ ?_
   refine Ar Df rfl rfl ?_
   refine ALp ?_
   refine k10 _ _ ?_
   refine ALl fun K13 k13=>?_
   refine BF fun Q14 x14 y14 rt14 o14=>?_
   refine ALl fun K15 k15=>?_
   replace okk:=okk.kn g12
   replace HG:=AA HG g12
   by_cases hb:KY n i=1
   · have hLl:=QT n i
     rw[←hL,hm] at hLl
     have hL1:L++[PU i]=Ev n (i+1):=by rw[show Ev n (i+1)=Ev n i++[PU i] from if_pos hb,hL]
     refine ALk ?_
     refine AK Df 6 [(9,.int .i64 n),(10,.int .i64 ((i:Int))),(11,.int .u64 ((i:Int))),(12,.int .i64 ((n/2^i))),(13,.int .i64 ((KY n i))),(14,.bool true)]
      ⟨ym r5,ym r5,JF r6 (fun _=>JG Tryz.underlying3 Tryz.underlying48 (Jq (by omega) (by omega))),Ho r7 (fun _=>QS i (by omega) rfl),Cq r6 (fun _=>OU rfl),Cq r6 (fun _=>CQ (by rw[hb];rfl)),ALr⟩ fun a16 w16 g16 Cp=>?_
     refine AE ?_
     refine k15 _ _ ?_
     refine Ar Cp rfl rfl ?_
     refine ALk ?_
     refine AK Cp 3 [(15,.slice so m sc),(16,.int .i64 ((i:Int))),(17,AR ((Ek i)))]
      ⟨ym r5,ym r5,Ad [.int .i64 ((i:Int))] Tryz.func30 (by kernel_rfl) rq4 ⟨(oy rfl rfl),ALr⟩ (As fun W g=>KZ i hi W),ALr⟩ fun a17 w17 g17 Gh=>?_
     refine Nh (cs:=bv ((Ek i))) (e:=23) Gh rfl rfl rfl rfl rfl rfl (ACu (KX i)) fun a18 w18 ALE AJU g18 z18 AHJ Ca=>?_
     replace okk:=((okk.kn g16).kn g17).kn g18
     replace HG:=AA (AA (AA HG g16) g17) g18
     refine Mx dsT Ca rfl rfl rfl rfl rfl rfl rfl rfl okk (MI AHJ (KX i)) (Ha _) (by omega) fun a19 ao19 cap19 w19 owx19 Cl Er=>?_
     have AFP:=Zm Cl.2 lo_okk HG
     replace HG:=Bh HG Cl.1 fun k e=>lo_okk k (e)
     rw[show bv (Ek i)=bv (PU i).x from rfl,VO L (PU i)] at owx19
     refine Aa (v:=.slice ao19 (m+1) cap19) Er r6 fun a20 E5=>?_
     have Db:Sv _ _ [_,_,_,_,_,_,_,_,_,_,_,_] _:=E5.dl [19,18,15,16,17]
     refine AE ?_
     refine y14 _ _ ?_
     refine k13 _ _ ?_
     refine ALk ?_
     refine AK Db 2 [(7,.int .i64 ((i:Int))),(8,.int .i64 (((i+1:Nat):Int)))]
      ⟨ym r5,Cq r6 (fun _=>DK (by rw[BA (by omega) (by omega)];omega)),ALr⟩ fun a22 w22 g22 Cv=>?_
     refine Aa (v:=.int .i64 (((i+1:Nat):Int))) Cv r6 fun a23 Cy=>?_
     refine AE ?_
     replace owx19:=owx19.kn g22
     replace HG:=AA HG g22
     exact⟨⟨i+1,ao19,cap19,m+1,(L++[PU i]),by omega,hL1,by rw[List.length_append,hm];rfl,⟨Cy.1,Cy.2.1,Cy.2.2.1,Cy.2.2.2.2.2.1,(AH Cy).2.2.2.2.2.2.1,(AH Cy).2.2.2.2.2.2.2.1,ALr⟩,HG,owx19,AFP⟩,by rw[show _=_ from Cy.2.2.1,show _=_ from sv9.2.2.1];simp[intOf];omega⟩
   · have hL1:L=Ev n (i+1):=by rw[show Ev n (i+1)=Ev n i from if_neg hb,hL]
     refine ALk ?_
     refine AK Df 6 [(9,.int .i64 n),(10,.int .i64 ((i:Int))),(11,.int .u64 ((i:Int))),(12,.int .i64 ((n/2^i))),(13,.int .i64 ((KY n i))),(14,.bool false)]
      ⟨ym r5,ym r5,JF r6 (fun _=>JG Tryz.underlying3 Tryz.underlying48 (Jq (by omega) (by omega))),Ho r7 (fun _=>QS i (by omega) rfl),Cq r6 (fun _=>OU rfl),Cq r6 (fun _=>CQ (by simpa using hb)),ALr⟩ fun a24 w24 g24 Cn=>?_
     refine AE ?_
     refine k15 _ _ ?_
     refine Av Cn rfl rfl ?_
     refine ALp ?_
     refine y14 _ _ ?_
     refine k13 _ _ ?_
     refine ALk ?_
     refine AK Cn 2 [(7,.int .i64 ((i:Int))),(8,.int .i64 (((i+1:Nat):Int)))]
      ⟨ym r5,Cq r6 (fun _=>DK (by rw[BA (by omega) (by omega)];omega)),ALr⟩ fun a25 w25 g25 DM=>?_
     have Ks:=AA g24 g25
     refine Aa (v:=.int .i64 (((i+1:Nat):Int))) DM r6 fun a26 Co=>?_
     refine AE ?_
     replace okk:=okk.kn Ks
     replace HG:=AA HG Ks
     exact⟨⟨i+1,so,sc,m,L,by omega,hL1,hm,⟨Co.1,Co.2.1,Co.2.2.1,(AH Co).2.2.2.2.2.1,(AH Co).2.2.2.2.2.2.1,(AH Co).2.2.2.2.2.2.2.1,ALr⟩,HG,okk,lo_okk⟩,by rw[show _=_ from Co.2.2.1,show _=_ from sv9.2.2.1];simp[intOf];omega⟩
 · obtain rfl:i=6:=by omega
   refine ALk ?_
   refine AK sv9 2 [(5,.int .i64 (((6:Nat):Int))),(6,.bool false)]
     ⟨ym r5,Cq r6 (fun _=>Bk (by simp)),ALr⟩ fun a27 w27 g27 Gj=>?_
   refine AE ?_
   refine k11 _ _ ?_
   refine Av Gj rfl rfl ?_
   refine wp_exit ?_
   repeat refine CJ ?_
   refine x8 _ _ ?_
   refine k5 _ _ ?_
   refine ALl fun K28 k28=>?_
   refine ALk ?_
   refine AK Gj 1 [(20,.slice so m sc)]
     ⟨ym r5,ALr⟩ fun a29 w29 g29 Cc=>?_
   have Gk:=AA g27 g29
   refine Aa (v:=.slice so m sc) Cc r6 fun a30 Es=>?_
   refine AE ?_
   refine k28 _ _ ?_
   replace okk:=okk.kn Gk
   replace HG:=AA HG Gk
   refine ALo ?_
   repeat refine AM ?_
   subst hL hm
   refine BQ (fn:=Tryz.f17) Es (BT (p:=2) Tryz.results17 Es rfl rfl) ?_
   exact⟨_,rfl,HG,_,_,rfl,okk,lo_okk⟩
end Go.Proofs.YtbfjfnbcmojpiaaGreat
namespace Go.Proofs.YtbfjfnbcmojpiaaGreat
open Go.ChangeShapes Go.WideShapes Go.ChangeAt Go.RowKit Go.Deep
theorem ZE {a b:World} (h:a.grownBy b none):Below a.heap.size a b:=
 ⟨h.os,h.tape,h.output,h.size,fun i hi=>h.block i hi (by simp)⟩
theorem UP:laidOutB Tryz.prog=true:=by kernel_rfl
theorem Tu:Tryz.prog.cellsOf 25=3:=by kernel_rfl
theorem ADM:Tryz.prog.cellsOf 27=6:=by kernel_rfl
theorem ABq:Tryz.prog.cellsOf 9=1:=by kernel_rfl
theorem AFm:Tryz.prog.cellsOf 4=1:=by kernel_rfl
theorem AAp:Tryz.prog.cellsOf 3=1:=by kernel_rfl
theorem Wh:Tryz.prog.cellsOf 2=1:=by kernel_rfl
theorem AH6 {H:Type} {enc:TypeId×Value→H} {W:World} {b0:Nat}:∀fuel cs y,DataW.trod enc Tryz.prog W b0 (fun _=>true) true fuel 25 cs=some y→∃x:V,cs=vc x:=by
 intro fuel cs y h
 obtain⟨xs,k,_,_,hl,hxl,hf⟩:=DataW.trod_struct Tryz.underlying25 h
 rw[Tu] at hl
 match cs,hl with
 | [a,b,c],_ =>
  obtain⟨y0,h0⟩:=Mm hxl hf 0 _ rfl 3 rfl 1 AAp
  obtain⟨y1,h1⟩:=Mm hxl hf 1 _ rfl 2 rfl 1 Wh
  obtain⟨y2,h2⟩:=Mm hxl hf 2 _ rfl 9 rfl 1 ABq
  obtain⟨n0,e0,_,r0⟩:=DataW.trod_int Tryz.underlying3 h0
  obtain⟨n1,e1,_,r1⟩:=DataW.trod_int Tryz.underlying2 h1
  obtain⟨s2,e2,_,r2⟩:=DataW.trod_string Tryz.underlying9 h2
  simp at e0 e1 e2
  subst e0 e1 e2
  exact⟨⟨n0,n1,s2⟩,rfl⟩
theorem ABo {H:Type} {enc:TypeId×Value→H} {W:World} {r:Reach} {base b0:Nat} {v:Value} {d:DataW H} {p:List MemPlace} (hv:Value.okWide Tryz.prog W r base 27 v) (h:DataW.Trod enc Tryz.prog W b0 (fun _=>true) true 27 v d p):∃(x:V) (n:Int) (b:Bool) (a:Int),v=D9 x n b a∧True:=by
 obtain⟨cs,rfl,hcell⟩:=Sa Tryz.underlying27 hv
 obtain⟨fuel,hf⟩:=h
 have hf':DataW.trod enc Tryz.prog W b0 (fun _=>true) true fuel 27 cs.toList=some (d,p):=hf
 obtain⟨xs,k,_,_,hl,hxl,hf⟩:=DataW.trod_struct Tryz.underlying27 hf'
 rw[ADM] at hl
 obtain⟨l⟩:=cs
 match l,hl with
 | [a,b,c,e,f,g],_ =>
  obtain⟨y0,t0⟩:=Mm hxl hf 0 _ rfl 25 rfl 3 Tu
  obtain⟨y1,t1⟩:=Mm hxl hf 1 _ rfl 3 rfl 1 AAp
  obtain⟨y2,t2⟩:=Mm hxl hf 2 _ rfl 4 rfl 1 AFm
  obtain⟨y3,t3⟩:=Mm hxl hf 3 _ rfl 2 rfl 1 Wh
  obtain⟨v0,e0⟩:=AH6 _ _ _ t0
  obtain⟨n1,e1,_,_⟩:=DataW.trod_int Tryz.underlying3 t1
  obtain⟨b2,e2,_⟩:=DataW.trod_bool Tryz.underlying4 t2
  obtain⟨n3,e3,_,_⟩:=DataW.trod_int Tryz.underlying2 t3
  simp[vc] at e0 e1 e2 e3
  obtain⟨rfl,rfl,rfl⟩:=e0
  subst e1 e2 e3
  exact⟨v0,n1,b2,n3,rfl,ALr⟩
end Go.Proofs.YtbfjfnbcmojpiaaGreat
namespace Go.Proofs.YtbfjfnbcmojpiaaGreat
open Go.RowKit Go.Shelf
theorem ABf {w:World} {k b:Nat} {c:Array Value} {T:TypeId} {fr:Nat×Nat} (h:TagV w k) (hb:w.heap[b]?=some (.cells c T fr)) (hT:T≠132∧T≠58):k≠b:=by
 rcases h with h|⟨c',fr',h1⟩
 · exact AEI h hb hT.1
 · rintro rfl
   rw[hb] at h1
   simp only[Option.some.injEq,Obj.cells.injEq] at h1
   exact hT.2 h1.2.1
theorem Hs {w:World} {p:Nat→Prop} {b:Nat} {c:Array Value} {T:TypeId} {fr:Nat×Nat} (hf:∀k,p k→(fun _=>False) k∨TagV w k) (hb:w.heap[b]?=some (.cells c T fr)) (hT:T≠132∧T≠58):∀k,p k→k≠b:=fun k hk=>(hf k hk).elim (fun h=>h.elim) fun t=>ABf t hb hT
theorem AAe {w:World} {p q:Nat→Prop} {b:Nat} {c:Array Value} {T:TypeId} {fr:Nat×Nat} (hf:∀k,p k→q k∨TagV w k) (ha:∀k,q k→k≠b) (hb:w.heap[b]?=some (.cells c T fr)) (hT:T≠132∧T≠58):∀k,p k→k≠b:=fun k hk=>(hf k hk).elim (ha k) fun t=>ABf t hb hT
def Sp.vv (V:VV) (fp:Nat→Prop):Sp:=⟨fun w v=>∃ao cap ks,v=Ao V.2.1 V.2.2 (.slice ao (List.length ks) cap)∧ks.map VK.p=V.1∧RdK w (.slice ao (List.length ks) cap) ks∧∀k,JZ (.slice ao (List.length ks) cap) ks k→fp k∨TagV w k,fun _ _ _ hg ⟨ao,cap,ks,h1,h2,h3,h4⟩=>⟨ao,cap,ks,h1,h2,h3.kn hg,RY hg h4⟩⟩
theorem Nw {r:VV×Int} {fp:Nat→Prop} (w:World) (u:Value) (h:(Sp.vt r fp).on w u):∃vs v,u=.tuple vs∧vs[0]?=some v∧(Sp.vv r.1 fp).on w v:=by
 obtain⟨ao,cap,ks,h1,h2⟩:=h
 exact⟨_,_,h1,rfl,ao,cap,ks,rfl,h2⟩
theorem M7 {r:VV×Int} {fp:Nat→Prop} (w:World) (u:Value) (h:(Sp.vt r fp).on w u):∃vs v,u=.tuple vs∧vs[1]?=some v∧(Sp.is (.int .i64 r.2)).on w v:=by
 obtain⟨ao,cap,ks,h1,h2⟩:=h
 exact⟨_,_,h1,rfl,rfl⟩
def TgF (w:World) (p q:Nat→Prop):Prop:=∀k,p k→q k∨TagV w k
theorem TgF.kn {w w':World} {p q:Nat→Prop} (h:TgF w p q) (g:w.grownBy w' none):TgF w' p q:=RY g h
theorem TgF.offR {w w':World} {p q:Nat→Prop} (h:TgF w p q) {row:Option Nat} (g:w.grownBy w' row) (hb:∀k,p k→row≠some k):TgF w' p q:=fun k hk=>(h k hk).imp id (·.keep g (hb k hk))
theorem TgF.join {w:World} {p q r:Nat→Prop} (h:TgF w p q) (h2:TgF w q r):TgF w p r:=fun k hk=>(h k hk).elim (h2 k) .inr
theorem TgF.none (w:World):TgF w (JZ (.slice none 0 0) []) (fun _=>False):=fun k hk=>(NU k hk).elim
theorem Vy {i j:Nat} (hi:i<6) (hj:j<6) (h:Ek i=Ek j):i=j:=by
 have:=(List.cons.inj h).1
 omega
def SY (seed:List Nat):Nat→List Nat
 | 0=>kd 274 seed
 | j+1=>kd 276 (SY seed j)
theorem Ht (seed:List Nat):∀j,Dg (SY seed j)
 | 0=>Bb _ _
 | _+1=>Bb _ _
def Tsd (seed:List Nat) (j:Nat):List Nd:=tree (kd 275 (SY seed j)) []
def P0 (seed:List Nat):Nat→List VP
 | 0=>[]
 | i+1=>Ms (P0 seed i) (Ek i) (Tsd seed i)
def OV (T:Nat→List Nd) (P:List VP) (i:Nat):Prop:=CI P=true∧P.length=i∧∀x,x∈P↔∃j,j<i∧x=(Ek j,T j)
theorem OV.not {T:Nat→List Nd} {P:List VP} {i:Nat} (h:OV T P i) (hi:i<6):Gx P (Ek i)=false:=AGB (Srt.of h.1) fun hm=>by
 obtain⟨x,hx,e⟩:=List.mem_map.1 hm
 obtain⟨j,hj,rfl⟩:=(h.2.2 x).1 hx
 have:=Vy (by omega) hi e
 omega
theorem OV.succ {T:Nat→List Nd} {P:List VP} {i:Nat} (h:OV T P i) (hi:i<6) (hT:∀j,GV (T j)=true):OV T (Ms P (Ek i) (T i)) (i+1):=by
 refine⟨Xy h.1 (h.not hi) (by rw[h.2.1];omega) (hT i),by rw[AGC,h.2.1],fun x=>?_⟩
 rw[AA7,h.2.2 x]
 constructor
 · rintro (rfl|⟨j,hj,rfl⟩)
   · exact⟨i,by omega,rfl⟩
   · exact⟨j,by omega,rfl⟩
 · rintro ⟨j,hj,rfl⟩
   by_cases e:j=i
   · subst e;exact .inl rfl
   · exact .inr ⟨j,by omega,rfl⟩
theorem AHK (seed:List Nat) (j:Nat):GV (Tsd seed j)=true:=IC _
theorem J0 (seed:List Nat):∀i,i≤6→OV (Tsd seed) (P0 seed i) i
 | 0,_=>⟨rfl,rfl,by simp[P0]⟩
 | i+1,h=>(J0 seed i (by omega)).succ (by omega) (AHK seed)
def V6 (seed:List Nat):VV:=(P0 seed 6,kd 273 seed,SY seed 6)
theorem AJE {seed:List Nat} {i:Nat} {P:List VP} (hP:P=P0 seed i) (hi:i<6):MS (P,kd 273 seed,SY seed i) (Ek i) (Tsd seed i) (kd 276 (SY seed i))=((P0 seed (i+1),kd 273 seed,SY seed (i+1)),0):=by
 subst hP
 have h:=J0 seed i (by omega)
 exact XM h.1 (h.not hi) (by rw[h.2.1];omega)
def AFQ (a b c:Value) (k:Nat):Prop:=Bi a k∨Bi b k∨Bi c k
def SdF (w:World) (s:Sd) (own wr:List DD) (ao wo bo:Option Addr) (ac wc bc:Nat):Prop:=own.map DD.x=s.own∧wr.map DD.x=s.wr ∧
 Own w 23 32 (.slice ao own.length ac) own.length (own.flatMap Lf)∧Own w 23 32 (.slice wo wr.length wc) wr.length (wr.flatMap Lf)∧Own w 5 1 (.slice bo s.body.length bc) s.body.length (bv s.body) ∧
 (∀k,Bi (.slice ao own.length ac) k→¬Bi (.slice wo wr.length wc) k)∧Dg s.tag∧By s.body
section
variable {w w':World} {s:Sd} {own wr:List DD} {ao wo bo:Option Addr} {ac wc bc:Nat}
theorem SdF.kn (h:SdF w s own wr ao wo bo ac wc bc) (g:w.grownBy w' none):SdF w' s own wr ao wo bo ac wc bc:=by
 obtain⟨h1,h2,h3,h4,h5,h6⟩:=h
 exact⟨h1,h2,h3.kn g,h4.kn g,h5.kn g,h6⟩
theorem SdF.offR (h:SdF w s own wr ao wo bo ac wc bc) {row:Option Nat} (g:w.grownBy w' row) (hb:∀k,AFQ (.slice ao own.length ac) (.slice wo wr.length wc) (.slice bo s.body.length bc) k→row≠some k):SdF w' s own wr ao wo bo ac wc bc:=by
 obtain⟨h1,h2,h3,h4,h5,h6⟩:=h
 exact⟨h1,h2,h3.offR g fun k hk=>hb k (.inl hk),h4.offR g fun k hk=>hb k (.inr (.inl hk)),h5.offR g fun k hk=>hb k (.inr (.inr hk)),h6⟩
theorem SdF.lt (h:SdF w s own wr ao wo bo ac wc bc):∀k,AFQ (.slice ao own.length ac) (.slice wo wr.length wc) (.slice bo s.body.length bc) k→k<w.heap.size:=by
 obtain⟨h1,h2,h3,h4,h5,h6⟩:=h
 rintro k (hk|hk|hk)
 · exact Own.ltS h3 k hk
 · exact Own.ltS h4 k hk
 · exact Own.ltS h5 k hk
theorem SdF.ap (h:SdF w s own wr ao wo bo ac wc bc) {b:Nat} {c:Array Value} {T:TypeId} {fr:Nat×Nat} (hb:w.heap[b]?=some (.cells c T fr)) (hT:T≠23∧T≠5):∀k,AFQ (.slice ao own.length ac) (.slice wo wr.length wc) (.slice bo s.body.length bc) k→k≠b:=by
 obtain⟨h1,h2,h3,h4,h5,h6⟩:=h
 rintro k (hk|hk|hk) rfl
 · exact Own.ne h3 hb (Ne.symm hT.1) hk
 · exact Own.ne h4 hb (Ne.symm hT.1) hk
 · exact Own.ne h5 hb (Ne.symm hT.2) hk
theorem SdF.ro (h:SdF w s own wr ao wo bo ac wc bc):RdD w (.slice ao own.length ac) own:=Own.sb h.2.2.1
theorem SdF.rw (h:SdF w s own wr ao wo bo ac wc bc):RdD w (.slice wo wr.length wc) wr:=Own.sb h.2.2.2.1
theorem SdF.rb (h:SdF w s own wr ao wo bo ac wc bc):SlB w 1 (.slice bo s.body.length bc) s.body.length (bv s.body):=Own.sb h.2.2.2.2.1
theorem SdF.tg (h:SdF w s own wr ao wo bo ac wc bc):Dg s.tag:=h.2.2.2.2.2.2.1
theorem SdF.by (h:SdF w s own wr ao wo bo ac wc bc):By s.body:=h.2.2.2.2.2.2.2
theorem SdF.sd (h:SdF w s own wr ao wo bo ac wc bc):(⟨s.addr,own.map DD.x,s.joint,wr.map DD.x,s.body,s.tag⟩:Sd)=s:=by rw[h.1,h.2.1]
end
def Sp.sr (B:Nat) (r:Sd×Int):Sp:=⟨fun w v=>∃own wr ao wo bo ac wc bc,v=.tuple #[Ce r.1.addr (.slice ao (List.length own) ac) r.1.joint (.slice wo (List.length wr) wc) (.slice bo r.1.body.length bc) r.1.tag,.int .i64 r.2]∧SdF w r.1 own wr ao wo bo ac wc bc∧∀k,AFQ (.slice ao (List.length own) ac) (.slice wo (List.length wr) wc) (.slice bo r.1.body.length bc) k→B≤k,
 fun _ _ _ hg ⟨own,wr,ao,wo,bo,ac,wc,bc,h1,h2,h3⟩=>⟨own,wr,ao,wo,bo,ac,wc,bc,h1,h2.kn hg,h3⟩⟩
def Sp.sl (B:Nat) (s:Sd):Sp:=⟨fun w v=>∃own wr ao wo bo ac wc bc,v=Ce s.addr (.slice ao (List.length own) ac) s.joint (.slice wo (List.length wr) wc) (.slice bo s.body.length bc) s.tag∧SdF w s own wr ao wo bo ac wc bc∧∀k,AFQ (.slice ao (List.length own) ac) (.slice wo (List.length wr) wc) (.slice bo s.body.length bc) k→B≤k,
 fun _ _ _ hg ⟨own,wr,ao,wo,bo,ac,wc,bc,h1,h2,h3⟩=>⟨own,wr,ao,wo,bo,ac,wc,bc,h1,h2.kn hg,h3⟩⟩
theorem ABg {B:Nat} {r:Sd×Int} (w:World) (u:Value) (h:(Sp.sr B r).on w u):∃vs v,u=.tuple vs∧vs[0]?=some v∧(Sp.sl B r.1).on w v:=by
 obtain⟨own,wr,ao,wo,bo,ac,wc,bc,h1,h2⟩:=h
 exact⟨_,_,h1,rfl,own,wr,ao,wo,bo,ac,wc,bc,rfl,h2⟩
theorem O6 {B:Nat} {r:Sd×Int} (w:World) (u:Value) (h:(Sp.sr B r).on w u):∃vs v,u=.tuple vs∧vs[1]?=some v∧(Sp.is (.int .i64 r.2)).on w v:=by
 obtain⟨own,wr,ao,wo,bo,ac,wc,bc,h1,h2⟩:=h
 exact⟨_,_,h1,rfl,rfl⟩
theorem SRes.sr {w w':World} {B:Nat} {r:Sd×Int} {e:Ending} (h:SRes w w' r e) (hB:B≤w.heap.size):∃v,e=.returned v∧w.grownBy w' none∧(Sp.sr B r).on w' v:=by
 obtain⟨own,wr,ao,wo,bo,ac,wc,bc,h1,h2,h3,h4,h5,h6,f1,f2,f3,f4,h7,h8,h9⟩:=h
 refine⟨_,h1,h9,own,wr,ao,wo,bo,ac,wc,bc,rfl,⟨h2,h3,h4,h5,h6,f4,h7,h8⟩,?_⟩
 rintro k (hk|hk|hk)
 · exact Nat.le_trans hB (f1 k hk)
 · exact Nat.le_trans hB (f2 k hk)
 · exact Nat.le_trans hB (f3 k hk)
theorem AAf {W:World} {B:Nat} {ks:List VK} {vo:Option Addr} {vc_:Nat} {sa po:List Nat} (hsa:Dg sa) (hpo:Dg po) {P:List VP} {ds:List DD} {v:Value} {joint ad:Int} {x:V} {r:Sd×Int} (hr:RdK W (.slice vo ks.length vc_) ks) (hP:ks.map VK.p=P) (ho:RdD W v ds) (hdl:ds.length≤1000) (hB:B≤W.heap.size) (hres:E9 P (ds.map DD.x) joint ad x=r) :
  Calls Tryz.prog 20 #[Ao sa po (.slice vo ks.length vc_),v,.int .i64 joint,.int .i64 ad,CE x] W fun e w'=>∃v,e=.returned v∧W.grownBy w' none∧(Sp.sr B r).on w' v:=by
 obtain⟨ao,cap,rfl⟩:=ho.shape
 subst hP hres
 exact(ACw ks vo vc_ sa po hsa hpo ds ao cap joint ad x W hr ho hdl).mono fun e w' h=>h.sr hB
def PW (P:List VP) (x:V) (n:Int) (b:Bool) (a:Int):Sd×Int:=E9 P ((Ev n 6).map DD.x) (jt b) (Kw a) x
theorem AJF (n:Int) {w0 W:World} (g:w0.grownBy W none):Calls Tryz.prog 17 #[.int .i64 n] W fun e w'=>∃v,e=.returned v∧W.grownBy w' none∧(Sp.row w0.heap.size 23 32 (Ev n 6).length ((Ev n 6).flatMap Lf)).on w' v:=
 (AFO n W).mono fun e w' ⟨v,h1,h2,ao,cap,h3,h4,h5⟩=>⟨v,h1,h2,ao,cap,h3,h4,fun k hk=>Nat.le_trans g.size (h5 k hk)⟩
theorem AKZ {W:World} {B:Nat} {ds:List DD} {v:Value} (h:(Sp.row B 23 32 ds.length (ds.flatMap Lf)).on W v):RdD W v ds:=by
 obtain⟨ao,cap,rfl,h2,_⟩:=h
 exact Own.sb h2
theorem AAg (seed:List Nat) (hse:Dg seed) (w:World) :
   Calls Tryz.prog 14 #[AR seed] w fun e w'=>∃v,e=.returned v∧w.grownBy w' none∧(Sp.vv (V6 seed) (fun _=>False)).on w' v:=by
 refine Be Tryz.func14 rfl Tryz.ntmps14 rfl fun a0 sv0=>?_
 have HG:=World.grownBy.refl w none
 replace sv0:Sv 19 [] [(0,AR seed)] a0:=sv0
 refine ALl fun K1 k1=>?_
 refine ALk ?_
 refine Bm sv0 r6 (CB seed hse.1) fun a2 w2 CO F7 g2 z2 Ac sv2=>?_
 replace HG:=AA HG g2
 refine Ax (T:=36) (Z:=([bv AS,bv AS,[.slice none 0 0]].flatten)) sv2 rfl rfl rfl (fun a w=>by kernel_rfl) fun a3 w3 Og JK g3 z3 CS sv3=>?_
 have KG:=B7 HG JK
 replace Ac:=AC g3 Ac
 refine AE ?_
 refine k1 _ _ ?_
 refine ALl fun K4 k4=>?_
 refine ALk ?_
 refine AK sv3 2 [(5,AR seed),(6,Ao ((kd 273 seed)) ((SY seed 0)) (.slice none 0 0))]
   ⟨yl r6 (CB seed hse.1) Ac,Ad [AR seed] Tryz.func38 (by kernel_rfl) rq4 ⟨(oy rfl rfl),ALr⟩ (As fun W g=>Zs seed hse W),ALr⟩ fun a5 w5 g5 sv5=>?_
 replace Ac:=AC g5 Ac
 replace CS:=AC g5 CS
 replace HG:=AA (AA HG g3) g5
 refine Ax (T:=36) (Z:=([bv AS,bv AS,[.slice none 0 0]].flatten)) sv5 rfl rfl rfl (fun a w=>by kernel_rfl) fun a6 w6 AHL Vz g6 z6 Iw sv6=>?_
 have Nx:=Au Ac Vz
 have Ny:=Au CS Vz
 have ABh:=B7 HG Vz
 refine Ap sv6 r7 (BR (Bb _ _) (Ht seed 0) (.slice none 0 0) rfl) Iw (by first|rfl|simp[AY,AI,AQ,(Bb _ _).1,(Ht seed 0).1]) fun w7 g7 h7=>?_
 replace Ac:=AX g7 (AC g6 Ac) (Ne.symm Nx)
 replace CS:=AX g7 (AC g6 CS) (Ne.symm Ny)
 replace HG:=AD (AA HG g6) g7 ABh
 replace Iw:=h7
 refine AE ?_
 refine k4 _ _ ?_
 refine ALl fun K8 k8=>?_
 refine ALl fun K9 k9=>?_
 refine ALk ?_
 refine Aa (v:=.int .i64 0) sv6 r6 fun a10 Cj=>?_
 refine AE ?_
 refine k9 _ _ ?_
 refine BF fun Q11 x11 y11 rt11 o11=>?_
 have hr:=RdK.nil w7
 have M8:∀k,JZ (.slice none 0 0) [] k→k≠CO:=fun k hk=>(NU k hk).elim
 have Ix:∀k,JZ (.slice none 0 0) [] k→k≠Og:=fun k hk=>(NU k hk).elim
 have Iy:∀k,JZ (.slice none 0 0) [] k→k≠AHL:=fun k hk=>(NU k hk).elim
 have ht:=TgF.none w7
 refine wp_loop (fun a w'=>∃(i:Nat) (ks:List VK) (ao:Option Addr) (cap:Nat),(i≤6)∧(ks.map VK.p=P0 seed i)∧Sv 19 [] [(4,.int .i64 ((i:Int))),(3,pt AHL),(5,AR seed),(6,Ao ((kd 273 seed)) ((SY seed 0)) (.slice none 0 0)),(2,pt Og),(1,pt CO),(0,AR seed)] a∧w.grownBy w' none∧w'.heap[CO]?=some (.cells (bv seed).toArray 23 (0,0))∧w'.heap[Og]?=some (.cells (([bv AS,bv AS,[.slice none 0 0]].flatten)).toArray 36 (0,0))∧w'.heap[AHL]?=some (.cells ([bv ((kd 273 seed)),bv ((SY seed i)),[.slice ao ks.length cap]].flatten).toArray 36 (0,0))∧RdK w' (.slice ao ks.length cap) ks∧TgF w' (JZ (.slice ao ks.length cap) ks) (fun _=>False)∧(∀k,JZ (.slice ao ks.length cap) ks k→k≠CO)∧(∀k,JZ (.slice ao ks.length cap) ks k→k≠Og)∧(∀k,JZ (.slice ao ks.length cap) ks k→k≠AHL)) (fun a _=>(6-intOf (a.tmps.getD 4 undef)).toNat) ⟨0,[],none,0,by omega,rfl,⟨Cj.1,Cj.2.1,Cj.2.2.1,Cj.2.2.2.1,Cj.2.2.2.2.1,Cj.2.2.2.2.2.1,Cj.2.2.2.2.2.2.1,Cj.2.2.2.2.2.2.2.1,(AH Cj).1,ALr⟩,HG,Ac,CS,Iw,hr,ht,M8,Ix,Iy⟩ fun a12 w12 hI12=>?_
 clear Ac
 clear CS
 clear Iw
 clear hr
 clear ht
 clear HG
 obtain⟨i,ks,ao,cap,hi6,hP,Df,HG,Ac,CS,Iw,hr,ht,M8,Ix,Iy⟩:=hI12
 refine ALl fun K13 k13=>?_
 refine ALl fun K14 k14=>?_
 by_cases hi:i<6
 · refine ALk ?_
   refine AK Df 2 [(7,.int .i64 ((i:Int))),(8,.bool true)]
    ⟨ym r5,Cq r6 (fun _=>Bk (decide_eq_true (by omega))),ALr⟩ fun a15 w15 g15 Pq=>?_
   refine AE ?_
   refine k14 _ _ ?_
   refine Ar Pq rfl rfl ?_
   refine ALp ?_
   refine k13 _ _ ?_
   refine ALl fun K16 k16=>?_
   refine BF fun Q17 x17 y17 rt17 o17=>?_
   replace Iw:=AC g15 Iw
   replace hr:=hr.kn g15
   refine DU (Pq.st w15) (by kernel_rfl) 7 [(12,Sp.is (Ao ((kd 273 seed)) ((SY seed i)) (.slice ao ks.length cap))),(13,Sp.is (.int .i64 ((i:Int)))),(14,Sp.is (AR ((Ek i)))),(15,Sp.vt ((P0 seed (i+1),(kd 273 seed),(SY seed (i+1))),(0:Int)) (JZ (.slice ao ks.length cap) ks)),(11,Sp.vt ((P0 seed (i+1),(kd 273 seed),(SY seed (i+1))),(0:Int)) (JZ (.slice ao ks.length cap) ks)),(16,Sp.vv (P0 seed (i+1),(kd 273 seed),(SY seed (i+1))) (JZ (.slice ao ks.length cap) ks)),(17,Sp.is (.int .i64 0))] rfl (by kernel_rfl) (by kernel_rfl) (by kernel_rfl) [6] (by kernel_rfl)
    ⟨yl r6 (BR (Bb _ _) (Ht seed i) (.slice ao ks.length cap) rfl) Iw,ym r5,Ad [.int .i64 ((i:Int))] Tryz.func30 (by kernel_rfl) rq4 ⟨(oy rfl rfl),ALr⟩ (As fun W g=>KZ i hi W),Ad [Ao ((kd 273 seed)) ((SY seed i)) (.slice ao ks.length cap),AR ((Ek i))] Tryz.func39 (by kernel_rfl) rq4 ⟨(oy rfl rfl),(oy rfl rfl),ALr⟩ (AGn (Bb _ _) (Ht seed i) (KX i) hr rfl (T:=Tsd seed i) rfl (AJE hP hi)),ym r5,BE rq4 (fun w u h=>Nw w u h),BE rq4 (fun w u h=>M7 w u h),ALr⟩ ⟨fun o ho=>by obtain rfl:=Option.some.inj ho;exact Ic rfl rfl rfl trivial (fun w u h=>M7 w u h),ALr⟩
    [] (by kernel_rfl) trivial ⟨.inl rfl,.inl rfl,.inl rfl,.inl rfl,.inl rfl,.inl rfl,.inl rfl,ALr⟩ (by kernel_rfl) fun a18 w18 g18 st18 nd18=>?_
   obtain⟨hn18,hd18,e18_12,e18_13,e18_14,e18_15,e18_11,e18_16,e18_17,e18_7,e18_8,e18_4,e18_3,e18_5,e18_6,e18_2,e18_1,e18_0,-⟩:=st18
   obtain⟨ao19,cap19,ks19,e18_16q,hp19,hk19,hf19⟩:=e18_16
   replace Ac:=AC g18 (AC g15 Ac)
   replace CS:=AC g18 (AC g15 CS)
   replace Iw:=AC g18 Iw
   have WA:=AAe hf19 M8 Ac (by decide)
   have WC:=AAe hf19 Ix CS (by decide)
   have Kg:=AAe hf19 Iy Iw (by decide)
   have Ca:Sv 19 [] [(7,_),(8,_),(4,_),(3,_),(5,_),(6,_),(2,_),(1,_),(0,_),(16,_)] a18:=⟨hn18,hd18,e18_7,e18_8,e18_4,e18_3,e18_5,e18_6,e18_2,e18_1,e18_0,e18_16q,ALr⟩
   refine Ap Ca r7 (BR (Bb _ _) (Ht seed (i+1)) (.slice ao19 ks19.length cap19) rfl) Iw (by first|rfl|simp[AY,AI,AQ,(Bb _ _).1,(Ht seed (i+1)).1,(Bb _ _).1,(Ht seed i).1]) fun w20 g20 h20=>?_
   refine AE ?_
   refine y17 _ _ ?_
   refine k16 _ _ ?_
   refine ALk ?_
   refine AK Ca 2 [(9,.int .i64 ((i:Int))),(10,.int .i64 (((i+1:Nat):Int)))]
    ⟨ym r5,Cq r6 (fun _=>DK (by rw[BA (by omega) (by omega)];omega)),ALr⟩ fun a21 w21 g21 Db=>?_
   refine Aa (v:=.int .i64 (((i+1:Nat):Int))) Db r6 fun a22 Cv=>?_
   refine AE ?_
   replace Ac:=AC g21 (AX g20 Ac (Ne.symm Nx))
   replace CS:=AC g21 (AX g20 CS (Ne.symm Ny))
   replace Iw:=AC g21 h20
   replace hr:=((hr.kn g18).offR g20 (AU Iy)).kn g21
   replace ht:=TgF.kn (TgF.offR (TgF.kn (TgF.kn ht g15) g18) g20 (AU Iy)) g21
   replace hk19:=(hk19.offR g20 (AU Kg)).kn g21
   replace hf19:=TgF.kn (TgF.offR hf19 g20 (AU Kg)) g21
   replace HG:=AA (AD (AA (AA HG g15) g18) g20 ABh) g21
   have htn:=hf19.join ht
   exact⟨⟨i+1,ks19,ao19,cap19,by omega,hp19,⟨Cv.1,Cv.2.1,Cv.2.2.1,Cv.2.2.2.2.2.2.2.1,(AH Cv).1,(AH Cv).2.1,(AH Cv).2.2.1,(AH Cv).2.2.2.1,(AH Cv).2.2.2.2.1,ALr⟩,HG,Ac,CS,Iw,hk19,htn,WA,WC,Kg⟩,by rw[show _=_ from Cv.2.2.1,show _=_ from Df.2.2.1];simp[intOf];omega⟩
 · obtain rfl:i=6:=by omega
   refine ALk ?_
   refine AK Df 2 [(7,.int .i64 (((6:Nat):Int))),(8,.bool false)]
    ⟨ym r5,Cq r6 (fun _=>Bk (by simp)),ALr⟩ fun a23 w23 g23 Cy=>?_
   refine AE ?_
   refine k14 _ _ ?_
   refine Av Cy rfl rfl ?_
   refine wp_exit ?_
   repeat refine CJ ?_
   refine x11 _ _ ?_
   refine k8 _ _ ?_
   refine ALl fun K24 k24=>?_
   refine ALk ?_
   refine AK Cy 1 [(18,Ao ((kd 273 seed)) ((SY seed 6)) (.slice ao ks.length cap))]
    ⟨yl r6 (BR (Bb _ _) (Ht seed 6) (.slice ao ks.length cap) rfl) (AC g23 Iw),ALr⟩ fun a25 w25 g25 DM=>?_
   have Ks:=AA g23 g25
   refine Ap DM r7 (BR (Bb _ _) (Ht seed 6) (.slice ao ks.length cap) rfl) (AC Ks CS) (by first|rfl|simp[AY,AI,AQ,(Bb _ _).1,(Ht seed 6).1]) fun w26 g26 h26=>?_
   replace hr:=(hr.kn Ks).offR g26 (AU Ix)
   replace ht:=TgF.offR (TgF.kn ht Ks) g26 (AU Ix)
   replace HG:=AD (AA HG Ks) g26 KG
   replace CS:=h26
   refine AE ?_
   refine k24 _ _ ?_
   refine ALo ?_
   repeat refine AM ?_
   refine BQ (fn:=Tryz.f14) DM (E4 (p:=2) Tryz.results14 DM rfl rfl (BR (Bb _ _) (Ht seed 6) (.slice ao ks.length cap) rfl) CS) ?_
   exact⟨_,rfl,HG,ao,cap,ks,rfl,hP,hr,ht⟩
theorem AAh (ks:List VK) (vo:Option Addr) (vc_:Nat) (sa po:List Nat) (hsa:Dg sa) (hpo:Dg po) (P:List VP) (hP:ks.map VK.p=P) (x:V) (n:Int) (b:Bool) (a:Int) (r:Sd×Int) (hres:PW P x n b a=r) (w:World) (hr:RdK w (.slice vo ks.length vc_) ks) :
  Calls Tryz.prog 15 #[D9 x n b a,Ao sa po (.slice vo ks.length vc_)] w fun e w'=>∃v,e=.returned v∧w.grownBy w' none∧(Sp.sr w.heap.size r).on w' v:=by
 refine Be Tryz.func15 rfl Tryz.ntmps15 rfl fun a0 sv0=>?_
 have HG:=World.grownBy.refl w none
 replace sv0:Sv 19 [] [(0,D9 x n b a),(1,Ao sa po (.slice vo ks.length vc_))] a0:=sv0
 refine ALl fun K1 k1=>?_
 refine ALk ?_
 refine Bm sv0 r6 (Tj x n b a) fun a2 w2 Cf DV g2 z2 AJ sv2=>?_
 refine Bm sv2 r6 (BR hsa hpo (.slice vo ks.length vc_) rfl) fun a3 w3 CX FI g3 z3 AL sv3=>?_
 replace HG:=AA (AA HG g2) g3
 refine Ax (T:=31) (Z:=([[.int .i64 0],[.slice none 0 0],[.int .i64 0],[.slice none 0 0],[.slice none 0 0],bv AS].flatten)) sv3 rfl rfl rfl (fun a w=>by kernel_rfl) fun a4 w4 Fa B9 g4 z4 AP sv4=>?_
 have CG:=B7 HG B9
 replace AJ:=AC g4 (AC g3 AJ)
 replace AL:=AC g4 AL
 replace hr:=((hr.kn g2).kn g3).kn g4
 replace HG:=AA HG g4
 refine Aa (v:=.int .i64 0) sv4 r6 fun a5 sv5=>?_
 refine AE ?_
 refine k1 _ _ ?_
 refine ALl fun K6 k6=>?_
 refine DU (sv5.st w4) (by kernel_rfl) 13 [(6,Sp.is (Ao sa po (.slice vo ks.length vc_))),(7,Sp.is (pk Cf 3)),(8,Sp.is (.int .i64 n)),(9,Sp.row w4.heap.size 23 32 (Ev n 6).length ((Ev n 6).flatMap Lf)),(10,Sp.is (D9 x n b a)),(11,Sp.is (.int .i64 ((jt b)))),(12,Sp.is (D9 x n b a)),(13,Sp.is (.int .i64 ((Kw a)))),(14,Sp.is (pt Cf)),(15,Sp.is (CE x)),(16,Sp.sr w4.heap.size r),(17,Sp.sl w4.heap.size r.1),(18,Sp.is (.int .i64 r.2))] rfl (by kernel_rfl) (by kernel_rfl) (by kernel_rfl) [] (by kernel_rfl)
  ⟨yl r6 (BR hsa hpo (.slice vo ks.length vc_) rfl) AL,yf r6 (fun _=>by kernel_rfl),yp (i:=1) r6 (Eu n) AJ rfl rfl,Ad [.int .i64 n] Tryz.func17 (by kernel_rfl) rq4 ⟨(oy rfl rfl),ALr⟩ (fun W g=>AJF n g),yl r6 (Tj x n b a) AJ,Ad [D9 x n b a] Tryz.func18 (by kernel_rfl) rq4 ⟨(oy rfl rfl),ALr⟩ (As fun W g=>AAd x n b a W),yl r6 (Tj x n b a) AJ,Ad [D9 x n b a] Tryz.func19 (by kernel_rfl) rq4 ⟨(oy rfl rfl),ALr⟩ (As fun W g=>Oz x n b a W),yf r6 (fun _=>by kernel_rfl),yp (i:=0) r6 (EP x) AJ rfl rfl,XT (Sp.sr w4.heap.size r) rfl rfl trivial rfl (fun W g av h=>match av,h with|[_,_,_,_,_],⟨rfl,hv,rfl,rfl,rfl,_⟩=>AAf hsa hpo (hr.kn g) hP (AKZ hv) (Nat.le_trans (QT n 6) (by decide)) g.size hres) (fun _ _ h=>h) (Eg Tryz.func20 (by kernel_rfl) rfl),BE rq4 (fun w u h=>ABg w u h),BE rq4 (fun w u h=>O6 w u h),ALr⟩ trivial
  [] (by kernel_rfl) trivial ⟨.inl rfl,.inl rfl,.inl rfl,.inl rfl,.inl rfl,.inl rfl,.inl rfl,.inl rfl,.inl rfl,.inl rfl,.inl rfl,.inl rfl,.inl rfl,ALr⟩ (by kernel_rfl) fun a7 w7 g7 st7 nd7=>?_
 obtain⟨hn7,hd7,e7_6,e7_7,e7_8,e7_9,e7_10,e7_11,e7_12,e7_13,e7_14,e7_15,e7_16,e7_17,e7_18,e7_5,e7_4,e7_3,e7_2,e7_0,e7_1,-⟩:=st7
 obtain⟨own8,wr8,ao8,wo8,bo8,ac8,wc8,bc8,e7_17q,hF,fr8⟩:=e7_17
 have AAi:=CA fr8 AP
 have lo_hF:=Jp HG fr8
 replace AP:=AC g7 AP
 have sv7:Sv 19 [] [(5,_),(4,_),(3,_),(2,_),(0,_),(1,_),(17,_),(18,_)] a7:=⟨hn7,hd7,e7_5,e7_4,e7_3,e7_2,e7_0,e7_1,e7_17q,e7_18,ALr⟩
 refine Ap sv7 r7 (FL _ _ hF.tg (.slice ao8 (List.length own8) ac8) (.slice wo8 (List.length wr8) wc8) (.slice bo8 r.1.body.length bc8) rfl rfl rfl) AP (Fg AN hF.tg) fun w9 g9 h9=>?_
 replace hF:=hF.offR g9 (AU AAi)
 replace HG:=AD (AA HG g7) g9 CG
 replace AP:=h9
 refine Aa (v:=.int .i64 r.2) sv7 r6 fun a10 Cj=>?_
 have CY:Sv _ _ [_,_,_,_] _:=Cj.dl [3,2,17,18]
 refine AE ?_
 refine k6 _ _ ?_
 refine ALo ?_
 repeat refine AM ?_
 refine BQ (fn:=Tryz.f15) CY (Gf (p:=4) (q:=5) Tryz.results15 CY rfl rfl rfl rfl (FL _ _ hF.tg (.slice ao8 (List.length own8) ac8) (.slice wo8 (List.length wr8) wc8) (.slice bo8 r.1.body.length bc8) rfl rfl rfl) AP) ?_
 exact⟨_,rfl,HG,own8,wr8,ao8,wo8,bo8,ac8,wc8,bc8,rfl,hF,lo_hF⟩
end Go.Proofs.YtbfjfnbcmojpiaaGreat
namespace Go.Proofs.YtbfjfnbcmojpiaaGreat
open Go.ChangeShapes Go.WideShapes Go.ChangeAt Go.RowKit Go.Deep
theorem ABp {H:Type} {enc:TypeId×Value→H} {W:World} {r:Reach} {base b0:Nat} {v:Value} {d:DataW H} {p:List MemPlace} (hv:Value.okWide Tryz.prog W r base 74 v) (h:DataW.Trod enc Tryz.prog W b0 (fun _=>true) true 74 v d p):∃l:List Int,Sl W 1 v l.length (AH7 l)∧FLo v W.heap.size:=by
 obtain⟨l,h1,h2,_⟩:=ADN Tryz.underlying74 AAq (by decide) (fun n=>[.int .i64 n]) _ AH8 hv h
 exact⟨l,h1,h2⟩
end Go.Proofs.YtbfjfnbcmojpiaaGreat
