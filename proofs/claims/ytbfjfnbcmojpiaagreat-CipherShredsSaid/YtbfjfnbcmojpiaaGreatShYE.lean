import Derived.Test.YtbfjfnbcmojpiaaGreatShVE
import Derived.Test.YtbfjfnbcmojpiaaGreatShMK6
set_option linter.unusedSimpArgs false
set_option linter.unusedVariables false
set_option maxRecDepth 100000
set_option maxHeartbeats 4000000
namespace Go.Proofs.YtbfjfnbcmojpiaaGreat
open Go.RowKit Go.Shelf
theorem AKe (n:Int) (w:World):(Instr.build 25 #[(0,.int .i64 1),(1,.int .i64 n)]).run Tryz.prog w=.ok (BR ⟨1,n,⟨#[]⟩⟩) w:=by kernel_rfl
def JV (n:Int):V:=(⟨1,n,⟨#[]⟩⟩:V).clean
def Dl (x:V) (n:Int) (b:Bool) (a:Int):Value:=.agg ([vc x,[.int .i64 n],[.bool b],[.int .i64 a]].flatten).toArray
theorem AIF (s:ByteArray):TY Tryz.prog 9 [.string s] (.string s):=TY.one' Tryz.underlying9 rfl (by kernel_rfl) rfl
theorem ABw {P:Program} {ops:Array Oper} {L:Nat→Sp} {n:Nat} {w0:World} {o:Oper} {x:Operand} {t:TypeId} {d:Nat} {s:ByteArray} (he:P.underlying t=some .string) (ho:o.op=.call { callee:=.builtin .len,args:=#[x],argTypes:=#[t] }) (hd:o.dst=some d) (hg:GX ops L n o.guard) (hx:OpX L n x (.string s)) (h:∀w,(L d).on w (.int .i64 s.size)):OX P ops L n w0 o:=
 FX hg fun a w hw hl hsz=>⟨.int .i64 s.size,by
  have e:=hx.eval (o:=o) (a:=a) (w:=w) (by simp[ho,Op.operands,Call.operands]) hl
  simp only[execOp,ho,resolve,Sem.run_bind,Sem.run_pure,Result.andThen_ok,List.map_toArray,List.map_cons,List.map_nil,e]
  simp[invoke,builtin,Builtin.len_,run_underlying he,goInt],DP hd (h w)⟩
theorem AKf (x:V):TY Tryz.prog 25 ([[.int .i64 x.kind],[.int .i64 x.int],[.string x.text]].flatten) (BR x):=C6 x
def M5 (n:Int):Int:=bits .and .i64 n 17179869183
theorem AKg (m:Nat) (hm:m<9223372036854775808) (n:Int) (h63:(BitVec.ofInt 64 (m:Int)).toNat=m):∃k:Nat,k≤m∧bits .and .i64 n (m:Int)=(k:Int):=by
 have h:bits .and .i64 n (m:Int)=IntKind.i64.wrap (((BitVec.ofInt 64 n) &&& (BitVec.ofInt 64 (m:Int))).toNat:Int):=rfl
 have h2:((BitVec.ofInt 64 n) &&& (BitVec.ofInt 64 (m:Int))).toNat≤m:=by rw[BitVec.toNat_and,h63];exact Nat.and_le_right
 exact⟨_,h2,by rw[h];exact BG (by omega) (by omega)⟩
theorem De (n:Int):Br (M5 n)=true:=by
 obtain⟨k,hk,e⟩:=AKg 17179869183 (by decide) n (by decide)
 have e':M5 n=(k:Int):=e
 rw[e']
 unfold Br
 rw[decide_eq_true (by omega),decide_eq_true (by omega)]
 rfl
theorem Qg (x:V) (n:Int) (b:Bool) (a:Int):TY Tryz.prog 27 ([vc x,[.int .i64 n],[.bool b],[.int .i64 a]].flatten) (Dl x n b a):=by
 refine TY.agg Tryz.underlying27 rfl (by kernel_rfl) ?_
 intro c hc
 simp[vc] at hc
 rcases hc with rfl|rfl|rfl|rfl|rfl|rfl<;>rfl
theorem Mu {P:Program} {a c:Int} {t:TypeId} {x y:Operand} {w:World} (i:Nat) (hi:i<64) (h:a/2^i=c):(do eqGuard .shr t x y (.int .i64 a) (.int .u64 (i:Int));binOp .shr t (.int .i64 a) (.int .u64 (i:Int)):Sem Value).run P w=.ok (.int .i64 c) w:=by
 subst h
 have h1:min i IntKind.i64.bits=i:=Nat.min_eq_left (by show i≤64;omega)
 simp[eqGuard,binOp_shr,shift_shr_any,h1]
def EQ (n:Nat):List Nat:=(n%6)::(zs 30++[7*(n%6)])
theorem Kx (n:Nat):Dg (EQ n):=by
 refine⟨rfl,fun x hx=>?_⟩
 simp[EQ,zs] at hx
 omega
theorem ABx {n:Nat} (h:n<6):EQ n=n::(zs 30++[7*n]):=by unfold EQ;rw[Nat.mod_eq_of_lt h]
def NJ (n:Nat):DD:=⟨EQ n,Kx n⟩
def FJ (n:Int) (i:Nat):Int:=bits .and .i64 (n/2^i) 1
def E4 (n:Int):Nat→List DD
 | 0=>[]
 | i+1=>if FJ n i=1 then E4 n i++[NJ i] else E4 n i
theorem Qw (n:Int):∀i,(E4 n i).length≤i
 | 0=>Nat.le_refl _
 | i+1=>by
  have:=Qw n i
  unfold E4
  split<;>simp<;>omega
def jt (b:Bool):Int:=if b then 1 else 0
theorem AAu (x:V) (b:Bool) (hb:decide (x.text.size≤100)=b) (w:World) :
   Calls Tryz.prog 12 #[BR x] w fun e w'=>e=.returned (.bool b)∧w.grownBy w' none:=by
 refine Bg Tryz.func12 rfl Tryz.ntmps12 rfl fun a0 sv0=>?_
 have HG:=World.grownBy.refl w none
 replace sv0:Sv 7 [] [(0,BR x)] a0:=sv0
 refine ALo fun K1 k1=>?_
 refine ALn ?_
 refine Bn sv0 r6 (AKf x) fun a2 w2 CO GJ g2 z2 Ad sv2=>?_
 replace HG:=AA HG g2
 refine Aa (v:=.bool false) sv2 r6 fun a3 sv3=>?_
 refine AE ?_
 refine k1 _ _ ?_
 refine ALo fun K4 k4=>?_
 cases b
 · refine ALn ?_
   refine AI sv3 4 [(3,pk CO 2),(4,.string x.text),(5,.int .i64 ((x.text.size:Nat))),(6,.bool false)]
    ⟨yf r6 (fun _=>by kernel_rfl),yp (i:=2) r6 (AIF x.text) Ad rfl rfl,ABw (Tryz.underlying9) rfl rfl trivial (oy rfl rfl) (fun _=>rfl),CQ r6 (fun _=>AEb (by rw[←hb];exact decide_eq_decide.2 (by omega))),ALu⟩ fun a5 w5 g5 sv5=>?_
   refine Aa (v:=.bool false) sv5 r6 fun a6 sv6=>?_
   have sv7:Sv _ _ [_,_] _:=sv6.dl [3,4,5,6,1]
   refine AE ?_
   refine k4 _ _ ?_
   replace Ad:=AC g5 Ad
   replace HG:=AA HG g5
   refine ALr ?_
   repeat refine AL ?_
   refine BH (fn:=Tryz.f12) sv7 (BD (p:=2) Tryz.results12 sv7 rfl rfl) ?_
   exact⟨rfl,HG⟩
 · refine ALn ?_
   refine AI sv3 4 [(3,pk CO 2),(4,.string x.text),(5,.int .i64 ((x.text.size:Nat))),(6,.bool true)]
    ⟨yf r6 (fun _=>by kernel_rfl),yp (i:=2) r6 (AIF x.text) Ad rfl rfl,ABw (Tryz.underlying9) rfl rfl trivial (oy rfl rfl) (fun _=>rfl),CQ r6 (fun _=>AEb (by rw[←hb];exact decide_eq_decide.2 (by omega))),ALu⟩ fun a8 w8 g8 sv8=>?_
   refine Aa (v:=.bool true) sv8 r6 fun a9 sv9=>?_
   have Ci:Sv _ _ [_,_] _:=sv9.dl [3,4,5,6,1]
   refine AE ?_
   refine k4 _ _ ?_
   replace HG:=AA HG g8
   refine ALr ?_
   repeat refine AL ?_
   refine BH (fn:=Tryz.f12) Ci (BD (p:=2) Tryz.results12 Ci rfl rfl) ?_
   exact⟨rfl,HG⟩
theorem Ky (n:Nat) (hn:n<6) (w:World) :
  Calls Tryz.prog 30 #[.int .i64 ((n:Int))] w fun e w'=>e=.returned (AP (EQ n))∧w.grownBy w' none:=by
 have hdg:Dg (n::(zs 30++[7*n])):=ABx hn▸Kx n
 rw[ABx hn]
 refine Bg Tryz.func30 rfl Tryz.ntmps30 rfl fun a0 sv0=>?_
 have HG:=World.grownBy.refl w none
 replace sv0:Sv 9 [] [(0,.int .i64 ((n:Int)))] a0:=sv0
 refine ALo fun K1 k1=>?_
 refine ALn ?_
 refine Av (T:=23) (Z:=(bv AQ)) sv0 rfl rfl rfl (fun a w=>by kernel_rfl) fun a2 w2 Cp Ds g2 z2 AK sv2=>?_
 have GR:=Bt HG Ds
 refine AE ?_
 refine k1 _ _ ?_
 refine ALo fun K3 k3=>?_
 refine ALn ?_
 refine AI sv2 6 [(3,.int .i64 ((n:Int))),(4,.int .u8 ((n:Int))),(5,.int .i64 ((n:Int))),(6,.int .i64 (((7*n:Nat):Int))),(7,.int .u8 (((7*n:Nat):Int))),(8,AP ((n::(zs 30++[7*n]))))]
  ⟨ym r5,Hd r6 (fun _=>He Tryz.underlying3 Tryz.underlying5 (ABS (by omega) (by omega))),ym r5,Gn rfl rfl trivial rfl (oy rfl rfl) (fun _=>AIn (by rw[BG (by omega) (by omega)];omega)) (fun _=>rfl),Hd r6 (fun _=>He Tryz.underlying3 Tryz.underlying5 (ABS (by omega) (by omega))),Ba (vs:=[.int .u8 ((n:Int)),.int .u8 (((7*n:Nat):Int))]) rfl rfl trivial ⟨(oy rfl rfl),(oy rfl rfl),ALu⟩ (fun _=>AK5 n (7*n) _) (fun _=>rfl),ALu⟩ fun a4 w4 g4 sv4=>?_
 refine As sv4 r7 (CD ((n::(zs 30++[7*n]))) hdg.1) (AC g4 AK) (IB hdg) fun w5 g5 h5=>?_
 replace HG:=AD (AA (AA HG g2) g4) g5 GR
 replace AK:=h5
 have sv6:Sv _ _ [_] _:=sv4.dl [3,4,5,6,7,8,0]
 refine AE ?_
 refine k3 _ _ ?_
 refine ALr ?_
 repeat refine AL ?_
 refine BH (fn:=Tryz.f30) sv6 (FG (p:=2) Tryz.results30 sv6 rfl rfl (CD ((n::(zs 30++[7*n]))) hdg.1) AK) ?_
 exact⟨rfl,HG⟩
theorem AAv (x:V) (n a:Int) (w:World) :
  Calls Tryz.prog 18 #[Dl x n true a] w fun e w'=>e=.returned (.int .i64 1)∧w.grownBy w' none:=by
 refine Bg Tryz.func18 rfl Tryz.ntmps18 rfl fun a0 sv0=>?_
 have HG:=World.grownBy.refl w none
 replace sv0:Sv 5 [] [(0,Dl x n true a)] a0:=sv0
 refine ALo fun K1 k1=>?_
 refine ALn ?_
 refine Bn sv0 r6 (Qg x n true a) fun a2 w2 CO GJ g2 z2 Ad sv2=>?_
 refine Aa (v:=.int .i64 0) sv2 r6 fun a3 sv3=>?_
 refine AE ?_
 refine k1 _ _ ?_
 refine ALo fun K4 k4=>?_
 refine ALo fun K5 k5=>?_
 refine ALn ?_
 refine AI sv3 2 [(3,pk CO 4),(4,.bool true)]
  ⟨yf r6 (fun _=>by kernel_rfl),yp (i:=2) r6 (N6 true) Ad rfl rfl,ALu⟩ fun a6 w6 g6 sv6=>?_
 refine AE ?_
 refine k5 _ _ ?_
 refine Ay sv6 rfl rfl ?_
 refine ALo fun K7 k7=>?_
 refine ALn ?_
 refine Aa (v:=.int .i64 1) sv6 r6 fun a8 sv8=>?_
 refine AE ?_
 refine k7 _ _ ?_
 replace HG:=AA (AA HG g2) g6
 refine ALr ?_
 repeat refine AL ?_
 refine BH (fn:=Tryz.f18) sv8 (BD (p:=2) Tryz.results18 sv8 rfl rfl) ?_
 exact⟨rfl,HG⟩
theorem ZO (x:V) (n a:Int) (w:World) :
  Calls Tryz.prog 18 #[Dl x n false a] w fun e w'=>e=.returned (.int .i64 0)∧w.grownBy w' none:=by
 refine Bg Tryz.func18 rfl Tryz.ntmps18 rfl fun a0 sv0=>?_
 have HG:=World.grownBy.refl w none
 replace sv0:Sv 5 [] [(0,Dl x n false a)] a0:=sv0
 refine ALo fun K1 k1=>?_
 refine ALn ?_
 refine Bn sv0 r6 (Qg x n false a) fun a2 w2 CO GJ g2 z2 Ad sv2=>?_
 refine Aa (v:=.int .i64 0) sv2 r6 fun a3 sv3=>?_
 refine AE ?_
 refine k1 _ _ ?_
 refine ALo fun K4 k4=>?_
 refine ALo fun K5 k5=>?_
 refine ALn ?_
 refine AI sv3 2 [(3,pk CO 4),(4,.bool false)]
  ⟨yf r6 (fun _=>by kernel_rfl),yp (i:=2) r6 (N6 false) Ad rfl rfl,ALu⟩ fun a6 w6 g6 sv6=>?_
 refine AE ?_
 refine k5 _ _ ?_
 refine Az sv6 rfl rfl ?_
 refine ALs ?_
 refine k4 _ _ ?_
 refine ALo fun K7 k7=>?_
 refine ALn ?_
 refine Aa (v:=.int .i64 0) sv6 r6 fun a8 sv8=>?_
 refine AE ?_
 refine k7 _ _ ?_
 replace HG:=AA (AA HG g2) g6
 refine ALr ?_
 repeat refine AL ?_
 refine BH (fn:=Tryz.f18) sv8 (BD (p:=2) Tryz.results18 sv8 rfl rfl) ?_
 exact⟨rfl,HG⟩
theorem AAw (x:V) (n:Int) (b:Bool) (a:Int) (w:World):Calls Tryz.prog 18 #[Dl x n b a] w fun e w'=>e=.returned (.int .i64 (jt b))∧w.grownBy w' none:=by
 cases b
 · exact ZO x n a w
 · exact AAv x n a w
theorem Pl (x:V) (n:Int) (b:Bool) (a:Int) (w:World) :
  Calls Tryz.prog 19 #[Dl x n b a] w fun e w'=>e=.returned (.int .i64 (M5 a))∧w.grownBy w' none:=by
 refine Bg Tryz.func19 rfl Tryz.ntmps19 rfl fun a0 sv0=>?_
 have HG:=World.grownBy.refl w none
 replace sv0:Sv 6 [] [(0,Dl x n b a)] a0:=sv0
 refine ALo fun K1 k1=>?_
 refine ALn ?_
 refine Bn sv0 r6 (Qg x n b a) fun a2 w2 CO GJ g2 z2 Ad sv2=>?_
 refine Aa (v:=.int .i64 0) sv2 r6 fun a3 sv3=>?_
 refine AE ?_
 refine k1 _ _ ?_
 refine ALo fun K4 k4=>?_
 refine ALn ?_
 refine AI sv3 3 [(3,pk CO 5),(4,.int .i64 a),(5,.int .i64 ((M5 a)))]
  ⟨yf r6 (fun _=>by kernel_rfl),yp (i:=3) r6 (Hi a) Ad rfl rfl,CQ r6 (fun _=>DS rfl),ALu⟩ fun a5 w5 g5 sv5=>?_
 refine Aa (v:=.int .i64 ((M5 a))) sv5 r6 fun a6 sv6=>?_
 have sv7:Sv _ _ [_,_] _:=sv6.dl [3,4,5,1]
 refine AE ?_
 refine k4 _ _ ?_
 replace HG:=AA (AA HG g2) g5
 refine ALr ?_
 repeat refine AL ?_
 refine BH (fn:=Tryz.f19) sv7 (BD (p:=2) Tryz.results19 sv7 rfl rfl) ?_
 exact⟨rfl,HG⟩
theorem Pm (n:Int) (w:World) :
  Calls Tryz.prog 37 #[.int .i64 n] w fun e w'=>e=.returned (BR (JV n))∧w.grownBy w' none:=by
 refine Bg Tryz.func37 rfl Tryz.ntmps37 rfl fun a0 sv0=>?_
 have HG:=World.grownBy.refl w none
 replace sv0:Sv 6 [] [(0,.int .i64 n)] a0:=sv0
 refine ALo fun K1 k1=>?_
 refine ALn ?_
 refine Av (T:=25) (Z:=[.int .i64 0,.int .i64 0,.string ⟨#[]⟩]) sv0 rfl rfl rfl (fun a w=>by kernel_rfl) fun a2 w2 Cp Ds g2 z2 AK sv2=>?_
 have GR:=Bt HG Ds
 refine AE ?_
 refine k1 _ _ ?_
 refine ALo fun K3 k3=>?_
 refine ALn ?_
 refine AI sv2 3 [(3,.int .i64 n),(4,BR ((⟨1,n,⟨#[]⟩⟩:V))),(5,BR ((JV n)))]
  ⟨ym r5,Ba (vs:=[.int .i64 1,.int .i64 n]) rfl rfl trivial ⟨rfl,(oy rfl rfl),ALu⟩ (fun _=>AKe n _) (fun _=>rfl),Ae [BR ((⟨1,n,⟨#[]⟩⟩:V))] Tryz.func25 (by kernel_rfl) rq4 ⟨(oy rfl rfl),ALu⟩ (Au fun W g=>Hm _ W),ALu⟩ fun a4 w4 g4 sv4=>?_
 refine As sv4 r7 (C6 ((JV n))) (AC g4 AK) rfl fun w5 g5 h5=>?_
 replace HG:=AD (AA (AA HG g2) g4) g5 GR
 replace AK:=h5
 have sv6:Sv _ _ [_] _:=sv4.dl [3,4,5,0]
 refine AE ?_
 refine k3 _ _ ?_
 refine ALr ?_
 repeat refine AL ?_
 refine BH (fn:=Tryz.f37) sv6 (FG (p:=2) Tryz.results37 sv6 rfl rfl (C6 ((JV n))) AK) ?_
 exact⟨rfl,HG⟩
theorem AFe (n:Int) (w:World) :
   Calls Tryz.prog 17 #[.int .i64 n] w fun e w'=>∃v,e=.returned v∧w.grownBy w' none∧(Sp.row w.heap.size 23 32 (E4 n 6).length ((E4 n 6).flatMap ML)).on w' v:=by
 refine Bg Tryz.func17 rfl Tryz.ntmps17 rfl fun a0 sv0=>?_
 have HG:=World.grownBy.refl w none
 replace sv0:Sv 21 [] [(0,.int .i64 n)] a0:=sv0
 refine ALo fun K1 k1=>?_
 refine ALn ?_
 refine Aa (v:=.slice none 0 0) sv0 r6 fun a2 sv2=>?_
 refine AE ?_
 refine k1 _ _ ?_
 refine ALo fun K3 k3=>?_
 refine ALn ?_
 refine Aa (v:=.slice none 0 0) sv2 r6 fun a4 sv4=>?_
 refine AE ?_
 refine k3 _ _ ?_
 refine ALo fun K5 k5=>?_
 refine ALo fun K6 k6=>?_
 refine ALn ?_
 refine Aa (v:=.int .i64 0) sv4 r6 fun a7 sv7=>?_
 refine AE ?_
 refine k6 _ _ ?_
 refine BM fun Q8 x8 y8 rt8 o8=>?_
 have okk:=Own.nil w 23 32
 have lo_okk:=ACe w
 refine wp_loop (fun a w'=>∃(i:Nat) (so:Option Addr) (sc:Nat) (m:Nat) (L:List DD),(i≤6)∧(L=E4 n i)∧(L.length=m)∧Sv 21 [] [(4,.int .i64 ((i:Int))),(3,.slice so m sc),(2,.slice none 0 0),(0,.int .i64 n)] a∧w.grownBy w' none∧Own w' 23 32 (.slice so m sc) m (L.flatMap ML)∧(∀k,Bq (.slice so m sc) k→w.heap.size≤k)) (fun a _=>(6-intOf (a.tmps.getD 4 undef)).toNat) ⟨0,none,0,0,[],Nat.zero_le _,rfl,rfl,⟨sv7.1,sv7.2.1,sv7.2.2.1,sv7.2.2.2.1,sv7.2.2.2.2.1,sv7.2.2.2.2.2.1,ALu⟩,HG,okk,lo_okk⟩ fun a9 w9 hI9=>?_
 clear okk
 clear HG
 obtain⟨i,so,sc,m,L,hi6,hL,hm,sv9,HG,okk,lo_okk⟩:=hI9
 refine ALo fun K10 k10=>?_
 refine ALo fun K11 k11=>?_
 by_cases hi:i<6
 · refine ALn ?_
   refine AI sv9 2 [(5,.int .i64 ((i:Int))),(6,.bool true)]
     ⟨ym r5,CQ r6 (fun _=>Bv (decide_eq_true (by omega))),ALu⟩ fun a12 w12 g12 DX=>?_
   refine AE ?_
   refine k11 _ _ ?_
   refine Ay DX rfl rfl ?_
   refine ALs ?_
   refine k10 _ _ ?_
   refine ALo fun K13 k13=>?_
   refine BM fun Q14 x14 y14 rt14 o14=>?_
   refine ALo fun K15 k15=>?_
   replace okk:=okk.kn g12
   replace HG:=AA HG g12
   by_cases hb:FJ n i=1
   · have hLl:=Qw n i
     rw[←hL,hm] at hLl
     have hL1:L++[NJ i]=E4 n (i+1):=by rw[show E4 n (i+1)=E4 n i++[NJ i] from if_pos hb,hL]
     refine ALn ?_
     refine AI DX 6 [(9,.int .i64 n),(10,.int .i64 ((i:Int))),(11,.int .u64 ((i:Int))),(12,.int .i64 ((n/2^i))),(13,.int .i64 ((FJ n i))),(14,.bool true)]
      ⟨ym r5,ym r5,Hd r6 (fun _=>He Tryz.underlying3 Tryz.underlying48 (Gr (by omega) (by omega))),Hc r7 (fun _=>Mu i (by omega) rfl),CQ r6 (fun _=>DS rfl),CQ r6 (fun _=>Bi (by rw[hb];rfl)),ALu⟩ fun a16 w16 g16 Cu=>?_
     refine AE ?_
     refine k15 _ _ ?_
     refine Ay Cu rfl rfl ?_
     refine ALn ?_
     refine AI Cu 3 [(15,.slice so m sc),(16,.int .i64 ((i:Int))),(17,AP ((EQ i)))]
      ⟨ym r5,ym r5,Ae [.int .i64 ((i:Int))] Tryz.func30 (by kernel_rfl) rq4 ⟨(oy rfl rfl),ALu⟩ (Au fun W g=>Ky i hi W),ALu⟩ fun a17 w17 g17 GH=>?_
     refine Oa (cs:=bv ((EQ i))) (e:=23) GH rfl rfl rfl rfl rfl rfl (AC7 (Kx i)) fun a18 w18 ALI AJf g18 z18 AHU CU=>?_
     replace okk:=((okk.kn g16).kn g17).kn g18
     replace HG:=AA (AA (AA HG g16) g17) g18
     refine NZ dsT CU rfl rfl rfl rfl rfl rfl rfl rfl okk (Ms AHU (Kx i)) (Hl _) (by omega) fun a19 ao19 cap19 w19 owx19 Cq E3=>?_
     have AFf:=AAD Cq.2 lo_okk HG
     replace HG:=Bp HG Cq.1 fun k e=>lo_okk k (e)
     rw[show bv (EQ i)=bv (NJ i).x from rfl,Vr L (NJ i)] at owx19
     refine Aa (v:=.slice ao19 (m+1) cap19) E3 r6 fun a20 FA=>?_
     have Da:Sv _ _ [_,_,_,_,_,_,_,_,_,_,_,_] _:=FA.dl [19,18,15,16,17]
     refine AE ?_
     refine y14 _ _ ?_
     refine k13 _ _ ?_
     refine ALn ?_
     refine AI Da 2 [(7,.int .i64 ((i:Int))),(8,.int .i64 (((i+1:Nat):Int)))]
      ⟨ym r5,CQ r6 (fun _=>DV (by rw[BG (by omega) (by omega)];omega)),ALu⟩ fun a22 w22 g22 Cw=>?_
     refine Aa (v:=.int .i64 (((i+1:Nat):Int))) Cw r6 fun a23 Cz=>?_
     refine AE ?_
     replace owx19:=owx19.kn g22
     replace HG:=AA HG g22
     exact⟨⟨i+1,ao19,cap19,m+1,(L++[NJ i]),by omega,hL1,by rw[List.length_append,hm];rfl,⟨Cz.1,Cz.2.1,Cz.2.2.1,Cz.2.2.2.2.2.1,(AH Cz).2.2.2.2.2.2.1,(AH Cz).2.2.2.2.2.2.2.1,ALu⟩,HG,owx19,AFf⟩,by rw[show _=_ from Cz.2.2.1,show _=_ from sv9.2.2.1];simp[intOf];omega⟩
   · have hL1:L=E4 n (i+1):=by rw[show E4 n (i+1)=E4 n i from if_neg hb,hL]
     refine ALn ?_
     refine AI DX 6 [(9,.int .i64 n),(10,.int .i64 ((i:Int))),(11,.int .u64 ((i:Int))),(12,.int .i64 ((n/2^i))),(13,.int .i64 ((FJ n i))),(14,.bool false)]
      ⟨ym r5,ym r5,Hd r6 (fun _=>He Tryz.underlying3 Tryz.underlying48 (Gr (by omega) (by omega))),Hc r7 (fun _=>Mu i (by omega) rfl),CQ r6 (fun _=>DS rfl),CQ r6 (fun _=>Bi (by simpa using hb)),ALu⟩ fun a24 w24 g24 CI=>?_
     refine AE ?_
     refine k15 _ _ ?_
     refine Az CI rfl rfl ?_
     refine ALs ?_
     refine y14 _ _ ?_
     refine k13 _ _ ?_
     refine ALn ?_
     refine AI CI 2 [(7,.int .i64 ((i:Int))),(8,.int .i64 (((i+1:Nat):Int)))]
      ⟨ym r5,CQ r6 (fun _=>DV (by rw[BG (by omega) (by omega)];omega)),ALu⟩ fun a25 w25 g25 DY=>?_
     have Lb:=AA g24 g25
     refine Aa (v:=.int .i64 (((i+1:Nat):Int))) DY r6 fun a26 Cj=>?_
     refine AE ?_
     replace okk:=okk.kn Lb
     replace HG:=AA HG Lb
     exact⟨⟨i+1,so,sc,m,L,by omega,hL1,hm,⟨Cj.1,Cj.2.1,Cj.2.2.1,(AH Cj).2.2.2.2.2.1,(AH Cj).2.2.2.2.2.2.1,(AH Cj).2.2.2.2.2.2.2.1,ALu⟩,HG,okk,lo_okk⟩,by rw[show _=_ from Cj.2.2.1,show _=_ from sv9.2.2.1];simp[intOf];omega⟩
 · obtain rfl:i=6:=by omega
   refine ALn ?_
   refine AI sv9 2 [(5,.int .i64 (((6:Nat):Int))),(6,.bool false)]
     ⟨ym r5,CQ r6 (fun _=>Bv (by simp)),ALu⟩ fun a27 w27 g27 Jr=>?_
   refine AE ?_
   refine k11 _ _ ?_
   refine Az Jr rfl rfl ?_
   refine wp_exit ?_
   repeat refine CW ?_
   refine x8 _ _ ?_
   refine k5 _ _ ?_
   refine ALo fun K28 k28=>?_
   refine ALn ?_
   refine AI Jr 1 [(20,.slice so m sc)]
     ⟨ym r5,ALu⟩ fun a29 w29 g29 CR=>?_
   have Gu:=AA g27 g29
   refine Aa (v:=.slice so m sc) CR r6 fun a30 Fd=>?_
   refine AE ?_
   refine k28 _ _ ?_
   replace okk:=okk.kn Gu
   replace HG:=AA HG Gu
   refine ALr ?_
   repeat refine AL ?_
   subst hL hm
   refine BH (fn:=Tryz.f17) Fd (BD (p:=2) Tryz.results17 Fd rfl rfl) ?_
   exact⟨_,rfl,HG,_,_,rfl,okk,lo_okk⟩
end Go.Proofs.YtbfjfnbcmojpiaaGreat
namespace Go.Proofs.YtbfjfnbcmojpiaaGreat
open Go.ChangeShapes Go.WideShapes Go.ChangeAt Go.RowKit Go.Deep
theorem Zb {a b:World} (h:a.grownBy b none):Below a.heap.size a b:=
 ⟨h.os,h.tape,h.output,h.size,fun i hi=>h.block i hi (by simp)⟩
theorem AA7:laidOutB Tryz.prog=true:=by kernel_rfl
theorem UN:Tryz.prog.cellsOf 25=3:=by kernel_rfl
theorem ADe:Tryz.prog.cellsOf 27=6:=by kernel_rfl
theorem AB7:Tryz.prog.cellsOf 9=1:=by kernel_rfl
theorem AF2:Tryz.prog.cellsOf 4=1:=by kernel_rfl
theorem AA8:Tryz.prog.cellsOf 3=1:=by kernel_rfl
theorem Wy:Tryz.prog.cellsOf 2=1:=by kernel_rfl
theorem AIO {H:Type} {enc:TypeId×Value→H} {W:World} {b0:Nat}:∀fuel cs y,DataW.trod enc Tryz.prog W b0 (fun _=>true) true fuel 25 cs=some y→∃x:V,cs=vc x:=by
 intro fuel cs y h
 obtain⟨xs,k,_,_,hl,hxl,hf⟩:=DataW.trod_struct Tryz.underlying25 h
 rw[UN] at hl
 match cs,hl with
 | [a,b,c],_ =>
  obtain⟨y0,h0⟩:=NM hxl hf 0 _ rfl 3 rfl 1 AA8
  obtain⟨y1,h1⟩:=NM hxl hf 1 _ rfl 2 rfl 1 Wy
  obtain⟨y2,h2⟩:=NM hxl hf 2 _ rfl 9 rfl 1 AB7
  obtain⟨n0,e0,_,r0⟩:=DataW.trod_int Tryz.underlying3 h0
  obtain⟨n1,e1,_,r1⟩:=DataW.trod_int Tryz.underlying2 h1
  obtain⟨s2,e2,_,r2⟩:=DataW.trod_string Tryz.underlying9 h2
  simp at e0 e1 e2
  subst e0 e1 e2
  exact⟨⟨n0,n1,s2⟩,rfl⟩
theorem AB6 {H:Type} {enc:TypeId×Value→H} {W:World} {r:Reach} {base b0:Nat} {v:Value} {d:DataW H} {p:List MemPlace} (hv:Value.okWide Tryz.prog W r base 27 v) (h:DataW.Trod enc Tryz.prog W b0 (fun _=>true) true 27 v d p):∃(x:V) (n:Int) (b:Bool) (a:Int),v=Dl x n b a∧True:=by
 obtain⟨cs,rfl,hcell⟩:=TB Tryz.underlying27 hv
 obtain⟨fuel,hf⟩:=h
 have hf':DataW.trod enc Tryz.prog W b0 (fun _=>true) true fuel 27 cs.toList=some (d,p):=hf
 obtain⟨xs,k,_,_,hl,hxl,hf⟩:=DataW.trod_struct Tryz.underlying27 hf'
 rw[ADe] at hl
 obtain⟨l⟩:=cs
 match l,hl with
 | [a,b,c,e,f,g],_ =>
  obtain⟨y0,t0⟩:=NM hxl hf 0 _ rfl 25 rfl 3 UN
  obtain⟨y1,t1⟩:=NM hxl hf 1 _ rfl 3 rfl 1 AA8
  obtain⟨y2,t2⟩:=NM hxl hf 2 _ rfl 4 rfl 1 AF2
  obtain⟨y3,t3⟩:=NM hxl hf 3 _ rfl 2 rfl 1 Wy
  obtain⟨v0,e0⟩:=AIO _ _ _ t0
  obtain⟨n1,e1,_,_⟩:=DataW.trod_int Tryz.underlying3 t1
  obtain⟨b2,e2,_⟩:=DataW.trod_bool Tryz.underlying4 t2
  obtain⟨n3,e3,_,_⟩:=DataW.trod_int Tryz.underlying2 t3
  simp[vc] at e0 e1 e2 e3
  obtain⟨rfl,rfl,rfl⟩:=e0
  subst e1 e2 e3
  exact⟨v0,n1,b2,n3,rfl,ALu⟩
end Go.Proofs.YtbfjfnbcmojpiaaGreat
namespace Go.Proofs.YtbfjfnbcmojpiaaGreat
open Go.RowKit Go.Shelf
theorem ABy {w:World} {k b:Nat} {c:Array Value} {T:TypeId} {fr:Nat×Nat} (h:TagV w k) (hb:w.heap[b]?=some (.cells c T fr)) (hT:T≠132∧T≠58):k≠b:=by
 rcases h with h|⟨c',fr',h1⟩
 · exact AEX h hb hT.1
 · rintro rfl
   rw[hb] at h1
   simp only[Option.some.injEq,Obj.cells.injEq] at h1
   exact hT.2 h1.2.1
theorem Gd {w:World} {p:Nat→Prop} {b:Nat} {c:Array Value} {T:TypeId} {fr:Nat×Nat} (hf:∀k,p k→(fun _=>False) k∨TagV w k) (hb:w.heap[b]?=some (.cells c T fr)) (hT:T≠132∧T≠58):∀k,p k→k≠b:=fun k hk=>(hf k hk).elim (fun h=>h.elim) fun t=>ABy t hb hT
theorem AAx {w:World} {p q:Nat→Prop} {b:Nat} {c:Array Value} {T:TypeId} {fr:Nat×Nat} (hf:∀k,p k→q k∨TagV w k) (ha:∀k,q k→k≠b) (hb:w.heap[b]?=some (.cells c T fr)) (hT:T≠132∧T≠58):∀k,p k→k≠b:=fun k hk=>(hf k hk).elim (ha k) fun t=>ABy t hb hT
def Sp.vv (V:VV) (fp:Nat→Prop):Sp:=⟨fun w v=>∃ao cap ks,v=Ao V.2.1 V.2.2 (.slice ao (List.length ks) cap)∧ks.map VK.p=V.1∧RdK w (.slice ao (List.length ks) cap) ks∧∀k,KX (.slice ao (List.length ks) cap) ks k→fp k∨TagV w k,fun _ _ _ hg ⟨ao,cap,ks,h1,h2,h3,h4⟩=>⟨ao,cap,ks,h1,h2,h3.kn hg,R7 hg h4⟩⟩
theorem Ov {r:VV×Int} {fp:Nat→Prop} (w:World) (u:Value) (h:(Sp.vt r fp).on w u):∃vs v,u=.tuple vs∧vs[0]?=some v∧(Sp.vv r.1 fp).on w v:=by
 obtain⟨ao,cap,ks,h1,h2⟩:=h
 exact⟨_,_,h1,rfl,ao,cap,ks,rfl,h2⟩
theorem No {r:VV×Int} {fp:Nat→Prop} (w:World) (u:Value) (h:(Sp.vt r fp).on w u):∃vs v,u=.tuple vs∧vs[1]?=some v∧(Sp.is (.int .i64 r.2)).on w v:=by
 obtain⟨ao,cap,ks,h1,h2⟩:=h
 exact⟨_,_,h1,rfl,rfl⟩
def TgF (w:World) (p q:Nat→Prop):Prop:=∀k,p k→q k∨TagV w k
theorem TgF.kn {w w':World} {p q:Nat→Prop} (h:TgF w p q) (g:w.grownBy w' none):TgF w' p q:=R7 g h
theorem TgF.offR {w w':World} {p q:Nat→Prop} (h:TgF w p q) {row:Option Nat} (g:w.grownBy w' row) (hb:∀k,p k→row≠some k):TgF w' p q:=fun k hk=>(h k hk).imp id (·.keep g (hb k hk))
theorem TgF.join {w:World} {p q r:Nat→Prop} (h:TgF w p q) (h2:TgF w q r):TgF w p r:=fun k hk=>(h k hk).elim (h2 k) .inr
theorem TgF.none (w:World):TgF w (KX (.slice none 0 0) []) (fun _=>False):=fun k hk=>(OH k hk).elim
theorem ABz {i j:Nat} (hi:i<6) (hj:j<6) (h:EQ i=EQ j):i=j:=by
 have:=(List.cons.inj h).1
 omega
def QG (seed:List Nat):Nat→List Nat
 | 0=>kd 274 seed
 | j+1=>kd 276 (QG seed j)
theorem IG (seed:List Nat):∀j,Dg (QG seed j)
 | 0=>Be _ _
 | _+1=>Be _ _
def Tsd (seed:List Nat) (j:Nat):List Nd:=tree (kd 275 (QG seed j)) []
def Qh (seed:List Nat):Nat→List VP
 | 0=>[]
 | i+1=>NT (Qh seed i) (EQ i) (Tsd seed i)
def OV (T:Nat→List Nd) (P:List VP) (i:Nat):Prop:=CH P=true∧P.length=i∧∀x,x∈P↔∃j,j<i∧x=(EQ j,T j)
theorem OV.not {T:Nat→List Nd} {P:List VP} {i:Nat} (h:OV T P i) (hi:i<6):IT P (EQ i)=false:=AGS (Srt.of h.1) fun hm=>by
 obtain⟨x,hx,e⟩:=List.mem_map.1 hm
 obtain⟨j,hj,rfl⟩:=(h.2.2 x).1 hx
 have:=ABz (by omega) hi e
 omega
theorem OV.succ {T:Nat→List Nd} {P:List VP} {i:Nat} (h:OV T P i) (hi:i<6) (hT:∀j,Gh (T j)=true):OV T (NT P (EQ i) (T i)) (i+1):=by
 refine⟨YX h.1 (h.not hi) (by rw[h.2.1];omega) (hT i),by rw[AGT,h.2.1],fun x=>?_⟩
 rw[ABQ,h.2.2 x]
 constructor
 · rintro (rfl|⟨j,hj,rfl⟩)
   · exact⟨i,by omega,rfl⟩
   · exact⟨j,by omega,rfl⟩
 · rintro ⟨j,hj,rfl⟩
   by_cases e:j=i
   · subst e;exact .inl rfl
   · exact .inr ⟨j,by omega,rfl⟩
theorem AHV (seed:List Nat) (j:Nat):Gh (Tsd seed j)=true:=KU _
theorem JE (seed:List Nat):∀i,i≤6→OV (Tsd seed) (Qh seed i) i
 | 0,_=>⟨rfl,rfl,by simp[Qh]⟩
 | i+1,h=>(JE seed i (by omega)).succ (by omega) (AHV seed)
def V6 (seed:List Nat):VV:=(Qh seed 6,kd 273 seed,QG seed 6)
theorem AJK {seed:List Nat} {i:Nat} {P:List VP} (hP:P=Qh seed i) (hi:i<6):M1 (P,kd 273 seed,QG seed i) (EQ i) (Tsd seed i) (kd 276 (QG seed i))=((Qh seed (i+1),kd 273 seed,QG seed (i+1)),0):=by
 subst hP
 have h:=JE seed i (by omega)
 exact Xd h.1 (h.not hi) (by rw[h.2.1];omega)
def AFg (a b c:Value) (k:Nat):Prop:=Bq a k∨Bq b k∨Bq c k
def SdF (w:World) (s:Sd) (own wr:List DD) (ao wo bo:Option Addr) (ac wc bc:Nat):Prop:=own.map DD.x=s.own∧wr.map DD.x=s.wr ∧
 Own w 23 32 (.slice ao own.length ac) own.length (own.flatMap ML)∧Own w 23 32 (.slice wo wr.length wc) wr.length (wr.flatMap ML)∧Own w 5 1 (.slice bo s.body.length bc) s.body.length (bv s.body) ∧
 (∀k,Bq (.slice ao own.length ac) k→¬Bq (.slice wo wr.length wc) k)∧Dg s.tag∧By s.body
section
variable {w w':World} {s:Sd} {own wr:List DD} {ao wo bo:Option Addr} {ac wc bc:Nat}
theorem SdF.kn (h:SdF w s own wr ao wo bo ac wc bc) (g:w.grownBy w' none):SdF w' s own wr ao wo bo ac wc bc:=by
 obtain⟨h1,h2,h3,h4,h5,h6⟩:=h
 exact⟨h1,h2,h3.kn g,h4.kn g,h5.kn g,h6⟩
theorem SdF.offR (h:SdF w s own wr ao wo bo ac wc bc) {row:Option Nat} (g:w.grownBy w' row) (hb:∀k,AFg (.slice ao own.length ac) (.slice wo wr.length wc) (.slice bo s.body.length bc) k→row≠some k):SdF w' s own wr ao wo bo ac wc bc:=by
 obtain⟨h1,h2,h3,h4,h5,h6⟩:=h
 exact⟨h1,h2,h3.offR g fun k hk=>hb k (.inl hk),h4.offR g fun k hk=>hb k (.inr (.inl hk)),h5.offR g fun k hk=>hb k (.inr (.inr hk)),h6⟩
theorem SdF.lt (h:SdF w s own wr ao wo bo ac wc bc):∀k,AFg (.slice ao own.length ac) (.slice wo wr.length wc) (.slice bo s.body.length bc) k→k<w.heap.size:=by
 obtain⟨h1,h2,h3,h4,h5,h6⟩:=h
 rintro k (hk|hk|hk)
 · exact Own.ltS h3 k hk
 · exact Own.ltS h4 k hk
 · exact Own.ltS h5 k hk
theorem SdF.ap (h:SdF w s own wr ao wo bo ac wc bc) {b:Nat} {c:Array Value} {T:TypeId} {fr:Nat×Nat} (hb:w.heap[b]?=some (.cells c T fr)) (hT:T≠23∧T≠5):∀k,AFg (.slice ao own.length ac) (.slice wo wr.length wc) (.slice bo s.body.length bc) k→k≠b:=by
 obtain⟨h1,h2,h3,h4,h5,h6⟩:=h
 rintro k (hk|hk|hk) rfl
 · exact Own.ne h3 hb (Ne.symm hT.1) hk
 · exact Own.ne h4 hb (Ne.symm hT.1) hk
 · exact Own.ne h5 hb (Ne.symm hT.2) hk
theorem SdF.ro (h:SdF w s own wr ao wo bo ac wc bc):RdD w (.slice ao own.length ac) own:=Own.sb h.2.2.1
theorem SdF.rw (h:SdF w s own wr ao wo bo ac wc bc):RdD w (.slice wo wr.length wc) wr:=Own.sb h.2.2.2.1
theorem SdF.rb (h:SdF w s own wr ao wo bo ac wc bc):SlB w 1 (.slice bo s.body.length bc) s.body.length (bv s.body):=Own.sb h.2.2.2.2.1
theorem SdF.tg (h:SdF w s own wr ao wo bo ac wc bc):Dg s.tag:=h.2.2.2.2.2.2.1
theorem SdF.by (h:SdF w s own wr ao wo bo ac wc bc):By s.body:=h.2.2.2.2.2.2.2
theorem SdF.sd (h:SdF w s own wr ao wo bo ac wc bc):(⟨s.addr,own.map DD.x,s.joint,wr.map DD.x,s.body,s.tag⟩:Sd)=s:=by rw[h.1,h.2.1]
end
def Sp.sr (B:Nat) (r:Sd×Int):Sp:=⟨fun w v=>∃own wr ao wo bo ac wc bc,v=.tuple #[Bw r.1.addr (.slice ao (List.length own) ac) r.1.joint (.slice wo (List.length wr) wc) (.slice bo r.1.body.length bc) r.1.tag,.int .i64 r.2]∧SdF w r.1 own wr ao wo bo ac wc bc∧∀k,AFg (.slice ao (List.length own) ac) (.slice wo (List.length wr) wc) (.slice bo r.1.body.length bc) k→B≤k,
 fun _ _ _ hg ⟨own,wr,ao,wo,bo,ac,wc,bc,h1,h2,h3⟩=>⟨own,wr,ao,wo,bo,ac,wc,bc,h1,h2.kn hg,h3⟩⟩
def Sp.sl (B:Nat) (s:Sd):Sp:=⟨fun w v=>∃own wr ao wo bo ac wc bc,v=Bw s.addr (.slice ao (List.length own) ac) s.joint (.slice wo (List.length wr) wc) (.slice bo s.body.length bc) s.tag∧SdF w s own wr ao wo bo ac wc bc∧∀k,AFg (.slice ao (List.length own) ac) (.slice wo (List.length wr) wc) (.slice bo s.body.length bc) k→B≤k,
 fun _ _ _ hg ⟨own,wr,ao,wo,bo,ac,wc,bc,h1,h2,h3⟩=>⟨own,wr,ao,wo,bo,ac,wc,bc,h1,h2.kn hg,h3⟩⟩
theorem ZP {B:Nat} {r:Sd×Int} (w:World) (u:Value) (h:(Sp.sr B r).on w u):∃vs v,u=.tuple vs∧vs[0]?=some v∧(Sp.sl B r.1).on w v:=by
 obtain⟨own,wr,ao,wo,bo,ac,wc,bc,h1,h2⟩:=h
 exact⟨_,_,h1,rfl,own,wr,ao,wo,bo,ac,wc,bc,rfl,h2⟩
theorem Np {B:Nat} {r:Sd×Int} (w:World) (u:Value) (h:(Sp.sr B r).on w u):∃vs v,u=.tuple vs∧vs[1]?=some v∧(Sp.is (.int .i64 r.2)).on w v:=by
 obtain⟨own,wr,ao,wo,bo,ac,wc,bc,h1,h2⟩:=h
 exact⟨_,_,h1,rfl,rfl⟩
theorem SRes.sr {w w':World} {B:Nat} {r:Sd×Int} {e:Ending} (h:SRes w w' r e) (hB:B≤w.heap.size):∃v,e=.returned v∧w.grownBy w' none∧(Sp.sr B r).on w' v:=by
 obtain⟨own,wr,ao,wo,bo,ac,wc,bc,h1,h2,h3,h4,h5,h6,f1,f2,f3,f4,h7,h8,h9⟩:=h
 refine⟨_,h1,h9,own,wr,ao,wo,bo,ac,wc,bc,rfl,⟨h2,h3,h4,h5,h6,f4,h7,h8⟩,?_⟩
 rintro k (hk|hk|hk)
 · exact Nat.le_trans hB (f1 k hk)
 · exact Nat.le_trans hB (f2 k hk)
 · exact Nat.le_trans hB (f3 k hk)
theorem AAy {W:World} {B:Nat} {ks:List VK} {vo:Option Addr} {vc_:Nat} {sa po:List Nat} (hsa:Dg sa) (hpo:Dg po) {P:List VP} {ds:List DD} {v:Value} {joint ad:Int} {x:V} {r:Sd×Int} (hr:RdK W (.slice vo ks.length vc_) ks) (hP:ks.map VK.p=P) (ho:RdD W v ds) (hdl:ds.length≤1000) (hB:B≤W.heap.size) (hres:Eu P (ds.map DD.x) joint ad x=r) :
  Calls Tryz.prog 20 #[Ao sa po (.slice vo ks.length vc_),v,.int .i64 joint,.int .i64 ad,BR x] W fun e w'=>∃v,e=.returned v∧W.grownBy w' none∧(Sp.sr B r).on w' v:=by
 obtain⟨ao,cap,rfl⟩:=ho.shape
 subst hP hres
 exact(AC9 ks vo vc_ sa po hsa hpo ds ao cap joint ad x W hr ho hdl).mono fun e w' h=>h.sr hB
def KN (P:List VP) (x:V) (n:Int) (b:Bool) (a:Int):Sd×Int:=Eu P ((E4 n 6).map DD.x) (jt b) (M5 a) x
theorem AJL (n:Int) {w0 W:World} (g:w0.grownBy W none):Calls Tryz.prog 17 #[.int .i64 n] W fun e w'=>∃v,e=.returned v∧W.grownBy w' none∧(Sp.row w0.heap.size 23 32 (E4 n 6).length ((E4 n 6).flatMap ML)).on w' v:=
 (AFe n W).mono fun e w' ⟨v,h1,h2,ao,cap,h3,h4,h5⟩=>⟨v,h1,h2,ao,cap,h3,h4,fun k hk=>Nat.le_trans g.size (h5 k hk)⟩
theorem AKh {W:World} {B:Nat} {ds:List DD} {v:Value} (h:(Sp.row B 23 32 ds.length (ds.flatMap ML)).on W v):RdD W v ds:=by
 obtain⟨ao,cap,rfl,h2,_⟩:=h
 exact Own.sb h2
theorem AAz (seed:List Nat) (hse:Dg seed) (w:World) :
   Calls Tryz.prog 14 #[AP seed] w fun e w'=>∃v,e=.returned v∧w.grownBy w' none∧(Sp.vv (V6 seed) (fun _=>False)).on w' v:=by
 refine Bg Tryz.func14 rfl Tryz.ntmps14 rfl fun a0 sv0=>?_
 have HG:=World.grownBy.refl w none
 replace sv0:Sv 19 [] [(0,AP seed)] a0:=sv0
 refine ALo fun K1 k1=>?_
 refine ALn ?_
 refine Bn sv0 r6 (CD seed hse.1) fun a2 w2 CO GJ g2 z2 Ad sv2=>?_
 replace HG:=AA HG g2
 refine Av (T:=36) (Z:=([bv AQ,bv AQ,[.slice none 0 0]].flatten)) sv2 rfl rfl rfl (fun a w=>by kernel_rfl) fun a3 w3 PW Jc g3 z3 CX sv3=>?_
 have Kj:=Bt HG Jc
 replace Ad:=AC g3 Ad
 refine AE ?_
 refine k1 _ _ ?_
 refine ALo fun K4 k4=>?_
 refine ALn ?_
 refine AI sv3 2 [(5,AP seed),(6,Ao ((kd 273 seed)) ((QG seed 0)) (.slice none 0 0))]
   ⟨yl r6 (CD seed hse.1) Ad,Ae [AP seed] Tryz.func38 (by kernel_rfl) rq4 ⟨(oy rfl rfl),ALu⟩ (Au fun W g=>AAI seed hse W),ALu⟩ fun a5 w5 g5 sv5=>?_
 replace Ad:=AC g5 Ad
 replace CX:=AC g5 CX
 replace HG:=AA (AA HG g3) g5
 refine Av (T:=36) (Z:=([bv AQ,bv AQ,[.slice none 0 0]].flatten)) sv5 rfl rfl rfl (fun a w=>by kernel_rfl) fun a6 w6 AHW We g6 z6 JF sv6=>?_
 have Ow:=Ar Ad We
 have Ox:=Ar CX We
 have AB0:=Bt HG We
 refine As sv6 r7 (BX (Be _ _) (IG seed 0) (.slice none 0 0) rfl) JF (by first|rfl|simp[Ag,AJ,AU,(Be _ _).1,(IG seed 0).1]) fun w7 g7 h7=>?_
 replace Ad:=AY g7 (AC g6 Ad) (Ne.symm Ow)
 replace CX:=AY g7 (AC g6 CX) (Ne.symm Ox)
 replace HG:=AD (AA HG g6) g7 AB0
 replace JF:=h7
 refine AE ?_
 refine k4 _ _ ?_
 refine ALo fun K8 k8=>?_
 refine ALo fun K9 k9=>?_
 refine ALn ?_
 refine Aa (v:=.int .i64 0) sv6 r6 fun a10 Ci=>?_
 refine AE ?_
 refine k9 _ _ ?_
 refine BM fun Q11 x11 y11 rt11 o11=>?_
 have hr:=RdK.nil w7
 have Nq:∀k,KX (.slice none 0 0) [] k→k≠CO:=fun k hk=>(OH k hk).elim
 have JG:∀k,KX (.slice none 0 0) [] k→k≠PW:=fun k hk=>(OH k hk).elim
 have JH:∀k,KX (.slice none 0 0) [] k→k≠AHW:=fun k hk=>(OH k hk).elim
 have ht:=TgF.none w7
 refine wp_loop (fun a w'=>∃(i:Nat) (ks:List VK) (ao:Option Addr) (cap:Nat),(i≤6)∧(ks.map VK.p=Qh seed i)∧Sv 19 [] [(4,.int .i64 ((i:Int))),(3,pt AHW),(5,AP seed),(6,Ao ((kd 273 seed)) ((QG seed 0)) (.slice none 0 0)),(2,pt PW),(1,pt CO),(0,AP seed)] a∧w.grownBy w' none∧w'.heap[CO]?=some (.cells (bv seed).toArray 23 (0,0))∧w'.heap[PW]?=some (.cells (([bv AQ,bv AQ,[.slice none 0 0]].flatten)).toArray 36 (0,0))∧w'.heap[AHW]?=some (.cells ([bv ((kd 273 seed)),bv ((QG seed i)),[.slice ao ks.length cap]].flatten).toArray 36 (0,0))∧RdK w' (.slice ao ks.length cap) ks∧TgF w' (KX (.slice ao ks.length cap) ks) (fun _=>False)∧(∀k,KX (.slice ao ks.length cap) ks k→k≠CO)∧(∀k,KX (.slice ao ks.length cap) ks k→k≠PW)∧(∀k,KX (.slice ao ks.length cap) ks k→k≠AHW)) (fun a _=>(6-intOf (a.tmps.getD 4 undef)).toNat) ⟨0,[],none,0,by omega,rfl,⟨Ci.1,Ci.2.1,Ci.2.2.1,Ci.2.2.2.1,Ci.2.2.2.2.1,Ci.2.2.2.2.2.1,Ci.2.2.2.2.2.2.1,Ci.2.2.2.2.2.2.2.1,(AH Ci).1,ALu⟩,HG,Ad,CX,JF,hr,ht,Nq,JG,JH⟩ fun a12 w12 hI12=>?_
 clear Ad
 clear CX
 clear JF
 clear hr
 clear ht
 clear HG
 obtain⟨i,ks,ao,cap,hi6,hP,DX,HG,Ad,CX,JF,hr,ht,Nq,JG,JH⟩:=hI12
 refine ALo fun K13 k13=>?_
 refine ALo fun K14 k14=>?_
 by_cases hi:i<6
 · refine ALn ?_
   refine AI DX 2 [(7,.int .i64 ((i:Int))),(8,.bool true)]
    ⟨ym r5,CQ r6 (fun _=>Bv (decide_eq_true (by omega))),ALu⟩ fun a15 w15 g15 Nj=>?_
   refine AE ?_
   refine k14 _ _ ?_
   refine Ay Nj rfl rfl ?_
   refine ALs ?_
   refine k13 _ _ ?_
   refine ALo fun K16 k16=>?_
   refine BM fun Q17 x17 y17 rt17 o17=>?_
   replace JF:=AC g15 JF
   replace hr:=hr.kn g15
   refine DZ (Nj.st w15) (by kernel_rfl) 7 [(12,Sp.is (Ao ((kd 273 seed)) ((QG seed i)) (.slice ao ks.length cap))),(13,Sp.is (.int .i64 ((i:Int)))),(14,Sp.is (AP ((EQ i)))),(15,Sp.vt ((Qh seed (i+1),(kd 273 seed),(QG seed (i+1))),(0:Int)) (KX (.slice ao ks.length cap) ks)),(11,Sp.vt ((Qh seed (i+1),(kd 273 seed),(QG seed (i+1))),(0:Int)) (KX (.slice ao ks.length cap) ks)),(16,Sp.vv (Qh seed (i+1),(kd 273 seed),(QG seed (i+1))) (KX (.slice ao ks.length cap) ks)),(17,Sp.is (.int .i64 0))] rfl (by kernel_rfl) (by kernel_rfl) (by kernel_rfl) [6] (by kernel_rfl)
    ⟨yl r6 (BX (Be _ _) (IG seed i) (.slice ao ks.length cap) rfl) JF,ym r5,Ae [.int .i64 ((i:Int))] Tryz.func30 (by kernel_rfl) rq4 ⟨(oy rfl rfl),ALu⟩ (Au fun W g=>Ky i hi W),Ae [Ao ((kd 273 seed)) ((QG seed i)) (.slice ao ks.length cap),AP ((EQ i))] Tryz.func39 (by kernel_rfl) rq4 ⟨(oy rfl rfl),(oy rfl rfl),ALu⟩ (AG2 (Be _ _) (IG seed i) (Kx i) hr rfl (T:=Tsd seed i) rfl (AJK hP hi)),ym r5,BC rq4 (fun w u h=>Ov w u h),BC rq4 (fun w u h=>No w u h),ALu⟩ ⟨fun o ho=>by obtain rfl:=Option.some.inj ho;exact Iw rfl rfl rfl trivial (fun w u h=>No w u h),ALu⟩
    [] (by kernel_rfl) trivial ⟨.inl rfl,.inl rfl,.inl rfl,.inl rfl,.inl rfl,.inl rfl,.inl rfl,ALu⟩ (by kernel_rfl) fun a18 w18 g18 st18 nd18=>?_
   obtain⟨hn18,hd18,e18_12,e18_13,e18_14,e18_15,e18_11,e18_16,e18_17,e18_7,e18_8,e18_4,e18_3,e18_5,e18_6,e18_2,e18_1,e18_0,-⟩:=st18
   obtain⟨ao19,cap19,ks19,e18_16q,hp19,hk19,hf19⟩:=e18_16
   replace Ad:=AC g18 (AC g15 Ad)
   replace CX:=AC g18 (AC g15 CX)
   replace JF:=AC g18 JF
   have Wf:=AAx hf19 Nq Ad (by decide)
   have Wg:=AAx hf19 JG CX (by decide)
   have Kz:=AAx hf19 JH JF (by decide)
   have CU:Sv 19 [] [(7,_),(8,_),(4,_),(3,_),(5,_),(6,_),(2,_),(1,_),(0,_),(16,_)] a18:=⟨hn18,hd18,e18_7,e18_8,e18_4,e18_3,e18_5,e18_6,e18_2,e18_1,e18_0,e18_16q,ALu⟩
   refine As CU r7 (BX (Be _ _) (IG seed (i+1)) (.slice ao19 ks19.length cap19) rfl) JF (by first|rfl|simp[Ag,AJ,AU,(Be _ _).1,(IG seed (i+1)).1,(Be _ _).1,(IG seed i).1]) fun w20 g20 h20=>?_
   refine AE ?_
   refine y17 _ _ ?_
   refine k16 _ _ ?_
   refine ALn ?_
   refine AI CU 2 [(9,.int .i64 ((i:Int))),(10,.int .i64 (((i+1:Nat):Int)))]
    ⟨ym r5,CQ r6 (fun _=>DV (by rw[BG (by omega) (by omega)];omega)),ALu⟩ fun a21 w21 g21 Da=>?_
   refine Aa (v:=.int .i64 (((i+1:Nat):Int))) Da r6 fun a22 Cw=>?_
   refine AE ?_
   replace Ad:=AC g21 (AY g20 Ad (Ne.symm Ow))
   replace CX:=AC g21 (AY g20 CX (Ne.symm Ox))
   replace JF:=AC g21 h20
   replace hr:=((hr.kn g18).offR g20 (AV JH)).kn g21
   replace ht:=TgF.kn (TgF.offR (TgF.kn (TgF.kn ht g15) g18) g20 (AV JH)) g21
   replace hk19:=(hk19.offR g20 (AV Kz)).kn g21
   replace hf19:=TgF.kn (TgF.offR hf19 g20 (AV Kz)) g21
   replace HG:=AA (AD (AA (AA HG g15) g18) g20 AB0) g21
   have htn:=hf19.join ht
   exact⟨⟨i+1,ks19,ao19,cap19,by omega,hp19,⟨Cw.1,Cw.2.1,Cw.2.2.1,Cw.2.2.2.2.2.2.2.1,(AH Cw).1,(AH Cw).2.1,(AH Cw).2.2.1,(AH Cw).2.2.2.1,(AH Cw).2.2.2.2.1,ALu⟩,HG,Ad,CX,JF,hk19,htn,Wf,Wg,Kz⟩,by rw[show _=_ from Cw.2.2.1,show _=_ from DX.2.2.1];simp[intOf];omega⟩
 · obtain rfl:i=6:=by omega
   refine ALn ?_
   refine AI DX 2 [(7,.int .i64 (((6:Nat):Int))),(8,.bool false)]
    ⟨ym r5,CQ r6 (fun _=>Bv (by simp)),ALu⟩ fun a23 w23 g23 Cz=>?_
   refine AE ?_
   refine k14 _ _ ?_
   refine Az Cz rfl rfl ?_
   refine wp_exit ?_
   repeat refine CW ?_
   refine x11 _ _ ?_
   refine k8 _ _ ?_
   refine ALo fun K24 k24=>?_
   refine ALn ?_
   refine AI Cz 1 [(18,Ao ((kd 273 seed)) ((QG seed 6)) (.slice ao ks.length cap))]
    ⟨yl r6 (BX (Be _ _) (IG seed 6) (.slice ao ks.length cap) rfl) (AC g23 JF),ALu⟩ fun a25 w25 g25 DY=>?_
   have Lb:=AA g23 g25
   refine As DY r7 (BX (Be _ _) (IG seed 6) (.slice ao ks.length cap) rfl) (AC Lb CX) (by first|rfl|simp[Ag,AJ,AU,(Be _ _).1,(IG seed 6).1]) fun w26 g26 h26=>?_
   replace hr:=(hr.kn Lb).offR g26 (AV JG)
   replace ht:=TgF.offR (TgF.kn ht Lb) g26 (AV JG)
   replace HG:=AD (AA HG Lb) g26 Kj
   replace CX:=h26
   refine AE ?_
   refine k24 _ _ ?_
   refine ALr ?_
   repeat refine AL ?_
   refine BH (fn:=Tryz.f14) DY (FG (p:=2) Tryz.results14 DY rfl rfl (BX (Be _ _) (IG seed 6) (.slice ao ks.length cap) rfl) CX) ?_
   exact⟨_,rfl,HG,ao,cap,ks,rfl,hP,hr,ht⟩
theorem AA0 (ks:List VK) (vo:Option Addr) (vc_:Nat) (sa po:List Nat) (hsa:Dg sa) (hpo:Dg po) (P:List VP) (hP:ks.map VK.p=P) (x:V) (n:Int) (b:Bool) (a:Int) (r:Sd×Int) (hres:KN P x n b a=r) (w:World) (hr:RdK w (.slice vo ks.length vc_) ks) :
  Calls Tryz.prog 15 #[Dl x n b a,Ao sa po (.slice vo ks.length vc_)] w fun e w'=>∃v,e=.returned v∧w.grownBy w' none∧(Sp.sr w.heap.size r).on w' v:=by
 refine Bg Tryz.func15 rfl Tryz.ntmps15 rfl fun a0 sv0=>?_
 have HG:=World.grownBy.refl w none
 replace sv0:Sv 19 [] [(0,Dl x n b a),(1,Ao sa po (.slice vo ks.length vc_))] a0:=sv0
 refine ALo fun K1 k1=>?_
 refine ALn ?_
 refine Bn sv0 r6 (Qg x n b a) fun a2 w2 Cp Ds g2 z2 AK sv2=>?_
 refine Bn sv2 r6 (BX hsa hpo (.slice vo ks.length vc_) rfl) fun a3 w3 Cc Fl g3 z3 AN sv3=>?_
 replace HG:=AA (AA HG g2) g3
 refine Av (T:=31) (Z:=([[.int .i64 0],[.slice none 0 0],[.int .i64 0],[.slice none 0 0],[.slice none 0 0],bv AQ].flatten)) sv3 rfl rfl rfl (fun a w=>by kernel_rfl) fun a4 w4 Gg CS g4 z4 AR sv4=>?_
 have CY:=Bt HG CS
 replace AK:=AC g4 (AC g3 AK)
 replace AN:=AC g4 AN
 replace hr:=((hr.kn g2).kn g3).kn g4
 replace HG:=AA HG g4
 refine Aa (v:=.int .i64 0) sv4 r6 fun a5 sv5=>?_
 refine AE ?_
 refine k1 _ _ ?_
 refine ALo fun K6 k6=>?_
 refine DZ (sv5.st w4) (by kernel_rfl) 13 [(6,Sp.is (Ao sa po (.slice vo ks.length vc_))),(7,Sp.is (pk Cp 3)),(8,Sp.is (.int .i64 n)),(9,Sp.row w4.heap.size 23 32 (E4 n 6).length ((E4 n 6).flatMap ML)),(10,Sp.is (Dl x n b a)),(11,Sp.is (.int .i64 ((jt b)))),(12,Sp.is (Dl x n b a)),(13,Sp.is (.int .i64 ((M5 a)))),(14,Sp.is (pt Cp)),(15,Sp.is (BR x)),(16,Sp.sr w4.heap.size r),(17,Sp.sl w4.heap.size r.1),(18,Sp.is (.int .i64 r.2))] rfl (by kernel_rfl) (by kernel_rfl) (by kernel_rfl) [] (by kernel_rfl)
  ⟨yl r6 (BX hsa hpo (.slice vo ks.length vc_) rfl) AN,yf r6 (fun _=>by kernel_rfl),yp (i:=1) r6 (C3 n) AK rfl rfl,Ae [.int .i64 n] Tryz.func17 (by kernel_rfl) rq4 ⟨(oy rfl rfl),ALu⟩ (fun W g=>AJL n g),yl r6 (Qg x n b a) AK,Ae [Dl x n b a] Tryz.func18 (by kernel_rfl) rq4 ⟨(oy rfl rfl),ALu⟩ (Au fun W g=>AAw x n b a W),yl r6 (Qg x n b a) AK,Ae [Dl x n b a] Tryz.func19 (by kernel_rfl) rq4 ⟨(oy rfl rfl),ALu⟩ (Au fun W g=>Pl x n b a W),yf r6 (fun _=>by kernel_rfl),yp (i:=0) r6 (C6 x) AK rfl rfl,Xk (Sp.sr w4.heap.size r) rfl rfl trivial rfl (fun W g av h=>match av,h with|[_,_,_,_,_],⟨rfl,hv,rfl,rfl,rfl,_⟩=>AAy hsa hpo (hr.kn g) hP (AKh hv) (Nat.le_trans (Qw n 6) (by decide)) g.size hres) (fun _ _ h=>h) (Eo Tryz.func20 (by kernel_rfl) rfl),BC rq4 (fun w u h=>ZP w u h),BC rq4 (fun w u h=>Np w u h),ALu⟩ trivial
  [] (by kernel_rfl) trivial ⟨.inl rfl,.inl rfl,.inl rfl,.inl rfl,.inl rfl,.inl rfl,.inl rfl,.inl rfl,.inl rfl,.inl rfl,.inl rfl,.inl rfl,.inl rfl,ALu⟩ (by kernel_rfl) fun a7 w7 g7 st7 nd7=>?_
 obtain⟨hn7,hd7,e7_6,e7_7,e7_8,e7_9,e7_10,e7_11,e7_12,e7_13,e7_14,e7_15,e7_16,e7_17,e7_18,e7_5,e7_4,e7_3,e7_2,e7_0,e7_1,-⟩:=st7
 obtain⟨own8,wr8,ao8,wo8,bo8,ac8,wc8,bc8,e7_17q,hF,fr8⟩:=e7_17
 have AA1:=CK fr8 AR
 have lo_hF:=LO HG fr8
 replace AR:=AC g7 AR
 have sv7:Sv 19 [] [(5,_),(4,_),(3,_),(2,_),(0,_),(1,_),(17,_),(18,_)] a7:=⟨hn7,hd7,e7_5,e7_4,e7_3,e7_2,e7_0,e7_1,e7_17q,e7_18,ALu⟩
 refine As sv7 r7 (Dz _ _ hF.tg (.slice ao8 (List.length own8) ac8) (.slice wo8 (List.length wr8) wc8) (.slice bo8 r.1.body.length bc8) rfl rfl rfl) AR (FS AO hF.tg) fun w9 g9 h9=>?_
 replace hF:=hF.offR g9 (AV AA1)
 replace HG:=AD (AA HG g7) g9 CY
 replace AR:=h9
 refine Aa (v:=.int .i64 r.2) sv7 r6 fun a10 Ci=>?_
 have CV:Sv _ _ [_,_,_,_] _:=Ci.dl [3,2,17,18]
 refine AE ?_
 refine k6 _ _ ?_
 refine ALr ?_
 repeat refine AL ?_
 refine BH (fn:=Tryz.f15) CV (Gp (p:=4) (q:=5) Tryz.results15 CV rfl rfl rfl rfl (Dz _ _ hF.tg (.slice ao8 (List.length own8) ac8) (.slice wo8 (List.length wr8) wc8) (.slice bo8 r.1.body.length bc8) rfl rfl rfl) AR) ?_
 exact⟨_,rfl,HG,own8,wr8,ao8,wo8,bo8,ac8,wc8,bc8,rfl,hF,lo_hF⟩
end Go.Proofs.YtbfjfnbcmojpiaaGreat
