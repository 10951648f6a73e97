import Derived.Test.YtbfjfnbcmojpiaaGreatBkVE
import Derived.Test.YtbfjfnbcmojpiaaGreatBkMK6
set_option linter.unusedSimpArgs false
set_option linter.unusedVariables false
set_option maxRecDepth 100000
set_option maxHeartbeats 4000000
namespace Go.Proofs.YtbfjfnbcmojpiaaGreat
open Go.RowKit Go.Shelf
theorem AGh (n:Int) (w:World):(Instr.build 25 #[(0,.int .i64 1),(1,.int .i64 n)]).run Tryz.prog w=.ok (Bi ⟨1,n,⟨#[]⟩⟩) w:=by kernel_rfl
def Gp (n:Int):V:=(⟨1,n,⟨#[]⟩⟩:V).clean
def Eg (x:V) (n:Int) (b:Bool) (a:Int):Value:=.agg ([vc x,[.int .i64 n],[.bool b],[.int .i64 a]].flatten).toArray
theorem AEL (s:ByteArray):TY Tryz.prog 9 [.string s] (.string s):=TY.one' Tryz.underlying9 rfl (by kernel_rfl) rfl
theorem Xh {P:Program} {ops:Array Oper} {L:Nat→Sp} {n:Nat} {w0:World} {o:Oper} {x:Operand} {t:TypeId} {d:Nat} {s:ByteArray} (he:P.underlying t=some .string) (ho:o.op=.call { callee:=.builtin .len,args:=#[x],argTypes:=#[t] }) (hd:o.dst=some d) (hg:GX ops L n o.guard) (hx:OpX L n x (.string s)) (h:∀w,(L d).on w (.int .i64 s.size)):OX P ops L n w0 o:=
 EO hg fun a w hw hl hsz=>⟨.int .i64 s.size,by
  have e:=hx.eval (o:=o) (a:=a) (w:=w) (by simp[ho,Op.operands,Call.operands]) hl
  simp only[execOp,ho,resolve,Sem.run_bind,Sem.run_pure,Result.andThen_ok,List.map_toArray,List.map_cons,List.map_nil,e]
  simp[invoke,builtin,Builtin.len_,run_underlying he,goInt],Ci hd (h w)⟩
theorem AGi (x:V):TY Tryz.prog 25 ([[.int .i64 x.kind],[.int .i64 x.int],[.string x.text]].flatten) (Bi x):=DY x
def SV (n:Int):Int:=bits .and .i64 n 17179869183
theorem AGj (m:Nat) (hm:m<9223372036854775808) (n:Int) (h63:(BitVec.ofInt 64 (m:Int)).toNat=m):∃k:Nat,k≤m∧bits .and .i64 n (m:Int)=(k:Int):=by
 have h:bits .and .i64 n (m:Int)=IntKind.i64.wrap (((BitVec.ofInt 64 n) &&& (BitVec.ofInt 64 (m:Int))).toNat:Int):=rfl
 have h2:((BitVec.ofInt 64 n) &&& (BitVec.ofInt 64 (m:Int))).toNat≤m:=by rw[BitVec.toNat_and,h63];exact Nat.and_le_right
 exact⟨_,h2,by rw[h];exact A7 (by omega) (by omega)⟩
theorem M3 (n:Int):CQ (SV n)=true:=by
 obtain⟨k,hk,e⟩:=AGj 17179869183 (by decide) n (by decide)
 have e':SV n=(k:Int):=e
 rw[e']
 unfold CQ
 rw[decide_eq_true (by omega),decide_eq_true (by omega)]
 rfl
theorem Uq (x:V) (n:Int) (b:Bool) (a:Int):TY Tryz.prog 27 ([vc x,[.int .i64 n],[.bool b],[.int .i64 a]].flatten) (Eg x n b a):=by
 refine TY.agg Tryz.underlying27 rfl (by kernel_rfl) ?_
 intro c hc
 simp[vc] at hc
 rcases hc with rfl|rfl|rfl|rfl|rfl|rfl<;>rfl
theorem Xi {P:Program} {a c:Int} {t:TypeId} {x y:Operand} {w:World} (i:Nat) (hi:i<64) (h:a/2^i=c):(do eqGuard .shr t x y (.int .i64 a) (.int .u64 (i:Int));binOp .shr t (.int .i64 a) (.int .u64 (i:Int)):Sem Value).run P w=.ok (.int .i64 c) w:=by
 subst h
 have h1:min i IntKind.i64.bits=i:=Nat.min_eq_left (by show i≤64;omega)
 simp[eqGuard,binOp_shr,shift_shr_any,h1]
def Hm (n:Nat):List Nat:=(n%6)::(zs 30++[7*(n%6)])
theorem Lw (n:Nat):Dg (Hm n):=by
 refine⟨rfl,fun x hx=>?_⟩
 simp[Hm,zs] at hx
 omega
theorem Xj {n:Nat} (h:n<6):Hm n=n::(zs 30++[7*n]):=by unfold Hm;rw[Nat.mod_eq_of_lt h]
def M4 (n:Nat):DD:=⟨Hm n,Lw n⟩
def Ur (n:Int) (i:Nat):Int:=bits .and .i64 (n/2^i) 1
def EY (n:Int):Nat→List DD
 | 0=>[]
 | i+1=>if Ur n i=1 then EY n i++[M4 i] else EY n i
theorem Nk (n:Int):∀i,(EY n i).length≤i
 | 0=>Nat.le_refl _
 | i+1=>by
  have:=Nk n i
  unfold EY
  split<;>simp<;>omega
def jt (b:Bool):Int:=if b then 1 else 0
theorem WW (x:V) (b:Bool) (hb:decide (x.text.size≤100)=b) (w:World) :
   Calls Tryz.prog 12 #[Bi x] w fun e w'=>e=.returned (.bool b)∧w.grownBy w' none:=by
 refine BH Tryz.func12 rfl Tryz.ntmps12 rfl fun a0 sv0=>?_
 have HG:=World.grownBy.refl w none
 replace sv0:Sv 7 [] [(0,Bi x)] a0:=sv0
 refine AH4 fun K1 k1=>?_
 refine AH3 ?_
 refine BQ sv0 r6 (AGi x) fun a2 w2 Bv E4 g2 z2 AX sv2=>?_
 replace HG:=AA HG g2
 refine AZ (v:=.bool false) sv2 r6 fun a3 sv3=>?_
 refine AE ?_
 refine k1 _ _ ?_
 refine AH4 fun K4 k4=>?_
 cases b
 · refine AH3 ?_
   refine AK sv3 4 [(3,pk Bv 2),(4,.string x.text),(5,.int .i64 ((x.text.size:Nat))),(6,.bool false)]
    ⟨yf r6 (fun _=>by kernel_rfl),yp (i:=2) r6 (AEL x.text) AX rfl rfl,Xh (Tryz.underlying9) rfl rfl trivial (oy rfl rfl) (fun _=>rfl),Cm r6 (fun _=>AAV (by rw[←hb];exact decide_eq_decide.2 (by omega))),AIA⟩ fun a5 w5 g5 sv5=>?_
   refine AZ (v:=.bool false) sv5 r6 fun a6 sv6=>?_
   have sv7:Sv _ _ [_,_] _:=sv6.dl [3,4,5,6,1]
   refine AE ?_
   refine k4 _ _ ?_
   replace AX:=AC g5 AX
   replace HG:=AA HG g5
   refine AH7 ?_
   repeat refine AM ?_
   refine A3 (fn:=Tryz.f12) sv7 (A2 (p:=2) Tryz.results12 sv7 rfl rfl) ?_
   exact⟨rfl,HG⟩
 · refine AH3 ?_
   refine AK sv3 4 [(3,pk Bv 2),(4,.string x.text),(5,.int .i64 ((x.text.size:Nat))),(6,.bool true)]
    ⟨yf r6 (fun _=>by kernel_rfl),yp (i:=2) r6 (AEL x.text) AX rfl rfl,Xh (Tryz.underlying9) rfl rfl trivial (oy rfl rfl) (fun _=>rfl),Cm r6 (fun _=>AAV (by rw[←hb];exact decide_eq_decide.2 (by omega))),AIA⟩ fun a8 w8 g8 sv8=>?_
   refine AZ (v:=.bool true) sv8 r6 fun a9 sv9=>?_
   have CG:Sv _ _ [_,_] _:=sv9.dl [3,4,5,6,1]
   refine AE ?_
   refine k4 _ _ ?_
   replace HG:=AA HG g8
   refine AH7 ?_
   repeat refine AM ?_
   refine A3 (fn:=Tryz.f12) CG (A2 (p:=2) Tryz.results12 CG rfl rfl) ?_
   exact⟨rfl,HG⟩
theorem O4 (n:Nat) (hn:n<6) (w:World) :
  Calls Tryz.prog 30 #[.int .i64 ((n:Int))] w fun e w'=>e=.returned (AP (Hm n))∧w.grownBy w' none:=by
 have hdg:Dg (n::(zs 30++[7*n])):=Xj hn▸Lw n
 rw[Xj hn]
 refine BH Tryz.func30 rfl Tryz.ntmps30 rfl fun a0 sv0=>?_
 have HG:=World.grownBy.refl w none
 replace sv0:Sv 9 [] [(0,.int .i64 ((n:Int)))] a0:=sv0
 refine AH4 fun K1 k1=>?_
 refine AH3 ?_
 refine Ap (T:=23) (Z:=(bv AS)) sv0 rfl rfl rfl (fun a w=>by kernel_rfl) fun a2 w2 CJ Cs g2 z2 AH sv2=>?_
 have E5:=Bp HG Cs
 refine AE ?_
 refine k1 _ _ ?_
 refine AH4 fun K3 k3=>?_
 refine AH3 ?_
 refine AK sv2 6 [(3,.int .i64 ((n:Int))),(4,.int .u8 ((n:Int))),(5,.int .i64 ((n:Int))),(6,.int .i64 (((7*n:Nat):Int))),(7,.int .u8 (((7*n:Nat):Int))),(8,AP ((n::(zs 30++[7*n]))))]
  ⟨ym r5,Jr r6 (fun _=>Jt Tryz.underlying3 Tryz.underlying5 (XB (by omega) (by omega))),ym r5,ML rfl rfl trivial rfl (oy rfl rfl) (fun _=>AEs (by rw[A7 (by omega) (by omega)];omega)) (fun _=>rfl),Jr r6 (fun _=>Jt Tryz.underlying3 Tryz.underlying5 (XB (by omega) (by omega))),BM (vs:=[.int .u8 ((n:Int)),.int .u8 (((7*n:Nat):Int))]) rfl rfl trivial ⟨(oy rfl rfl),(oy rfl rfl),AIA⟩ (fun _=>AHB n (7*n) _) (fun _=>rfl),AIA⟩ fun a4 w4 g4 sv4=>?_
 refine Am sv4 r7 (Bj ((n::(zs 30++[7*n]))) hdg.1) (AC g4 AH) (Fu hdg) fun w5 g5 h5=>?_
 replace HG:=AD (AA (AA HG g2) g4) g5 E5
 replace AH:=h5
 have sv6:Sv _ _ [_] _:=sv4.dl [3,4,5,6,7,8,0]
 refine AE ?_
 refine k3 _ _ ?_
 refine AH7 ?_
 repeat refine AM ?_
 refine A3 (fn:=Tryz.f30) sv6 (EA (p:=2) Tryz.results30 sv6 rfl rfl (Bj ((n::(zs 30++[7*n]))) hdg.1) AH) ?_
 exact⟨rfl,HG⟩
theorem WX (x:V) (n a:Int) (w:World) :
  Calls Tryz.prog 18 #[Eg x n true a] w fun e w'=>e=.returned (.int .i64 1)∧w.grownBy w' none:=by
 refine BH Tryz.func18 rfl Tryz.ntmps18 rfl fun a0 sv0=>?_
 have HG:=World.grownBy.refl w none
 replace sv0:Sv 5 [] [(0,Eg x n true a)] a0:=sv0
 refine AH4 fun K1 k1=>?_
 refine AH3 ?_
 refine BQ sv0 r6 (Uq x n true a) fun a2 w2 Bv E4 g2 z2 AX sv2=>?_
 refine AZ (v:=.int .i64 0) sv2 r6 fun a3 sv3=>?_
 refine AE ?_
 refine k1 _ _ ?_
 refine AH4 fun K4 k4=>?_
 refine AH4 fun K5 k5=>?_
 refine AH3 ?_
 refine AK sv3 2 [(3,pk Bv 4),(4,.bool true)]
  ⟨yf r6 (fun _=>by kernel_rfl),yp (i:=2) r6 (VO true) AX rfl rfl,AIA⟩ fun a6 w6 g6 sv6=>?_
 refine AE ?_
 refine k5 _ _ ?_
 refine Aq sv6 rfl rfl ?_
 refine AH4 fun K7 k7=>?_
 refine AH3 ?_
 refine AZ (v:=.int .i64 1) sv6 r6 fun a8 sv8=>?_
 refine AE ?_
 refine k7 _ _ ?_
 replace HG:=AA (AA HG g2) g6
 refine AH7 ?_
 repeat refine AM ?_
 refine A3 (fn:=Tryz.f18) sv8 (A2 (p:=2) Tryz.results18 sv8 rfl rfl) ?_
 exact⟨rfl,HG⟩
theorem Us (x:V) (n a:Int) (w:World) :
  Calls Tryz.prog 18 #[Eg x n false a] w fun e w'=>e=.returned (.int .i64 0)∧w.grownBy w' none:=by
 refine BH Tryz.func18 rfl Tryz.ntmps18 rfl fun a0 sv0=>?_
 have HG:=World.grownBy.refl w none
 replace sv0:Sv 5 [] [(0,Eg x n false a)] a0:=sv0
 refine AH4 fun K1 k1=>?_
 refine AH3 ?_
 refine BQ sv0 r6 (Uq x n false a) fun a2 w2 Bv E4 g2 z2 AX sv2=>?_
 refine AZ (v:=.int .i64 0) sv2 r6 fun a3 sv3=>?_
 refine AE ?_
 refine k1 _ _ ?_
 refine AH4 fun K4 k4=>?_
 refine AH4 fun K5 k5=>?_
 refine AH3 ?_
 refine AK sv3 2 [(3,pk Bv 4),(4,.bool false)]
  ⟨yf r6 (fun _=>by kernel_rfl),yp (i:=2) r6 (VO false) AX rfl rfl,AIA⟩ fun a6 w6 g6 sv6=>?_
 refine AE ?_
 refine k5 _ _ ?_
 refine Ax sv6 rfl rfl ?_
 refine AH8 ?_
 refine k4 _ _ ?_
 refine AH4 fun K7 k7=>?_
 refine AH3 ?_
 refine AZ (v:=.int .i64 0) sv6 r6 fun a8 sv8=>?_
 refine AE ?_
 refine k7 _ _ ?_
 replace HG:=AA (AA HG g2) g6
 refine AH7 ?_
 repeat refine AM ?_
 refine A3 (fn:=Tryz.f18) sv8 (A2 (p:=2) Tryz.results18 sv8 rfl rfl) ?_
 exact⟨rfl,HG⟩
theorem WY (x:V) (n:Int) (b:Bool) (a:Int) (w:World):Calls Tryz.prog 18 #[Eg x n b a] w fun e w'=>e=.returned (.int .i64 (jt b))∧w.grownBy w' none:=by
 cases b
 · exact Us x n a w
 · exact WX x n a w
theorem ZT (x:V) (n:Int) (b:Bool) (a:Int) (w:World) :
  Calls Tryz.prog 19 #[Eg x n b a] w fun e w'=>e=.returned (.int .i64 (SV a))∧w.grownBy w' none:=by
 refine BH Tryz.func19 rfl Tryz.ntmps19 rfl fun a0 sv0=>?_
 have HG:=World.grownBy.refl w none
 replace sv0:Sv 6 [] [(0,Eg x n b a)] a0:=sv0
 refine AH4 fun K1 k1=>?_
 refine AH3 ?_
 refine BQ sv0 r6 (Uq x n b a) fun a2 w2 Bv E4 g2 z2 AX sv2=>?_
 refine AZ (v:=.int .i64 0) sv2 r6 fun a3 sv3=>?_
 refine AE ?_
 refine k1 _ _ ?_
 refine AH4 fun K4 k4=>?_
 refine AH3 ?_
 refine AK sv3 3 [(3,pk Bv 5),(4,.int .i64 a),(5,.int .i64 ((SV a)))]
  ⟨yf r6 (fun _=>by kernel_rfl),yp (i:=3) r6 (FY a) AX rfl rfl,Cm r6 (fun _=>Va rfl),AIA⟩ fun a5 w5 g5 sv5=>?_
 refine AZ (v:=.int .i64 ((SV a))) sv5 r6 fun a6 sv6=>?_
 have sv7:Sv _ _ [_,_] _:=sv6.dl [3,4,5,1]
 refine AE ?_
 refine k4 _ _ ?_
 replace HG:=AA (AA HG g2) g5
 refine AH7 ?_
 repeat refine AM ?_
 refine A3 (fn:=Tryz.f19) sv7 (A2 (p:=2) Tryz.results19 sv7 rfl rfl) ?_
 exact⟨rfl,HG⟩
theorem Ml (n:Int) (w:World) :
  Calls Tryz.prog 37 #[.int .i64 n] w fun e w'=>e=.returned (Bi (Gp n))∧w.grownBy w' none:=by
 refine BH Tryz.func37 rfl Tryz.ntmps37 rfl fun a0 sv0=>?_
 have HG:=World.grownBy.refl w none
 replace sv0:Sv 6 [] [(0,.int .i64 n)] a0:=sv0
 refine AH4 fun K1 k1=>?_
 refine AH3 ?_
 refine Ap (T:=25) (Z:=[.int .i64 0,.int .i64 0,.string ⟨#[]⟩]) sv0 rfl rfl rfl (fun a w=>by kernel_rfl) fun a2 w2 CJ Cs g2 z2 AH sv2=>?_
 have E5:=Bp HG Cs
 refine AE ?_
 refine k1 _ _ ?_
 refine AH4 fun K3 k3=>?_
 refine AH3 ?_
 refine AK sv2 3 [(3,.int .i64 n),(4,Bi ((⟨1,n,⟨#[]⟩⟩:V))),(5,Bi ((Gp n)))]
  ⟨ym r5,BM (vs:=[.int .i64 1,.int .i64 n]) rfl rfl trivial ⟨rfl,(oy rfl rfl),AIA⟩ (fun _=>AGh n _) (fun _=>rfl),Ah [Bi ((⟨1,n,⟨#[]⟩⟩:V))] Tryz.func25 (by kernel_rfl) rq4 ⟨(oy rfl rfl),AIA⟩ (Ao fun W g=>Mn _ W),AIA⟩ fun a4 w4 g4 sv4=>?_
 refine Am sv4 r7 (DY ((Gp n))) (AC g4 AH) rfl fun w5 g5 h5=>?_
 replace HG:=AD (AA (AA HG g2) g4) g5 E5
 replace AH:=h5
 have sv6:Sv _ _ [_] _:=sv4.dl [3,4,5,0]
 refine AE ?_
 refine k3 _ _ ?_
 refine AH7 ?_
 repeat refine AM ?_
 refine A3 (fn:=Tryz.f37) sv6 (EA (p:=2) Tryz.results37 sv6 rfl rfl (DY ((Gp n))) AH) ?_
 exact⟨rfl,HG⟩
theorem ABZ (n:Int) (w:World) :
   Calls Tryz.prog 17 #[.int .i64 n] w fun e w'=>∃v,e=.returned v∧w.grownBy w' none∧(Sp.row w.heap.size 23 32 (EY n 6).length ((EY n 6).flatMap JW)).on w' v:=by
 refine BH Tryz.func17 rfl Tryz.ntmps17 rfl fun a0 sv0=>?_
 have HG:=World.grownBy.refl w none
 replace sv0:Sv 21 [] [(0,.int .i64 n)] a0:=sv0
 refine AH4 fun K1 k1=>?_
 refine AH3 ?_
 refine AZ (v:=.slice none 0 0) sv0 r6 fun a2 sv2=>?_
 refine AE ?_
 refine k1 _ _ ?_
 refine AH4 fun K3 k3=>?_
 refine AH3 ?_
 refine AZ (v:=.slice none 0 0) sv2 r6 fun a4 sv4=>?_
 refine AE ?_
 refine k3 _ _ ?_
 refine AH4 fun K5 k5=>?_
 refine AH4 fun K6 k6=>?_
 refine AH3 ?_
 refine AZ (v:=.int .i64 0) sv4 r6 fun a7 sv7=>?_
 refine AE ?_
 refine k6 _ _ ?_
 refine BB fun Q8 x8 y8 rt8 o8=>?_
 have okk:=Own.nil w 23 32
 have lo_okk:=Yf w
 refine wp_loop (fun a w'=>∃(i:Nat) (so:Option Addr) (sc:Nat) (m:Nat) (L:List DD),(i≤6)∧(L=EY n i)∧(L.length=m)∧Sv 21 [] [(4,.int .i64 ((i:Int))),(3,.slice so m sc),(2,.slice none 0 0),(0,.int .i64 n)] a∧w.grownBy w' none∧Own w' 23 32 (.slice so m sc) m (L.flatMap JW)∧(∀k,BO (.slice so m sc) k→w.heap.size≤k)) (fun a _=>(6-intOf (a.tmps.getD 4 undef)).toNat) ⟨0,none,0,0,[],Nat.zero_le _,rfl,rfl,⟨sv7.1,sv7.2.1,sv7.2.2.1,sv7.2.2.2.1,sv7.2.2.2.2.1,sv7.2.2.2.2.2.1,AIA⟩,HG,okk,lo_okk⟩ fun a9 w9 hI9=>?_
 clear okk
 clear HG
 obtain⟨i,so,sc,m,L,hi6,hL,hm,sv9,HG,okk,lo_okk⟩:=hI9
 refine AH4 fun K10 k10=>?_
 refine AH4 fun K11 k11=>?_
 by_cases hi:i<6
 · refine AH3 ?_
   refine AK sv9 2 [(5,.int .i64 ((i:Int))),(6,.bool true)]
     ⟨ym r5,Cm r6 (fun _=>Bb (decide_eq_true (by omega))),AIA⟩ fun a12 w12 g12 Cr=>?_
   refine AE ?_
   refine k11 _ _ ?_
   refine Aq Cr rfl rfl ?_
   refine AH8 ?_
   refine k10 _ _ ?_
   refine AH4 fun K13 k13=>?_
   refine BB fun Q14 x14 y14 rt14 o14=>?_
   refine AH4 fun K15 k15=>?_
   replace okk:=okk.kn g12
   replace HG:=AA HG g12
   by_cases hb:Ur n i=1
   · have hLl:=Nk n i
     rw[←hL,hm] at hLl
     have hL1:L++[M4 i]=EY n (i+1):=by rw[show EY n (i+1)=EY n i++[M4 i] from if_pos hb,hL]
     refine AH3 ?_
     refine AK Cr 6 [(9,.int .i64 n),(10,.int .i64 ((i:Int))),(11,.int .u64 ((i:Int))),(12,.int .i64 ((n/2^i))),(13,.int .i64 ((Ur n i))),(14,.bool true)]
      ⟨ym r5,ym r5,Jr r6 (fun _=>Jt Tryz.underlying3 Tryz.underlying48 (MN (by omega) (by omega))),Gs r7 (fun _=>Xi i (by omega) rfl),Cm r6 (fun _=>Va rfl),Cm r6 (fun _=>B3 (by rw[hb];rfl)),AIA⟩ fun a16 w16 g16 Ck=>?_
     refine AE ?_
     refine k15 _ _ ?_
     refine Aq Ck rfl rfl ?_
     refine AH3 ?_
     refine AK Ck 3 [(15,.slice so m sc),(16,.int .i64 ((i:Int))),(17,AP ((Hm i)))]
      ⟨ym r5,ym r5,Ah [.int .i64 ((i:Int))] Tryz.func30 (by kernel_rfl) rq4 ⟨(oy rfl rfl),AIA⟩ (Ao fun W g=>O4 i hi W),AIA⟩ fun a17 w17 g17 E2=>?_
     refine Lb (cs:=bv ((Hm i))) (e:=23) E2 rfl rfl rfl rfl rfl rfl (ZF (Lw i)) fun a18 w18 AHR AFg g18 z18 ADa CF=>?_
     replace okk:=((okk.kn g16).kn g17).kn g18
     replace HG:=AA (AA (AA HG g16) g17) g18
     refine Kg dsT CF rfl rfl rfl rfl rfl rfl rfl rfl okk (J0 ADa (Lw i)) (Fb _) (by omega) fun a19 ao19 cap19 w19 owx19 CM Dv=>?_
     have ABa:=Vh CM.2 lo_okk HG
     replace HG:=CN HG CM.1 fun k e=>lo_okk k (e)
     rw[show bv (Hm i)=bv (M4 i).x from rfl,Ro L (M4 i)] at owx19
     refine AZ (v:=.slice ao19 (m+1) cap19) Dv r6 fun a20 Dl=>?_
     have DL:Sv _ _ [_,_,_,_,_,_,_,_,_,_,_,_] _:=Dl.dl [19,18,15,16,17]
     refine AE ?_
     refine y14 _ _ ?_
     refine k13 _ _ ?_
     refine AH3 ?_
     refine AK DL 2 [(7,.int .i64 ((i:Int))),(8,.int .i64 (((i+1:Nat):Int)))]
      ⟨ym r5,Cm r6 (fun _=>DH (by rw[A7 (by omega) (by omega)];omega)),AIA⟩ fun a22 w22 g22 CU=>?_
     refine AZ (v:=.int .i64 (((i+1:Nat):Int))) CU r6 fun a23 CX=>?_
     refine AE ?_
     replace owx19:=owx19.kn g22
     replace HG:=AA HG g22
     exact⟨⟨i+1,ao19,cap19,m+1,(L++[M4 i]),by omega,hL1,by rw[List.length_append,hm];rfl,⟨CX.1,CX.2.1,CX.2.2.1,CX.2.2.2.2.2.1,(AJ CX).2.2.2.2.2.2.1,(AJ CX).2.2.2.2.2.2.2.1,AIA⟩,HG,owx19,ABa⟩,by rw[show _=_ from CX.2.2.1,show _=_ from sv9.2.2.1];simp[intOf];omega⟩
   · have hL1:L=EY n (i+1):=by rw[show EY n (i+1)=EY n i from if_neg hb,hL]
     refine AH3 ?_
     refine AK Cr 6 [(9,.int .i64 n),(10,.int .i64 ((i:Int))),(11,.int .u64 ((i:Int))),(12,.int .i64 ((n/2^i))),(13,.int .i64 ((Ur n i))),(14,.bool false)]
      ⟨ym r5,ym r5,Jr r6 (fun _=>Jt Tryz.underlying3 Tryz.underlying48 (MN (by omega) (by omega))),Gs r7 (fun _=>Xi i (by omega) rfl),Cm r6 (fun _=>Va rfl),Cm r6 (fun _=>B3 (by simpa using hb)),AIA⟩ fun a24 w24 g24 Dw=>?_
     refine AE ?_
     refine k15 _ _ ?_
     refine Ax Dw rfl rfl ?_
     refine AH8 ?_
     refine y14 _ _ ?_
     refine k13 _ _ ?_
     refine AH3 ?_
     refine AK Dw 2 [(7,.int .i64 ((i:Int))),(8,.int .i64 (((i+1:Nat):Int)))]
      ⟨ym r5,Cm r6 (fun _=>DH (by rw[A7 (by omega) (by omega)];omega)),AIA⟩ fun a25 w25 g25 Cu=>?_
     have I8:=AA g24 g25
     refine AZ (v:=.int .i64 (((i+1:Nat):Int))) Cu r6 fun a26 CW=>?_
     refine AE ?_
     replace okk:=okk.kn I8
     replace HG:=AA HG I8
     exact⟨⟨i+1,so,sc,m,L,by omega,hL1,hm,⟨CW.1,CW.2.1,CW.2.2.1,(AJ CW).2.2.2.2.2.1,(AJ CW).2.2.2.2.2.2.1,(AJ CW).2.2.2.2.2.2.2.1,AIA⟩,HG,okk,lo_okk⟩,by rw[show _=_ from CW.2.2.1,show _=_ from sv9.2.2.1];simp[intOf];omega⟩
 · obtain rfl:i=6:=by omega
   refine AH3 ?_
   refine AK sv9 2 [(5,.int .i64 (((6:Nat):Int))),(6,.bool false)]
     ⟨ym r5,Cm r6 (fun _=>Bb (by simp)),AIA⟩ fun a27 w27 g27 F8=>?_
   refine AE ?_
   refine k11 _ _ ?_
   refine Ax F8 rfl rfl ?_
   refine wp_exit ?_
   repeat refine CH ?_
   refine x8 _ _ ?_
   refine k5 _ _ ?_
   refine AH4 fun K28 k28=>?_
   refine AH3 ?_
   refine AK F8 1 [(20,.slice so m sc)]
     ⟨ym r5,AIA⟩ fun a29 w29 g29 CK=>?_
   have Hz:=AA g27 g29
   refine AZ (v:=.slice so m sc) CK r6 fun a30 EB=>?_
   refine AE ?_
   refine k28 _ _ ?_
   replace okk:=okk.kn Hz
   replace HG:=AA HG Hz
   refine AH7 ?_
   repeat refine AM ?_
   subst hL hm
   refine A3 (fn:=Tryz.f17) EB (A2 (p:=2) Tryz.results17 EB rfl rfl) ?_
   exact⟨_,rfl,HG,_,_,rfl,okk,lo_okk⟩
end Go.Proofs.YtbfjfnbcmojpiaaGreat
namespace Go.Proofs.YtbfjfnbcmojpiaaGreat
open Go.ChangeShapes Go.WideShapes Go.ChangeAt Go.RowKit Go.Deep
theorem U1 {a b:World} (h:a.grownBy b none):Below a.heap.size a b:=
 ⟨h.os,h.tape,h.output,h.size,fun i hi=>h.block i hi (by simp)⟩
theorem Wn:laidOutB Tryz.prog=true:=by kernel_rfl
theorem QX:Tryz.prog.cellsOf 25=3:=by kernel_rfl
theorem Zd:Tryz.prog.cellsOf 27=6:=by kernel_rfl
theorem Xs:Tryz.prog.cellsOf 9=1:=by kernel_rfl
theorem ABy:Tryz.prog.cellsOf 4=1:=by kernel_rfl
theorem Wo:Tryz.prog.cellsOf 3=1:=by kernel_rfl
theorem Sw:Tryz.prog.cellsOf 2=1:=by kernel_rfl
theorem AEP {H:Type} {enc:TypeId×Value→H} {W:World} {b0:Nat}:∀fuel cs y,DataW.trod enc Tryz.prog W b0 (fun _=>true) true fuel 25 cs=some y→∃x:V,cs=vc x:=by
 intro fuel cs y h
 obtain⟨xs,k,_,_,hl,hxl,hf⟩:=DataW.trod_struct Tryz.underlying25 h
 rw[QX] at hl
 match cs,hl with
 | [a,b,c],_ =>
  obtain⟨y0,h0⟩:=KP hxl hf 0 _ rfl 3 rfl 1 Wo
  obtain⟨y1,h1⟩:=KP hxl hf 1 _ rfl 2 rfl 1 Sw
  obtain⟨y2,h2⟩:=KP hxl hf 2 _ rfl 9 rfl 1 Xs
  obtain⟨n0,e0,_,r0⟩:=DataW.trod_int Tryz.underlying3 h0
  obtain⟨n1,e1,_,r1⟩:=DataW.trod_int Tryz.underlying2 h1
  obtain⟨s2,e2,_,r2⟩:=DataW.trod_string Tryz.underlying9 h2
  simp at e0 e1 e2
  subst e0 e1 e2
  exact⟨⟨n0,n1,s2⟩,rfl⟩
theorem Xr {H:Type} {enc:TypeId×Value→H} {W:World} {r:Reach} {base b0:Nat} {v:Value} {d:DataW H} {p:List MemPlace} (hv:Value.okWide Tryz.prog W r base 27 v) (h:DataW.Trod enc Tryz.prog W b0 (fun _=>true) true 27 v d p):∃(x:V) (n:Int) (b:Bool) (a:Int),v=Eg x n b a∧True:=by
 obtain⟨cs,rfl,hcell⟩:=PI Tryz.underlying27 hv
 obtain⟨fuel,hf⟩:=h
 have hf':DataW.trod enc Tryz.prog W b0 (fun _=>true) true fuel 27 cs.toList=some (d,p):=hf
 obtain⟨xs,k,_,_,hl,hxl,hf⟩:=DataW.trod_struct Tryz.underlying27 hf'
 rw[Zd] at hl
 obtain⟨l⟩:=cs
 match l,hl with
 | [a,b,c,e,f,g],_ =>
  obtain⟨y0,t0⟩:=KP hxl hf 0 _ rfl 25 rfl 3 QX
  obtain⟨y1,t1⟩:=KP hxl hf 1 _ rfl 3 rfl 1 Wo
  obtain⟨y2,t2⟩:=KP hxl hf 2 _ rfl 4 rfl 1 ABy
  obtain⟨y3,t3⟩:=KP hxl hf 3 _ rfl 2 rfl 1 Sw
  obtain⟨v0,e0⟩:=AEP _ _ _ t0
  obtain⟨n1,e1,_,_⟩:=DataW.trod_int Tryz.underlying3 t1
  obtain⟨b2,e2,_⟩:=DataW.trod_bool Tryz.underlying4 t2
  obtain⟨n3,e3,_,_⟩:=DataW.trod_int Tryz.underlying2 t3
  simp[vc] at e0 e1 e2 e3
  obtain⟨rfl,rfl,rfl⟩:=e0
  subst e1 e2 e3
  exact⟨v0,n1,b2,n3,rfl,AIA⟩
end Go.Proofs.YtbfjfnbcmojpiaaGreat
namespace Go.Proofs.YtbfjfnbcmojpiaaGreat
open Go.RowKit Go.Shelf
theorem Xk {w:World} {k b:Nat} {c:Array Value} {T:TypeId} {fr:Nat×Nat} (h:TagV w k) (hb:w.heap[b]?=some (.cells c T fr)) (hT:T≠132∧T≠58):k≠b:=by
 rcases h with h|⟨c',fr',h1⟩
 · exact AAR h hb hT.1
 · rintro rfl
   rw[hb] at h1
   simp only[Option.some.injEq,Obj.cells.injEq] at h1
   exact hT.2 h1.2.1
theorem AHS {w:World} {p:Nat→Prop} {b:Nat} {c:Array Value} {T:TypeId} {fr:Nat×Nat} (hf:∀k,p k→(fun _=>False) k∨TagV w k) (hb:w.heap[b]?=some (.cells c T fr)) (hT:T≠132∧T≠58):∀k,p k→k≠b:=fun k hk=>(hf k hk).elim (fun h=>h.elim) fun t=>Xk t hb hT
theorem WZ {w:World} {p q:Nat→Prop} {b:Nat} {c:Array Value} {T:TypeId} {fr:Nat×Nat} (hf:∀k,p k→q k∨TagV w k) (ha:∀k,q k→k≠b) (hb:w.heap[b]?=some (.cells c T fr)) (hT:T≠132∧T≠58):∀k,p k→k≠b:=fun k hk=>(hf k hk).elim (ha k) fun t=>Xk t hb hT
def Sp.vv (V:VV) (fp:Nat→Prop):Sp:=⟨fun w v=>∃ao cap ks,v=An V.2.1 V.2.2 (.slice ao (List.length ks) cap)∧ks.map VK.p=V.1∧RdK w (.slice ao (List.length ks) cap) ks∧∀k,Kh (.slice ao (List.length ks) cap) ks k→fp k∨TagV w k,fun _ _ _ hg ⟨ao,cap,ks,h1,h2,h3,h4⟩=>⟨ao,cap,ks,h1,h2,h3.kn hg,OP hg h4⟩⟩
theorem Ut {r:VV×Int} {fp:Nat→Prop} (w:World) (u:Value) (h:(Sp.vt r fp).on w u):∃vs v,u=.tuple vs∧vs[0]?=some v∧(Sp.vv r.1 fp).on w v:=by
 obtain⟨ao,cap,ks,h1,h2⟩:=h
 exact⟨_,_,h1,rfl,ao,cap,ks,rfl,h2⟩
theorem Wa {r:VV×Int} {fp:Nat→Prop} (w:World) (u:Value) (h:(Sp.vt r fp).on w u):∃vs v,u=.tuple vs∧vs[1]?=some v∧(Sp.is (.int .i64 r.2)).on w v:=by
 obtain⟨ao,cap,ks,h1,h2⟩:=h
 exact⟨_,_,h1,rfl,rfl⟩
def TgF (w:World) (p q:Nat→Prop):Prop:=∀k,p k→q k∨TagV w k
theorem TgF.kn {w w':World} {p q:Nat→Prop} (h:TgF w p q) (g:w.grownBy w' none):TgF w' p q:=OP g h
theorem TgF.offR {w w':World} {p q:Nat→Prop} (h:TgF w p q) {row:Option Nat} (g:w.grownBy w' row) (hb:∀k,p k→row≠some k):TgF w' p q:=fun k hk=>(h k hk).imp id (·.keep g (hb k hk))
theorem TgF.join {w:World} {p q r:Nat→Prop} (h:TgF w p q) (h2:TgF w q r):TgF w p r:=fun k hk=>(h k hk).elim (h2 k) .inr
theorem TgF.none (w:World):TgF w (Kh (.slice none 0 0) []) (fun _=>False):=fun k hk=>(LM k hk).elim
theorem ADb {i j:Nat} (hi:i<6) (hj:j<6) (h:Hm i=Hm j):i=j:=by
 have:=(List.cons.inj h).1
 omega
def Uu (seed:List Nat):Nat→List Nat
 | 0=>kd 274 seed
 | j+1=>kd 276 (Uu seed j)
theorem Fw (seed:List Nat):∀j,Dg (Uu seed j)
 | 0=>BE _ _
 | _+1=>BE _ _
def Tsd (seed:List Nat) (j:Nat):List Nd:=tree (kd 275 (Uu seed j)) []
def O5 (seed:List Nat):Nat→List VP
 | 0=>[]
 | i+1=>KU (O5 seed i) (Hm i) (Tsd seed i)
def OV (T:Nat→List Nd) (P:List VP) (i:Nat):Prop:=CR P=true∧P.length=i∧∀x,x∈P↔∃j,j<i∧x=(Hm j,T j)
theorem OV.not {T:Nat→List Nd} {P:List VP} {i:Nat} (h:OV T P i) (hi:i<6):Ix P (Hm i)=false:=ACQ (Srt.of h.1) fun hm=>by
 obtain⟨x,hx,e⟩:=List.mem_map.1 hm
 obtain⟨j,hj,rfl⟩:=(h.2.2 x).1 hx
 have:=ADb (by omega) hi e
 omega
theorem OV.succ {T:Nat→List Nd} {P:List VP} {i:Nat} (h:OV T P i) (hi:i<6) (hT:∀j,Fy (T j)=true):OV T (KU P (Hm i) (T i)) (i+1):=by
 refine⟨UB h.1 (h.not hi) (by rw[h.2.1];omega) (hT i),by rw[ACR,h.2.1],fun x=>?_⟩
 rw[W9,h.2.2 x]
 constructor
 · rintro (rfl|⟨j,hj,rfl⟩)
   · exact⟨i,by omega,rfl⟩
   · exact⟨j,by omega,rfl⟩
 · rintro ⟨j,hj,rfl⟩
   by_cases e:j=i
   · subst e;exact .inl rfl
   · exact .inr ⟨j,by omega,rfl⟩
theorem ADc (seed:List Nat) (j:Nat):Fy (Tsd seed j)=true:=IR _
theorem Lx (seed:List Nat):∀i,i≤6→OV (Tsd seed) (O5 seed i) i
 | 0,_=>⟨rfl,rfl,by simp[O5]⟩
 | i+1,h=>(Lx seed i (by omega)).succ (by omega) (ADc seed)
def V6 (seed:List Nat):VV:=(O5 seed 6,kd 273 seed,Uu seed 6)
theorem AFS {seed:List Nat} {i:Nat} {P:List VP} (hP:P=O5 seed i) (hi:i<6):J4 (P,kd 273 seed,Uu seed i) (Hm i) (Tsd seed i) (kd 276 (Uu seed i))=((O5 seed (i+1),kd 273 seed,Uu seed (i+1)),0):=by
 subst hP
 have h:=Lx seed i (by omega)
 exact TZ h.1 (h.not hi) (by rw[h.2.1];omega)
def ABb (a b c:Value) (k:Nat):Prop:=BO a k∨BO b k∨BO c k
def SdF (w:World) (s:Sd) (own wr:List DD) (ao wo bo:Option Addr) (ac wc bc:Nat):Prop:=own.map DD.x=s.own∧wr.map DD.x=s.wr ∧
 Own w 23 32 (.slice ao own.length ac) own.length (own.flatMap JW)∧Own w 23 32 (.slice wo wr.length wc) wr.length (wr.flatMap JW)∧Own w 5 1 (.slice bo s.body.length bc) s.body.length (bv s.body) ∧
 (∀k,BO (.slice ao own.length ac) k→¬BO (.slice wo wr.length wc) k)∧Dg s.tag∧By s.body
section
variable {w w':World} {s:Sd} {own wr:List DD} {ao wo bo:Option Addr} {ac wc bc:Nat}
theorem SdF.kn (h:SdF w s own wr ao wo bo ac wc bc) (g:w.grownBy w' none):SdF w' s own wr ao wo bo ac wc bc:=by
 obtain⟨h1,h2,h3,h4,h5,h6⟩:=h
 exact⟨h1,h2,h3.kn g,h4.kn g,h5.kn g,h6⟩
theorem SdF.offR (h:SdF w s own wr ao wo bo ac wc bc) {row:Option Nat} (g:w.grownBy w' row) (hb:∀k,ABb (.slice ao own.length ac) (.slice wo wr.length wc) (.slice bo s.body.length bc) k→row≠some k):SdF w' s own wr ao wo bo ac wc bc:=by
 obtain⟨h1,h2,h3,h4,h5,h6⟩:=h
 exact⟨h1,h2,h3.offR g fun k hk=>hb k (.inl hk),h4.offR g fun k hk=>hb k (.inr (.inl hk)),h5.offR g fun k hk=>hb k (.inr (.inr hk)),h6⟩
theorem SdF.lt (h:SdF w s own wr ao wo bo ac wc bc):∀k,ABb (.slice ao own.length ac) (.slice wo wr.length wc) (.slice bo s.body.length bc) k→k<w.heap.size:=by
 obtain⟨h1,h2,h3,h4,h5,h6⟩:=h
 rintro k (hk|hk|hk)
 · exact Own.ltS h3 k hk
 · exact Own.ltS h4 k hk
 · exact Own.ltS h5 k hk
theorem SdF.ap (h:SdF w s own wr ao wo bo ac wc bc) {b:Nat} {c:Array Value} {T:TypeId} {fr:Nat×Nat} (hb:w.heap[b]?=some (.cells c T fr)) (hT:T≠23∧T≠5):∀k,ABb (.slice ao own.length ac) (.slice wo wr.length wc) (.slice bo s.body.length bc) k→k≠b:=by
 obtain⟨h1,h2,h3,h4,h5,h6⟩:=h
 rintro k (hk|hk|hk) rfl
 · exact Own.ne h3 hb (Ne.symm hT.1) hk
 · exact Own.ne h4 hb (Ne.symm hT.1) hk
 · exact Own.ne h5 hb (Ne.symm hT.2) hk
theorem SdF.ro (h:SdF w s own wr ao wo bo ac wc bc):RdD w (.slice ao own.length ac) own:=Own.sb h.2.2.1
theorem SdF.rw (h:SdF w s own wr ao wo bo ac wc bc):RdD w (.slice wo wr.length wc) wr:=Own.sb h.2.2.2.1
theorem SdF.rb (h:SdF w s own wr ao wo bo ac wc bc):SlB w 1 (.slice bo s.body.length bc) s.body.length (bv s.body):=Own.sb h.2.2.2.2.1
theorem SdF.tg (h:SdF w s own wr ao wo bo ac wc bc):Dg s.tag:=h.2.2.2.2.2.2.1
theorem SdF.by (h:SdF w s own wr ao wo bo ac wc bc):By s.body:=h.2.2.2.2.2.2.2
theorem SdF.sd (h:SdF w s own wr ao wo bo ac wc bc):(⟨s.addr,own.map DD.x,s.joint,wr.map DD.x,s.body,s.tag⟩:Sd)=s:=by rw[h.1,h.2.1]
end
def Sp.sr (B:Nat) (r:Sd×Int):Sp:=⟨fun w v=>∃own wr ao wo bo ac wc bc,v=.tuple #[Br r.1.addr (.slice ao (List.length own) ac) r.1.joint (.slice wo (List.length wr) wc) (.slice bo r.1.body.length bc) r.1.tag,.int .i64 r.2]∧SdF w r.1 own wr ao wo bo ac wc bc∧∀k,ABb (.slice ao (List.length own) ac) (.slice wo (List.length wr) wc) (.slice bo r.1.body.length bc) k→B≤k,
 fun _ _ _ hg ⟨own,wr,ao,wo,bo,ac,wc,bc,h1,h2,h3⟩=>⟨own,wr,ao,wo,bo,ac,wc,bc,h1,h2.kn hg,h3⟩⟩
def Sp.sl (B:Nat) (s:Sd):Sp:=⟨fun w v=>∃own wr ao wo bo ac wc bc,v=Br s.addr (.slice ao (List.length own) ac) s.joint (.slice wo (List.length wr) wc) (.slice bo s.body.length bc) s.tag∧SdF w s own wr ao wo bo ac wc bc∧∀k,ABb (.slice ao (List.length own) ac) (.slice wo (List.length wr) wc) (.slice bo s.body.length bc) k→B≤k,
 fun _ _ _ hg ⟨own,wr,ao,wo,bo,ac,wc,bc,h1,h2,h3⟩=>⟨own,wr,ao,wo,bo,ac,wc,bc,h1,h2.kn hg,h3⟩⟩
theorem Xl {B:Nat} {r:Sd×Int} (w:World) (u:Value) (h:(Sp.sr B r).on w u):∃vs v,u=.tuple vs∧vs[0]?=some v∧(Sp.sl B r.1).on w v:=by
 obtain⟨own,wr,ao,wo,bo,ac,wc,bc,h1,h2⟩:=h
 exact⟨_,_,h1,rfl,own,wr,ao,wo,bo,ac,wc,bc,rfl,h2⟩
theorem Mm {B:Nat} {r:Sd×Int} (w:World) (u:Value) (h:(Sp.sr B r).on w u):∃vs v,u=.tuple vs∧vs[1]?=some v∧(Sp.is (.int .i64 r.2)).on w v:=by
 obtain⟨own,wr,ao,wo,bo,ac,wc,bc,h1,h2⟩:=h
 exact⟨_,_,h1,rfl,rfl⟩
theorem SRes.sr {w w':World} {B:Nat} {r:Sd×Int} {e:Ending} (h:SRes w w' r e) (hB:B≤w.heap.size):∃v,e=.returned v∧w.grownBy w' none∧(Sp.sr B r).on w' v:=by
 obtain⟨own,wr,ao,wo,bo,ac,wc,bc,h1,h2,h3,h4,h5,h6,f1,f2,f3,f4,h7,h8,h9⟩:=h
 refine⟨_,h1,h9,own,wr,ao,wo,bo,ac,wc,bc,rfl,⟨h2,h3,h4,h5,h6,f4,h7,h8⟩,?_⟩
 rintro k (hk|hk|hk)
 · exact Nat.le_trans hB (f1 k hk)
 · exact Nat.le_trans hB (f2 k hk)
 · exact Nat.le_trans hB (f3 k hk)
theorem Wb {W:World} {B:Nat} {ks:List VK} {vo:Option Addr} {vc_:Nat} {sa po:List Nat} (hsa:Dg sa) (hpo:Dg po) {P:List VP} {ds:List DD} {v:Value} {joint ad:Int} {x:V} {r:Sd×Int} (hr:RdK W (.slice vo ks.length vc_) ks) (hP:ks.map VK.p=P) (ho:RdD W v ds) (hdl:ds.length≤1000) (hB:B≤W.heap.size) (hres:E6 P (ds.map DD.x) joint ad x=r) :
  Calls Tryz.prog 20 #[An sa po (.slice vo ks.length vc_),v,.int .i64 joint,.int .i64 ad,Bi x] W fun e w'=>∃v,e=.returned v∧W.grownBy w' none∧(Sp.sr B r).on w' v:=by
 obtain⟨ao,cap,rfl⟩:=ho.shape
 subst hP hres
 exact(ZH ks vo vc_ sa po hsa hpo ds ao cap joint ad x W hr ho hdl).mono fun e w' h=>h.sr hB
def Qs (P:List VP) (x:V) (n:Int) (b:Bool) (a:Int):Sd×Int:=E6 P ((EY n 6).map DD.x) (jt b) (SV a) x
theorem AFT (n:Int) {w0 W:World} (g:w0.grownBy W none):Calls Tryz.prog 17 #[.int .i64 n] W fun e w'=>∃v,e=.returned v∧W.grownBy w' none∧(Sp.row w0.heap.size 23 32 (EY n 6).length ((EY n 6).flatMap JW)).on w' v:=
 (ABZ n W).mono fun e w' ⟨v,h1,h2,ao,cap,h3,h4,h5⟩=>⟨v,h1,h2,ao,cap,h3,h4,fun k hk=>Nat.le_trans g.size (h5 k hk)⟩
theorem AGk {W:World} {B:Nat} {ds:List DD} {v:Value} (h:(Sp.row B 23 32 ds.length (ds.flatMap JW)).on W v):RdD W v ds:=by
 obtain⟨ao,cap,rfl,h2,_⟩:=h
 exact Own.sb h2
theorem Wc (seed:List Nat) (hse:Dg seed) (w:World) :
   Calls Tryz.prog 14 #[AP seed] w fun e w'=>∃v,e=.returned v∧w.grownBy w' none∧(Sp.vv (V6 seed) (fun _=>False)).on w' v:=by
 refine BH Tryz.func14 rfl Tryz.ntmps14 rfl fun a0 sv0=>?_
 have HG:=World.grownBy.refl w none
 replace sv0:Sv 19 [] [(0,AP seed)] a0:=sv0
 refine AH4 fun K1 k1=>?_
 refine AH3 ?_
 refine BQ sv0 r6 (Bj seed hse.1) fun a2 w2 Bv E4 g2 z2 AX sv2=>?_
 replace HG:=AA HG g2
 refine Ap (T:=36) (Z:=([bv AS,bv AS,[.slice none 0 0]].flatten)) sv2 rfl rfl rfl (fun a w=>by kernel_rfl) fun a3 w3 MV Gz g3 z3 B6 sv3=>?_
 have Ia:=Bp HG Gz
 replace AX:=AC g3 AX
 refine AE ?_
 refine k1 _ _ ?_
 refine AH4 fun K4 k4=>?_
 refine AH3 ?_
 refine AK sv3 2 [(5,AP seed),(6,An ((kd 273 seed)) ((Uu seed 0)) (.slice none 0 0))]
   ⟨yl r6 (Bj seed hse.1) AX,Ah [AP seed] Tryz.func38 (by kernel_rfl) rq4 ⟨(oy rfl rfl),AIA⟩ (Ao fun W g=>Vo seed hse W),AIA⟩ fun a5 w5 g5 sv5=>?_
 replace AX:=AC g5 AX
 replace B6:=AC g5 B6
 replace HG:=AA (AA HG g3) g5
 refine Ap (T:=36) (Z:=([bv AS,bv AS,[.slice none 0 0]].flatten)) sv5 rfl rfl rfl (fun a w=>by kernel_rfl) fun a6 w6 ADd SY g6 z6 Gk sv6=>?_
 have Ly:=As AX SY
 have Lz:=As B6 SY
 have Xm:=Bp HG SY
 refine Am sv6 r7 (Bm (BE _ _) (Fw seed 0) (.slice none 0 0) rfl) Gk (by first|rfl|simp[Ac,AI,AU,(BE _ _).1,(Fw seed 0).1]) fun w7 g7 h7=>?_
 replace AX:=Aa g7 (AC g6 AX) (Ne.symm Ly)
 replace B6:=Aa g7 (AC g6 B6) (Ne.symm Lz)
 replace HG:=AD (AA HG g6) g7 Xm
 replace Gk:=h7
 refine AE ?_
 refine k4 _ _ ?_
 refine AH4 fun K8 k8=>?_
 refine AH4 fun K9 k9=>?_
 refine AH3 ?_
 refine AZ (v:=.int .i64 0) sv6 r6 fun a10 CG=>?_
 refine AE ?_
 refine k9 _ _ ?_
 refine BB fun Q11 x11 y11 rt11 o11=>?_
 have hr:=RdK.nil w7
 have Kr:∀k,Kh (.slice none 0 0) [] k→k≠Bv:=fun k hk=>(LM k hk).elim
 have Gl:∀k,Kh (.slice none 0 0) [] k→k≠MV:=fun k hk=>(LM k hk).elim
 have Gm:∀k,Kh (.slice none 0 0) [] k→k≠ADd:=fun k hk=>(LM k hk).elim
 have ht:=TgF.none w7
 refine wp_loop (fun a w'=>∃(i:Nat) (ks:List VK) (ao:Option Addr) (cap:Nat),(i≤6)∧(ks.map VK.p=O5 seed i)∧Sv 19 [] [(4,.int .i64 ((i:Int))),(3,pt ADd),(5,AP seed),(6,An ((kd 273 seed)) ((Uu seed 0)) (.slice none 0 0)),(2,pt MV),(1,pt Bv),(0,AP seed)] a∧w.grownBy w' none∧w'.heap[Bv]?=some (.cells (bv seed).toArray 23 (0,0))∧w'.heap[MV]?=some (.cells (([bv AS,bv AS,[.slice none 0 0]].flatten)).toArray 36 (0,0))∧w'.heap[ADd]?=some (.cells ([bv ((kd 273 seed)),bv ((Uu seed i)),[.slice ao ks.length cap]].flatten).toArray 36 (0,0))∧RdK w' (.slice ao ks.length cap) ks∧TgF w' (Kh (.slice ao ks.length cap) ks) (fun _=>False)∧(∀k,Kh (.slice ao ks.length cap) ks k→k≠Bv)∧(∀k,Kh (.slice ao ks.length cap) ks k→k≠MV)∧(∀k,Kh (.slice ao ks.length cap) ks k→k≠ADd)) (fun a _=>(6-intOf (a.tmps.getD 4 undef)).toNat) ⟨0,[],none,0,by omega,rfl,⟨CG.1,CG.2.1,CG.2.2.1,CG.2.2.2.1,CG.2.2.2.2.1,CG.2.2.2.2.2.1,CG.2.2.2.2.2.2.1,CG.2.2.2.2.2.2.2.1,(AJ CG).1,AIA⟩,HG,AX,B6,Gk,hr,ht,Kr,Gl,Gm⟩ fun a12 w12 hI12=>?_
 clear AX
 clear B6
 clear Gk
 clear hr
 clear ht
 clear HG
 obtain⟨i,ks,ao,cap,hi6,hP,Cr,HG,AX,B6,Gk,hr,ht,Kr,Gl,Gm⟩:=hI12
 refine AH4 fun K13 k13=>?_
 refine AH4 fun K14 k14=>?_
 by_cases hi:i<6
 · refine AH3 ?_
   refine AK Cr 2 [(7,.int .i64 ((i:Int))),(8,.bool true)]
    ⟨ym r5,Cm r6 (fun _=>Bb (decide_eq_true (by omega))),AIA⟩ fun a15 w15 g15 Ko=>?_
   refine AE ?_
   refine k14 _ _ ?_
   refine Aq Ko rfl rfl ?_
   refine AH8 ?_
   refine k13 _ _ ?_
   refine AH4 fun K16 k16=>?_
   refine BB fun Q17 x17 y17 rt17 o17=>?_
   replace Gk:=AC g15 Gk
   replace hr:=hr.kn g15
   refine C6 (Ko.st w15) (by kernel_rfl) 7 [(12,Sp.is (An ((kd 273 seed)) ((Uu seed i)) (.slice ao ks.length cap))),(13,Sp.is (.int .i64 ((i:Int)))),(14,Sp.is (AP ((Hm i)))),(15,Sp.vt ((O5 seed (i+1),(kd 273 seed),(Uu seed (i+1))),(0:Int)) (Kh (.slice ao ks.length cap) ks)),(11,Sp.vt ((O5 seed (i+1),(kd 273 seed),(Uu seed (i+1))),(0:Int)) (Kh (.slice ao ks.length cap) ks)),(16,Sp.vv (O5 seed (i+1),(kd 273 seed),(Uu seed (i+1))) (Kh (.slice ao ks.length cap) ks)),(17,Sp.is (.int .i64 0))] rfl (by kernel_rfl) (by kernel_rfl) (by kernel_rfl) [6] (by kernel_rfl)
    ⟨yl r6 (Bm (BE _ _) (Fw seed i) (.slice ao ks.length cap) rfl) Gk,ym r5,Ah [.int .i64 ((i:Int))] Tryz.func30 (by kernel_rfl) rq4 ⟨(oy rfl rfl),AIA⟩ (Ao fun W g=>O4 i hi W),Ah [An ((kd 273 seed)) ((Uu seed i)) (.slice ao ks.length cap),AP ((Hm i))] Tryz.func39 (by kernel_rfl) rq4 ⟨(oy rfl rfl),(oy rfl rfl),AIA⟩ (ACz (BE _ _) (Fw seed i) (Lw i) hr rfl (T:=Tsd seed i) rfl (AFS hP hi)),ym r5,BL rq4 (fun w u h=>Ut w u h),BL rq4 (fun w u h=>Wa w u h),AIA⟩ ⟨fun o ho=>by obtain rfl:=Option.some.inj ho;exact KZ rfl rfl rfl trivial (fun w u h=>Wa w u h),AIA⟩
    [] (by kernel_rfl) trivial ⟨.inl rfl,.inl rfl,.inl rfl,.inl rfl,.inl rfl,.inl rfl,.inl rfl,AIA⟩ (by kernel_rfl) fun a18 w18 g18 st18 nd18=>?_
   obtain⟨hn18,hd18,e18_12,e18_13,e18_14,e18_15,e18_11,e18_16,e18_17,e18_7,e18_8,e18_4,e18_3,e18_5,e18_6,e18_2,e18_1,e18_0,-⟩:=st18
   obtain⟨ao19,cap19,ks19,e18_16q,hp19,hk19,hf19⟩:=e18_16
   replace AX:=AC g18 (AC g15 AX)
   replace B6:=AC g18 (AC g15 B6)
   replace Gk:=AC g18 Gk
   have SZ:=WZ hf19 Kr AX (by decide)
   have Sa:=WZ hf19 Gl B6 (by decide)
   have Iw:=WZ hf19 Gm Gk (by decide)
   have CF:Sv 19 [] [(7,_),(8,_),(4,_),(3,_),(5,_),(6,_),(2,_),(1,_),(0,_),(16,_)] a18:=⟨hn18,hd18,e18_7,e18_8,e18_4,e18_3,e18_5,e18_6,e18_2,e18_1,e18_0,e18_16q,AIA⟩
   refine Am CF r7 (Bm (BE _ _) (Fw seed (i+1)) (.slice ao19 ks19.length cap19) rfl) Gk (by first|rfl|simp[Ac,AI,AU,(BE _ _).1,(Fw seed (i+1)).1,(BE _ _).1,(Fw seed i).1]) fun w20 g20 h20=>?_
   refine AE ?_
   refine y17 _ _ ?_
   refine k16 _ _ ?_
   refine AH3 ?_
   refine AK CF 2 [(9,.int .i64 ((i:Int))),(10,.int .i64 (((i+1:Nat):Int)))]
    ⟨ym r5,Cm r6 (fun _=>DH (by rw[A7 (by omega) (by omega)];omega)),AIA⟩ fun a21 w21 g21 DL=>?_
   refine AZ (v:=.int .i64 (((i+1:Nat):Int))) DL r6 fun a22 CU=>?_
   refine AE ?_
   replace AX:=AC g21 (Aa g20 AX (Ne.symm Ly))
   replace B6:=AC g21 (Aa g20 B6 (Ne.symm Lz))
   replace Gk:=AC g21 h20
   replace hr:=((hr.kn g18).offR g20 (AQ Gm)).kn g21
   replace ht:=TgF.kn (TgF.offR (TgF.kn (TgF.kn ht g15) g18) g20 (AQ Gm)) g21
   replace hk19:=(hk19.offR g20 (AQ Iw)).kn g21
   replace hf19:=TgF.kn (TgF.offR hf19 g20 (AQ Iw)) g21
   replace HG:=AA (AD (AA (AA HG g15) g18) g20 Xm) g21
   have htn:=hf19.join ht
   exact⟨⟨i+1,ks19,ao19,cap19,by omega,hp19,⟨CU.1,CU.2.1,CU.2.2.1,CU.2.2.2.2.2.2.2.1,(AJ CU).1,(AJ CU).2.1,(AJ CU).2.2.1,(AJ CU).2.2.2.1,(AJ CU).2.2.2.2.1,AIA⟩,HG,AX,B6,Gk,hk19,htn,SZ,Sa,Iw⟩,by rw[show _=_ from CU.2.2.1,show _=_ from Cr.2.2.1];simp[intOf];omega⟩
 · obtain rfl:i=6:=by omega
   refine AH3 ?_
   refine AK Cr 2 [(7,.int .i64 (((6:Nat):Int))),(8,.bool false)]
    ⟨ym r5,Cm r6 (fun _=>Bb (by simp)),AIA⟩ fun a23 w23 g23 CX=>?_
   refine AE ?_
   refine k14 _ _ ?_
   refine Ax CX rfl rfl ?_
   refine wp_exit ?_
   repeat refine CH ?_
   refine x11 _ _ ?_
   refine k8 _ _ ?_
   refine AH4 fun K24 k24=>?_
   refine AH3 ?_
   refine AK CX 1 [(18,An ((kd 273 seed)) ((Uu seed 6)) (.slice ao ks.length cap))]
    ⟨yl r6 (Bm (BE _ _) (Fw seed 6) (.slice ao ks.length cap) rfl) (AC g23 Gk),AIA⟩ fun a25 w25 g25 Cu=>?_
   have I8:=AA g23 g25
   refine Am Cu r7 (Bm (BE _ _) (Fw seed 6) (.slice ao ks.length cap) rfl) (AC I8 B6) (by first|rfl|simp[Ac,AI,AU,(BE _ _).1,(Fw seed 6).1]) fun w26 g26 h26=>?_
   replace hr:=(hr.kn I8).offR g26 (AQ Gl)
   replace ht:=TgF.offR (TgF.kn ht I8) g26 (AQ Gl)
   replace HG:=AD (AA HG I8) g26 Ia
   replace B6:=h26
   refine AE ?_
   refine k24 _ _ ?_
   refine AH7 ?_
   repeat refine AM ?_
   refine A3 (fn:=Tryz.f14) Cu (EA (p:=2) Tryz.results14 Cu rfl rfl (Bm (BE _ _) (Fw seed 6) (.slice ao ks.length cap) rfl) B6) ?_
   exact⟨_,rfl,HG,ao,cap,ks,rfl,hP,hr,ht⟩
theorem We (ks:List VK) (vo:Option Addr) (vc_:Nat) (sa po:List Nat) (hsa:Dg sa) (hpo:Dg po) (P:List VP) (hP:ks.map VK.p=P) (x:V) (n:Int) (b:Bool) (a:Int) (r:Sd×Int) (hres:Qs P x n b a=r) (w:World) (hr:RdK w (.slice vo ks.length vc_) ks) :
  Calls Tryz.prog 15 #[Eg x n b a,An sa po (.slice vo ks.length vc_)] w fun e w'=>∃v,e=.returned v∧w.grownBy w' none∧(Sp.sr w.heap.size r).on w' v:=by
 refine BH Tryz.func15 rfl Tryz.ntmps15 rfl fun a0 sv0=>?_
 have HG:=World.grownBy.refl w none
 replace sv0:Sv 19 [] [(0,Eg x n b a),(1,An sa po (.slice vo ks.length vc_))] a0:=sv0
 refine AH4 fun K1 k1=>?_
 refine AH3 ?_
 refine BQ sv0 r6 (Uq x n b a) fun a2 w2 CJ Cs g2 z2 AH sv2=>?_
 refine BQ sv2 r6 (Bm hsa hpo (.slice vo ks.length vc_) rfl) fun a3 w3 Bw EH g3 z3 AL sv3=>?_
 replace HG:=AA (AA HG g2) g3
 refine Ap (T:=31) (Z:=([[.int .i64 0],[.slice none 0 0],[.int .i64 0],[.slice none 0 0],[.slice none 0 0],bv AS].flatten)) sv3 rfl rfl rfl (fun a w=>by kernel_rfl) fun a4 w4 FG Bz g4 z4 AN sv4=>?_
 have B7:=Bp HG Bz
 replace AH:=AC g4 (AC g3 AH)
 replace AL:=AC g4 AL
 replace hr:=((hr.kn g2).kn g3).kn g4
 replace HG:=AA HG g4
 refine AZ (v:=.int .i64 0) sv4 r6 fun a5 sv5=>?_
 refine AE ?_
 refine k1 _ _ ?_
 refine AH4 fun K6 k6=>?_
 refine C6 (sv5.st w4) (by kernel_rfl) 13 [(6,Sp.is (An sa po (.slice vo ks.length vc_))),(7,Sp.is (pk CJ 3)),(8,Sp.is (.int .i64 n)),(9,Sp.row w4.heap.size 23 32 (EY n 6).length ((EY n 6).flatMap JW)),(10,Sp.is (Eg x n b a)),(11,Sp.is (.int .i64 ((jt b)))),(12,Sp.is (Eg x n b a)),(13,Sp.is (.int .i64 ((SV a)))),(14,Sp.is (pt CJ)),(15,Sp.is (Bi x)),(16,Sp.sr w4.heap.size r),(17,Sp.sl w4.heap.size r.1),(18,Sp.is (.int .i64 r.2))] rfl (by kernel_rfl) (by kernel_rfl) (by kernel_rfl) [] (by kernel_rfl)
  ⟨yl r6 (Bm hsa hpo (.slice vo ks.length vc_) rfl) AL,yf r6 (fun _=>by kernel_rfl),yp (i:=1) r6 (ER n) AH rfl rfl,Ah [.int .i64 n] Tryz.func17 (by kernel_rfl) rq4 ⟨(oy rfl rfl),AIA⟩ (fun W g=>AFT n g),yl r6 (Uq x n b a) AH,Ah [Eg x n b a] Tryz.func18 (by kernel_rfl) rq4 ⟨(oy rfl rfl),AIA⟩ (Ao fun W g=>WY x n b a W),yl r6 (Uq x n b a) AH,Ah [Eg x n b a] Tryz.func19 (by kernel_rfl) rq4 ⟨(oy rfl rfl),AIA⟩ (Ao fun W g=>ZT x n b a W),yf r6 (fun _=>by kernel_rfl),yp (i:=0) r6 (DY x) AH rfl rfl,Th (Sp.sr w4.heap.size r) rfl rfl trivial rfl (fun W g av h=>match av,h with|[_,_,_,_,_],⟨rfl,hv,rfl,rfl,rfl,_⟩=>Wb hsa hpo (hr.kn g) hP (AGk hv) (Nat.le_trans (Nk n 6) (by decide)) g.size hres) (fun _ _ h=>h) (Er Tryz.func20 (by kernel_rfl) rfl),BL rq4 (fun w u h=>Xl w u h),BL rq4 (fun w u h=>Mm w u h),AIA⟩ trivial
  [] (by kernel_rfl) trivial ⟨.inl rfl,.inl rfl,.inl rfl,.inl rfl,.inl rfl,.inl rfl,.inl rfl,.inl rfl,.inl rfl,.inl rfl,.inl rfl,.inl rfl,.inl rfl,AIA⟩ (by kernel_rfl) fun a7 w7 g7 st7 nd7=>?_
 obtain⟨hn7,hd7,e7_6,e7_7,e7_8,e7_9,e7_10,e7_11,e7_12,e7_13,e7_14,e7_15,e7_16,e7_17,e7_18,e7_5,e7_4,e7_3,e7_2,e7_0,e7_1,-⟩:=st7
 obtain⟨own8,wr8,ao8,wo8,bo8,ac8,wc8,bc8,e7_17q,hF,fr8⟩:=e7_17
 have Wf:=CY fr8 AN
 have lo_hF:=JL HG fr8
 replace AN:=AC g7 AN
 have sv7:Sv 19 [] [(5,_),(4,_),(3,_),(2,_),(0,_),(1,_),(17,_),(18,_)] a7:=⟨hn7,hd7,e7_5,e7_4,e7_3,e7_2,e7_0,e7_1,e7_17q,e7_18,AIA⟩
 refine Am sv7 r7 (Dn _ _ hF.tg (.slice ao8 (List.length own8) ac8) (.slice wo8 (List.length wr8) wc8) (.slice bo8 r.1.body.length bc8) rfl rfl rfl) AN (EZ AV hF.tg) fun w9 g9 h9=>?_
 replace hF:=hF.offR g9 (AQ Wf)
 replace HG:=AD (AA HG g7) g9 B7
 replace AN:=h9
 refine AZ (v:=.int .i64 r.2) sv7 r6 fun a10 CG=>?_
 have CC:Sv _ _ [_,_,_,_] _:=CG.dl [3,2,17,18]
 refine AE ?_
 refine k6 _ _ ?_
 refine AH7 ?_
 repeat refine AM ?_
 refine A3 (fn:=Tryz.f15) CC (FL (p:=4) (q:=5) Tryz.results15 CC rfl rfl rfl rfl (Dn _ _ hF.tg (.slice ao8 (List.length own8) ac8) (.slice wo8 (List.length wr8) wc8) (.slice bo8 r.1.body.length bc8) rfl rfl rfl) AN) ?_
 exact⟨_,rfl,HG,own8,wr8,ao8,wo8,bo8,ac8,wc8,bc8,rfl,hF,lo_hF⟩
end Go.Proofs.YtbfjfnbcmojpiaaGreat
