import Derived.Test.YtbfjfnbcmojpiaaGreatSeVE
import Derived.Test.YtbfjfnbcmojpiaaGreatSeMK6
import Derived.Test.YtbfjfnbcmojpiaaGreatSeV3
set_option linter.unusedSimpArgs false
set_option linter.unusedVariables false
set_option maxRecDepth 100000
set_option maxHeartbeats 4000000
namespace Go.Proofs.YtbfjfnbcmojpiaaGreat
open Go.RowKit Go.Shelf
theorem AKL (n:Int) (w:World):(Instr.build 25 #[(0,.int .i64 1),(1,.int .i64 n)]).run Tryz.prog w=.ok (Bp ⟨1,n,⟨#[]⟩⟩) w:=by kernel_rfl
def I8 (n:Int):V:=(⟨1,n,⟨#[]⟩⟩:V).clean
def E0 (x:V) (n:Int) (b:Bool) (a:Int):Value:=.agg ([vc x,[.int .i64 n],[.bool b],[.int .i64 a]].flatten).toArray
theorem AH5 (s:ByteArray):TY Tryz.prog 9 [.string s] (.string s):=TY.one' Tryz.underlying9 rfl (by kernel_rfl) rfl
theorem ABs {P:Program} {ops:Array Oper} {L:Nat→Sp} {n:Nat} {w0:World} {o:Oper} {x:Operand} {t:TypeId} {d:Nat} {s:ByteArray} (he:P.underlying t=some .string) (ho:o.op=.call { callee:=.builtin .len,args:=#[x],argTypes:=#[t] }) (hd:o.dst=some d) (hg:GX ops L n o.guard) (hx:OpX L n x (.string s)) (h:∀w,(L d).on w (.int .i64 s.size)):OX P ops L n w0 o:=
 FZ hg fun a w hw hl hsz=>⟨.int .i64 s.size,by
  have e:=hx.eval (o:=o) (a:=a) (w:=w) (by simp[ho,Op.operands,Call.operands]) hl
  simp only[execOp,ho,resolve,Sem.run_bind,Sem.run_pure,Result.andThen_ok,List.map_toArray,List.map_cons,List.map_nil,e]
  simp[invoke,builtin,Builtin.len_,run_underlying he,goInt],DA hd (h w)⟩
theorem AKM (x:V):TY Tryz.prog 25 ([[.int .i64 x.kind],[.int .i64 x.int],[.string x.text]].flatten) (Bp x):=ED x
def ADQ (n:Int):Int:=bits .and .i64 n 17179869183
theorem TA (x:V) (n:Int) (b:Bool) (a:Int):TY Tryz.prog 27 ([vc x,[.int .i64 n],[.bool b],[.int .i64 a]].flatten) (E0 x n b a):=by
 refine TY.agg Tryz.underlying27 rfl (by kernel_rfl) ?_
 intro c hc
 simp[vc] at hc
 rcases hc with rfl|rfl|rfl|rfl|rfl|rfl<;>rfl
theorem ABt {P:Program} {a c:Int} {t:TypeId} {x y:Operand} {w:World} (i:Nat) (hi:i<64) (h:a/2^i=c):(do eqGuard .shr t x y (.int .i64 a) (.int .u64 (i:Int));binOp .shr t (.int .i64 a) (.int .u64 (i:Int)):Sem Value).run P w=.ok (.int .i64 c) w:=by
 subst h
 have h1:min i IntKind.i64.bits=i:=Nat.min_eq_left (by show i≤64;omega)
 simp[eqGuard,binOp_shr,shift_shr_any,h1]
def Ks (n:Nat):List Nat:=(n%6)::(zs 30++[7*(n%6)])
theorem Nj (n:Nat):Dg (Ks n):=by
 refine⟨rfl,fun x hx=>?_⟩
 simp[Ks,zs] at hx
 omega
theorem ABu {n:Nat} (h:n<6):Ks n=n::(zs 30++[7*n]):=by unfold Ks;rw[Nat.mod_eq_of_lt h]
def UE (n:Nat):DD:=⟨Ks n,Nj n⟩
def AHQ (n:Int) (i:Nat):Int:=bits .and .i64 (n/2^i) 1
def Jv (n:Int):Nat→List DD
 | 0=>[]
 | i+1=>if AHQ n i=1 then Jv n i++[UE i] else Jv n i
theorem Po (n:Int):∀i,(Jv n i).length≤i
 | 0=>Nat.le_refl _
 | i+1=>by
  have:=Po n i
  unfold Jv
  split<;>simp<;>omega
def jt (b:Bool):Int:=if b then 1 else 0
theorem AAr (x:V) (b:Bool) (hb:decide (x.text.size≤100)=b) (w:World) :
   Calls Tryz.prog 12 #[Bp x] w fun e w'=>e=.returned (.bool b)∧w.grownBy w' none:=by
 refine BF Tryz.func12 rfl Tryz.ntmps12 rfl fun a0 sv0=>?_
 have HG:=World.grownBy.refl w none
 replace sv0:Sv 7 [] [(0,Bp x)] a0:=sv0
 refine ALa fun K1 k1=>?_
 refine ALZ ?_
 refine BZ sv0 r6 (AKM x) fun a2 w2 CP GZ g2 z2 Ad sv2=>?_
 replace HG:=AA HG g2
 refine AX (v:=.bool false) sv2 r6 fun a3 sv3=>?_
 refine AE ?_
 refine k1 _ _ ?_
 refine ALa fun K4 k4=>?_
 cases b
 · refine ALZ ?_
   refine AH sv3 4 [(3,pk CP 2),(4,.string x.text),(5,.int .i64 ((x.text.size:Nat))),(6,.bool false)]
    ⟨yf r6 (fun _=>by kernel_rfl),yp (i:=2) r6 (AH5 x.text) Ad rfl rfl,ABs (Tryz.underlying9) rfl rfl trivial (oy rfl rfl) (fun _=>rfl),Cm r6 (fun _=>LK (by rw[←hb];exact decide_eq_decide.2 (by omega))),ALg⟩ fun a5 w5 g5 sv5=>?_
   refine AX (v:=.bool false) sv5 r6 fun a6 sv6=>?_
   have sv7:Sv _ _ [_,_] _:=sv6.dl [3,4,5,6,1]
   refine AE ?_
   refine k4 _ _ ?_
   replace Ad:=AC g5 Ad
   replace HG:=AA HG g5
   refine ALd ?_
   repeat refine AJ ?_
   refine Ar (fn:=Tryz.f12) sv7 (A7 (p:=2) Tryz.results12 sv7 rfl rfl) ?_
   exact⟨rfl,HG⟩
 · refine ALZ ?_
   refine AH sv3 4 [(3,pk CP 2),(4,.string x.text),(5,.int .i64 ((x.text.size:Nat))),(6,.bool true)]
    ⟨yf r6 (fun _=>by kernel_rfl),yp (i:=2) r6 (AH5 x.text) Ad rfl rfl,ABs (Tryz.underlying9) rfl rfl trivial (oy rfl rfl) (fun _=>rfl),Cm r6 (fun _=>LK (by rw[←hb];exact decide_eq_decide.2 (by omega))),ALg⟩ fun a8 w8 g8 sv8=>?_
   refine AX (v:=.bool true) sv8 r6 fun a9 sv9=>?_
   have Bj:Sv _ _ [_,_] _:=sv9.dl [3,4,5,6,1]
   refine AE ?_
   refine k4 _ _ ?_
   replace HG:=AA HG g8
   refine ALd ?_
   repeat refine AJ ?_
   refine Ar (fn:=Tryz.f12) Bj (A7 (p:=2) Tryz.results12 Bj rfl rfl) ?_
   exact⟨rfl,HG⟩
theorem RN (n:Nat) (hn:n<6) (w:World) :
  Calls Tryz.prog 30 #[.int .i64 ((n:Int))] w fun e w'=>e=.returned (AO (Ks n))∧w.grownBy w' none:=by
 have hdg:Dg (n::(zs 30++[7*n])):=ABu hn▸Nj n
 rw[ABu hn]
 refine BF Tryz.func30 rfl Tryz.ntmps30 rfl fun a0 sv0=>?_
 have HG:=World.grownBy.refl w none
 replace sv0:Sv 9 [] [(0,.int .i64 ((n:Int)))] a0:=sv0
 refine ALa fun K1 k1=>?_
 refine ALZ ?_
 refine Az (T:=23) (Z:=(bv AM)) sv0 rfl rfl rfl (fun a w=>by kernel_rfl) fun a2 w2 CO DP g2 z2 AK sv2=>?_
 have FP:=Bk HG DP
 refine AE ?_
 refine k1 _ _ ?_
 refine ALa fun K3 k3=>?_
 refine ALZ ?_
 refine AH sv2 6 [(3,.int .i64 ((n:Int))),(4,.int .u8 ((n:Int))),(5,.int .i64 ((n:Int))),(6,.int .i64 (((7*n:Nat):Int))),(7,.int .u8 (((7*n:Nat):Int))),(8,AO ((n::(zs 30++[7*n]))))]
  ⟨ym r5,Lr r6 (fun _=>Lu Tryz.underlying3 Tryz.underlying5 (ABK (by omega) (by omega))),ym r5,JT rfl rfl trivial rfl (oy rfl rfl) (fun _=>AIe (by rw[BG (by omega) (by omega)];omega)) (fun _=>rfl),Lr r6 (fun _=>Lu Tryz.underlying3 Tryz.underlying5 (ABK (by omega) (by omega))),BR (vs:=[.int .u8 ((n:Int)),.int .u8 (((7*n:Nat):Int))]) rfl rfl trivial ⟨(oy rfl rfl),(oy rfl rfl),ALg⟩ (fun _=>AKk n (7*n) _) (fun _=>rfl),ALg⟩ fun a4 w4 g4 sv4=>?_
 refine As sv4 r7 (BV ((n::(zs 30++[7*n]))) hdg.1) (AC g4 AK) (En hdg) fun w5 g5 h5=>?_
 replace HG:=AD (AA (AA HG g2) g4) g5 FP
 replace AK:=h5
 have sv6:Sv _ _ [_] _:=sv4.dl [3,4,5,6,7,8,0]
 refine AE ?_
 refine k3 _ _ ?_
 refine ALd ?_
 repeat refine AJ ?_
 refine Ar (fn:=Tryz.f30) sv6 (Dc (p:=2) Tryz.results30 sv6 rfl rfl (BV ((n::(zs 30++[7*n]))) hdg.1) AK) ?_
 exact⟨rfl,HG⟩
theorem AAs (x:V) (n a:Int) (w:World) :
  Calls Tryz.prog 18 #[E0 x n true a] w fun e w'=>e=.returned (.int .i64 1)∧w.grownBy w' none:=by
 refine BF Tryz.func18 rfl Tryz.ntmps18 rfl fun a0 sv0=>?_
 have HG:=World.grownBy.refl w none
 replace sv0:Sv 5 [] [(0,E0 x n true a)] a0:=sv0
 refine ALa fun K1 k1=>?_
 refine ALZ ?_
 refine BZ sv0 r6 (TA x n true a) fun a2 w2 CP GZ g2 z2 Ad sv2=>?_
 refine AX (v:=.int .i64 0) sv2 r6 fun a3 sv3=>?_
 refine AE ?_
 refine k1 _ _ ?_
 refine ALa fun K4 k4=>?_
 refine ALa fun K5 k5=>?_
 refine ALZ ?_
 refine AH sv3 2 [(3,pk CP 4),(4,.bool true)]
  ⟨yf r6 (fun _=>by kernel_rfl),yp (i:=2) r6 (Zg true) Ad rfl rfl,ALg⟩ fun a6 w6 g6 sv6=>?_
 refine AE ?_
 refine k5 _ _ ?_
 refine Av sv6 rfl rfl ?_
 refine ALa fun K7 k7=>?_
 refine ALZ ?_
 refine AX (v:=.int .i64 1) sv6 r6 fun a8 sv8=>?_
 refine AE ?_
 refine k7 _ _ ?_
 replace HG:=AA (AA HG g2) g6
 refine ALd ?_
 repeat refine AJ ?_
 refine Ar (fn:=Tryz.f18) sv8 (A7 (p:=2) Tryz.results18 sv8 rfl rfl) ?_
 exact⟨rfl,HG⟩
theorem ZK (x:V) (n a:Int) (w:World) :
  Calls Tryz.prog 18 #[E0 x n false a] w fun e w'=>e=.returned (.int .i64 0)∧w.grownBy w' none:=by
 refine BF Tryz.func18 rfl Tryz.ntmps18 rfl fun a0 sv0=>?_
 have HG:=World.grownBy.refl w none
 replace sv0:Sv 5 [] [(0,E0 x n false a)] a0:=sv0
 refine ALa fun K1 k1=>?_
 refine ALZ ?_
 refine BZ sv0 r6 (TA x n false a) fun a2 w2 CP GZ g2 z2 Ad sv2=>?_
 refine AX (v:=.int .i64 0) sv2 r6 fun a3 sv3=>?_
 refine AE ?_
 refine k1 _ _ ?_
 refine ALa fun K4 k4=>?_
 refine ALa fun K5 k5=>?_
 refine ALZ ?_
 refine AH sv3 2 [(3,pk CP 4),(4,.bool false)]
  ⟨yf r6 (fun _=>by kernel_rfl),yp (i:=2) r6 (Zg false) Ad rfl rfl,ALg⟩ fun a6 w6 g6 sv6=>?_
 refine AE ?_
 refine k5 _ _ ?_
 refine A1 sv6 rfl rfl ?_
 refine ALe ?_
 refine k4 _ _ ?_
 refine ALa fun K7 k7=>?_
 refine ALZ ?_
 refine AX (v:=.int .i64 0) sv6 r6 fun a8 sv8=>?_
 refine AE ?_
 refine k7 _ _ ?_
 replace HG:=AA (AA HG g2) g6
 refine ALd ?_
 repeat refine AJ ?_
 refine Ar (fn:=Tryz.f18) sv8 (A7 (p:=2) Tryz.results18 sv8 rfl rfl) ?_
 exact⟨rfl,HG⟩
theorem RO (x:V) (n:Int) (b:Bool) (a:Int) (w:World):Calls Tryz.prog 18 #[E0 x n b a] w fun e w'=>e=.returned (.int .i64 (jt b))∧w.grownBy w' none:=by
 cases b
 · exact ZK x n a w
 · exact AAs x n a w
theorem UF (x:V) (n:Int) (b:Bool) (a:Int) (w:World) :
  Calls Tryz.prog 19 #[E0 x n b a] w fun e w'=>e=.returned (.int .i64 (ADQ a))∧w.grownBy w' none:=by
 refine BF Tryz.func19 rfl Tryz.ntmps19 rfl fun a0 sv0=>?_
 have HG:=World.grownBy.refl w none
 replace sv0:Sv 6 [] [(0,E0 x n b a)] a0:=sv0
 refine ALa fun K1 k1=>?_
 refine ALZ ?_
 refine BZ sv0 r6 (TA x n b a) fun a2 w2 CP GZ g2 z2 Ad sv2=>?_
 refine AX (v:=.int .i64 0) sv2 r6 fun a3 sv3=>?_
 refine AE ?_
 refine k1 _ _ ?_
 refine ALa fun K4 k4=>?_
 refine ALZ ?_
 refine AH sv3 3 [(3,pk CP 5),(4,.int .i64 a),(5,.int .i64 ((ADQ a)))]
  ⟨yf r6 (fun _=>by kernel_rfl),yp (i:=3) r6 (E4 a) Ad rfl rfl,Cm r6 (fun _=>Zs rfl),ALg⟩ fun a5 w5 g5 sv5=>?_
 refine AX (v:=.int .i64 ((ADQ a))) sv5 r6 fun a6 sv6=>?_
 have sv7:Sv _ _ [_,_] _:=sv6.dl [3,4,5,1]
 refine AE ?_
 refine k4 _ _ ?_
 replace HG:=AA (AA HG g2) g5
 refine ALd ?_
 repeat refine AJ ?_
 refine Ar (fn:=Tryz.f19) sv7 (A7 (p:=2) Tryz.results19 sv7 rfl rfl) ?_
 exact⟨rfl,HG⟩
theorem OP (n:Int) (w:World) :
  Calls Tryz.prog 37 #[.int .i64 n] w fun e w'=>e=.returned (Bp (I8 n))∧w.grownBy w' none:=by
 refine BF Tryz.func37 rfl Tryz.ntmps37 rfl fun a0 sv0=>?_
 have HG:=World.grownBy.refl w none
 replace sv0:Sv 6 [] [(0,.int .i64 n)] a0:=sv0
 refine ALa fun K1 k1=>?_
 refine ALZ ?_
 refine Az (T:=25) (Z:=[.int .i64 0,.int .i64 0,.string ⟨#[]⟩]) sv0 rfl rfl rfl (fun a w=>by kernel_rfl) fun a2 w2 CO DP g2 z2 AK sv2=>?_
 have FP:=Bk HG DP
 refine AE ?_
 refine k1 _ _ ?_
 refine ALa fun K3 k3=>?_
 refine ALZ ?_
 refine AH sv2 3 [(3,.int .i64 n),(4,Bp ((⟨1,n,⟨#[]⟩⟩:V))),(5,Bp ((I8 n)))]
  ⟨ym r5,BR (vs:=[.int .i64 1,.int .i64 n]) rfl rfl trivial ⟨rfl,(oy rfl rfl),ALg⟩ (fun _=>AKL n _) (fun _=>rfl),Ae [Bp ((⟨1,n,⟨#[]⟩⟩:V))] Tryz.func25 (by kernel_rfl) rq4 ⟨(oy rfl rfl),ALg⟩ (Au fun W g=>OU _ W),ALg⟩ fun a4 w4 g4 sv4=>?_
 refine As sv4 r7 (ED ((I8 n))) (AC g4 AK) rfl fun w5 g5 h5=>?_
 replace HG:=AD (AA (AA HG g2) g4) g5 FP
 replace AK:=h5
 have sv6:Sv _ _ [_] _:=sv4.dl [3,4,5,0]
 refine AE ?_
 refine k3 _ _ ?_
 refine ALd ?_
 repeat refine AJ ?_
 refine Ar (fn:=Tryz.f37) sv6 (Dc (p:=2) Tryz.results37 sv6 rfl rfl (ED ((I8 n))) AK) ?_
 exact⟨rfl,HG⟩
theorem AFY (n:Int) (w:World) :
   Calls Tryz.prog 17 #[.int .i64 n] w fun e w'=>∃v,e=.returned v∧w.grownBy w' none∧(Sp.row w.heap.size 23 32 (Jv n 6).length ((Jv n 6).flatMap Ic)).on w' v:=by
 refine BF Tryz.func17 rfl Tryz.ntmps17 rfl fun a0 sv0=>?_
 have HG:=World.grownBy.refl w none
 replace sv0:Sv 21 [] [(0,.int .i64 n)] a0:=sv0
 refine ALa fun K1 k1=>?_
 refine ALZ ?_
 refine AX (v:=.slice none 0 0) sv0 r6 fun a2 sv2=>?_
 refine AE ?_
 refine k1 _ _ ?_
 refine ALa fun K3 k3=>?_
 refine ALZ ?_
 refine AX (v:=.slice none 0 0) sv2 r6 fun a4 sv4=>?_
 refine AE ?_
 refine k3 _ _ ?_
 refine ALa fun K5 k5=>?_
 refine ALa fun K6 k6=>?_
 refine ALZ ?_
 refine AX (v:=.int .i64 0) sv4 r6 fun a7 sv7=>?_
 refine AE ?_
 refine k6 _ _ ?_
 refine A8 fun Q8 x8 y8 rt8 o8=>?_
 have okk:=Own.nil w 23 32
 have lo_okk:=XT w
 refine wp_loop (fun a w'=>∃(i:Nat) (so:Option Addr) (sc:Nat) (m:Nat) (L:List DD),(i≤6)∧(L=Jv n i)∧(L.length=m)∧Sv 21 [] [(4,.int .i64 ((i:Int))),(3,.slice so m sc),(2,.slice none 0 0),(0,.int .i64 n)] a∧w.grownBy w' none∧Own w' 23 32 (.slice so m sc) m (L.flatMap Ic)∧(∀k,BM (.slice so m sc) k→w.heap.size≤k)) (fun a _=>(6-intOf (a.tmps.getD 4 undef)).toNat) ⟨0,none,0,0,[],Nat.zero_le _,rfl,rfl,⟨sv7.1,sv7.2.1,sv7.2.2.1,sv7.2.2.2.1,sv7.2.2.2.2.1,sv7.2.2.2.2.2.1,ALg⟩,HG,okk,lo_okk⟩ fun a9 w9 hI9=>?_
 clear okk
 clear HG
 obtain⟨i,so,sc,m,L,hi6,hL,hm,sv9,HG,okk,lo_okk⟩:=hI9
 refine ALa fun K10 k10=>?_
 refine ALa fun K11 k11=>?_
 by_cases hi:i<6
 · refine ALZ ?_
   refine AH sv9 2 [(5,.int .i64 ((i:Int))),(6,.bool true)]
     ⟨ym r5,Cm r6 (fun _=>BE (decide_eq_true (by omega))),ALg⟩ fun a12 w12 g12 Cx=>?_
   refine AE ?_
   refine k11 _ _ ?_
   refine Av Cx rfl rfl ?_
   refine ALe ?_
   refine k10 _ _ ?_
   refine ALa fun K13 k13=>?_
   refine A8 fun Q14 x14 y14 rt14 o14=>?_
   refine ALa fun K15 k15=>?_
   replace okk:=okk.kn g12
   replace HG:=AA HG g12
   by_cases hb:AHQ n i=1
   · have hLl:=Po n i
     rw[←hL,hm] at hLl
     have hL1:L++[UE i]=Jv n (i+1):=by rw[show Jv n (i+1)=Jv n i++[UE i] from if_pos hb,hL]
     refine ALZ ?_
     refine AH Cx 6 [(9,.int .i64 n),(10,.int .i64 ((i:Int))),(11,.int .u64 ((i:Int))),(12,.int .i64 ((n/2^i))),(13,.int .i64 ((AHQ n i))),(14,.bool true)]
      ⟨ym r5,ym r5,Lr r6 (fun _=>Lu Tryz.underlying3 Tryz.underlying48 (N0 (by omega) (by omega))),GC r7 (fun _=>ABt i (by omega) rfl),Cm r6 (fun _=>Zs rfl),Cm r6 (fun _=>Bd (by rw[hb];rfl)),ALg⟩ fun a16 w16 g16 Ch=>?_
     refine AE ?_
     refine k15 _ _ ?_
     refine Av Ch rfl rfl ?_
     refine ALZ ?_
     refine AH Ch 3 [(15,.slice so m sc),(16,.int .i64 ((i:Int))),(17,AO ((Ks i)))]
      ⟨ym r5,ym r5,Ae [.int .i64 ((i:Int))] Tryz.func30 (by kernel_rfl) rq4 ⟨(oy rfl rfl),ALg⟩ (Au fun W g=>RN i hi W),ALg⟩ fun a17 w17 g17 Dq=>?_
     refine KQ (cs:=bv ((Ks i))) (e:=23) Dq rfl rfl rfl rfl rfl rfl (YR (Nj i)) fun a18 w18 AKy AJQ g18 z18 AHR CD=>?_
     replace okk:=((okk.kn g16).kn g17).kn g18
     replace HG:=AA (AA (AA HG g16) g17) g18
     refine GV dsT CD rfl rfl rfl rfl rfl rfl rfl rfl okk (JK AHR (Nj i)) (Dj _) (by omega) fun a19 ao19 cap19 w19 owx19 Bh Cs=>?_
     have AFZ:=Oz Bh.2 lo_okk HG
     replace HG:=Br HG Bh.1 fun k e=>lo_okk k (e)
     rw[show bv (Ks i)=bv (UE i).x from rfl,Ql L (UE i)] at owx19
     refine AX (v:=.slice ao19 (m+1) cap19) Cs r6 fun a20 DR=>?_
     have Di:Sv _ _ [_,_,_,_,_,_,_,_,_,_,_,_] _:=DR.dl [19,18,15,16,17]
     refine AE ?_
     refine y14 _ _ ?_
     refine k13 _ _ ?_
     refine ALZ ?_
     refine AH Di 2 [(7,.int .i64 ((i:Int))),(8,.int .i64 (((i+1:Nat):Int)))]
      ⟨ym r5,Cm r6 (fun _=>DB (by rw[BG (by omega) (by omega)];omega)),ALg⟩ fun a22 w22 g22 Bl=>?_
     refine AX (v:=.int .i64 (((i+1:Nat):Int))) Bl r6 fun a23 CS=>?_
     refine AE ?_
     replace owx19:=owx19.kn g22
     replace HG:=AA HG g22
     exact⟨⟨i+1,ao19,cap19,m+1,(L++[UE i]),by omega,hL1,by rw[List.length_append,hm];rfl,⟨CS.1,CS.2.1,CS.2.2.1,CS.2.2.2.2.2.1,(AG CS).2.2.2.2.2.2.1,(AG CS).2.2.2.2.2.2.2.1,ALg⟩,HG,owx19,AFZ⟩,by rw[show _=_ from CS.2.2.1,show _=_ from sv9.2.2.1];simp[intOf];omega⟩
   · have hL1:L=Jv n (i+1):=by rw[show Jv n (i+1)=Jv n i from if_neg hb,hL]
     refine ALZ ?_
     refine AH Cx 6 [(9,.int .i64 n),(10,.int .i64 ((i:Int))),(11,.int .u64 ((i:Int))),(12,.int .i64 ((n/2^i))),(13,.int .i64 ((AHQ n i))),(14,.bool false)]
      ⟨ym r5,ym r5,Lr r6 (fun _=>Lu Tryz.underlying3 Tryz.underlying48 (N0 (by omega) (by omega))),GC r7 (fun _=>ABt i (by omega) rfl),Cm r6 (fun _=>Zs rfl),Cm r6 (fun _=>Bd (by simpa using hb)),ALg⟩ fun a24 w24 g24 ER=>?_
     refine AE ?_
     refine k15 _ _ ?_
     refine A1 ER rfl rfl ?_
     refine ALe ?_
     refine y14 _ _ ?_
     refine k13 _ _ ?_
     refine ALZ ?_
     refine AH ER 2 [(7,.int .i64 ((i:Int))),(8,.int .i64 (((i+1:Nat):Int)))]
      ⟨ym r5,Cm r6 (fun _=>DB (by rw[BG (by omega) (by omega)];omega)),ALg⟩ fun a25 w25 g25 Co=>?_
     have JW:=AA g24 g25
     refine AX (v:=.int .i64 (((i+1:Nat):Int))) Co r6 fun a26 Cp=>?_
     refine AE ?_
     replace okk:=okk.kn JW
     replace HG:=AA HG JW
     exact⟨⟨i+1,so,sc,m,L,by omega,hL1,hm,⟨Cp.1,Cp.2.1,Cp.2.2.1,(AG Cp).2.2.2.2.2.1,(AG Cp).2.2.2.2.2.2.1,(AG Cp).2.2.2.2.2.2.2.1,ALg⟩,HG,okk,lo_okk⟩,by rw[show _=_ from Cp.2.2.1,show _=_ from sv9.2.2.1];simp[intOf];omega⟩
 · obtain rfl:i=6:=by omega
   refine ALZ ?_
   refine AH sv9 2 [(5,.int .i64 (((6:Nat):Int))),(6,.bool false)]
     ⟨ym r5,Cm r6 (fun _=>BE (by simp)),ALg⟩ fun a27 w27 g27 GF=>?_
   refine AE ?_
   refine k11 _ _ ?_
   refine A1 GF rfl rfl ?_
   refine wp_exit ?_
   repeat refine Bo ?_
   refine x8 _ _ ?_
   refine k5 _ _ ?_
   refine ALa fun K28 k28=>?_
   refine ALZ ?_
   refine AH GF 1 [(20,.slice so m sc)]
     ⟨ym r5,ALg⟩ fun a29 w29 g29 CU=>?_
   have Jk:=AA g27 g29
   refine AX (v:=.slice so m sc) CU r6 fun a30 Ds=>?_
   refine AE ?_
   refine k28 _ _ ?_
   replace okk:=okk.kn Jk
   replace HG:=AA HG Jk
   refine ALd ?_
   repeat refine AJ ?_
   subst hL hm
   refine Ar (fn:=Tryz.f17) Ds (A7 (p:=2) Tryz.results17 Ds rfl rfl) ?_
   exact⟨_,rfl,HG,_,_,rfl,okk,lo_okk⟩
end Go.Proofs.YtbfjfnbcmojpiaaGreat
namespace Go.Proofs.YtbfjfnbcmojpiaaGreat
open Go.ChangeShapes Go.WideShapes Go.ChangeAt Go.RowKit Go.Deep
theorem ZS {a b:World} (h:a.grownBy b none):Below a.heap.size a b:=
 ⟨h.os,h.tape,h.output,h.size,fun i hi=>h.block i hi (by simp)⟩
theorem UI:laidOutB Tryz.prog=true:=by kernel_rfl
theorem Tc:Tryz.prog.cellsOf 25=3:=by kernel_rfl
theorem ADc:Tryz.prog.cellsOf 27=6:=by kernel_rfl
theorem AB4:Tryz.prog.cellsOf 9=1:=by kernel_rfl
theorem AFv:Tryz.prog.cellsOf 4=1:=by kernel_rfl
theorem UL:Tryz.prog.cellsOf 3=1:=by kernel_rfl
theorem Ps:Tryz.prog.cellsOf 2=1:=by kernel_rfl
theorem AIB {H:Type} {enc:TypeId×Value→H} {W:World} {b0:Nat}:∀fuel cs y,DataW.trod enc Tryz.prog W b0 (fun _=>true) true fuel 25 cs=some y→∃x:V,cs=vc x:=by
 intro fuel cs y h
 obtain⟨xs,k,_,_,hl,hxl,hf⟩:=DataW.trod_struct Tryz.underlying25 h
 rw[Tc] at hl
 match cs,hl with
 | [a,b,c],_ =>
  obtain⟨y0,h0⟩:=Gl hxl hf 0 _ rfl 3 rfl 1 UL
  obtain⟨y1,h1⟩:=Gl hxl hf 1 _ rfl 2 rfl 1 Ps
  obtain⟨y2,h2⟩:=Gl hxl hf 2 _ rfl 9 rfl 1 AB4
  obtain⟨n0,e0,_,r0⟩:=DataW.trod_int Tryz.underlying3 h0
  obtain⟨n1,e1,_,r1⟩:=DataW.trod_int Tryz.underlying2 h1
  obtain⟨s2,e2,_,r2⟩:=DataW.trod_string Tryz.underlying9 h2
  simp at e0 e1 e2
  subst e0 e1 e2
  exact⟨⟨n0,n1,s2⟩,rfl⟩
theorem AB2 {H:Type} {enc:TypeId×Value→H} {W:World} {r:Reach} {base b0:Nat} {v:Value} {d:DataW H} {p:List MemPlace} (hv:Value.okWide Tryz.prog W r base 27 v) (h:DataW.Trod enc Tryz.prog W b0 (fun _=>true) true 27 v d p):∃(x:V) (n:Int) (b:Bool) (a:Int),v=E0 x n b a∧True:=by
 obtain⟨cs,rfl,hcell⟩:=MH Tryz.underlying27 hv
 obtain⟨fuel,hf⟩:=h
 have hf':DataW.trod enc Tryz.prog W b0 (fun _=>true) true fuel 27 cs.toList=some (d,p):=hf
 obtain⟨xs,k,_,_,hl,hxl,hf⟩:=DataW.trod_struct Tryz.underlying27 hf'
 rw[ADc] at hl
 obtain⟨l⟩:=cs
 match l,hl with
 | [a,b,c,e,f,g],_ =>
  obtain⟨y0,t0⟩:=Gl hxl hf 0 _ rfl 25 rfl 3 Tc
  obtain⟨y1,t1⟩:=Gl hxl hf 1 _ rfl 3 rfl 1 UL
  obtain⟨y2,t2⟩:=Gl hxl hf 2 _ rfl 4 rfl 1 AFv
  obtain⟨y3,t3⟩:=Gl hxl hf 3 _ rfl 2 rfl 1 Ps
  obtain⟨v0,e0⟩:=AIB _ _ _ t0
  obtain⟨n1,e1,_,_⟩:=DataW.trod_int Tryz.underlying3 t1
  obtain⟨b2,e2,_⟩:=DataW.trod_bool Tryz.underlying4 t2
  obtain⟨n3,e3,_,_⟩:=DataW.trod_int Tryz.underlying2 t3
  simp[vc] at e0 e1 e2 e3
  obtain⟨rfl,rfl,rfl⟩:=e0
  subst e1 e2 e3
  exact⟨v0,n1,b2,n3,rfl,ALg⟩
end Go.Proofs.YtbfjfnbcmojpiaaGreat
namespace Go.Proofs.YtbfjfnbcmojpiaaGreat
open Go.RowKit Go.Shelf
theorem ABv {w:World} {k b:Nat} {c:Array Value} {T:TypeId} {fr:Nat×Nat} (h:TagV w k) (hb:w.heap[b]?=some (.cells c T fr)) (hT:T≠132∧T≠58):k≠b:=by
 rcases h with h|⟨c',fr',h1⟩
 · exact AEN h hb hT.1
 · rintro rfl
   rw[hb] at h1
   simp only[Option.some.injEq,Obj.cells.injEq] at h1
   exact hT.2 h1.2.1
theorem AKz {w:World} {p:Nat→Prop} {b:Nat} {c:Array Value} {T:TypeId} {fr:Nat×Nat} (hf:∀k,p k→(fun _=>False) k∨TagV w k) (hb:w.heap[b]?=some (.cells c T fr)) (hT:T≠132∧T≠58):∀k,p k→k≠b:=fun k hk=>(hf k hk).elim (fun h=>h.elim) fun t=>ABv t hb hT
theorem AAt {w:World} {p q:Nat→Prop} {b:Nat} {c:Array Value} {T:TypeId} {fr:Nat×Nat} (hf:∀k,p k→q k∨TagV w k) (ha:∀k,q k→k≠b) (hb:w.heap[b]?=some (.cells c T fr)) (hT:T≠132∧T≠58):∀k,p k→k≠b:=fun k hk=>(hf k hk).elim (ha k) fun t=>ABv t hb hT
def Sp.vv (V:VV) (fp:Nat→Prop):Sp:=⟨fun w v=>∃ao cap ks,v=Aw V.2.1 V.2.2 (.slice ao (List.length ks) cap)∧ks.map VK.p=V.1∧RdK w (.slice ao (List.length ks) cap) ks∧∀k,Kv (.slice ao (List.length ks) cap) ks k→fp k∨TagV w k,fun _ _ _ hg ⟨ao,cap,ks,h1,h2,h3,h4⟩=>⟨ao,cap,ks,h1,h2,h3.kn hg,QW hg h4⟩⟩
theorem ZL {r:VV×Int} {fp:Nat→Prop} (w:World) (u:Value) (h:(Sp.vt r fp).on w u):∃vs v,u=.tuple vs∧vs[0]?=some v∧(Sp.vv r.1 fp).on w v:=by
 obtain⟨ao,cap,ks,h1,h2⟩:=h
 exact⟨_,_,h1,rfl,ao,cap,ks,rfl,h2⟩
theorem AAu {r:VV×Int} {fp:Nat→Prop} (w:World) (u:Value) (h:(Sp.vt r fp).on w u):∃vs v,u=.tuple vs∧vs[1]?=some v∧(Sp.is (.int .i64 r.2)).on w v:=by
 obtain⟨ao,cap,ks,h1,h2⟩:=h
 exact⟨_,_,h1,rfl,rfl⟩
def TgF (w:World) (p q:Nat→Prop):Prop:=∀k,p k→q k∨TagV w k
theorem TgF.kn {w w':World} {p q:Nat→Prop} (h:TgF w p q) (g:w.grownBy w' none):TgF w' p q:=QW g h
theorem TgF.offR {w w':World} {p q:Nat→Prop} (h:TgF w p q) {row:Option Nat} (g:w.grownBy w' row) (hb:∀k,p k→row≠some k):TgF w' p q:=fun k hk=>(h k hk).imp id (·.keep g (hb k hk))
theorem TgF.join {w:World} {p q r:Nat→Prop} (h:TgF w p q) (h2:TgF w q r):TgF w p r:=fun k hk=>(h k hk).elim (h2 k) .inr
theorem TgF.none (w:World):TgF w (Kv (.slice none 0 0) []) (fun _=>False):=fun k hk=>(ND k hk).elim
theorem AHS {i j:Nat} (hi:i<6) (hj:j<6) (h:Ks i=Ks j):i=j:=by
 have:=(List.cons.inj h).1
 omega
def ZR (seed:List Nat):Nat→List Nat
 | 0=>kd 274 seed
 | j+1=>kd 276 (ZR seed j)
theorem IH (seed:List Nat):∀j,Dg (ZR seed j)
 | 0=>Be _ _
 | _+1=>Be _ _
def Tsd (seed:List Nat) (j:Nat):List Nd:=tree (kd 275 (ZR seed j)) []
def TB (seed:List Nat):Nat→List VP
 | 0=>[]
 | i+1=>Me (TB seed i) (Ks i) (Tsd seed i)
def OV (T:Nat→List Nd) (P:List VP) (i:Nat):Prop:=CZ P=true∧P.length=i∧∀x,x∈P↔∃j,j<i∧x=(Ks j,T j)
theorem OV.not {T:Nat→List Nd} {P:List VP} {i:Nat} (h:OV T P i) (hi:i<6):J5 P (Ks i)=false:=AGJ (Srt.of h.1) fun hm=>by
 obtain⟨x,hx,e⟩:=List.mem_map.1 hm
 obtain⟨j,hj,rfl⟩:=(h.2.2 x).1 hx
 have:=AHS (by omega) hi e
 omega
theorem OV.succ {T:Nat→List Nd} {P:List VP} {i:Nat} (h:OV T P i) (hi:i<6) (hT:∀j,Ho (T j)=true):OV T (Me P (Ks i) (T i)) (i+1):=by
 refine⟨Xu h.1 (h.not hi) (by rw[h.2.1];omega) (hT i),by rw[AGK,h.2.1],fun x=>?_⟩
 rw[ABJ,h.2.2 x]
 constructor
 · rintro (rfl|⟨j,hj,rfl⟩)
   · exact⟨i,by omega,rfl⟩
   · exact⟨j,by omega,rfl⟩
 · rintro ⟨j,hj,rfl⟩
   by_cases e:j=i
   · subst e;exact .inl rfl
   · exact .inr ⟨j,by omega,rfl⟩
theorem AHT (seed:List Nat) (j:Nat):Ho (Tsd seed j)=true:=J8 _
theorem RP (seed:List Nat):∀i,i≤6→OV (Tsd seed) (TB seed i) i
 | 0,_=>⟨rfl,rfl,by simp[TB]⟩
 | i+1,h=>(RP seed i (by omega)).succ (by omega) (AHT seed)
def V6 (seed:List Nat):VV:=(TB seed 6,kd 273 seed,ZR seed 6)
theorem AJB {seed:List Nat} {i:Nat} {P:List VP} (hP:P=TB seed i) (hi:i<6):ME (P,kd 273 seed,ZR seed i) (Ks i) (Tsd seed i) (kd 276 (ZR seed i))=((TB seed (i+1),kd 273 seed,ZR seed (i+1)),0):=by
 subst hP
 have h:=RP seed i (by omega)
 exact XN h.1 (h.not hi) (by rw[h.2.1];omega)
def AFa (a b c:Value) (k:Nat):Prop:=BM a k∨BM b k∨BM c k
def SdF (w:World) (s:Sd) (own wr:List DD) (ao wo bo:Option Addr) (ac wc bc:Nat):Prop:=own.map DD.x=s.own∧wr.map DD.x=s.wr ∧
 Own w 23 32 (.slice ao own.length ac) own.length (own.flatMap Ic)∧Own w 23 32 (.slice wo wr.length wc) wr.length (wr.flatMap Ic)∧Own w 5 1 (.slice bo s.body.length bc) s.body.length (bv s.body) ∧
 (∀k,BM (.slice ao own.length ac) k→¬BM (.slice wo wr.length wc) k)∧Dg s.tag∧By s.body
section
variable {w w':World} {s:Sd} {own wr:List DD} {ao wo bo:Option Addr} {ac wc bc:Nat}
theorem SdF.kn (h:SdF w s own wr ao wo bo ac wc bc) (g:w.grownBy w' none):SdF w' s own wr ao wo bo ac wc bc:=by
 obtain⟨h1,h2,h3,h4,h5,h6⟩:=h
 exact⟨h1,h2,h3.kn g,h4.kn g,h5.kn g,h6⟩
theorem SdF.offR (h:SdF w s own wr ao wo bo ac wc bc) {row:Option Nat} (g:w.grownBy w' row) (hb:∀k,AFa (.slice ao own.length ac) (.slice wo wr.length wc) (.slice bo s.body.length bc) k→row≠some k):SdF w' s own wr ao wo bo ac wc bc:=by
 obtain⟨h1,h2,h3,h4,h5,h6⟩:=h
 exact⟨h1,h2,h3.offR g fun k hk=>hb k (.inl hk),h4.offR g fun k hk=>hb k (.inr (.inl hk)),h5.offR g fun k hk=>hb k (.inr (.inr hk)),h6⟩
theorem SdF.lt (h:SdF w s own wr ao wo bo ac wc bc):∀k,AFa (.slice ao own.length ac) (.slice wo wr.length wc) (.slice bo s.body.length bc) k→k<w.heap.size:=by
 obtain⟨h1,h2,h3,h4,h5,h6⟩:=h
 rintro k (hk|hk|hk)
 · exact Own.ltS h3 k hk
 · exact Own.ltS h4 k hk
 · exact Own.ltS h5 k hk
theorem SdF.ap (h:SdF w s own wr ao wo bo ac wc bc) {b:Nat} {c:Array Value} {T:TypeId} {fr:Nat×Nat} (hb:w.heap[b]?=some (.cells c T fr)) (hT:T≠23∧T≠5):∀k,AFa (.slice ao own.length ac) (.slice wo wr.length wc) (.slice bo s.body.length bc) k→k≠b:=by
 obtain⟨h1,h2,h3,h4,h5,h6⟩:=h
 rintro k (hk|hk|hk) rfl
 · exact Own.ne h3 hb (Ne.symm hT.1) hk
 · exact Own.ne h4 hb (Ne.symm hT.1) hk
 · exact Own.ne h5 hb (Ne.symm hT.2) hk
theorem SdF.ro (h:SdF w s own wr ao wo bo ac wc bc):RdD w (.slice ao own.length ac) own:=Own.sb h.2.2.1
theorem SdF.rw (h:SdF w s own wr ao wo bo ac wc bc):RdD w (.slice wo wr.length wc) wr:=Own.sb h.2.2.2.1
theorem SdF.rb (h:SdF w s own wr ao wo bo ac wc bc):SlB w 1 (.slice bo s.body.length bc) s.body.length (bv s.body):=Own.sb h.2.2.2.2.1
theorem SdF.tg (h:SdF w s own wr ao wo bo ac wc bc):Dg s.tag:=h.2.2.2.2.2.2.1
theorem SdF.by (h:SdF w s own wr ao wo bo ac wc bc):By s.body:=h.2.2.2.2.2.2.2
theorem SdF.sd (h:SdF w s own wr ao wo bo ac wc bc):(⟨s.addr,own.map DD.x,s.joint,wr.map DD.x,s.body,s.tag⟩:Sd)=s:=by rw[h.1,h.2.1]
end
def Sp.sr (B:Nat) (r:Sd×Int):Sp:=⟨fun w v=>∃own wr ao wo bo ac wc bc,v=.tuple #[Bm r.1.addr (.slice ao (List.length own) ac) r.1.joint (.slice wo (List.length wr) wc) (.slice bo r.1.body.length bc) r.1.tag,.int .i64 r.2]∧SdF w r.1 own wr ao wo bo ac wc bc∧∀k,AFa (.slice ao (List.length own) ac) (.slice wo (List.length wr) wc) (.slice bo r.1.body.length bc) k→B≤k,
 fun _ _ _ hg ⟨own,wr,ao,wo,bo,ac,wc,bc,h1,h2,h3⟩=>⟨own,wr,ao,wo,bo,ac,wc,bc,h1,h2.kn hg,h3⟩⟩
def Sp.sl (B:Nat) (s:Sd):Sp:=⟨fun w v=>∃own wr ao wo bo ac wc bc,v=Bm s.addr (.slice ao (List.length own) ac) s.joint (.slice wo (List.length wr) wc) (.slice bo s.body.length bc) s.tag∧SdF w s own wr ao wo bo ac wc bc∧∀k,AFa (.slice ao (List.length own) ac) (.slice wo (List.length wr) wc) (.slice bo s.body.length bc) k→B≤k,
 fun _ _ _ hg ⟨own,wr,ao,wo,bo,ac,wc,bc,h1,h2,h3⟩=>⟨own,wr,ao,wo,bo,ac,wc,bc,h1,h2.kn hg,h3⟩⟩
theorem RQ {B:Nat} {r:Sd×Int} (w:World) (u:Value) (h:(Sp.sr B r).on w u):∃vs v,u=.tuple vs∧vs[0]?=some v∧(Sp.sl B r.1).on w v:=by
 obtain⟨own,wr,ao,wo,bo,ac,wc,bc,h1,h2⟩:=h
 exact⟨_,_,h1,rfl,own,wr,ao,wo,bo,ac,wc,bc,rfl,h2⟩
theorem JZ {B:Nat} {r:Sd×Int} (w:World) (u:Value) (h:(Sp.sr B r).on w u):∃vs v,u=.tuple vs∧vs[1]?=some v∧(Sp.is (.int .i64 r.2)).on w v:=by
 obtain⟨own,wr,ao,wo,bo,ac,wc,bc,h1,h2⟩:=h
 exact⟨_,_,h1,rfl,rfl⟩
theorem SRes.sr {w w':World} {B:Nat} {r:Sd×Int} {e:Ending} (h:SRes w w' r e) (hB:B≤w.heap.size):∃v,e=.returned v∧w.grownBy w' none∧(Sp.sr B r).on w' v:=by
 obtain⟨own,wr,ao,wo,bo,ac,wc,bc,h1,h2,h3,h4,h5,h6,f1,f2,f3,f4,h7,h8,h9⟩:=h
 refine⟨_,h1,h9,own,wr,ao,wo,bo,ac,wc,bc,rfl,⟨h2,h3,h4,h5,h6,f4,h7,h8⟩,?_⟩
 rintro k (hk|hk|hk)
 · exact Nat.le_trans hB (f1 k hk)
 · exact Nat.le_trans hB (f2 k hk)
 · exact Nat.le_trans hB (f3 k hk)
theorem WK {W:World} {B:Nat} {ks:List VK} {vo:Option Addr} {vc_:Nat} {sa po:List Nat} (hsa:Dg sa) (hpo:Dg po) {P:List VP} {ds:List DD} {v:Value} {joint ad:Int} {x:V} {r:Sd×Int} (hr:RdK W (.slice vo ks.length vc_) ks) (hP:ks.map VK.p=P) (ho:RdD W v ds) (hdl:ds.length≤1000) (hB:B≤W.heap.size) (hres:Fg P (ds.map DD.x) joint ad x=r) :
  Calls Tryz.prog 20 #[Aw sa po (.slice vo ks.length vc_),v,.int .i64 joint,.int .i64 ad,Bp x] W fun e w'=>∃v,e=.returned v∧W.grownBy w' none∧(Sp.sr B r).on w' v:=by
 obtain⟨ao,cap,rfl⟩:=ho.shape
 subst hP hres
 exact(AC6 ks vo vc_ sa po hsa hpo ds ao cap joint ad x W hr ho hdl).mono fun e w' h=>h.sr hB
theorem ABw {W:World} {B:Nat} {ks:List VK} {vo:Option Addr} {vc_:Nat} {sa po:List Nat} (hsa:Dg sa) (hpo:Dg po) {P:List VP} {ds:List DD} {v:Value} {joint ad:Int} {x:V} {r:Sd×Int} (hr:RdK W (.slice vo ks.length vc_) ks) (hP:ks.map VK.p=P) (ho:RdD W v ds) (hdl:ds.length≤1000) (hB:B≤W.heap.size) (hres:Fg P (ds.map DD.x) joint ad x=r) :
  Calls Tryz.prog 16 #[Aw sa po (.slice vo ks.length vc_),v,.int .i64 joint,.int .i64 ad,Bp x] W fun e w'=>∃v,e=.returned v∧W.grownBy w' none∧(Sp.sr B r).on w' v:=by
 obtain⟨ao,cap,rfl⟩:=ho.shape
 subst hP hres
 exact(AAf ks vo vc_ sa po hsa hpo ds ao cap joint ad x W hr ho hdl).mono fun e w' h=>h.sr hB
def AFb (P:List VP) (x:V) (n:Int) (b:Bool) (a:Int):Sd×Int:=Fg P ((Jv n 6).map DD.x) (jt b) (ADQ a) x
theorem AFc (n:Int) {w0 W:World} (g:w0.grownBy W none):Calls Tryz.prog 17 #[.int .i64 n] W fun e w'=>∃v,e=.returned v∧W.grownBy w' none∧(Sp.row w0.heap.size 23 32 (Jv n 6).length ((Jv n 6).flatMap Ic)).on w' v:=
 (AFY n W).mono fun e w' ⟨v,h1,h2,ao,cap,h3,h4,h5⟩=>⟨v,h1,h2,ao,cap,h3,h4,fun k hk=>Nat.le_trans g.size (h5 k hk)⟩
theorem AH6 {W:World} {B:Nat} {ds:List DD} {v:Value} (h:(Sp.row B 23 32 ds.length (ds.flatMap Ic)).on W v):RdD W v ds:=by
 obtain⟨ao,cap,rfl,h2,_⟩:=h
 exact Own.sb h2
theorem AAv (seed:List Nat) (hse:Dg seed) (w:World) :
   Calls Tryz.prog 14 #[AO seed] w fun e w'=>∃v,e=.returned v∧w.grownBy w' none∧(Sp.vv (V6 seed) (fun _=>False)).on w' v:=by
 refine BF Tryz.func14 rfl Tryz.ntmps14 rfl fun a0 sv0=>?_
 have HG:=World.grownBy.refl w none
 replace sv0:Sv 19 [] [(0,AO seed)] a0:=sv0
 refine ALa fun K1 k1=>?_
 refine ALZ ?_
 refine BZ sv0 r6 (BV seed hse.1) fun a2 w2 CP GZ g2 z2 Ad sv2=>?_
 replace HG:=AA HG g2
 refine Az (T:=36) (Z:=([bv AM,bv AM,[.slice none 0 0]].flatten)) sv2 rfl rfl rfl (fun a w=>by kernel_rfl) fun a3 w3 N6 JG g3 z3 CW sv3=>?_
 have KH:=Bk HG JG
 replace Ad:=AC g3 Ad
 refine AE ?_
 refine k1 _ _ ?_
 refine ALa fun K4 k4=>?_
 refine ALZ ?_
 refine AH sv3 2 [(5,AO seed),(6,Aw ((kd 273 seed)) ((ZR seed 0)) (.slice none 0 0))]
   ⟨yl r6 (BV seed hse.1) Ad,Ae [AO seed] Tryz.func38 (by kernel_rfl) rq4 ⟨(oy rfl rfl),ALg⟩ (Au fun W g=>Z8 seed hse W),ALg⟩ fun a5 w5 g5 sv5=>?_
 replace Ad:=AC g5 Ad
 replace CW:=AC g5 CW
 replace HG:=AA (AA HG g3) g5
 refine Az (T:=36) (Z:=([bv AM,bv AM,[.slice none 0 0]].flatten)) sv5 rfl rfl rfl (fun a w=>by kernel_rfl) fun a6 w6 AHU WL g6 z6 I1 sv6=>?_
 have Nk:=Ax Ad WL
 have Nl:=Ax CW WL
 have ABx:=Bk HG WL
 refine As sv6 r7 (Bq (Be _ _) (IH seed 0) (.slice none 0 0) rfl) I1 (by first|rfl|simp[Ak,AL,AZ,(Be _ _).1,(IH seed 0).1]) fun w7 g7 h7=>?_
 replace Ad:=Ac g7 (AC g6 Ad) (Ne.symm Nk)
 replace CW:=Ac g7 (AC g6 CW) (Ne.symm Nl)
 replace HG:=AD (AA HG g6) g7 ABx
 replace I1:=h7
 refine AE ?_
 refine k4 _ _ ?_
 refine ALa fun K8 k8=>?_
 refine ALa fun K9 k9=>?_
 refine ALZ ?_
 refine AX (v:=.int .i64 0) sv6 r6 fun a10 Bj=>?_
 refine AE ?_
 refine k9 _ _ ?_
 refine A8 fun Q11 x11 y11 rt11 o11=>?_
 have hr:=RdK.nil w7
 have Mt:∀k,Kv (.slice none 0 0) [] k→k≠CP:=fun k hk=>(ND k hk).elim
 have I2:∀k,Kv (.slice none 0 0) [] k→k≠N6:=fun k hk=>(ND k hk).elim
 have I3:∀k,Kv (.slice none 0 0) [] k→k≠AHU:=fun k hk=>(ND k hk).elim
 have ht:=TgF.none w7
 refine wp_loop (fun a w'=>∃(i:Nat) (ks:List VK) (ao:Option Addr) (cap:Nat),(i≤6)∧(ks.map VK.p=TB seed i)∧Sv 19 [] [(4,.int .i64 ((i:Int))),(3,pt AHU),(5,AO seed),(6,Aw ((kd 273 seed)) ((ZR seed 0)) (.slice none 0 0)),(2,pt N6),(1,pt CP),(0,AO seed)] a∧w.grownBy w' none∧w'.heap[CP]?=some (.cells (bv seed).toArray 23 (0,0))∧w'.heap[N6]?=some (.cells (([bv AM,bv AM,[.slice none 0 0]].flatten)).toArray 36 (0,0))∧w'.heap[AHU]?=some (.cells ([bv ((kd 273 seed)),bv ((ZR seed i)),[.slice ao ks.length cap]].flatten).toArray 36 (0,0))∧RdK w' (.slice ao ks.length cap) ks∧TgF w' (Kv (.slice ao ks.length cap) ks) (fun _=>False)∧(∀k,Kv (.slice ao ks.length cap) ks k→k≠CP)∧(∀k,Kv (.slice ao ks.length cap) ks k→k≠N6)∧(∀k,Kv (.slice ao ks.length cap) ks k→k≠AHU)) (fun a _=>(6-intOf (a.tmps.getD 4 undef)).toNat) ⟨0,[],none,0,by omega,rfl,⟨Bj.1,Bj.2.1,Bj.2.2.1,Bj.2.2.2.1,Bj.2.2.2.2.1,Bj.2.2.2.2.2.1,Bj.2.2.2.2.2.2.1,Bj.2.2.2.2.2.2.2.1,(AG Bj).1,ALg⟩,HG,Ad,CW,I1,hr,ht,Mt,I2,I3⟩ fun a12 w12 hI12=>?_
 clear Ad
 clear CW
 clear I1
 clear hr
 clear ht
 clear HG
 obtain⟨i,ks,ao,cap,hi6,hP,Cx,HG,Ad,CW,I1,hr,ht,Mt,I2,I3⟩:=hI12
 refine ALa fun K13 k13=>?_
 refine ALa fun K14 k14=>?_
 by_cases hi:i<6
 · refine ALZ ?_
   refine AH Cx 2 [(7,.int .i64 ((i:Int))),(8,.bool true)]
    ⟨ym r5,Cm r6 (fun _=>BE (decide_eq_true (by omega))),ALg⟩ fun a15 w15 g15 Gh=>?_
   refine AE ?_
   refine k14 _ _ ?_
   refine Av Gh rfl rfl ?_
   refine ALe ?_
   refine k13 _ _ ?_
   refine ALa fun K16 k16=>?_
   refine A8 fun Q17 x17 y17 rt17 o17=>?_
   replace I1:=AC g15 I1
   replace hr:=hr.kn g15
   refine DM (Gh.st w15) (by kernel_rfl) 7 [(12,Sp.is (Aw ((kd 273 seed)) ((ZR seed i)) (.slice ao ks.length cap))),(13,Sp.is (.int .i64 ((i:Int)))),(14,Sp.is (AO ((Ks i)))),(15,Sp.vt ((TB seed (i+1),(kd 273 seed),(ZR seed (i+1))),(0:Int)) (Kv (.slice ao ks.length cap) ks)),(11,Sp.vt ((TB seed (i+1),(kd 273 seed),(ZR seed (i+1))),(0:Int)) (Kv (.slice ao ks.length cap) ks)),(16,Sp.vv (TB seed (i+1),(kd 273 seed),(ZR seed (i+1))) (Kv (.slice ao ks.length cap) ks)),(17,Sp.is (.int .i64 0))] rfl (by kernel_rfl) (by kernel_rfl) (by kernel_rfl) [6] (by kernel_rfl)
    ⟨yl r6 (Bq (Be _ _) (IH seed i) (.slice ao ks.length cap) rfl) I1,ym r5,Ae [.int .i64 ((i:Int))] Tryz.func30 (by kernel_rfl) rq4 ⟨(oy rfl rfl),ALg⟩ (Au fun W g=>RN i hi W),Ae [Aw ((kd 273 seed)) ((ZR seed i)) (.slice ao ks.length cap),AO ((Ks i))] Tryz.func39 (by kernel_rfl) rq4 ⟨(oy rfl rfl),(oy rfl rfl),ALg⟩ (AGp (Be _ _) (IH seed i) (Nj i) hr rfl (T:=Tsd seed i) rfl (AJB hP hi)),ym r5,BX rq4 (fun w u h=>ZL w u h),BX rq4 (fun w u h=>AAu w u h),ALg⟩ ⟨fun o ho=>by obtain rfl:=Option.some.inj ho;exact Il rfl rfl rfl trivial (fun w u h=>AAu w u h),ALg⟩
    [] (by kernel_rfl) trivial ⟨.inl rfl,.inl rfl,.inl rfl,.inl rfl,.inl rfl,.inl rfl,.inl rfl,ALg⟩ (by kernel_rfl) fun a18 w18 g18 st18 nd18=>?_
   obtain⟨hn18,hd18,e18_12,e18_13,e18_14,e18_15,e18_11,e18_16,e18_17,e18_7,e18_8,e18_4,e18_3,e18_5,e18_6,e18_2,e18_1,e18_0,-⟩:=st18
   obtain⟨ao19,cap19,ks19,e18_16q,hp19,hk19,hf19⟩:=e18_16
   replace Ad:=AC g18 (AC g15 Ad)
   replace CW:=AC g18 (AC g15 CW)
   replace I1:=AC g18 I1
   have WM:=AAt hf19 Mt Ad (by decide)
   have WN:=AAt hf19 I2 CW (by decide)
   have Kg:=AAt hf19 I3 I1 (by decide)
   have CD:Sv 19 [] [(7,_),(8,_),(4,_),(3,_),(5,_),(6,_),(2,_),(1,_),(0,_),(16,_)] a18:=⟨hn18,hd18,e18_7,e18_8,e18_4,e18_3,e18_5,e18_6,e18_2,e18_1,e18_0,e18_16q,ALg⟩
   refine As CD r7 (Bq (Be _ _) (IH seed (i+1)) (.slice ao19 ks19.length cap19) rfl) I1 (by first|rfl|simp[Ak,AL,AZ,(Be _ _).1,(IH seed (i+1)).1,(Be _ _).1,(IH seed i).1]) fun w20 g20 h20=>?_
   refine AE ?_
   refine y17 _ _ ?_
   refine k16 _ _ ?_
   refine ALZ ?_
   refine AH CD 2 [(9,.int .i64 ((i:Int))),(10,.int .i64 (((i+1:Nat):Int)))]
    ⟨ym r5,Cm r6 (fun _=>DB (by rw[BG (by omega) (by omega)];omega)),ALg⟩ fun a21 w21 g21 Di=>?_
   refine AX (v:=.int .i64 (((i+1:Nat):Int))) Di r6 fun a22 Bl=>?_
   refine AE ?_
   replace Ad:=AC g21 (Ac g20 Ad (Ne.symm Nk))
   replace CW:=AC g21 (Ac g20 CW (Ne.symm Nl))
   replace I1:=AC g21 h20
   replace hr:=((hr.kn g18).offR g20 (AR I3)).kn g21
   replace ht:=TgF.kn (TgF.offR (TgF.kn (TgF.kn ht g15) g18) g20 (AR I3)) g21
   replace hk19:=(hk19.offR g20 (AR Kg)).kn g21
   replace hf19:=TgF.kn (TgF.offR hf19 g20 (AR Kg)) g21
   replace HG:=AA (AD (AA (AA HG g15) g18) g20 ABx) g21
   have htn:=hf19.join ht
   exact⟨⟨i+1,ks19,ao19,cap19,by omega,hp19,⟨Bl.1,Bl.2.1,Bl.2.2.1,Bl.2.2.2.2.2.2.2.1,(AG Bl).1,(AG Bl).2.1,(AG Bl).2.2.1,(AG Bl).2.2.2.1,(AG Bl).2.2.2.2.1,ALg⟩,HG,Ad,CW,I1,hk19,htn,WM,WN,Kg⟩,by rw[show _=_ from Bl.2.2.1,show _=_ from Cx.2.2.1];simp[intOf];omega⟩
 · obtain rfl:i=6:=by omega
   refine ALZ ?_
   refine AH Cx 2 [(7,.int .i64 (((6:Nat):Int))),(8,.bool false)]
    ⟨ym r5,Cm r6 (fun _=>BE (by simp)),ALg⟩ fun a23 w23 g23 CS=>?_
   refine AE ?_
   refine k14 _ _ ?_
   refine A1 CS rfl rfl ?_
   refine wp_exit ?_
   repeat refine Bo ?_
   refine x11 _ _ ?_
   refine k8 _ _ ?_
   refine ALa fun K24 k24=>?_
   refine ALZ ?_
   refine AH CS 1 [(18,Aw ((kd 273 seed)) ((ZR seed 6)) (.slice ao ks.length cap))]
    ⟨yl r6 (Bq (Be _ _) (IH seed 6) (.slice ao ks.length cap) rfl) (AC g23 I1),ALg⟩ fun a25 w25 g25 Co=>?_
   have JW:=AA g23 g25
   refine As Co r7 (Bq (Be _ _) (IH seed 6) (.slice ao ks.length cap) rfl) (AC JW CW) (by first|rfl|simp[Ak,AL,AZ,(Be _ _).1,(IH seed 6).1]) fun w26 g26 h26=>?_
   replace hr:=(hr.kn JW).offR g26 (AR I2)
   replace ht:=TgF.offR (TgF.kn ht JW) g26 (AR I2)
   replace HG:=AD (AA HG JW) g26 KH
   replace CW:=h26
   refine AE ?_
   refine k24 _ _ ?_
   refine ALd ?_
   repeat refine AJ ?_
   refine Ar (fn:=Tryz.f14) Co (Dc (p:=2) Tryz.results14 Co rfl rfl (Bq (Be _ _) (IH seed 6) (.slice ao ks.length cap) rfl) CW) ?_
   exact⟨_,rfl,HG,ao,cap,ks,rfl,hP,hr,ht⟩
theorem AAw (ks:List VK) (vo:Option Addr) (vc_:Nat) (sa po:List Nat) (hsa:Dg sa) (hpo:Dg po) (P:List VP) (hP:ks.map VK.p=P) (x:V) (n:Int) (b:Bool) (a:Int) (r:Sd×Int) (hres:AFb P x n b a=r) (w:World) (hr:RdK w (.slice vo ks.length vc_) ks) :
  Calls Tryz.prog 15 #[E0 x n b a,Aw sa po (.slice vo ks.length vc_)] w fun e w'=>∃v,e=.returned v∧w.grownBy w' none∧(Sp.sr w.heap.size r).on w' v:=by
 refine BF Tryz.func15 rfl Tryz.ntmps15 rfl fun a0 sv0=>?_
 have HG:=World.grownBy.refl w none
 replace sv0:Sv 19 [] [(0,E0 x n b a),(1,Aw sa po (.slice vo ks.length vc_))] a0:=sv0
 refine ALa fun K1 k1=>?_
 refine ALZ ?_
 refine BZ sv0 r6 (TA x n b a) fun a2 w2 CO DP g2 z2 AK sv2=>?_
 refine BZ sv2 r6 (Bq hsa hpo (.slice vo ks.length vc_) rfl) fun a3 w3 CG E2 g3 z3 AN sv3=>?_
 replace HG:=AA (AA HG g2) g3
 refine Az (T:=31) (Z:=([[.int .i64 0],[.slice none 0 0],[.int .i64 0],[.slice none 0 0],[.slice none 0 0],bv AM].flatten)) sv3 rfl rfl rfl (fun a w=>by kernel_rfl) fun a4 w4 Fp CB g4 z4 AU sv4=>?_
 have CL:=Bk HG CB
 replace AK:=AC g4 (AC g3 AK)
 replace AN:=AC g4 AN
 replace hr:=((hr.kn g2).kn g3).kn g4
 replace HG:=AA HG g4
 refine AX (v:=.int .i64 0) sv4 r6 fun a5 sv5=>?_
 refine AE ?_
 refine k1 _ _ ?_
 refine ALa fun K6 k6=>?_
 refine DM (sv5.st w4) (by kernel_rfl) 13 [(6,Sp.is (Aw sa po (.slice vo ks.length vc_))),(7,Sp.is (pk CO 3)),(8,Sp.is (.int .i64 n)),(9,Sp.row w4.heap.size 23 32 (Jv n 6).length ((Jv n 6).flatMap Ic)),(10,Sp.is (E0 x n b a)),(11,Sp.is (.int .i64 ((jt b)))),(12,Sp.is (E0 x n b a)),(13,Sp.is (.int .i64 ((ADQ a)))),(14,Sp.is (pt CO)),(15,Sp.is (Bp x)),(16,Sp.sr w4.heap.size r),(17,Sp.sl w4.heap.size r.1),(18,Sp.is (.int .i64 r.2))] rfl (by kernel_rfl) (by kernel_rfl) (by kernel_rfl) [] (by kernel_rfl)
  ⟨yl r6 (Bq hsa hpo (.slice vo ks.length vc_) rfl) AN,yf r6 (fun _=>by kernel_rfl),yp (i:=1) r6 (D9 n) AK rfl rfl,Ae [.int .i64 n] Tryz.func17 (by kernel_rfl) rq4 ⟨(oy rfl rfl),ALg⟩ (fun W g=>AFc n g),yl r6 (TA x n b a) AK,Ae [E0 x n b a] Tryz.func18 (by kernel_rfl) rq4 ⟨(oy rfl rfl),ALg⟩ (Au fun W g=>RO x n b a W),yl r6 (TA x n b a) AK,Ae [E0 x n b a] Tryz.func19 (by kernel_rfl) rq4 ⟨(oy rfl rfl),ALg⟩ (Au fun W g=>UF x n b a W),yf r6 (fun _=>by kernel_rfl),yp (i:=0) r6 (ED x) AK rfl rfl,QJ (Sp.sr w4.heap.size r) rfl rfl trivial rfl (fun W g av h=>match av,h with|[_,_,_,_,_],⟨rfl,hv,rfl,rfl,rfl,_⟩=>WK hsa hpo (hr.kn g) hP (AH6 hv) (Nat.le_trans (Po n 6) (by decide)) g.size hres) (fun _ _ h=>h) (Fd Tryz.func20 (by kernel_rfl) rfl),BX rq4 (fun w u h=>RQ w u h),BX rq4 (fun w u h=>JZ w u h),ALg⟩ trivial
  [] (by kernel_rfl) trivial ⟨.inl rfl,.inl rfl,.inl rfl,.inl rfl,.inl rfl,.inl rfl,.inl rfl,.inl rfl,.inl rfl,.inl rfl,.inl rfl,.inl rfl,.inl rfl,ALg⟩ (by kernel_rfl) fun a7 w7 g7 st7 nd7=>?_
 obtain⟨hn7,hd7,e7_6,e7_7,e7_8,e7_9,e7_10,e7_11,e7_12,e7_13,e7_14,e7_15,e7_16,e7_17,e7_18,e7_5,e7_4,e7_3,e7_2,e7_0,e7_1,-⟩:=st7
 obtain⟨own8,wr8,ao8,wo8,bo8,ac8,wc8,bc8,e7_17q,hF,fr8⟩:=e7_17
 have AAx:=Ca fr8 AU
 have lo_hF:=Gk HG fr8
 replace AU:=AC g7 AU
 have sv7:Sv 19 [] [(5,_),(4,_),(3,_),(2,_),(0,_),(1,_),(17,_),(18,_)] a7:=⟨hn7,hd7,e7_5,e7_4,e7_3,e7_2,e7_0,e7_1,e7_17q,e7_18,ALg⟩
 refine As sv7 r7 (Cy _ _ hF.tg (.slice ao8 (List.length own8) ac8) (.slice wo8 (List.length wr8) wc8) (.slice bo8 r.1.body.length bc8) rfl rfl rfl) AU (C7 AP hF.tg) fun w9 g9 h9=>?_
 replace hF:=hF.offR g9 (AR AAx)
 replace HG:=AD (AA HG g7) g9 CL
 replace AU:=h9
 refine AX (v:=.int .i64 r.2) sv7 r6 fun a10 Bj=>?_
 have B7:Sv _ _ [_,_,_,_] _:=Bj.dl [3,2,17,18]
 refine AE ?_
 refine k6 _ _ ?_
 refine ALd ?_
 repeat refine AJ ?_
 refine Ar (fn:=Tryz.f15) B7 (DY (p:=4) (q:=5) Tryz.results15 B7 rfl rfl rfl rfl (Cy _ _ hF.tg (.slice ao8 (List.length own8) ac8) (.slice wo8 (List.length wr8) wc8) (.slice bo8 r.1.body.length bc8) rfl rfl rfl) AU) ?_
 exact⟨_,rfl,HG,own8,wr8,ao8,wo8,bo8,ac8,wc8,bc8,rfl,hF,lo_hF⟩
end Go.Proofs.YtbfjfnbcmojpiaaGreat
namespace Go.Proofs.YtbfjfnbcmojpiaaGreat
open Go.ChangeShapes Go.WideShapes Go.ChangeAt Go.RowKit Go.Deep
theorem ADd:Tryz.prog.cellsOf 31=37:=by kernel_rfl
theorem UM:Tryz.prog.cellsOf 23=32:=by kernel_rfl
theorem ADe:Tryz.prog.cellsOf 5=1:=by kernel_rfl
theorem Wk:Tryz.prog.cellsOf 28=1:=by kernel_rfl
theorem ADf:Tryz.prog.cellsOf 29=1:=by kernel_rfl
theorem AHb {H:Type} {enc:TypeId×Value→H} {W:World} {b0:Nat}:∀fuel cs y,DataW.trod enc Tryz.prog W b0 (fun _=>true) true fuel 23 cs=some y→∃x:DD,cs=Ic x∧(Ic x).length=32∧True:=by
 intro fuel cs y h
 obtain⟨x,h1,h2,h3⟩:=ZX _ _ _ h
 exact⟨⟨x,h2,h3⟩,h1,DW _,ALg⟩
theorem AJT {H:Type} {enc:TypeId×Value→H} {W:World} {b0:Nat}:∀fuel cs y,DataW.trod enc Tryz.prog W b0 (fun _=>true) true fuel 5 cs=some y→∃x:Nat,cs=cb x∧(cb x).length=1∧x<256:=by
 intro fuel cs y h
 obtain⟨n,e,_,w⟩:=DataW.trod_int Tryz.underlying5 h
 simp[Lit.wf,IntKind.min,IntKind.max,IntKind.signed,IntKind.bits] at w
 refine⟨n.toNat,?_,rfl,by omega⟩
 rw[e]
 unfold cb
 rw[Int.toNat_of_nonneg (by omega)]
theorem AJU (l:List Nat):l.flatMap cb=bv l:=by
 induction l with
 | nil=>rfl
 | cons a l ih=>rw[List.flatMap_cons,ih];rfl
theorem AFt {H:Type} {enc:TypeId×Value→H} {W:World} {r:Reach} {base b0:Nat} {v:Value} {d:DataW H} {p:List MemPlace} (hv:Value.okWide Tryz.prog W r base 31 v) (h:DataW.Trod enc Tryz.prog W b0 (fun _=>true) true 31 v d p) :
  ∃(ad j:Int) (os ws bs:Value) (own wr:List DD) (body tg:List Nat),v=Bm ad os j ws bs tg∧Dg tg∧RdD W os own∧RdD W ws wr∧SlB W 1 bs body.length (bv body)∧By body:=by
 obtain⟨cs,rfl,hcell⟩:=MH Tryz.underlying31 hv
 obtain⟨fuel,hf⟩:=h
 have hf':DataW.trod enc Tryz.prog W b0 (fun _=>true) true fuel 31 cs.toList=some (d,p):=hf
 obtain⟨xs,k,_,_,hl,hxl,hf⟩:=DataW.trod_struct Tryz.underlying31 hf'
 rw[ADd] at hl
 obtain⟨l⟩:=cs
 have hl:l.length=37:=hl
 obtain⟨y0,t0⟩:=Gl hxl hf 0 _ rfl 2 rfl 1 Ps
 obtain⟨y1,t1⟩:=Gl hxl hf 1 _ rfl 28 rfl 1 Wk
 obtain⟨y2,t2⟩:=Gl hxl hf 2 _ rfl 3 rfl 1 UL
 obtain⟨y3,t3⟩:=Gl hxl hf 3 _ rfl 28 rfl 1 Wk
 obtain⟨y4,t4⟩:=Gl hxl hf 4 _ rfl 29 rfl 1 ADf
 obtain⟨y5,t5⟩:=Gl hxl hf 5 _ rfl 23 rfl 32 UM
 obtain⟨ad,e0,_,_⟩:=DataW.trod_int Tryz.underlying2 t0
 obtain⟨s1,own,e1,n1,_⟩:=Pt Tryz.underlying28 UM (by decide) Ic (fun _=>True) AHb t1
 obtain⟨j,e2,_,_⟩:=DataW.trod_int Tryz.underlying3 t2
 obtain⟨s3,wr,e3,n3,_⟩:=Pt Tryz.underlying28 UM (by decide) Ic (fun _=>True) AHb t3
 obtain⟨s4,body,e4,n4,w4⟩:=Pt Tryz.underlying29 ADe (by decide) cb (fun b=>b<256) AJT t4
 obtain⟨tg,e5,a5,c5⟩:=ZX _ _ _ t5
 have e0:(l.drop 0).take 1=[.int .i64 ad]:=e0
 have e1:(l.drop 1).take 1=[s1]:=e1
 have e2:(l.drop 2).take 1=[.int .i64 j]:=e2
 have e3:(l.drop 3).take 1=[s3]:=e3
 have e4:(l.drop 4).take 1=[s4]:=e4
 have e5:(l.drop 5).take 32=bv tg:=e5
 rw[List.take_of_length_le (by rw[List.length_drop];omega)] at e5
 have at1:∀(i:Nat) (s:Value),(l.drop i).take 1=[s]→(⟨l⟩:Array Value)[i]?=some s:=fun i s e=>by
  have h1:((l.drop i).take 1)[0]?=some s:=by rw[e];rfl
  rw[List.getElem?_take,if_pos (by decide),List.getElem?_drop] at h1
  simpa using h1
 obtain⟨u1,q1⟩:=hcell 1 s1 (at1 1 s1 e1)
 obtain⟨u3,q3⟩:=hcell 3 s3 (at1 3 s3 e3)
 obtain⟨u4,q4⟩:=hcell 4 s4 (at1 4 s4 e4)
 have r1:=n1.top (fun h=>by rw[List.eq_nil_of_length_eq_zero h];rfl) q1
 have r3:=n3.top (fun h=>by rw[List.eq_nil_of_length_eq_zero h];rfl) q3
 have r4:=n4.top (fun h=>by rw[List.eq_nil_of_length_eq_zero h];rfl) q4
 rw[AJU] at r4
 refine⟨ad,j,s1,s3,s4,own,wr,body,tg,?_,⟨a5,c5⟩,r1,r3,r4,w4⟩
 have hd:∀(i:Nat) (s:Value),(l.drop i).take 1=[s]→l.drop i=s::l.drop (i+1):=fun i s e=>by
  rw[←List.take_append_drop 1 (l.drop i),e,List.drop_drop,List.singleton_append,Nat.add_comm]
 have el:l=.int .i64 ad::s1::.int .i64 j::s3::s4::bv tg:=by
  have h0:=hd 0 _ e0
  rw[hd 1 _ e1,hd 2 _ e2,hd 3 _ e3,hd 4 _ e4,e5] at h0
  exact h0
 rw[el]
 unfold Bm
 simp
end Go.Proofs.YtbfjfnbcmojpiaaGreat
