import Derived.Test.YtbfjfnbcmojpiaaGreatDrVE
import Derived.Test.YtbfjfnbcmojpiaaGreatDrMK6
set_option linter.unusedSimpArgs false
set_option linter.unusedVariables false
set_option maxRecDepth 100000
set_option maxHeartbeats 4000000
namespace Go.Proofs.YtbfjfnbcmojpiaaGreat
open Go.RowKit Go.Shelf
theorem AHT (n:Int) (w:World):(Instr.build 25 #[(0,.int .i64 1),(1,.int .i64 n)]).run Tryz.prog w=.ok (Bu ⟨1,n,⟨#[]⟩⟩) w:=by kernel_rfl
def Hg (n:Int):V:=(⟨1,n,⟨#[]⟩⟩:V).clean
def Ef (x:V) (n:Int) (b:Bool) (a:Int):Value:=.agg ([vc x,[.int .i64 n],[.bool b],[.int .i64 a]].flatten).toArray
theorem AE0 (s:ByteArray):TY Tryz.prog 9 [.string s] (.string s):=TY.one' Tryz.underlying9 rfl (by kernel_rfl) rfl
theorem Ya {P:Program} {ops:Array Oper} {L:Nat→Sp} {n:Nat} {w0:World} {o:Oper} {x:Operand} {t:TypeId} {d:Nat} {s:ByteArray} (he:P.underlying t=some .string) (ho:o.op=.call { callee:=.builtin .len,args:=#[x],argTypes:=#[t] }) (hd:o.dst=some d) (hg:GX ops L n o.guard) (hx:OpX L n x (.string s)) (h:∀w,(L d).on w (.int .i64 s.size)):OX P ops L n w0 o:=
 EZ hg fun a w hw hl hsz=>⟨.int .i64 s.size,by
  have e:=hx.eval (o:=o) (a:=a) (w:=w) (by simp[ho,Op.operands,Call.operands]) hl
  simp only[execOp,ho,resolve,Sem.run_bind,Sem.run_pure,Result.andThen_ok,List.map_toArray,List.map_cons,List.map_nil,e]
  simp[invoke,builtin,Builtin.len_,run_underlying he,goInt],Co hd (h w)⟩
theorem AHU (x:V):TY Tryz.prog 25 ([[.int .i64 x.kind],[.int .i64 x.int],[.string x.text]].flatten) (Bu x):=Dm x
def TC (n:Int):Int:=bits .and .i64 n 17179869183
theorem AHV (m:Nat) (hm:m<9223372036854775808) (n:Int) (h63:(BitVec.ofInt 64 (m:Int)).toNat=m):∃k:Nat,k≤m∧bits .and .i64 n (m:Int)=(k:Int):=by
 have h:bits .and .i64 n (m:Int)=IntKind.i64.wrap (((BitVec.ofInt 64 n) &&& (BitVec.ofInt 64 (m:Int))).toNat:Int):=rfl
 have h2:((BitVec.ofInt 64 n) &&& (BitVec.ofInt 64 (m:Int))).toNat≤m:=by rw[BitVec.toNat_and,h63];exact Nat.and_le_right
 exact⟨_,h2,by rw[h];exact A1 (by omega) (by omega)⟩
theorem Jy (n:Int):CV (TC n)=true:=by
 obtain⟨k,hk,e⟩:=AHV 17179869183 (by decide) n (by decide)
 have e':TC n=(k:Int):=e
 rw[e']
 unfold CV
 rw[decide_eq_true (by omega),decide_eq_true (by omega)]
 rfl
theorem Vd (x:V) (n:Int) (b:Bool) (a:Int):TY Tryz.prog 27 ([vc x,[.int .i64 n],[.bool b],[.int .i64 a]].flatten) (Ef x n b a):=by
 refine TY.agg Tryz.underlying27 rfl (by kernel_rfl) ?_
 intro c hc
 simp[vc] at hc
 rcases hc with rfl|rfl|rfl|rfl|rfl|rfl<;>rfl
theorem Yb {P:Program} {a c:Int} {t:TypeId} {x y:Operand} {w:World} (i:Nat) (hi:i<64) (h:a/2^i=c):(do eqGuard .shr t x y (.int .i64 a) (.int .u64 (i:Int));binOp .shr t (.int .i64 a) (.int .u64 (i:Int)):Sem Value).run P w=.ok (.int .i64 c) w:=by
 subst h
 have h1:min i IntKind.i64.bits=i:=Nat.min_eq_left (by show i≤64;omega)
 simp[eqGuard,binOp_shr,shift_shr_any,h1]
def E4 (n:Nat):List Nat:=(n%6)::(zs 30++[7*(n%6)])
theorem KV (n:Nat):Dg (E4 n):=by
 refine⟨rfl,fun x hx=>?_⟩
 simp[E4,zs] at hx
 omega
theorem Yc {n:Nat} (h:n<6):E4 n=n::(zs 30++[7*n]):=by unfold E4;rw[Nat.mod_eq_of_lt h]
def Kr (n:Nat):DD:=⟨E4 n,KV n⟩
def Pa (n:Int) (i:Nat):Int:=bits .and .i64 (n/2^i) 1
def EF (n:Int):Nat→List DD
 | 0=>[]
 | i+1=>if Pa n i=1 then EF n i++[Kr i] else EF n i
theorem OH (n:Int):∀i,(EF n i).length≤i
 | 0=>Nat.le_refl _
 | i+1=>by
  have:=OH n i
  unfold EF
  split<;>simp<;>omega
def jt (b:Bool):Int:=if b then 1 else 0
theorem XH (x:V) (b:Bool) (hb:decide (x.text.size≤100)=b) (w:World) :
   Calls Tryz.prog 12 #[Bu x] w fun e w'=>e=.returned (.bool b)∧w.grownBy w' none:=by
 refine BM Tryz.func12 rfl Tryz.ntmps12 rfl fun a0 sv0=>?_
 have HG:=World.grownBy.refl w none
 replace sv0:Sv 7 [] [(0,Bu x)] a0:=sv0
 refine AIi fun K1 k1=>?_
 refine AIh ?_
 refine BT sv0 r6 (AHU x) fun a2 w2 B3 FJ g2 z2 AY sv2=>?_
 replace HG:=AA HG g2
 refine Aa (v:=.bool false) sv2 r6 fun a3 sv3=>?_
 refine AE ?_
 refine k1 _ _ ?_
 refine AIi fun K4 k4=>?_
 cases b
 · refine AIh ?_
   refine AL sv3 4 [(3,pk B3 2),(4,.string x.text),(5,.int .i64 ((x.text.size:Nat))),(6,.bool false)]
    ⟨yf r6 (fun _=>by kernel_rfl),yp (i:=2) r6 (AE0 x.text) AY rfl rfl,Ya (Tryz.underlying9) rfl rfl trivial (oy rfl rfl) (fun _=>rfl),Cm r6 (fun _=>ABH (by rw[←hb];exact decide_eq_decide.2 (by omega))),AIo⟩ fun a5 w5 g5 sv5=>?_
   refine Aa (v:=.bool false) sv5 r6 fun a6 sv6=>?_
   have sv7:Sv _ _ [_,_] _:=sv6.dl [3,4,5,6,1]
   refine AE ?_
   refine k4 _ _ ?_
   replace AY:=AC g5 AY
   replace HG:=AA HG g5
   refine AIl ?_
   repeat refine AM ?_
   refine A8 (fn:=Tryz.f12) sv7 (A7 (p:=2) Tryz.results12 sv7 rfl rfl) ?_
   exact⟨rfl,HG⟩
 · refine AIh ?_
   refine AL sv3 4 [(3,pk B3 2),(4,.string x.text),(5,.int .i64 ((x.text.size:Nat))),(6,.bool true)]
    ⟨yf r6 (fun _=>by kernel_rfl),yp (i:=2) r6 (AE0 x.text) AY rfl rfl,Ya (Tryz.underlying9) rfl rfl trivial (oy rfl rfl) (fun _=>rfl),Cm r6 (fun _=>ABH (by rw[←hb];exact decide_eq_decide.2 (by omega))),AIo⟩ fun a8 w8 g8 sv8=>?_
   refine Aa (v:=.bool true) sv8 r6 fun a9 sv9=>?_
   have CK:Sv _ _ [_,_] _:=sv9.dl [3,4,5,6,1]
   refine AE ?_
   refine k4 _ _ ?_
   replace HG:=AA HG g8
   refine AIl ?_
   repeat refine AM ?_
   refine A8 (fn:=Tryz.f12) CK (A7 (p:=2) Tryz.results12 CK rfl rfl) ?_
   exact⟨rfl,HG⟩
theorem LY (n:Nat) (hn:n<6) (w:World) :
  Calls Tryz.prog 30 #[.int .i64 ((n:Int))] w fun e w'=>e=.returned (AO (E4 n))∧w.grownBy w' none:=by
 have hdg:Dg (n::(zs 30++[7*n])):=Yc hn▸KV n
 rw[Yc hn]
 refine BM Tryz.func30 rfl Tryz.ntmps30 rfl fun a0 sv0=>?_
 have HG:=World.grownBy.refl w none
 replace sv0:Sv 9 [] [(0,.int .i64 ((n:Int)))] a0:=sv0
 refine AIi fun K1 k1=>?_
 refine AIh ?_
 refine As (T:=23) (Z:=(bv AS)) sv0 rfl rfl rfl (fun a w=>by kernel_rfl) fun a2 w2 CC Cq g2 z2 AG sv2=>?_
 have ED:=Bq HG Cq
 refine AE ?_
 refine k1 _ _ ?_
 refine AIi fun K3 k3=>?_
 refine AIh ?_
 refine AL sv2 6 [(3,.int .i64 ((n:Int))),(4,.int .u8 ((n:Int))),(5,.int .i64 ((n:Int))),(6,.int .i64 (((7*n:Nat):Int))),(7,.int .u8 (((7*n:Nat):Int))),(8,AO ((n::(zs 30++[7*n]))))]
  ⟨ym r5,KI r6 (fun _=>KM Tryz.underlying3 Tryz.underlying5 (Xo (by omega) (by omega))),ym r5,Mr rfl rfl trivial rfl (oy rfl rfl) (fun _=>AFZ (by rw[A1 (by omega) (by omega)];omega)) (fun _=>rfl),KI r6 (fun _=>KM Tryz.underlying3 Tryz.underlying5 (Xo (by omega) (by omega))),BI (vs:=[.int .u8 ((n:Int)),.int .u8 (((7*n:Nat):Int))]) rfl rfl trivial ⟨(oy rfl rfl),(oy rfl rfl),AIo⟩ (fun _=>AHt n (7*n) _) (fun _=>rfl),AIo⟩ fun a4 w4 g4 sv4=>?_
 refine An sv4 r7 (Bn ((n::(zs 30++[7*n]))) hdg.1) (AC g4 AG) (F5 hdg) fun w5 g5 h5=>?_
 replace HG:=AD (AA (AA HG g2) g4) g5 ED
 replace AG:=h5
 have sv6:Sv _ _ [_] _:=sv4.dl [3,4,5,6,7,8,0]
 refine AE ?_
 refine k3 _ _ ?_
 refine AIl ?_
 repeat refine AM ?_
 refine A8 (fn:=Tryz.f30) sv6 (EK (p:=2) Tryz.results30 sv6 rfl rfl (Bn ((n::(zs 30++[7*n]))) hdg.1) AG) ?_
 exact⟨rfl,HG⟩
theorem XI (x:V) (n a:Int) (w:World) :
  Calls Tryz.prog 18 #[Ef x n true a] w fun e w'=>e=.returned (.int .i64 1)∧w.grownBy w' none:=by
 refine BM Tryz.func18 rfl Tryz.ntmps18 rfl fun a0 sv0=>?_
 have HG:=World.grownBy.refl w none
 replace sv0:Sv 5 [] [(0,Ef x n true a)] a0:=sv0
 refine AIi fun K1 k1=>?_
 refine AIh ?_
 refine BT sv0 r6 (Vd x n true a) fun a2 w2 B3 FJ g2 z2 AY sv2=>?_
 refine Aa (v:=.int .i64 0) sv2 r6 fun a3 sv3=>?_
 refine AE ?_
 refine k1 _ _ ?_
 refine AIi fun K4 k4=>?_
 refine AIi fun K5 k5=>?_
 refine AIh ?_
 refine AL sv3 2 [(3,pk B3 4),(4,.bool true)]
  ⟨yf r6 (fun _=>by kernel_rfl),yp (i:=2) r6 (WG true) AY rfl rfl,AIo⟩ fun a6 w6 g6 sv6=>?_
 refine AE ?_
 refine k5 _ _ ?_
 refine Ap sv6 rfl rfl ?_
 refine AIi fun K7 k7=>?_
 refine AIh ?_
 refine Aa (v:=.int .i64 1) sv6 r6 fun a8 sv8=>?_
 refine AE ?_
 refine k7 _ _ ?_
 replace HG:=AA (AA HG g2) g6
 refine AIl ?_
 repeat refine AM ?_
 refine A8 (fn:=Tryz.f18) sv8 (A7 (p:=2) Tryz.results18 sv8 rfl rfl) ?_
 exact⟨rfl,HG⟩
theorem Ve (x:V) (n a:Int) (w:World) :
  Calls Tryz.prog 18 #[Ef x n false a] w fun e w'=>e=.returned (.int .i64 0)∧w.grownBy w' none:=by
 refine BM Tryz.func18 rfl Tryz.ntmps18 rfl fun a0 sv0=>?_
 have HG:=World.grownBy.refl w none
 replace sv0:Sv 5 [] [(0,Ef x n false a)] a0:=sv0
 refine AIi fun K1 k1=>?_
 refine AIh ?_
 refine BT sv0 r6 (Vd x n false a) fun a2 w2 B3 FJ g2 z2 AY sv2=>?_
 refine Aa (v:=.int .i64 0) sv2 r6 fun a3 sv3=>?_
 refine AE ?_
 refine k1 _ _ ?_
 refine AIi fun K4 k4=>?_
 refine AIi fun K5 k5=>?_
 refine AIh ?_
 refine AL sv3 2 [(3,pk B3 4),(4,.bool false)]
  ⟨yf r6 (fun _=>by kernel_rfl),yp (i:=2) r6 (WG false) AY rfl rfl,AIo⟩ fun a6 w6 g6 sv6=>?_
 refine AE ?_
 refine k5 _ _ ?_
 refine Au sv6 rfl rfl ?_
 refine AIm ?_
 refine k4 _ _ ?_
 refine AIi fun K7 k7=>?_
 refine AIh ?_
 refine Aa (v:=.int .i64 0) sv6 r6 fun a8 sv8=>?_
 refine AE ?_
 refine k7 _ _ ?_
 replace HG:=AA (AA HG g2) g6
 refine AIl ?_
 repeat refine AM ?_
 refine A8 (fn:=Tryz.f18) sv8 (A7 (p:=2) Tryz.results18 sv8 rfl rfl) ?_
 exact⟨rfl,HG⟩
theorem XJ (x:V) (n:Int) (b:Bool) (a:Int) (w:World):Calls Tryz.prog 18 #[Ef x n b a] w fun e w'=>e=.returned (.int .i64 (jt b))∧w.grownBy w' none:=by
 cases b
 · exact Ve x n a w
 · exact XI x n a w
theorem AAH (x:V) (n:Int) (b:Bool) (a:Int) (w:World) :
  Calls Tryz.prog 19 #[Ef x n b a] w fun e w'=>e=.returned (.int .i64 (TC a))∧w.grownBy w' none:=by
 refine BM Tryz.func19 rfl Tryz.ntmps19 rfl fun a0 sv0=>?_
 have HG:=World.grownBy.refl w none
 replace sv0:Sv 6 [] [(0,Ef x n b a)] a0:=sv0
 refine AIi fun K1 k1=>?_
 refine AIh ?_
 refine BT sv0 r6 (Vd x n b a) fun a2 w2 B3 FJ g2 z2 AY sv2=>?_
 refine Aa (v:=.int .i64 0) sv2 r6 fun a3 sv3=>?_
 refine AE ?_
 refine k1 _ _ ?_
 refine AIi fun K4 k4=>?_
 refine AIh ?_
 refine AL sv3 3 [(3,pk B3 5),(4,.int .i64 a),(5,.int .i64 ((TC a)))]
  ⟨yf r6 (fun _=>by kernel_rfl),yp (i:=3) r6 (Ff a) AY rfl rfl,Cm r6 (fun _=>Oc rfl),AIo⟩ fun a5 w5 g5 sv5=>?_
 refine Aa (v:=.int .i64 ((TC a))) sv5 r6 fun a6 sv6=>?_
 have sv7:Sv _ _ [_,_] _:=sv6.dl [3,4,5,1]
 refine AE ?_
 refine k4 _ _ ?_
 replace HG:=AA (AA HG g2) g5
 refine AIl ?_
 repeat refine AM ?_
 refine A8 (fn:=Tryz.f19) sv7 (A7 (p:=2) Tryz.results19 sv7 rfl rfl) ?_
 exact⟨rfl,HG⟩
theorem ND (n:Int) (w:World) :
  Calls Tryz.prog 37 #[.int .i64 n] w fun e w'=>e=.returned (Bu (Hg n))∧w.grownBy w' none:=by
 refine BM Tryz.func37 rfl Tryz.ntmps37 rfl fun a0 sv0=>?_
 have HG:=World.grownBy.refl w none
 replace sv0:Sv 6 [] [(0,.int .i64 n)] a0:=sv0
 refine AIi fun K1 k1=>?_
 refine AIh ?_
 refine As (T:=25) (Z:=[.int .i64 0,.int .i64 0,.string ⟨#[]⟩]) sv0 rfl rfl rfl (fun a w=>by kernel_rfl) fun a2 w2 CC Cq g2 z2 AG sv2=>?_
 have ED:=Bq HG Cq
 refine AE ?_
 refine k1 _ _ ?_
 refine AIi fun K3 k3=>?_
 refine AIh ?_
 refine AL sv2 3 [(3,.int .i64 n),(4,Bu ((⟨1,n,⟨#[]⟩⟩:V))),(5,Bu ((Hg n)))]
  ⟨ym r5,BI (vs:=[.int .i64 1,.int .i64 n]) rfl rfl trivial ⟨rfl,(oy rfl rfl),AIo⟩ (fun _=>AHT n _) (fun _=>rfl),Ad [Bu ((⟨1,n,⟨#[]⟩⟩:V))] Tryz.func25 (by kernel_rfl) rq4 ⟨(oy rfl rfl),AIo⟩ (Aq fun W g=>Tn _ W),AIo⟩ fun a4 w4 g4 sv4=>?_
 refine An sv4 r7 (Dm ((Hg n))) (AC g4 AG) rfl fun w5 g5 h5=>?_
 replace HG:=AD (AA (AA HG g2) g4) g5 ED
 replace AG:=h5
 have sv6:Sv _ _ [_] _:=sv4.dl [3,4,5,0]
 refine AE ?_
 refine k3 _ _ ?_
 refine AIl ?_
 repeat refine AM ?_
 refine A8 (fn:=Tryz.f37) sv6 (EK (p:=2) Tryz.results37 sv6 rfl rfl (Dm ((Hg n))) AG) ?_
 exact⟨rfl,HG⟩
theorem ACH (n:Int) (w:World) :
   Calls Tryz.prog 17 #[.int .i64 n] w fun e w'=>∃v,e=.returned v∧w.grownBy w' none∧(Sp.row w.heap.size 23 32 (EF n 6).length ((EF n 6).flatMap Jo)).on w' v:=by
 refine BM Tryz.func17 rfl Tryz.ntmps17 rfl fun a0 sv0=>?_
 have HG:=World.grownBy.refl w none
 replace sv0:Sv 21 [] [(0,.int .i64 n)] a0:=sv0
 refine AIi fun K1 k1=>?_
 refine AIh ?_
 refine Aa (v:=.slice none 0 0) sv0 r6 fun a2 sv2=>?_
 refine AE ?_
 refine k1 _ _ ?_
 refine AIi fun K3 k3=>?_
 refine AIh ?_
 refine Aa (v:=.slice none 0 0) sv2 r6 fun a4 sv4=>?_
 refine AE ?_
 refine k3 _ _ ?_
 refine AIi fun K5 k5=>?_
 refine AIi fun K6 k6=>?_
 refine AIh ?_
 refine Aa (v:=.int .i64 0) sv4 r6 fun a7 sv7=>?_
 refine AE ?_
 refine k6 _ _ ?_
 refine BB fun Q8 x8 y8 rt8 o8=>?_
 have okk:=Own.nil w 23 32
 have lo_okk:=ZU w
 refine wp_loop (fun a w'=>∃(i:Nat) (so:Option Addr) (sc:Nat) (m:Nat) (L:List DD),(i≤6)∧(L=EF n i)∧(L.length=m)∧Sv 21 [] [(4,.int .i64 ((i:Int))),(3,.slice so m sc),(2,.slice none 0 0),(0,.int .i64 n)] a∧w.grownBy w' none∧Own w' 23 32 (.slice so m sc) m (L.flatMap Jo)∧(∀k,BO (.slice so m sc) k→w.heap.size≤k)) (fun a _=>(6-intOf (a.tmps.getD 4 undef)).toNat) ⟨0,none,0,0,[],Nat.zero_le _,rfl,rfl,⟨sv7.1,sv7.2.1,sv7.2.2.1,sv7.2.2.2.1,sv7.2.2.2.2.1,sv7.2.2.2.2.2.1,AIo⟩,HG,okk,lo_okk⟩ fun a9 w9 hI9=>?_
 clear okk
 clear HG
 obtain⟨i,so,sc,m,L,hi6,hL,hm,sv9,HG,okk,lo_okk⟩:=hI9
 refine AIi fun K10 k10=>?_
 refine AIi fun K11 k11=>?_
 by_cases hi:i<6
 · refine AIh ?_
   refine AL sv9 2 [(5,.int .i64 ((i:Int))),(6,.bool true)]
     ⟨ym r5,Cm r6 (fun _=>Ba (decide_eq_true (by omega))),AIo⟩ fun a12 w12 g12 C6=>?_
   refine AE ?_
   refine k11 _ _ ?_
   refine Ap C6 rfl rfl ?_
   refine AIm ?_
   refine k10 _ _ ?_
   refine AIi fun K13 k13=>?_
   refine BB fun Q14 x14 y14 rt14 o14=>?_
   refine AIi fun K15 k15=>?_
   replace okk:=okk.kn g12
   replace HG:=AA HG g12
   by_cases hb:Pa n i=1
   · have hLl:=OH n i
     rw[←hL,hm] at hLl
     have hL1:L++[Kr i]=EF n (i+1):=by rw[show EF n (i+1)=EF n i++[Kr i] from if_pos hb,hL]
     refine AIh ?_
     refine AL C6 6 [(9,.int .i64 n),(10,.int .i64 ((i:Int))),(11,.int .u64 ((i:Int))),(12,.int .i64 ((n/2^i))),(13,.int .i64 ((Pa n i))),(14,.bool true)]
      ⟨ym r5,ym r5,KI r6 (fun _=>KM Tryz.underlying3 Tryz.underlying48 (Mt (by omega) (by omega))),Hl r7 (fun _=>Yb i (by omega) rfl),Cm r6 (fun _=>Oc rfl),Cm r6 (fun _=>CB (by rw[hb];rfl)),AIo⟩ fun a16 w16 g16 Cj=>?_
     refine AE ?_
     refine k15 _ _ ?_
     refine Ap Cj rfl rfl ?_
     refine AIh ?_
     refine AL Cj 3 [(15,.slice so m sc),(16,.int .i64 ((i:Int))),(17,AO ((E4 i)))]
      ⟨ym r5,ym r5,Ad [.int .i64 ((i:Int))] Tryz.func30 (by kernel_rfl) rq4 ⟨(oy rfl rfl),AIo⟩ (Aq fun W g=>LY i hi W),AIo⟩ fun a17 w17 g17 FH=>?_
     refine MF (cs:=bv ((E4 i))) (e:=23) FH rfl rfl rfl rfl rfl rfl (Zy (KV i)) fun a18 w18 AH8 AGS g18 z18 AEH CS=>?_
     replace okk:=((okk.kn g16).kn g17).kn g18
     replace HG:=AA (AA (AA HG g16) g17) g18
     refine LM dsT CS rfl rfl rfl rfl rfl rfl rfl rfl okk (KU AEH (KV i)) (Fj _) (by omega) fun a19 ao19 cap19 w19 owx19 CR Dj=>?_
     have ACI:=WV CR.2 lo_okk HG
     replace HG:=CJ HG CR.1 fun k e=>lo_okk k (e)
     rw[show bv (E4 i)=bv (Kr i).x from rfl,SU L (Kr i)] at owx19
     refine Aa (v:=.slice ao19 (m+1) cap19) Dj r6 fun a20 EL=>?_
     have DY:Sv _ _ [_,_,_,_,_,_,_,_,_,_,_,_] _:=EL.dl [19,18,15,16,17]
     refine AE ?_
     refine y14 _ _ ?_
     refine k13 _ _ ?_
     refine AIh ?_
     refine AL DY 2 [(7,.int .i64 ((i:Int))),(8,.int .i64 (((i+1:Nat):Int)))]
      ⟨ym r5,Cm r6 (fun _=>C4 (by rw[A1 (by omega) (by omega)];omega)),AIo⟩ fun a22 w22 g22 CX=>?_
     refine Aa (v:=.int .i64 (((i+1:Nat):Int))) CX r6 fun a23 Cg=>?_
     refine AE ?_
     replace owx19:=owx19.kn g22
     replace HG:=AA HG g22
     exact⟨⟨i+1,ao19,cap19,m+1,(L++[Kr i]),by omega,hL1,by rw[List.length_append,hm];rfl,⟨Cg.1,Cg.2.1,Cg.2.2.1,Cg.2.2.2.2.2.1,(AK Cg).2.2.2.2.2.2.1,(AK Cg).2.2.2.2.2.2.2.1,AIo⟩,HG,owx19,ACI⟩,by rw[show _=_ from Cg.2.2.1,show _=_ from sv9.2.2.1];simp[intOf];omega⟩
   · have hL1:L=EF n (i+1):=by rw[show EF n (i+1)=EF n i from if_neg hb,hL]
     refine AIh ?_
     refine AL C6 6 [(9,.int .i64 n),(10,.int .i64 ((i:Int))),(11,.int .u64 ((i:Int))),(12,.int .i64 ((n/2^i))),(13,.int .i64 ((Pa n i))),(14,.bool false)]
      ⟨ym r5,ym r5,KI r6 (fun _=>KM Tryz.underlying3 Tryz.underlying48 (Mt (by omega) (by omega))),Hl r7 (fun _=>Yb i (by omega) rfl),Cm r6 (fun _=>Oc rfl),Cm r6 (fun _=>CB (by simpa using hb)),AIo⟩ fun a24 w24 g24 DZ=>?_
     refine AE ?_
     refine k15 _ _ ?_
     refine Au DZ rfl rfl ?_
     refine AIm ?_
     refine y14 _ _ ?_
     refine k13 _ _ ?_
     refine AIh ?_
     refine AL DZ 2 [(7,.int .i64 ((i:Int))),(8,.int .i64 (((i+1:Nat):Int)))]
      ⟨ym r5,Cm r6 (fun _=>C4 (by rw[A1 (by omega) (by omega)];omega)),AIo⟩ fun a25 w25 g25 Cx=>?_
     have JM:=AA g24 g25
     refine Aa (v:=.int .i64 (((i+1:Nat):Int))) Cx r6 fun a26 CW=>?_
     refine AE ?_
     replace okk:=okk.kn JM
     replace HG:=AA HG JM
     exact⟨⟨i+1,so,sc,m,L,by omega,hL1,hm,⟨CW.1,CW.2.1,CW.2.2.1,(AK CW).2.2.2.2.2.1,(AK CW).2.2.2.2.2.2.1,(AK CW).2.2.2.2.2.2.2.1,AIo⟩,HG,okk,lo_okk⟩,by rw[show _=_ from CW.2.2.1,show _=_ from sv9.2.2.1];simp[intOf];omega⟩
 · obtain rfl:i=6:=by omega
   refine AIh ?_
   refine AL sv9 2 [(5,.int .i64 (((6:Nat):Int))),(6,.bool false)]
     ⟨ym r5,Cm r6 (fun _=>Ba (by simp)),AIo⟩ fun a27 w27 g27 IC=>?_
   refine AE ?_
   refine k11 _ _ ?_
   refine Au IC rfl rfl ?_
   refine wp_exit ?_
   repeat refine CD ?_
   refine x8 _ _ ?_
   refine k5 _ _ ?_
   refine AIi fun K28 k28=>?_
   refine AIh ?_
   refine AL IC 1 [(20,.slice so m sc)]
     ⟨ym r5,AIo⟩ fun a29 w29 g29 CI=>?_
   have IV:=AA g27 g29
   refine Aa (v:=.slice so m sc) CI r6 fun a30 EQ=>?_
   refine AE ?_
   refine k28 _ _ ?_
   replace okk:=okk.kn IV
   replace HG:=AA HG IV
   refine AIl ?_
   repeat refine AM ?_
   subst hL hm
   refine A8 (fn:=Tryz.f17) EQ (A7 (p:=2) Tryz.results17 EQ rfl rfl) ?_
   exact⟨_,rfl,HG,_,_,rfl,okk,lo_okk⟩
end Go.Proofs.YtbfjfnbcmojpiaaGreat
namespace Go.Proofs.YtbfjfnbcmojpiaaGreat
open Go.ChangeShapes Go.WideShapes Go.ChangeAt Go.RowKit Go.Deep
theorem Vo {a b:World} (h:a.grownBy b none):Below a.heap.size a b:=
 ⟨h.os,h.tape,h.output,h.size,fun i hi=>h.block i hi (by simp)⟩
theorem XV:laidOutB Tryz.prog=true:=by kernel_rfl
theorem Qz:Tryz.prog.cellsOf 25=3:=by kernel_rfl
theorem AAT:Tryz.prog.cellsOf 27=6:=by kernel_rfl
theorem Yo:Tryz.prog.cellsOf 9=1:=by kernel_rfl
theorem ACg:Tryz.prog.cellsOf 4=1:=by kernel_rfl
theorem XW:Tryz.prog.cellsOf 3=1:=by kernel_rfl
theorem Th:Tryz.prog.cellsOf 2=1:=by kernel_rfl
theorem AE6 {H:Type} {enc:TypeId×Value→H} {W:World} {b0:Nat}:∀fuel cs y,DataW.trod enc Tryz.prog W b0 (fun _=>true) true fuel 25 cs=some y→∃x:V,cs=vc x:=by
 intro fuel cs y h
 obtain⟨xs,k,_,_,hl,hxl,hf⟩:=DataW.trod_struct Tryz.underlying25 h
 rw[Qz] at hl
 match cs,hl with
 | [a,b,c],_ =>
  obtain⟨y0,h0⟩:=Kz hxl hf 0 _ rfl 3 rfl 1 XW
  obtain⟨y1,h1⟩:=Kz hxl hf 1 _ rfl 2 rfl 1 Th
  obtain⟨y2,h2⟩:=Kz hxl hf 2 _ rfl 9 rfl 1 Yo
  obtain⟨n0,e0,_,r0⟩:=DataW.trod_int Tryz.underlying3 h0
  obtain⟨n1,e1,_,r1⟩:=DataW.trod_int Tryz.underlying2 h1
  obtain⟨s2,e2,_,r2⟩:=DataW.trod_string Tryz.underlying9 h2
  simp at e0 e1 e2
  subst e0 e1 e2
  exact⟨⟨n0,n1,s2⟩,rfl⟩
theorem Ym {H:Type} {enc:TypeId×Value→H} {W:World} {r:Reach} {base b0:Nat} {v:Value} {d:DataW H} {p:List MemPlace} (hv:Value.okWide Tryz.prog W r base 27 v) (h:DataW.Trod enc Tryz.prog W b0 (fun _=>true) true 27 v d p):∃(x:V) (n:Int) (b:Bool) (a:Int),v=Ef x n b a∧True:=by
 obtain⟨cs,rfl,hcell⟩:=Pn Tryz.underlying27 hv
 obtain⟨fuel,hf⟩:=h
 have hf':DataW.trod enc Tryz.prog W b0 (fun _=>true) true fuel 27 cs.toList=some (d,p):=hf
 obtain⟨xs,k,_,_,hl,hxl,hf⟩:=DataW.trod_struct Tryz.underlying27 hf'
 rw[AAT] at hl
 obtain⟨l⟩:=cs
 match l,hl with
 | [a,b,c,e,f,g],_ =>
  obtain⟨y0,t0⟩:=Kz hxl hf 0 _ rfl 25 rfl 3 Qz
  obtain⟨y1,t1⟩:=Kz hxl hf 1 _ rfl 3 rfl 1 XW
  obtain⟨y2,t2⟩:=Kz hxl hf 2 _ rfl 4 rfl 1 ACg
  obtain⟨y3,t3⟩:=Kz hxl hf 3 _ rfl 2 rfl 1 Th
  obtain⟨v0,e0⟩:=AE6 _ _ _ t0
  obtain⟨n1,e1,_,_⟩:=DataW.trod_int Tryz.underlying3 t1
  obtain⟨b2,e2,_⟩:=DataW.trod_bool Tryz.underlying4 t2
  obtain⟨n3,e3,_,_⟩:=DataW.trod_int Tryz.underlying2 t3
  simp[vc] at e0 e1 e2 e3
  obtain⟨rfl,rfl,rfl⟩:=e0
  subst e1 e2 e3
  exact⟨v0,n1,b2,n3,rfl,AIo⟩
end Go.Proofs.YtbfjfnbcmojpiaaGreat
namespace Go.Proofs.YtbfjfnbcmojpiaaGreat
open Go.RowKit Go.Shelf
theorem Yd {w:World} {k b:Nat} {c:Array Value} {T:TypeId} {fr:Nat×Nat} (h:TagV w k) (hb:w.heap[b]?=some (.cells c T fr)) (hT:T≠132∧T≠58):k≠b:=by
 rcases h with h|⟨c',fr',h1⟩
 · exact ABD h hb hT.1
 · rintro rfl
   rw[hb] at h1
   simp only[Option.some.injEq,Obj.cells.injEq] at h1
   exact hT.2 h1.2.1
theorem LZ {w:World} {p:Nat→Prop} {b:Nat} {c:Array Value} {T:TypeId} {fr:Nat×Nat} (hf:∀k,p k→(fun _=>False) k∨TagV w k) (hb:w.heap[b]?=some (.cells c T fr)) (hT:T≠132∧T≠58):∀k,p k→k≠b:=fun k hk=>(hf k hk).elim (fun h=>h.elim) fun t=>Yd t hb hT
theorem XK {w:World} {p q:Nat→Prop} {b:Nat} {c:Array Value} {T:TypeId} {fr:Nat×Nat} (hf:∀k,p k→q k∨TagV w k) (ha:∀k,q k→k≠b) (hb:w.heap[b]?=some (.cells c T fr)) (hT:T≠132∧T≠58):∀k,p k→k≠b:=fun k hk=>(hf k hk).elim (ha k) fun t=>Yd t hb hT
def Sp.vv (V:VV) (fp:Nat→Prop):Sp:=⟨fun w v=>∃ao cap ks,v=Ao V.2.1 V.2.2 (.slice ao (List.length ks) cap)∧ks.map VK.p=V.1∧RdK w (.slice ao (List.length ks) cap) ks∧∀k,Je (.slice ao (List.length ks) cap) ks k→fp k∨TagV w k,fun _ _ _ hg ⟨ao,cap,ks,h1,h2,h3,h4⟩=>⟨ao,cap,ks,h1,h2,h3.kn hg,Oy hg h4⟩⟩
theorem Pb {r:VV×Int} {fp:Nat→Prop} (w:World) (u:Value) (h:(Sp.vt r fp).on w u):∃vs v,u=.tuple vs∧vs[0]?=some v∧(Sp.vv r.1 fp).on w v:=by
 obtain⟨ao,cap,ks,h1,h2⟩:=h
 exact⟨_,_,h1,rfl,ao,cap,ks,rfl,h2⟩
theorem Pc {r:VV×Int} {fp:Nat→Prop} (w:World) (u:Value) (h:(Sp.vt r fp).on w u):∃vs v,u=.tuple vs∧vs[1]?=some v∧(Sp.is (.int .i64 r.2)).on w v:=by
 obtain⟨ao,cap,ks,h1,h2⟩:=h
 exact⟨_,_,h1,rfl,rfl⟩
def TgF (w:World) (p q:Nat→Prop):Prop:=∀k,p k→q k∨TagV w k
theorem TgF.kn {w w':World} {p q:Nat→Prop} (h:TgF w p q) (g:w.grownBy w' none):TgF w' p q:=Oy g h
theorem TgF.offR {w w':World} {p q:Nat→Prop} (h:TgF w p q) {row:Option Nat} (g:w.grownBy w' row) (hb:∀k,p k→row≠some k):TgF w' p q:=fun k hk=>(h k hk).imp id (·.keep g (hb k hk))
theorem TgF.join {w:World} {p q r:Nat→Prop} (h:TgF w p q) (h2:TgF w q r):TgF w p r:=fun k hk=>(h k hk).elim (h2 k) .inr
theorem TgF.none (w:World):TgF w (Je (.slice none 0 0) []) (fun _=>False):=fun k hk=>(Lw k hk).elim
theorem Ye {i j:Nat} (hi:i<6) (hj:j<6) (h:E4 i=E4 j):i=j:=by
 have:=(List.cons.inj h).1
 omega
def Vf (seed:List Nat):Nat→List Nat
 | 0=>kd 274 seed
 | j+1=>kd 276 (Vf seed j)
theorem F8 (seed:List Nat):∀j,Dg (Vf seed j)
 | 0=>BF _ _
 | _+1=>BF _ _
def Tsd (seed:List Nat) (j:Nat):List Nd:=tree (kd 275 (Vf seed j)) []
def Pd (seed:List Nat):Nat→List VP
 | 0=>[]
 | i+1=>LG (Pd seed i) (E4 i) (Tsd seed i)
def OV (T:Nat→List Nd) (P:List VP) (i:Nat):Prop:=CE P=true∧P.length=i∧∀x,x∈P↔∃j,j<i∧x=(E4 j,T j)
theorem OV.not {T:Nat→List Nd} {P:List VP} {i:Nat} (h:OV T P i) (hi:i<6):Hd P (E4 i)=false:=Xl (Srt.of h.1) fun hm=>by
 obtain⟨x,hx,e⟩:=List.mem_map.1 hm
 obtain⟨j,hj,rfl⟩:=(h.2.2 x).1 hx
 have:=Ye (by omega) hi e
 omega
theorem OV.succ {T:Nat→List Nd} {P:List VP} {i:Nat} (h:OV T P i) (hi:i<6) (hT:∀j,GB (T j)=true):OV T (LG P (E4 i) (T i)) (i+1):=by
 refine⟨Uq h.1 (h.not hi) (by rw[h.2.1];omega) (hT i),by rw[AC8,h.2.1],fun x=>?_⟩
 rw[Xm,h.2.2 x]
 constructor
 · rintro (rfl|⟨j,hj,rfl⟩)
   · exact⟨i,by omega,rfl⟩
   · exact⟨j,by omega,rfl⟩
 · rintro ⟨j,hj,rfl⟩
   by_cases e:j=i
   · subst e;exact .inl rfl
   · exact .inr ⟨j,by omega,rfl⟩
theorem AEI (seed:List Nat) (j:Nat):GB (Tsd seed j)=true:=Ij _
theorem Jz (seed:List Nat):∀i,i≤6→OV (Tsd seed) (Pd seed i) i
 | 0,_=>⟨rfl,rfl,by simp[Pd]⟩
 | i+1,h=>(Jz seed i (by omega)).succ (by omega) (AEI seed)
def V6 (seed:List Nat):VV:=(Pd seed 6,kd 273 seed,Vf seed 6)
theorem AGB {seed:List Nat} {i:Nat} {P:List VP} (hP:P=Pd seed i) (hi:i<6):KZ (P,kd 273 seed,Vf seed i) (E4 i) (Tsd seed i) (kd 276 (Vf seed i))=((Pd seed (i+1),kd 273 seed,Vf seed (i+1)),0):=by
 subst hP
 have h:=Jz seed i (by omega)
 exact UH h.1 (h.not hi) (by rw[h.2.1];omega)
def ACJ (a b c:Value) (k:Nat):Prop:=BO a k∨BO b k∨BO c k
def SdF (w:World) (s:Sd) (own wr:List DD) (ao wo bo:Option Addr) (ac wc bc:Nat):Prop:=own.map DD.x=s.own∧wr.map DD.x=s.wr ∧
 Own w 23 32 (.slice ao own.length ac) own.length (own.flatMap Jo)∧Own w 23 32 (.slice wo wr.length wc) wr.length (wr.flatMap Jo)∧Own w 5 1 (.slice bo s.body.length bc) s.body.length (bv s.body) ∧
 (∀k,BO (.slice ao own.length ac) k→¬BO (.slice wo wr.length wc) k)∧Dg s.tag∧By s.body
section
variable {w w':World} {s:Sd} {own wr:List DD} {ao wo bo:Option Addr} {ac wc bc:Nat}
theorem SdF.kn (h:SdF w s own wr ao wo bo ac wc bc) (g:w.grownBy w' none):SdF w' s own wr ao wo bo ac wc bc:=by
 obtain⟨h1,h2,h3,h4,h5,h6⟩:=h
 exact⟨h1,h2,h3.kn g,h4.kn g,h5.kn g,h6⟩
theorem SdF.offR (h:SdF w s own wr ao wo bo ac wc bc) {row:Option Nat} (g:w.grownBy w' row) (hb:∀k,ACJ (.slice ao own.length ac) (.slice wo wr.length wc) (.slice bo s.body.length bc) k→row≠some k):SdF w' s own wr ao wo bo ac wc bc:=by
 obtain⟨h1,h2,h3,h4,h5,h6⟩:=h
 exact⟨h1,h2,h3.offR g fun k hk=>hb k (.inl hk),h4.offR g fun k hk=>hb k (.inr (.inl hk)),h5.offR g fun k hk=>hb k (.inr (.inr hk)),h6⟩
theorem SdF.lt (h:SdF w s own wr ao wo bo ac wc bc):∀k,ACJ (.slice ao own.length ac) (.slice wo wr.length wc) (.slice bo s.body.length bc) k→k<w.heap.size:=by
 obtain⟨h1,h2,h3,h4,h5,h6⟩:=h
 rintro k (hk|hk|hk)
 · exact Own.ltS h3 k hk
 · exact Own.ltS h4 k hk
 · exact Own.ltS h5 k hk
theorem SdF.ap (h:SdF w s own wr ao wo bo ac wc bc) {b:Nat} {c:Array Value} {T:TypeId} {fr:Nat×Nat} (hb:w.heap[b]?=some (.cells c T fr)) (hT:T≠23∧T≠5):∀k,ACJ (.slice ao own.length ac) (.slice wo wr.length wc) (.slice bo s.body.length bc) k→k≠b:=by
 obtain⟨h1,h2,h3,h4,h5,h6⟩:=h
 rintro k (hk|hk|hk) rfl
 · exact Own.ne h3 hb (Ne.symm hT.1) hk
 · exact Own.ne h4 hb (Ne.symm hT.1) hk
 · exact Own.ne h5 hb (Ne.symm hT.2) hk
theorem SdF.ro (h:SdF w s own wr ao wo bo ac wc bc):RdD w (.slice ao own.length ac) own:=Own.sb h.2.2.1
theorem SdF.rw (h:SdF w s own wr ao wo bo ac wc bc):RdD w (.slice wo wr.length wc) wr:=Own.sb h.2.2.2.1
theorem SdF.rb (h:SdF w s own wr ao wo bo ac wc bc):SlB w 1 (.slice bo s.body.length bc) s.body.length (bv s.body):=Own.sb h.2.2.2.2.1
theorem SdF.tg (h:SdF w s own wr ao wo bo ac wc bc):Dg s.tag:=h.2.2.2.2.2.2.1
theorem SdF.by (h:SdF w s own wr ao wo bo ac wc bc):By s.body:=h.2.2.2.2.2.2.2
theorem SdF.sd (h:SdF w s own wr ao wo bo ac wc bc):(⟨s.addr,own.map DD.x,s.joint,wr.map DD.x,s.body,s.tag⟩:Sd)=s:=by rw[h.1,h.2.1]
end
def Sp.sr (B:Nat) (r:Sd×Int):Sp:=⟨fun w v=>∃own wr ao wo bo ac wc bc,v=.tuple #[CP r.1.addr (.slice ao (List.length own) ac) r.1.joint (.slice wo (List.length wr) wc) (.slice bo r.1.body.length bc) r.1.tag,.int .i64 r.2]∧SdF w r.1 own wr ao wo bo ac wc bc∧∀k,ACJ (.slice ao (List.length own) ac) (.slice wo (List.length wr) wc) (.slice bo r.1.body.length bc) k→B≤k,
 fun _ _ _ hg ⟨own,wr,ao,wo,bo,ac,wc,bc,h1,h2,h3⟩=>⟨own,wr,ao,wo,bo,ac,wc,bc,h1,h2.kn hg,h3⟩⟩
def Sp.sl (B:Nat) (s:Sd):Sp:=⟨fun w v=>∃own wr ao wo bo ac wc bc,v=CP s.addr (.slice ao (List.length own) ac) s.joint (.slice wo (List.length wr) wc) (.slice bo s.body.length bc) s.tag∧SdF w s own wr ao wo bo ac wc bc∧∀k,ACJ (.slice ao (List.length own) ac) (.slice wo (List.length wr) wc) (.slice bo s.body.length bc) k→B≤k,
 fun _ _ _ hg ⟨own,wr,ao,wo,bo,ac,wc,bc,h1,h2,h3⟩=>⟨own,wr,ao,wo,bo,ac,wc,bc,h1,h2.kn hg,h3⟩⟩
theorem Yf {B:Nat} {r:Sd×Int} (w:World) (u:Value) (h:(Sp.sr B r).on w u):∃vs v,u=.tuple vs∧vs[0]?=some v∧(Sp.sl B r.1).on w v:=by
 obtain⟨own,wr,ao,wo,bo,ac,wc,bc,h1,h2⟩:=h
 exact⟨_,_,h1,rfl,own,wr,ao,wo,bo,ac,wc,bc,rfl,h2⟩
theorem NE {B:Nat} {r:Sd×Int} (w:World) (u:Value) (h:(Sp.sr B r).on w u):∃vs v,u=.tuple vs∧vs[1]?=some v∧(Sp.is (.int .i64 r.2)).on w v:=by
 obtain⟨own,wr,ao,wo,bo,ac,wc,bc,h1,h2⟩:=h
 exact⟨_,_,h1,rfl,rfl⟩
theorem SRes.sr {w w':World} {B:Nat} {r:Sd×Int} {e:Ending} (h:SRes w w' r e) (hB:B≤w.heap.size):∃v,e=.returned v∧w.grownBy w' none∧(Sp.sr B r).on w' v:=by
 obtain⟨own,wr,ao,wo,bo,ac,wc,bc,h1,h2,h3,h4,h5,h6,f1,f2,f3,f4,h7,h8,h9⟩:=h
 refine⟨_,h1,h9,own,wr,ao,wo,bo,ac,wc,bc,rfl,⟨h2,h3,h4,h5,h6,f4,h7,h8⟩,?_⟩
 rintro k (hk|hk|hk)
 · exact Nat.le_trans hB (f1 k hk)
 · exact Nat.le_trans hB (f2 k hk)
 · exact Nat.le_trans hB (f3 k hk)
theorem XL {W:World} {B:Nat} {ks:List VK} {vo:Option Addr} {vc_:Nat} {sa po:List Nat} (hsa:Dg sa) (hpo:Dg po) {P:List VP} {ds:List DD} {v:Value} {joint ad:Int} {x:V} {r:Sd×Int} (hr:RdK W (.slice vo ks.length vc_) ks) (hP:ks.map VK.p=P) (ho:RdD W v ds) (hdl:ds.length≤1000) (hB:B≤W.heap.size) (hres:Et P (ds.map DD.x) joint ad x=r) :
  Calls Tryz.prog 20 #[Ao sa po (.slice vo ks.length vc_),v,.int .i64 joint,.int .i64 ad,Bu x] W fun e w'=>∃v,e=.returned v∧W.grownBy w' none∧(Sp.sr B r).on w' v:=by
 obtain⟨ao,cap,rfl⟩:=ho.shape
 subst hP hres
 exact(Z5 ks vo vc_ sa po hsa hpo ds ao cap joint ad x W hr ho hdl).mono fun e w' h=>h.sr hB
def Pe (P:List VP) (x:V) (n:Int) (b:Bool) (a:Int):Sd×Int:=Et P ((EF n 6).map DD.x) (jt b) (TC a) x
theorem AGC (n:Int) {w0 W:World} (g:w0.grownBy W none):Calls Tryz.prog 17 #[.int .i64 n] W fun e w'=>∃v,e=.returned v∧W.grownBy w' none∧(Sp.row w0.heap.size 23 32 (EF n 6).length ((EF n 6).flatMap Jo)).on w' v:=
 (ACH n W).mono fun e w' ⟨v,h1,h2,ao,cap,h3,h4,h5⟩=>⟨v,h1,h2,ao,cap,h3,h4,fun k hk=>Nat.le_trans g.size (h5 k hk)⟩
theorem AHW {W:World} {B:Nat} {ds:List DD} {v:Value} (h:(Sp.row B 23 32 ds.length (ds.flatMap Jo)).on W v):RdD W v ds:=by
 obtain⟨ao,cap,rfl,h2,_⟩:=h
 exact Own.sb h2
theorem XM (seed:List Nat) (hse:Dg seed) (w:World) :
   Calls Tryz.prog 14 #[AO seed] w fun e w'=>∃v,e=.returned v∧w.grownBy w' none∧(Sp.vv (V6 seed) (fun _=>False)).on w' v:=by
 refine BM Tryz.func14 rfl Tryz.ntmps14 rfl fun a0 sv0=>?_
 have HG:=World.grownBy.refl w none
 replace sv0:Sv 19 [] [(0,AO seed)] a0:=sv0
 refine AIi fun K1 k1=>?_
 refine AIh ?_
 refine BT sv0 r6 (Bn seed hse.1) fun a2 w2 B3 FJ g2 z2 AY sv2=>?_
 replace HG:=AA HG g2
 refine As (T:=36) (Z:=([bv AS,bv AS,[.slice none 0 0]].flatten)) sv2 rfl rfl rfl (fun a w=>by kernel_rfl) fun a3 w3 Mx Hq g3 z3 B8 sv3=>?_
 have Ir:=Bq HG Hq
 replace AY:=AC g3 AY
 refine AE ?_
 refine k1 _ _ ?_
 refine AIi fun K4 k4=>?_
 refine AIh ?_
 refine AL sv3 2 [(5,AO seed),(6,Ao ((kd 273 seed)) ((Vf seed 0)) (.slice none 0 0))]
   ⟨yl r6 (Bn seed hse.1) AY,Ad [AO seed] Tryz.func38 (by kernel_rfl) rq4 ⟨(oy rfl rfl),AIo⟩ (Aq fun W g=>Wa seed hse W),AIo⟩ fun a5 w5 g5 sv5=>?_
 replace AY:=AC g5 AY
 replace B8:=AC g5 B8
 replace HG:=AA (AA HG g3) g5
 refine As (T:=36) (Z:=([bv AS,bv AS,[.slice none 0 0]].flatten)) sv5 rfl rfl rfl (fun a w=>by kernel_rfl) fun a6 w6 AEJ TE g6 z6 HU sv6=>?_
 have MX:=Ar AY TE
 have MY:=Ar B8 TE
 have Yg:=Bq HG TE
 refine An sv6 r7 (BX (BF _ _) (F8 seed 0) (.slice none 0 0) rfl) HU (by first|rfl|simp[AZ,AI,AQ,(BF _ _).1,(F8 seed 0).1]) fun w7 g7 h7=>?_
 replace AY:=Ab g7 (AC g6 AY) (Ne.symm MX)
 replace B8:=Ab g7 (AC g6 B8) (Ne.symm MY)
 replace HG:=AD (AA HG g6) g7 Yg
 replace HU:=h7
 refine AE ?_
 refine k4 _ _ ?_
 refine AIi fun K8 k8=>?_
 refine AIi fun K9 k9=>?_
 refine AIh ?_
 refine Aa (v:=.int .i64 0) sv6 r6 fun a10 CK=>?_
 refine AE ?_
 refine k9 _ _ ?_
 refine BB fun Q11 x11 y11 rt11 o11=>?_
 have hr:=RdK.nil w7
 have La:∀k,Je (.slice none 0 0) [] k→k≠B3:=fun k hk=>(Lw k hk).elim
 have Ha:∀k,Je (.slice none 0 0) [] k→k≠Mx:=fun k hk=>(Lw k hk).elim
 have Hb:∀k,Je (.slice none 0 0) [] k→k≠AEJ:=fun k hk=>(Lw k hk).elim
 have ht:=TgF.none w7
 refine wp_loop (fun a w'=>∃(i:Nat) (ks:List VK) (ao:Option Addr) (cap:Nat),(i≤6)∧(ks.map VK.p=Pd seed i)∧Sv 19 [] [(4,.int .i64 ((i:Int))),(3,pt AEJ),(5,AO seed),(6,Ao ((kd 273 seed)) ((Vf seed 0)) (.slice none 0 0)),(2,pt Mx),(1,pt B3),(0,AO seed)] a∧w.grownBy w' none∧w'.heap[B3]?=some (.cells (bv seed).toArray 23 (0,0))∧w'.heap[Mx]?=some (.cells (([bv AS,bv AS,[.slice none 0 0]].flatten)).toArray 36 (0,0))∧w'.heap[AEJ]?=some (.cells ([bv ((kd 273 seed)),bv ((Vf seed i)),[.slice ao ks.length cap]].flatten).toArray 36 (0,0))∧RdK w' (.slice ao ks.length cap) ks∧TgF w' (Je (.slice ao ks.length cap) ks) (fun _=>False)∧(∀k,Je (.slice ao ks.length cap) ks k→k≠B3)∧(∀k,Je (.slice ao ks.length cap) ks k→k≠Mx)∧(∀k,Je (.slice ao ks.length cap) ks k→k≠AEJ)) (fun a _=>(6-intOf (a.tmps.getD 4 undef)).toNat) ⟨0,[],none,0,by omega,rfl,⟨CK.1,CK.2.1,CK.2.2.1,CK.2.2.2.1,CK.2.2.2.2.1,CK.2.2.2.2.2.1,CK.2.2.2.2.2.2.1,CK.2.2.2.2.2.2.2.1,(AK CK).1,AIo⟩,HG,AY,B8,HU,hr,ht,La,Ha,Hb⟩ fun a12 w12 hI12=>?_
 clear AY
 clear B8
 clear HU
 clear hr
 clear ht
 clear HG
 obtain⟨i,ks,ao,cap,hi6,hP,C6,HG,AY,B8,HU,hr,ht,La,Ha,Hb⟩:=hI12
 refine AIi fun K13 k13=>?_
 refine AIi fun K14 k14=>?_
 by_cases hi:i<6
 · refine AIh ?_
   refine AL C6 2 [(7,.int .i64 ((i:Int))),(8,.bool true)]
    ⟨ym r5,Cm r6 (fun _=>Ba (decide_eq_true (by omega))),AIo⟩ fun a15 w15 g15 LS=>?_
   refine AE ?_
   refine k14 _ _ ?_
   refine Ap LS rfl rfl ?_
   refine AIm ?_
   refine k13 _ _ ?_
   refine AIi fun K16 k16=>?_
   refine BB fun Q17 x17 y17 rt17 o17=>?_
   replace HU:=AC g15 HU
   replace hr:=hr.kn g15
   refine DB (LS.st w15) (by kernel_rfl) 7 [(12,Sp.is (Ao ((kd 273 seed)) ((Vf seed i)) (.slice ao ks.length cap))),(13,Sp.is (.int .i64 ((i:Int)))),(14,Sp.is (AO ((E4 i)))),(15,Sp.vt ((Pd seed (i+1),(kd 273 seed),(Vf seed (i+1))),(0:Int)) (Je (.slice ao ks.length cap) ks)),(11,Sp.vt ((Pd seed (i+1),(kd 273 seed),(Vf seed (i+1))),(0:Int)) (Je (.slice ao ks.length cap) ks)),(16,Sp.vv (Pd seed (i+1),(kd 273 seed),(Vf seed (i+1))) (Je (.slice ao ks.length cap) ks)),(17,Sp.is (.int .i64 0))] rfl (by kernel_rfl) (by kernel_rfl) (by kernel_rfl) [6] (by kernel_rfl)
    ⟨yl r6 (BX (BF _ _) (F8 seed i) (.slice ao ks.length cap) rfl) HU,ym r5,Ad [.int .i64 ((i:Int))] Tryz.func30 (by kernel_rfl) rq4 ⟨(oy rfl rfl),AIo⟩ (Aq fun W g=>LY i hi W),Ad [Ao ((kd 273 seed)) ((Vf seed i)) (.slice ao ks.length cap),AO ((E4 i))] Tryz.func39 (by kernel_rfl) rq4 ⟨(oy rfl rfl),(oy rfl rfl),AIo⟩ (ADi (BF _ _) (F8 seed i) (KV i) hr rfl (T:=Tsd seed i) rfl (AGB hP hi)),ym r5,BH rq4 (fun w u h=>Pb w u h),BH rq4 (fun w u h=>Pc w u h),AIo⟩ ⟨fun o ho=>by obtain rfl:=Option.some.inj ho;exact Im rfl rfl rfl trivial (fun w u h=>Pc w u h),AIo⟩
    [] (by kernel_rfl) trivial ⟨.inl rfl,.inl rfl,.inl rfl,.inl rfl,.inl rfl,.inl rfl,.inl rfl,AIo⟩ (by kernel_rfl) fun a18 w18 g18 st18 nd18=>?_
   obtain⟨hn18,hd18,e18_12,e18_13,e18_14,e18_15,e18_11,e18_16,e18_17,e18_7,e18_8,e18_4,e18_3,e18_5,e18_6,e18_2,e18_1,e18_0,-⟩:=st18
   obtain⟨ao19,cap19,ks19,e18_16q,hp19,hk19,hf19⟩:=e18_16
   replace AY:=AC g18 (AC g15 AY)
   replace B8:=AC g18 (AC g15 B8)
   replace HU:=AC g18 HU
   have TF:=XK hf19 La AY (by decide)
   have TG:=XK hf19 Ha B8 (by decide)
   have JA:=XK hf19 Hb HU (by decide)
   have CS:Sv 19 [] [(7,_),(8,_),(4,_),(3,_),(5,_),(6,_),(2,_),(1,_),(0,_),(16,_)] a18:=⟨hn18,hd18,e18_7,e18_8,e18_4,e18_3,e18_5,e18_6,e18_2,e18_1,e18_0,e18_16q,AIo⟩
   refine An CS r7 (BX (BF _ _) (F8 seed (i+1)) (.slice ao19 ks19.length cap19) rfl) HU (by first|rfl|simp[AZ,AI,AQ,(BF _ _).1,(F8 seed (i+1)).1,(BF _ _).1,(F8 seed i).1]) fun w20 g20 h20=>?_
   refine AE ?_
   refine y17 _ _ ?_
   refine k16 _ _ ?_
   refine AIh ?_
   refine AL CS 2 [(9,.int .i64 ((i:Int))),(10,.int .i64 (((i+1:Nat):Int)))]
    ⟨ym r5,Cm r6 (fun _=>C4 (by rw[A1 (by omega) (by omega)];omega)),AIo⟩ fun a21 w21 g21 DY=>?_
   refine Aa (v:=.int .i64 (((i+1:Nat):Int))) DY r6 fun a22 CX=>?_
   refine AE ?_
   replace AY:=AC g21 (Ab g20 AY (Ne.symm MX))
   replace B8:=AC g21 (Ab g20 B8 (Ne.symm MY))
   replace HU:=AC g21 h20
   replace hr:=((hr.kn g18).offR g20 (AU Hb)).kn g21
   replace ht:=TgF.kn (TgF.offR (TgF.kn (TgF.kn ht g15) g18) g20 (AU Hb)) g21
   replace hk19:=(hk19.offR g20 (AU JA)).kn g21
   replace hf19:=TgF.kn (TgF.offR hf19 g20 (AU JA)) g21
   replace HG:=AA (AD (AA (AA HG g15) g18) g20 Yg) g21
   have htn:=hf19.join ht
   exact⟨⟨i+1,ks19,ao19,cap19,by omega,hp19,⟨CX.1,CX.2.1,CX.2.2.1,CX.2.2.2.2.2.2.2.1,(AK CX).1,(AK CX).2.1,(AK CX).2.2.1,(AK CX).2.2.2.1,(AK CX).2.2.2.2.1,AIo⟩,HG,AY,B8,HU,hk19,htn,TF,TG,JA⟩,by rw[show _=_ from CX.2.2.1,show _=_ from C6.2.2.1];simp[intOf];omega⟩
 · obtain rfl:i=6:=by omega
   refine AIh ?_
   refine AL C6 2 [(7,.int .i64 (((6:Nat):Int))),(8,.bool false)]
    ⟨ym r5,Cm r6 (fun _=>Ba (by simp)),AIo⟩ fun a23 w23 g23 Cg=>?_
   refine AE ?_
   refine k14 _ _ ?_
   refine Au Cg rfl rfl ?_
   refine wp_exit ?_
   repeat refine CD ?_
   refine x11 _ _ ?_
   refine k8 _ _ ?_
   refine AIi fun K24 k24=>?_
   refine AIh ?_
   refine AL Cg 1 [(18,Ao ((kd 273 seed)) ((Vf seed 6)) (.slice ao ks.length cap))]
    ⟨yl r6 (BX (BF _ _) (F8 seed 6) (.slice ao ks.length cap) rfl) (AC g23 HU),AIo⟩ fun a25 w25 g25 Cx=>?_
   have JM:=AA g23 g25
   refine An Cx r7 (BX (BF _ _) (F8 seed 6) (.slice ao ks.length cap) rfl) (AC JM B8) (by first|rfl|simp[AZ,AI,AQ,(BF _ _).1,(F8 seed 6).1]) fun w26 g26 h26=>?_
   replace hr:=(hr.kn JM).offR g26 (AU Ha)
   replace ht:=TgF.offR (TgF.kn ht JM) g26 (AU Ha)
   replace HG:=AD (AA HG JM) g26 Ir
   replace B8:=h26
   refine AE ?_
   refine k24 _ _ ?_
   refine AIl ?_
   repeat refine AM ?_
   refine A8 (fn:=Tryz.f14) Cx (EK (p:=2) Tryz.results14 Cx rfl rfl (BX (BF _ _) (F8 seed 6) (.slice ao ks.length cap) rfl) B8) ?_
   exact⟨_,rfl,HG,ao,cap,ks,rfl,hP,hr,ht⟩
theorem XN (ks:List VK) (vo:Option Addr) (vc_:Nat) (sa po:List Nat) (hsa:Dg sa) (hpo:Dg po) (P:List VP) (hP:ks.map VK.p=P) (x:V) (n:Int) (b:Bool) (a:Int) (r:Sd×Int) (hres:Pe P x n b a=r) (w:World) (hr:RdK w (.slice vo ks.length vc_) ks) :
  Calls Tryz.prog 15 #[Ef x n b a,Ao sa po (.slice vo ks.length vc_)] w fun e w'=>∃v,e=.returned v∧w.grownBy w' none∧(Sp.sr w.heap.size r).on w' v:=by
 refine BM Tryz.func15 rfl Tryz.ntmps15 rfl fun a0 sv0=>?_
 have HG:=World.grownBy.refl w none
 replace sv0:Sv 19 [] [(0,Ef x n b a),(1,Ao sa po (.slice vo ks.length vc_))] a0:=sv0
 refine AIi fun K1 k1=>?_
 refine AIh ?_
 refine BT sv0 r6 (Vd x n b a) fun a2 w2 CC Cq g2 z2 AG sv2=>?_
 refine BT sv2 r6 (BX hsa hpo (.slice vo ks.length vc_) rfl) fun a3 w3 Bo EC g3 z3 AJ sv3=>?_
 replace HG:=AA (AA HG g2) g3
 refine As (T:=31) (Z:=([[.int .i64 0],[.slice none 0 0],[.int .i64 0],[.slice none 0 0],[.slice none 0 0],bv AS].flatten)) sv3 rfl rfl rfl (fun a w=>by kernel_rfl) fun a4 w4 Eh Bi g4 z4 AN sv4=>?_
 have Br:=Bq HG Bi
 replace AG:=AC g4 (AC g3 AG)
 replace AJ:=AC g4 AJ
 replace hr:=((hr.kn g2).kn g3).kn g4
 replace HG:=AA HG g4
 refine Aa (v:=.int .i64 0) sv4 r6 fun a5 sv5=>?_
 refine AE ?_
 refine k1 _ _ ?_
 refine AIi fun K6 k6=>?_
 refine DB (sv5.st w4) (by kernel_rfl) 13 [(6,Sp.is (Ao sa po (.slice vo ks.length vc_))),(7,Sp.is (pk CC 3)),(8,Sp.is (.int .i64 n)),(9,Sp.row w4.heap.size 23 32 (EF n 6).length ((EF n 6).flatMap Jo)),(10,Sp.is (Ef x n b a)),(11,Sp.is (.int .i64 ((jt b)))),(12,Sp.is (Ef x n b a)),(13,Sp.is (.int .i64 ((TC a)))),(14,Sp.is (pt CC)),(15,Sp.is (Bu x)),(16,Sp.sr w4.heap.size r),(17,Sp.sl w4.heap.size r.1),(18,Sp.is (.int .i64 r.2))] rfl (by kernel_rfl) (by kernel_rfl) (by kernel_rfl) [] (by kernel_rfl)
  ⟨yl r6 (BX hsa hpo (.slice vo ks.length vc_) rfl) AJ,yf r6 (fun _=>by kernel_rfl),yp (i:=1) r6 (EA n) AG rfl rfl,Ad [.int .i64 n] Tryz.func17 (by kernel_rfl) rq4 ⟨(oy rfl rfl),AIo⟩ (fun W g=>AGC n g),yl r6 (Vd x n b a) AG,Ad [Ef x n b a] Tryz.func18 (by kernel_rfl) rq4 ⟨(oy rfl rfl),AIo⟩ (Aq fun W g=>XJ x n b a W),yl r6 (Vd x n b a) AG,Ad [Ef x n b a] Tryz.func19 (by kernel_rfl) rq4 ⟨(oy rfl rfl),AIo⟩ (Aq fun W g=>AAH x n b a W),yf r6 (fun _=>by kernel_rfl),yp (i:=0) r6 (Dm x) AG rfl rfl,UP (Sp.sr w4.heap.size r) rfl rfl trivial rfl (fun W g av h=>match av,h with|[_,_,_,_,_],⟨rfl,hv,rfl,rfl,rfl,_⟩=>XL hsa hpo (hr.kn g) hP (AHW hv) (Nat.le_trans (OH n 6) (by decide)) g.size hres) (fun _ _ h=>h) (E5 Tryz.func20 (by kernel_rfl) rfl),BH rq4 (fun w u h=>Yf w u h),BH rq4 (fun w u h=>NE w u h),AIo⟩ trivial
  [] (by kernel_rfl) trivial ⟨.inl rfl,.inl rfl,.inl rfl,.inl rfl,.inl rfl,.inl rfl,.inl rfl,.inl rfl,.inl rfl,.inl rfl,.inl rfl,.inl rfl,.inl rfl,AIo⟩ (by kernel_rfl) fun a7 w7 g7 st7 nd7=>?_
 obtain⟨hn7,hd7,e7_6,e7_7,e7_8,e7_9,e7_10,e7_11,e7_12,e7_13,e7_14,e7_15,e7_16,e7_17,e7_18,e7_5,e7_4,e7_3,e7_2,e7_0,e7_1,-⟩:=st7
 obtain⟨own8,wr8,ao8,wo8,bo8,ac8,wc8,bc8,e7_17q,hF,fr8⟩:=e7_17
 have XO:=CF fr8 AN
 have lo_hF:=JC HG fr8
 replace AN:=AC g7 AN
 have sv7:Sv 19 [] [(5,_),(4,_),(3,_),(2,_),(0,_),(1,_),(17,_),(18,_)] a7:=⟨hn7,hd7,e7_5,e7_4,e7_3,e7_2,e7_0,e7_1,e7_17q,e7_18,AIo⟩
 refine An sv7 r7 (EU _ _ hF.tg (.slice ao8 (List.length own8) ac8) (.slice wo8 (List.length wr8) wc8) (.slice bo8 r.1.body.length bc8) rfl rfl rfl) AN (Ek AR hF.tg) fun w9 g9 h9=>?_
 replace hF:=hF.offR g9 (AU XO)
 replace HG:=AD (AA HG g7) g9 Br
 replace AN:=h9
 refine Aa (v:=.int .i64 r.2) sv7 r6 fun a10 CK=>?_
 have CH:Sv _ _ [_,_,_,_] _:=CK.dl [3,2,17,18]
 refine AE ?_
 refine k6 _ _ ?_
 refine AIl ?_
 repeat refine AM ?_
 refine A8 (fn:=Tryz.f15) CH (FV (p:=4) (q:=5) Tryz.results15 CH rfl rfl rfl rfl (EU _ _ hF.tg (.slice ao8 (List.length own8) ac8) (.slice wo8 (List.length wr8) wc8) (.slice bo8 r.1.body.length bc8) rfl rfl rfl) AN) ?_
 exact⟨_,rfl,HG,own8,wr8,ao8,wo8,bo8,ac8,wc8,bc8,rfl,hF,lo_hF⟩
end Go.Proofs.YtbfjfnbcmojpiaaGreat
