import Derived.Test.YtbfjfnbcmojpiaaGreatAlVE
import Derived.Test.YtbfjfnbcmojpiaaGreatAlMK6
import Derived.Test.YtbfjfnbcmojpiaaGreatAlV3
set_option linter.unusedSimpArgs false
set_option linter.unusedVariables false
set_option maxRecDepth 100000
set_option maxHeartbeats 4000000
namespace Go.Proofs.YtbfjfnbcmojpiaaGreat
open Go.RowKit Go.Shelf
theorem AKn (n:Int) (w:World):(Instr.build 25 #[(0,.int .i64 1),(1,.int .i64 n)]).run Tryz.prog w=.ok (CH ⟨1,n,⟨#[]⟩⟩) w:=by kernel_rfl
def Iq (n:Int):V:=(⟨1,n,⟨#[]⟩⟩:V).clean
def Dz (x:V) (n:Int) (b:Bool) (a:Int):Value:=.agg ([vc x,[.int .i64 n],[.bool b],[.int .i64 a]].flatten).toArray
theorem AIN (s:ByteArray):TY Tryz.prog 9 [.string s] (.string s):=TY.one' Tryz.underlying9 rfl (by kernel_rfl) rfl
theorem ABr {P:Program} {ops:Array Oper} {L:Nat→Sp} {n:Nat} {w0:World} {o:Oper} {x:Operand} {t:TypeId} {d:Nat} {s:ByteArray} (he:P.underlying t=some .string) (ho:o.op=.call { callee:=.builtin .len,args:=#[x],argTypes:=#[t] }) (hd:o.dst=some d) (hg:GX ops L n o.guard) (hx:OpX L n x (.string s)) (h:∀w,(L d).on w (.int .i64 s.size)):OX P ops L n w0 o:=
 FQ hg fun a w hw hl hsz=>⟨.int .i64 s.size,by
  have e:=hx.eval (o:=o) (a:=a) (w:=w) (by simp[ho,Op.operands,Call.operands]) hl
  simp only[execOp,ho,resolve,Sem.run_bind,Sem.run_pure,Result.andThen_ok,List.map_toArray,List.map_cons,List.map_nil,e]
  simp[invoke,builtin,Builtin.len_,run_underlying he,goInt],DH hd (h w)⟩
theorem AKo (x:V):TY Tryz.prog 25 ([[.int .i64 x.kind],[.int .i64 x.int],[.string x.text]].flatten) (CH x):=En x
def Kk (n:Int):Int:=bits .and .i64 n 17179869183
theorem AIO (m:Nat) (hm:m<9223372036854775808) (n:Int) (h63:(BitVec.ofInt 64 (m:Int)).toNat=m):∃k:Nat,k≤m∧bits .and .i64 n (m:Int)=(k:Int):=by
 have h:bits .and .i64 n (m:Int)=IntKind.i64.wrap (((BitVec.ofInt 64 n) &&& (BitVec.ofInt 64 (m:Int))).toNat:Int):=rfl
 have h2:((BitVec.ofInt 64 n) &&& (BitVec.ofInt 64 (m:Int))).toNat≤m:=by rw[BitVec.toNat_and,h63];exact Nat.and_le_right
 exact⟨_,h2,by rw[h];exact BG (by omega) (by omega)⟩
theorem Hi (n:Int):Br (Kk n)=true:=by
 obtain⟨k,hk,e⟩:=AIO 17179869183 (by decide) n (by decide)
 have e':Kk n=(k:Int):=e
 rw[e']
 unfold Br
 rw[decide_eq_true (by omega),decide_eq_true (by omega)]
 rfl
theorem Rv (x:V) (n:Int) (b:Bool) (a:Int):TY Tryz.prog 27 ([vc x,[.int .i64 n],[.bool b],[.int .i64 a]].flatten) (Dz x n b a):=by
 refine TY.agg Tryz.underlying27 rfl (by kernel_rfl) ?_
 intro c hc
 simp[vc] at hc
 rcases hc with rfl|rfl|rfl|rfl|rfl|rfl<;>rfl
theorem ABs {P:Program} {a c:Int} {t:TypeId} {x y:Operand} {w:World} (i:Nat) (hi:i<64) (h:a/2^i=c):(do eqGuard .shr t x y (.int .i64 a) (.int .u64 (i:Int));binOp .shr t (.int .i64 a) (.int .u64 (i:Int)):Sem Value).run P w=.ok (.int .i64 c) w:=by
 subst h
 have h1:min i IntKind.i64.bits=i:=Nat.min_eq_left (by show i≤64;omega)
 simp[eqGuard,binOp_shr,shift_shr_any,h1]
def FA (n:Nat):List Nat:=(n%6)::(zs 30++[7*(n%6)])
theorem KG (n:Nat):Dg (FA n):=by
 refine⟨rfl,fun x hx=>?_⟩
 simp[FA,zs] at hx
 omega
theorem ABt {n:Nat} (h:n<6):FA n=n::(zs 30++[7*n]):=by unfold FA;rw[Nat.mod_eq_of_lt h]
def PH (n:Nat):DD:=⟨FA n,KG n⟩
def ZL (n:Int) (i:Nat):Int:=bits .and .i64 (n/2^i) 1
def Ey (n:Int):Nat→List DD
 | 0=>[]
 | i+1=>if ZL n i=1 then Ey n i++[PH i] else Ey n i
theorem QL (n:Int):∀i,(Ey n i).length≤i
 | 0=>Nat.le_refl _
 | i+1=>by
  have:=QL n i
  unfold Ey
  split<;>simp<;>omega
def jt (b:Bool):Int:=if b then 1 else 0
theorem AAm (x:V) (b:Bool) (hb:decide (x.text.size≤100)=b) (w:World) :
   Calls Tryz.prog 12 #[CH x] w fun e w'=>e=.returned (.bool b)∧w.grownBy w' none:=by
 refine BZ Tryz.func12 rfl Tryz.ntmps12 rfl fun a0 sv0=>?_
 have HG:=World.grownBy.refl w none
 replace sv0:Sv 7 [] [(0,CH x)] a0:=sv0
 refine ALz fun K1 k1=>?_
 refine ALy ?_
 refine Bj sv0 r6 (AKo x) fun a2 w2 CI F8 g2 z2 Aa sv2=>?_
 replace HG:=AA HG g2
 refine AY (v:=.bool false) sv2 r6 fun a3 sv3=>?_
 refine AE ?_
 refine k1 _ _ ?_
 refine ALz fun K4 k4=>?_
 cases b
 · refine ALy ?_
   refine AJ sv3 4 [(3,pk CI 2),(4,.string x.text),(5,.int .i64 ((x.text.size:Nat))),(6,.bool false)]
    ⟨yf r6 (fun _=>by kernel_rfl),yp (i:=2) r6 (AIN x.text) Aa rfl rfl,ABr (Tryz.underlying9) rfl rfl trivial (oy rfl rfl) (fun _=>rfl),Cz r6 (fun _=>AEY (by rw[←hb];exact decide_eq_decide.2 (by omega))),AL5⟩ fun a5 w5 g5 sv5=>?_
   refine AY (v:=.bool false) sv5 r6 fun a6 sv6=>?_
   have sv7:Sv _ _ [_,_] _:=sv6.dl [3,4,5,6,1]
   refine AE ?_
   refine k4 _ _ ?_
   replace Aa:=AC g5 Aa
   replace HG:=AA HG g5
   refine AL2 ?_
   repeat refine AL ?_
   refine BI (fn:=Tryz.f12) sv7 (BC (p:=2) Tryz.results12 sv7 rfl rfl) ?_
   exact⟨rfl,HG⟩
 · refine ALy ?_
   refine AJ sv3 4 [(3,pk CI 2),(4,.string x.text),(5,.int .i64 ((x.text.size:Nat))),(6,.bool true)]
    ⟨yf r6 (fun _=>by kernel_rfl),yp (i:=2) r6 (AIN x.text) Aa rfl rfl,ABr (Tryz.underlying9) rfl rfl trivial (oy rfl rfl) (fun _=>rfl),Cz r6 (fun _=>AEY (by rw[←hb];exact decide_eq_decide.2 (by omega))),AL5⟩ fun a8 w8 g8 sv8=>?_
   refine AY (v:=.bool true) sv8 r6 fun a9 sv9=>?_
   have Cb:Sv _ _ [_,_] _:=sv9.dl [3,4,5,6,1]
   refine AE ?_
   refine k4 _ _ ?_
   replace HG:=AA HG g8
   refine AL2 ?_
   repeat refine AL ?_
   refine BI (fn:=Tryz.f12) Cb (BC (p:=2) Tryz.results12 Cb rfl rfl) ?_
   exact⟨rfl,HG⟩
theorem KH (n:Nat) (hn:n<6) (w:World) :
  Calls Tryz.prog 30 #[.int .i64 ((n:Int))] w fun e w'=>e=.returned (AP (FA n))∧w.grownBy w' none:=by
 have hdg:Dg (n::(zs 30++[7*n])):=ABt hn▸KG n
 rw[ABt hn]
 refine BZ Tryz.func30 rfl Tryz.ntmps30 rfl fun a0 sv0=>?_
 have HG:=World.grownBy.refl w none
 replace sv0:Sv 9 [] [(0,.int .i64 ((n:Int)))] a0:=sv0
 refine ALz fun K1 k1=>?_
 refine ALy ?_
 refine Ar (T:=23) (Z:=(bv AR)) sv0 rfl rfl rfl (fun a w=>by kernel_rfl) fun a2 w2 Ci Dh g2 z2 AK sv2=>?_
 have GD:=Bt HG Dh
 refine AE ?_
 refine k1 _ _ ?_
 refine ALz fun K3 k3=>?_
 refine ALy ?_
 refine AJ sv2 6 [(3,.int .i64 ((n:Int))),(4,.int .u8 ((n:Int))),(5,.int .i64 ((n:Int))),(6,.int .i64 (((7*n:Nat):Int))),(7,.int .u8 (((7*n:Nat):Int))),(8,AP ((n::(zs 30++[7*n]))))]
  ⟨ym r5,Jo r6 (fun _=>Jq Tryz.underlying3 Tryz.underlying5 (ABM (by omega) (by omega))),ym r5,N6 rfl rfl trivial rfl (oy rfl rfl) (fun _=>AIu (by rw[BG (by omega) (by omega)];omega)) (fun _=>rfl),Jo r6 (fun _=>Jq Tryz.underlying3 Tryz.underlying5 (ABM (by omega) (by omega))),BU (vs:=[.int .u8 ((n:Int)),.int .u8 (((7*n:Nat):Int))]) rfl rfl trivial ⟨(oy rfl rfl),(oy rfl rfl),AL5⟩ (fun _=>ALG n (7*n) _) (fun _=>rfl),AL5⟩ fun a4 w4 g4 sv4=>?_
 refine Ao sv4 r7 (B6 ((n::(zs 30++[7*n]))) hdg.1) (AC g4 AK) (GR hdg) fun w5 g5 h5=>?_
 replace HG:=AD (AA (AA HG g2) g4) g5 GD
 replace AK:=h5
 have sv6:Sv _ _ [_] _:=sv4.dl [3,4,5,6,7,8,0]
 refine AE ?_
 refine k3 _ _ ?_
 refine AL2 ?_
 repeat refine AL ?_
 refine BI (fn:=Tryz.f30) sv6 (E2 (p:=2) Tryz.results30 sv6 rfl rfl (B6 ((n::(zs 30++[7*n]))) hdg.1) AK) ?_
 exact⟨rfl,HG⟩
theorem AAn (x:V) (n a:Int) (w:World) :
  Calls Tryz.prog 18 #[Dz x n true a] w fun e w'=>e=.returned (.int .i64 1)∧w.grownBy w' none:=by
 refine BZ Tryz.func18 rfl Tryz.ntmps18 rfl fun a0 sv0=>?_
 have HG:=World.grownBy.refl w none
 replace sv0:Sv 5 [] [(0,Dz x n true a)] a0:=sv0
 refine ALz fun K1 k1=>?_
 refine ALy ?_
 refine Bj sv0 r6 (Rv x n true a) fun a2 w2 CI F8 g2 z2 Aa sv2=>?_
 refine AY (v:=.int .i64 0) sv2 r6 fun a3 sv3=>?_
 refine AE ?_
 refine k1 _ _ ?_
 refine ALz fun K4 k4=>?_
 refine ALz fun K5 k5=>?_
 refine ALy ?_
 refine AJ sv3 2 [(3,pk CI 4),(4,.bool true)]
  ⟨yf r6 (fun _=>by kernel_rfl),yp (i:=2) r6 (U1 true) Aa rfl rfl,AL5⟩ fun a6 w6 g6 sv6=>?_
 refine AE ?_
 refine k5 _ _ ?_
 refine Aw sv6 rfl rfl ?_
 refine ALz fun K7 k7=>?_
 refine ALy ?_
 refine AY (v:=.int .i64 1) sv6 r6 fun a8 sv8=>?_
 refine AE ?_
 refine k7 _ _ ?_
 replace HG:=AA (AA HG g2) g6
 refine AL2 ?_
 repeat refine AL ?_
 refine BI (fn:=Tryz.f18) sv8 (BC (p:=2) Tryz.results18 sv8 rfl rfl) ?_
 exact⟨rfl,HG⟩
theorem ZM (x:V) (n a:Int) (w:World) :
  Calls Tryz.prog 18 #[Dz x n false a] w fun e w'=>e=.returned (.int .i64 0)∧w.grownBy w' none:=by
 refine BZ Tryz.func18 rfl Tryz.ntmps18 rfl fun a0 sv0=>?_
 have HG:=World.grownBy.refl w none
 replace sv0:Sv 5 [] [(0,Dz x n false a)] a0:=sv0
 refine ALz fun K1 k1=>?_
 refine ALy ?_
 refine Bj sv0 r6 (Rv x n false a) fun a2 w2 CI F8 g2 z2 Aa sv2=>?_
 refine AY (v:=.int .i64 0) sv2 r6 fun a3 sv3=>?_
 refine AE ?_
 refine k1 _ _ ?_
 refine ALz fun K4 k4=>?_
 refine ALz fun K5 k5=>?_
 refine ALy ?_
 refine AJ sv3 2 [(3,pk CI 4),(4,.bool false)]
  ⟨yf r6 (fun _=>by kernel_rfl),yp (i:=2) r6 (U1 false) Aa rfl rfl,AL5⟩ fun a6 w6 g6 sv6=>?_
 refine AE ?_
 refine k5 _ _ ?_
 refine A1 sv6 rfl rfl ?_
 refine AL3 ?_
 refine k4 _ _ ?_
 refine ALz fun K7 k7=>?_
 refine ALy ?_
 refine AY (v:=.int .i64 0) sv6 r6 fun a8 sv8=>?_
 refine AE ?_
 refine k7 _ _ ?_
 replace HG:=AA (AA HG g2) g6
 refine AL2 ?_
 repeat refine AL ?_
 refine BI (fn:=Tryz.f18) sv8 (BC (p:=2) Tryz.results18 sv8 rfl rfl) ?_
 exact⟨rfl,HG⟩
theorem AAo (x:V) (n:Int) (b:Bool) (a:Int) (w:World):Calls Tryz.prog 18 #[Dz x n b a] w fun e w'=>e=.returned (.int .i64 (jt b))∧w.grownBy w' none:=by
 cases b
 · exact ZM x n a w
 · exact AAn x n a w
theorem Of (x:V) (n:Int) (b:Bool) (a:Int) (w:World) :
  Calls Tryz.prog 19 #[Dz x n b a] w fun e w'=>e=.returned (.int .i64 (Kk a))∧w.grownBy w' none:=by
 refine BZ Tryz.func19 rfl Tryz.ntmps19 rfl fun a0 sv0=>?_
 have HG:=World.grownBy.refl w none
 replace sv0:Sv 6 [] [(0,Dz x n b a)] a0:=sv0
 refine ALz fun K1 k1=>?_
 refine ALy ?_
 refine Bj sv0 r6 (Rv x n b a) fun a2 w2 CI F8 g2 z2 Aa sv2=>?_
 refine AY (v:=.int .i64 0) sv2 r6 fun a3 sv3=>?_
 refine AE ?_
 refine k1 _ _ ?_
 refine ALz fun K4 k4=>?_
 refine ALy ?_
 refine AJ sv3 3 [(3,pk CI 5),(4,.int .i64 a),(5,.int .i64 ((Kk a)))]
  ⟨yf r6 (fun _=>by kernel_rfl),yp (i:=3) r6 (Gu a) Aa rfl rfl,Cz r6 (fun _=>U5 rfl),AL5⟩ fun a5 w5 g5 sv5=>?_
 refine AY (v:=.int .i64 ((Kk a))) sv5 r6 fun a6 sv6=>?_
 have sv7:Sv _ _ [_,_] _:=sv6.dl [3,4,5,1]
 refine AE ?_
 refine k4 _ _ ?_
 replace HG:=AA (AA HG g2) g5
 refine AL2 ?_
 repeat refine AL ?_
 refine BI (fn:=Tryz.f19) sv7 (BC (p:=2) Tryz.results19 sv7 rfl rfl) ?_
 exact⟨rfl,HG⟩
theorem Og (n:Int) (w:World) :
  Calls Tryz.prog 37 #[.int .i64 n] w fun e w'=>e=.returned (CH (Iq n))∧w.grownBy w' none:=by
 refine BZ Tryz.func37 rfl Tryz.ntmps37 rfl fun a0 sv0=>?_
 have HG:=World.grownBy.refl w none
 replace sv0:Sv 6 [] [(0,.int .i64 n)] a0:=sv0
 refine ALz fun K1 k1=>?_
 refine ALy ?_
 refine Ar (T:=25) (Z:=[.int .i64 0,.int .i64 0,.string ⟨#[]⟩]) sv0 rfl rfl rfl (fun a w=>by kernel_rfl) fun a2 w2 Ci Dh g2 z2 AK sv2=>?_
 have GD:=Bt HG Dh
 refine AE ?_
 refine k1 _ _ ?_
 refine ALz fun K3 k3=>?_
 refine ALy ?_
 refine AJ sv2 3 [(3,.int .i64 n),(4,CH ((⟨1,n,⟨#[]⟩⟩:V))),(5,CH ((Iq n)))]
  ⟨ym r5,BU (vs:=[.int .i64 1,.int .i64 n]) rfl rfl trivial ⟨rfl,(oy rfl rfl),AL5⟩ (fun _=>AKn n _) (fun _=>rfl),Ae [CH ((⟨1,n,⟨#[]⟩⟩:V))] Tryz.func25 (by kernel_rfl) rq4 ⟨(oy rfl rfl),AL5⟩ (Ap fun W g=>XB _ W),AL5⟩ fun a4 w4 g4 sv4=>?_
 refine Ao sv4 r7 (En ((Iq n))) (AC g4 AK) rfl fun w5 g5 h5=>?_
 replace HG:=AD (AA (AA HG g2) g4) g5 GD
 replace AK:=h5
 have sv6:Sv _ _ [_] _:=sv4.dl [3,4,5,0]
 refine AE ?_
 refine k3 _ _ ?_
 refine AL2 ?_
 repeat refine AL ?_
 refine BI (fn:=Tryz.f37) sv6 (E2 (p:=2) Tryz.results37 sv6 rfl rfl (En ((Iq n))) AK) ?_
 exact⟨rfl,HG⟩
theorem AFb (n:Int) (w:World) :
   Calls Tryz.prog 17 #[.int .i64 n] w fun e w'=>∃v,e=.returned v∧w.grownBy w' none∧(Sp.row w.heap.size 23 32 (Ey n 6).length ((Ey n 6).flatMap LM)).on w' v:=by
 refine BZ Tryz.func17 rfl Tryz.ntmps17 rfl fun a0 sv0=>?_
 have HG:=World.grownBy.refl w none
 replace sv0:Sv 21 [] [(0,.int .i64 n)] a0:=sv0
 refine ALz fun K1 k1=>?_
 refine ALy ?_
 refine AY (v:=.slice none 0 0) sv0 r6 fun a2 sv2=>?_
 refine AE ?_
 refine k1 _ _ ?_
 refine ALz fun K3 k3=>?_
 refine ALy ?_
 refine AY (v:=.slice none 0 0) sv2 r6 fun a4 sv4=>?_
 refine AE ?_
 refine k3 _ _ ?_
 refine ALz fun K5 k5=>?_
 refine ALz fun K6 k6=>?_
 refine ALy ?_
 refine AY (v:=.int .i64 0) sv4 r6 fun a7 sv7=>?_
 refine AE ?_
 refine k6 _ _ ?_
 refine BM fun Q8 x8 y8 rt8 o8=>?_
 have okk:=Own.nil w 23 32
 have lo_okk:=ACa w
 refine wp_loop (fun a w'=>∃(i:Nat) (so:Option Addr) (sc:Nat) (m:Nat) (L:List DD),(i≤6)∧(L=Ey n i)∧(L.length=m)∧Sv 21 [] [(4,.int .i64 ((i:Int))),(3,.slice so m sc),(2,.slice none 0 0),(0,.int .i64 n)] a∧w.grownBy w' none∧Own w' 23 32 (.slice so m sc) m (L.flatMap LM)∧(∀k,Bk (.slice so m sc) k→w.heap.size≤k)) (fun a _=>(6-intOf (a.tmps.getD 4 undef)).toNat) ⟨0,none,0,0,[],Nat.zero_le _,rfl,rfl,⟨sv7.1,sv7.2.1,sv7.2.2.1,sv7.2.2.2.1,sv7.2.2.2.2.1,sv7.2.2.2.2.2.1,AL5⟩,HG,okk,lo_okk⟩ fun a9 w9 hI9=>?_
 clear okk
 clear HG
 obtain⟨i,so,sc,m,L,hi6,hL,hm,sv9,HG,okk,lo_okk⟩:=hI9
 refine ALz fun K10 k10=>?_
 refine ALz fun K11 k11=>?_
 by_cases hi:i<6
 · refine ALy ?_
   refine AJ sv9 2 [(5,.int .i64 ((i:Int))),(6,.bool true)]
     ⟨ym r5,Cz r6 (fun _=>Bo (decide_eq_true (by omega))),AL5⟩ fun a12 w12 g12 DL=>?_
   refine AE ?_
   refine k11 _ _ ?_
   refine Aw DL rfl rfl ?_
   refine AL3 ?_
   refine k10 _ _ ?_
   refine ALz fun K13 k13=>?_
   refine BM fun Q14 x14 y14 rt14 o14=>?_
   refine ALz fun K15 k15=>?_
   replace okk:=okk.kn g12
   replace HG:=AA HG g12
   by_cases hb:ZL n i=1
   · have hLl:=QL n i
     rw[←hL,hm] at hLl
     have hL1:L++[PH i]=Ey n (i+1):=by rw[show Ey n (i+1)=Ey n i++[PH i] from if_pos hb,hL]
     refine ALy ?_
     refine AJ DL 6 [(9,.int .i64 n),(10,.int .i64 ((i:Int))),(11,.int .u64 ((i:Int))),(12,.int .i64 ((n/2^i))),(13,.int .i64 ((ZL n i))),(14,.bool true)]
      ⟨ym r5,ym r5,Jo r6 (fun _=>Jq Tryz.underlying3 Tryz.underlying48 (Lm (by omega) (by omega))),Il r7 (fun _=>ABs i (by omega) rfl),Cz r6 (fun _=>U5 rfl),Cz r6 (fun _=>CV (by rw[hb];rfl)),AL5⟩ fun a16 w16 g16 DJ=>?_
     refine AE ?_
     refine k15 _ _ ?_
     refine Aw DJ rfl rfl ?_
     refine ALy ?_
     refine AJ DJ 3 [(15,.slice so m sc),(16,.int .i64 ((i:Int))),(17,AP ((FA i)))]
      ⟨ym r5,ym r5,Ae [.int .i64 ((i:Int))] Tryz.func30 (by kernel_rfl) rq4 ⟨(oy rfl rfl),AL5⟩ (Ap fun W g=>KH i hi W),AL5⟩ fun a17 w17 g17 FY=>?_
     refine NS (cs:=bv ((FA i))) (e:=23) FY rfl rfl rfl rfl rfl rfl (AC4 (KG i)) fun a18 w18 ALU AJn g18 z18 AHX CZ=>?_
     replace okk:=((okk.kn g16).kn g17).kn g18
     replace HG:=AA (AA (AA HG g16) g17) g18
     refine Mg dsT CZ rfl rfl rfl rfl rfl rfl rfl rfl okk (Lx AHX (KG i)) (Gz _) (by omega) fun a19 ao19 cap19 w19 owx19 Cj EQ=>?_
     have AFc:=Zz Cj.2 lo_okk HG
     replace HG:=Bi HG Cj.1 fun k e=>lo_okk k (e)
     rw[show bv (FA i)=bv (PH i).x from rfl,Vn L (PH i)] at owx19
     refine AY (v:=.slice ao19 (m+1) cap19) EQ r6 fun a20 Eu=>?_
     have Di:Sv _ _ [_,_,_,_,_,_,_,_,_,_,_,_] _:=Eu.dl [19,18,15,16,17]
     refine AE ?_
     refine y14 _ _ ?_
     refine k13 _ _ ?_
     refine ALy ?_
     refine AJ Di 2 [(7,.int .i64 ((i:Int))),(8,.int .i64 (((i+1:Nat):Int)))]
      ⟨ym r5,Cz r6 (fun _=>Dk (by rw[BG (by omega) (by omega)];omega)),AL5⟩ fun a22 w22 g22 Ct=>?_
     refine AY (v:=.int .i64 (((i+1:Nat):Int))) Ct r6 fun a23 Cw=>?_
     refine AE ?_
     replace owx19:=owx19.kn g22
     replace HG:=AA HG g22
     exact⟨⟨i+1,ao19,cap19,m+1,(L++[PH i]),by omega,hL1,by rw[List.length_append,hm];rfl,⟨Cw.1,Cw.2.1,Cw.2.2.1,Cw.2.2.2.2.2.1,(AG Cw).2.2.2.2.2.2.1,(AG Cw).2.2.2.2.2.2.2.1,AL5⟩,HG,owx19,AFc⟩,by rw[show _=_ from Cw.2.2.1,show _=_ from sv9.2.2.1];simp[intOf];omega⟩
   · have hL1:L=Ey n (i+1):=by rw[show Ey n (i+1)=Ey n i from if_neg hb,hL]
     refine ALy ?_
     refine AJ DL 6 [(9,.int .i64 n),(10,.int .i64 ((i:Int))),(11,.int .u64 ((i:Int))),(12,.int .i64 ((n/2^i))),(13,.int .i64 ((ZL n i))),(14,.bool false)]
      ⟨ym r5,ym r5,Jo r6 (fun _=>Jq Tryz.underlying3 Tryz.underlying48 (Lm (by omega) (by omega))),Il r7 (fun _=>ABs i (by omega) rfl),Cz r6 (fun _=>U5 rfl),Cz r6 (fun _=>CV (by simpa using hb)),AL5⟩ fun a24 w24 g24 ER=>?_
     refine AE ?_
     refine k15 _ _ ?_
     refine A1 ER rfl rfl ?_
     refine AL3 ?_
     refine y14 _ _ ?_
     refine k13 _ _ ?_
     refine ALy ?_
     refine AJ ER 2 [(7,.int .i64 ((i:Int))),(8,.int .i64 (((i+1:Nat):Int)))]
      ⟨ym r5,Cz r6 (fun _=>Dk (by rw[BG (by omega) (by omega)];omega)),AL5⟩ fun a25 w25 g25 DV=>?_
     have Kh:=AA g24 g25
     refine AY (v:=.int .i64 (((i+1:Nat):Int))) DV r6 fun a26 Cr=>?_
     refine AE ?_
     replace okk:=okk.kn Kh
     replace HG:=AA HG Kh
     exact⟨⟨i+1,so,sc,m,L,by omega,hL1,hm,⟨Cr.1,Cr.2.1,Cr.2.2.1,(AG Cr).2.2.2.2.2.1,(AG Cr).2.2.2.2.2.2.1,(AG Cr).2.2.2.2.2.2.2.1,AL5⟩,HG,okk,lo_okk⟩,by rw[show _=_ from Cr.2.2.1,show _=_ from sv9.2.2.1];simp[intOf];omega⟩
 · obtain rfl:i=6:=by omega
   refine ALy ?_
   refine AJ sv9 2 [(5,.int .i64 (((6:Nat):Int))),(6,.bool false)]
     ⟨ym r5,Cz r6 (fun _=>Bo (by simp)),AL5⟩ fun a27 w27 g27 JG=>?_
   refine AE ?_
   refine k11 _ _ ?_
   refine A1 JG rfl rfl ?_
   refine wp_exit ?_
   repeat refine CY ?_
   refine x8 _ _ ?_
   refine k5 _ _ ?_
   refine ALz fun K28 k28=>?_
   refine ALy ?_
   refine AJ JG 1 [(20,.slice so m sc)]
     ⟨ym r5,AL5⟩ fun a29 w29 g29 Cf=>?_
   have Gh:=AA g27 g29
   refine AY (v:=.slice so m sc) Cf r6 fun a30 E4=>?_
   refine AE ?_
   refine k28 _ _ ?_
   replace okk:=okk.kn Gh
   replace HG:=AA HG Gh
   refine AL2 ?_
   repeat refine AL ?_
   subst hL hm
   refine BI (fn:=Tryz.f17) E4 (BC (p:=2) Tryz.results17 E4 rfl rfl) ?_
   exact⟨_,rfl,HG,_,_,rfl,okk,lo_okk⟩
end Go.Proofs.YtbfjfnbcmojpiaaGreat
namespace Go.Proofs.YtbfjfnbcmojpiaaGreat
open Go.ChangeShapes Go.WideShapes Go.ChangeAt Go.RowKit Go.Deep
theorem ZU {a b:World} (h:a.grownBy b none):Below a.heap.size a b:=
 ⟨h.os,h.tape,h.output,h.size,fun i hi=>h.block i hi (by simp)⟩
theorem AA1:laidOutB Tryz.prog=true:=by kernel_rfl
theorem UJ:Tryz.prog.cellsOf 25=3:=by kernel_rfl
theorem ADb:Tryz.prog.cellsOf 27=6:=by kernel_rfl
theorem AB4:Tryz.prog.cellsOf 9=1:=by kernel_rfl
theorem AF0:Tryz.prog.cellsOf 4=1:=by kernel_rfl
theorem AA2:Tryz.prog.cellsOf 3=1:=by kernel_rfl
theorem Wy:Tryz.prog.cellsOf 2=1:=by kernel_rfl
theorem AIV {H:Type} {enc:TypeId×Value→H} {W:World} {b0:Nat}:∀fuel cs y,DataW.trod enc Tryz.prog W b0 (fun _=>true) true fuel 25 cs=some y→∃x:V,cs=vc x:=by
 intro fuel cs y h
 obtain⟨xs,k,_,_,hl,hxl,hf⟩:=DataW.trod_struct Tryz.underlying25 h
 rw[UJ] at hl
 match cs,hl with
 | [a,b,c],_ =>
  obtain⟨y0,h0⟩:=MV hxl hf 0 _ rfl 3 rfl 1 AA2
  obtain⟨y1,h1⟩:=MV hxl hf 1 _ rfl 2 rfl 1 Wy
  obtain⟨y2,h2⟩:=MV hxl hf 2 _ rfl 9 rfl 1 AB4
  obtain⟨n0,e0,_,r0⟩:=DataW.trod_int Tryz.underlying3 h0
  obtain⟨n1,e1,_,r1⟩:=DataW.trod_int Tryz.underlying2 h1
  obtain⟨s2,e2,_,r2⟩:=DataW.trod_string Tryz.underlying9 h2
  simp at e0 e1 e2
  subst e0 e1 e2
  exact⟨⟨n0,n1,s2⟩,rfl⟩
theorem AB2 {H:Type} {enc:TypeId×Value→H} {W:World} {r:Reach} {base b0:Nat} {v:Value} {d:DataW H} {p:List MemPlace} (hv:Value.okWide Tryz.prog W r base 27 v) (h:DataW.Trod enc Tryz.prog W b0 (fun _=>true) true 27 v d p):∃(x:V) (n:Int) (b:Bool) (a:Int),v=Dz x n b a∧True:=by
 obtain⟨cs,rfl,hcell⟩:=So Tryz.underlying27 hv
 obtain⟨fuel,hf⟩:=h
 have hf':DataW.trod enc Tryz.prog W b0 (fun _=>true) true fuel 27 cs.toList=some (d,p):=hf
 obtain⟨xs,k,_,_,hl,hxl,hf⟩:=DataW.trod_struct Tryz.underlying27 hf'
 rw[ADb] at hl
 obtain⟨l⟩:=cs
 match l,hl with
 | [a,b,c,e,f,g],_ =>
  obtain⟨y0,t0⟩:=MV hxl hf 0 _ rfl 25 rfl 3 UJ
  obtain⟨y1,t1⟩:=MV hxl hf 1 _ rfl 3 rfl 1 AA2
  obtain⟨y2,t2⟩:=MV hxl hf 2 _ rfl 4 rfl 1 AF0
  obtain⟨y3,t3⟩:=MV hxl hf 3 _ rfl 2 rfl 1 Wy
  obtain⟨v0,e0⟩:=AIV _ _ _ t0
  obtain⟨n1,e1,_,_⟩:=DataW.trod_int Tryz.underlying3 t1
  obtain⟨b2,e2,_⟩:=DataW.trod_bool Tryz.underlying4 t2
  obtain⟨n3,e3,_,_⟩:=DataW.trod_int Tryz.underlying2 t3
  simp[vc] at e0 e1 e2 e3
  obtain⟨rfl,rfl,rfl⟩:=e0
  subst e1 e2 e3
  exact⟨v0,n1,b2,n3,rfl,AL5⟩
end Go.Proofs.YtbfjfnbcmojpiaaGreat
namespace Go.Proofs.YtbfjfnbcmojpiaaGreat
open Go.RowKit Go.Shelf
theorem ABu {w:World} {k b:Nat} {c:Array Value} {T:TypeId} {fr:Nat×Nat} (h:TagV w k) (hb:w.heap[b]?=some (.cells c T fr)) (hT:T≠132∧T≠58):k≠b:=by
 rcases h with h|⟨c',fr',h1⟩
 · exact AEU h hb hT.1
 · rintro rfl
   rw[hb] at h1
   simp only[Option.some.injEq,Obj.cells.injEq] at h1
   exact hT.2 h1.2.1
theorem AFd {w:World} {p:Nat→Prop} {b:Nat} {c:Array Value} {T:TypeId} {fr:Nat×Nat} (hf:∀k,p k→(fun _=>False) k∨TagV w k) (hb:w.heap[b]?=some (.cells c T fr)) (hT:T≠132∧T≠58):∀k,p k→k≠b:=fun k hk=>(hf k hk).elim (fun h=>h.elim) fun t=>ABu t hb hT
theorem AAp {w:World} {p q:Nat→Prop} {b:Nat} {c:Array Value} {T:TypeId} {fr:Nat×Nat} (hf:∀k,p k→q k∨TagV w k) (ha:∀k,q k→k≠b) (hb:w.heap[b]?=some (.cells c T fr)) (hT:T≠132∧T≠58):∀k,p k→k≠b:=fun k hk=>(hf k hk).elim (ha k) fun t=>ABu t hb hT
def Sp.vv (V:VV) (fp:Nat→Prop):Sp:=⟨fun w v=>∃ao cap ks,v=Am V.2.1 V.2.2 (.slice ao (List.length ks) cap)∧ks.map VK.p=V.1∧RdK w (.slice ao (List.length ks) cap) ks∧∀k,Mh (.slice ao (List.length ks) cap) ks k→fp k∨TagV w k,fun _ _ _ hg ⟨ao,cap,ks,h1,h2,h3,h4⟩=>⟨ao,cap,ks,h1,h2,h3.kn hg,RM hg h4⟩⟩
theorem Rx {r:VV×Int} {fp:Nat→Prop} (w:World) (u:Value) (h:(Sp.vt r fp).on w u):∃vs v,u=.tuple vs∧vs[0]?=some v∧(Sp.vv r.1 fp).on w v:=by
 obtain⟨ao,cap,ks,h1,h2⟩:=h
 exact⟨_,_,h1,rfl,ao,cap,ks,rfl,h2⟩
theorem Ry {r:VV×Int} {fp:Nat→Prop} (w:World) (u:Value) (h:(Sp.vt r fp).on w u):∃vs v,u=.tuple vs∧vs[1]?=some v∧(Sp.is (.int .i64 r.2)).on w v:=by
 obtain⟨ao,cap,ks,h1,h2⟩:=h
 exact⟨_,_,h1,rfl,rfl⟩
def TgF (w:World) (p q:Nat→Prop):Prop:=∀k,p k→q k∨TagV w k
theorem TgF.kn {w w':World} {p q:Nat→Prop} (h:TgF w p q) (g:w.grownBy w' none):TgF w' p q:=RM g h
theorem TgF.offR {w w':World} {p q:Nat→Prop} (h:TgF w p q) {row:Option Nat} (g:w.grownBy w' row) (hb:∀k,p k→row≠some k):TgF w' p q:=fun k hk=>(h k hk).imp id (·.keep g (hb k hk))
theorem TgF.join {w:World} {p q r:Nat→Prop} (h:TgF w p q) (h2:TgF w q r):TgF w p r:=fun k hk=>(h k hk).elim (h2 k) .inr
theorem TgF.none (w:World):TgF w (Mh (.slice none 0 0) []) (fun _=>False):=fun k hk=>(NE k hk).elim
theorem ABv {i j:Nat} (hi:i<6) (hj:j<6) (h:FA i=FA j):i=j:=by
 have:=(List.cons.inj h).1
 omega
def Wr (seed:List Nat):Nat→List Nat
 | 0=>kd 274 seed
 | j+1=>kd 276 (Wr seed j)
theorem Hn (seed:List Nat):∀j,Dg (Wr seed j)
 | 0=>BR _ _
 | _+1=>BR _ _
def Tsd (seed:List Nat) (j:Nat):List Nd:=tree (kd 275 (Wr seed j)) []
def Po (seed:List Nat):Nat→List VP
 | 0=>[]
 | i+1=>Mb (Po seed i) (FA i) (Tsd seed i)
def OV (T:Nat→List Nd) (P:List VP) (i:Nat):Prop:=CK P=true∧P.length=i∧∀x,x∈P↔∃j,j<i∧x=(FA j,T j)
theorem OV.not {T:Nat→List Nd} {P:List VP} {i:Nat} (h:OV T P i) (hi:i<6):Hv P (FA i)=false:=AGQ (Srt.of h.1) fun hm=>by
 obtain⟨x,hx,e⟩:=List.mem_map.1 hm
 obtain⟨j,hj,rfl⟩:=(h.2.2 x).1 hx
 have:=ABv (by omega) hi e
 omega
theorem OV.succ {T:Nat→List Nd} {P:List VP} {i:Nat} (h:OV T P i) (hi:i<6) (hT:∀j,GO (T j)=true):OV T (Mb P (FA i) (T i)) (i+1):=by
 refine⟨YY h.1 (h.not hi) (by rw[h.2.1];omega) (hT i),by rw[AGR,h.2.1],fun x=>?_⟩
 rw[ABK,h.2.2 x]
 constructor
 · rintro (rfl|⟨j,hj,rfl⟩)
   · exact⟨i,by omega,rfl⟩
   · exact⟨j,by omega,rfl⟩
 · rintro ⟨j,hj,rfl⟩
   by_cases e:j=i
   · subst e;exact .inl rfl
   · exact .inr ⟨j,by omega,rfl⟩
theorem AHY (seed:List Nat) (j:Nat):GO (Tsd seed j)=true:=Jm _
theorem Je (seed:List Nat):∀i,i≤6→OV (Tsd seed) (Po seed i) i
 | 0,_=>⟨rfl,rfl,by simp[Po]⟩
 | i+1,h=>(Je seed i (by omega)).succ (by omega) (AHY seed)
def V6 (seed:List Nat):VV:=(Po seed 6,kd 273 seed,Wr seed 6)
theorem AJV {seed:List Nat} {i:Nat} {P:List VP} (hP:P=Po seed i) (hi:i<6):L8 (P,kd 273 seed,Wr seed i) (FA i) (Tsd seed i) (kd 276 (Wr seed i))=((Po seed (i+1),kd 273 seed,Wr seed (i+1)),0):=by
 subst hP
 have h:=Je seed i (by omega)
 exact Xe h.1 (h.not hi) (by rw[h.2.1];omega)
def AFe (a b c:Value) (k:Nat):Prop:=Bk a k∨Bk b k∨Bk c k
def SdF (w:World) (s:Sd) (own wr:List DD) (ao wo bo:Option Addr) (ac wc bc:Nat):Prop:=own.map DD.x=s.own∧wr.map DD.x=s.wr ∧
 Own w 23 32 (.slice ao own.length ac) own.length (own.flatMap LM)∧Own w 23 32 (.slice wo wr.length wc) wr.length (wr.flatMap LM)∧Own w 5 1 (.slice bo s.body.length bc) s.body.length (bv s.body) ∧
 (∀k,Bk (.slice ao own.length ac) k→¬Bk (.slice wo wr.length wc) k)∧Dg s.tag∧By s.body
section
variable {w w':World} {s:Sd} {own wr:List DD} {ao wo bo:Option Addr} {ac wc bc:Nat}
theorem SdF.kn (h:SdF w s own wr ao wo bo ac wc bc) (g:w.grownBy w' none):SdF w' s own wr ao wo bo ac wc bc:=by
 obtain⟨h1,h2,h3,h4,h5,h6⟩:=h
 exact⟨h1,h2,h3.kn g,h4.kn g,h5.kn g,h6⟩
theorem SdF.offR (h:SdF w s own wr ao wo bo ac wc bc) {row:Option Nat} (g:w.grownBy w' row) (hb:∀k,AFe (.slice ao own.length ac) (.slice wo wr.length wc) (.slice bo s.body.length bc) k→row≠some k):SdF w' s own wr ao wo bo ac wc bc:=by
 obtain⟨h1,h2,h3,h4,h5,h6⟩:=h
 exact⟨h1,h2,h3.offR g fun k hk=>hb k (.inl hk),h4.offR g fun k hk=>hb k (.inr (.inl hk)),h5.offR g fun k hk=>hb k (.inr (.inr hk)),h6⟩
theorem SdF.lt (h:SdF w s own wr ao wo bo ac wc bc):∀k,AFe (.slice ao own.length ac) (.slice wo wr.length wc) (.slice bo s.body.length bc) k→k<w.heap.size:=by
 obtain⟨h1,h2,h3,h4,h5,h6⟩:=h
 rintro k (hk|hk|hk)
 · exact Own.ltS h3 k hk
 · exact Own.ltS h4 k hk
 · exact Own.ltS h5 k hk
theorem SdF.ap (h:SdF w s own wr ao wo bo ac wc bc) {b:Nat} {c:Array Value} {T:TypeId} {fr:Nat×Nat} (hb:w.heap[b]?=some (.cells c T fr)) (hT:T≠23∧T≠5):∀k,AFe (.slice ao own.length ac) (.slice wo wr.length wc) (.slice bo s.body.length bc) k→k≠b:=by
 obtain⟨h1,h2,h3,h4,h5,h6⟩:=h
 rintro k (hk|hk|hk) rfl
 · exact Own.ne h3 hb (Ne.symm hT.1) hk
 · exact Own.ne h4 hb (Ne.symm hT.1) hk
 · exact Own.ne h5 hb (Ne.symm hT.2) hk
theorem SdF.ro (h:SdF w s own wr ao wo bo ac wc bc):RdD w (.slice ao own.length ac) own:=Own.sb h.2.2.1
theorem SdF.rw (h:SdF w s own wr ao wo bo ac wc bc):RdD w (.slice wo wr.length wc) wr:=Own.sb h.2.2.2.1
theorem SdF.rb (h:SdF w s own wr ao wo bo ac wc bc):SlB w 1 (.slice bo s.body.length bc) s.body.length (bv s.body):=Own.sb h.2.2.2.2.1
theorem SdF.tg (h:SdF w s own wr ao wo bo ac wc bc):Dg s.tag:=h.2.2.2.2.2.2.1
theorem SdF.by (h:SdF w s own wr ao wo bo ac wc bc):By s.body:=h.2.2.2.2.2.2.2
theorem SdF.sd (h:SdF w s own wr ao wo bo ac wc bc):(⟨s.addr,own.map DD.x,s.joint,wr.map DD.x,s.body,s.tag⟩:Sd)=s:=by rw[h.1,h.2.1]
end
def Sp.sr (B:Nat) (r:Sd×Int):Sp:=⟨fun w v=>∃own wr ao wo bo ac wc bc,v=.tuple #[B9 r.1.addr (.slice ao (List.length own) ac) r.1.joint (.slice wo (List.length wr) wc) (.slice bo r.1.body.length bc) r.1.tag,.int .i64 r.2]∧SdF w r.1 own wr ao wo bo ac wc bc∧∀k,AFe (.slice ao (List.length own) ac) (.slice wo (List.length wr) wc) (.slice bo r.1.body.length bc) k→B≤k,
 fun _ _ _ hg ⟨own,wr,ao,wo,bo,ac,wc,bc,h1,h2,h3⟩=>⟨own,wr,ao,wo,bo,ac,wc,bc,h1,h2.kn hg,h3⟩⟩
def Sp.sl (B:Nat) (s:Sd):Sp:=⟨fun w v=>∃own wr ao wo bo ac wc bc,v=B9 s.addr (.slice ao (List.length own) ac) s.joint (.slice wo (List.length wr) wc) (.slice bo s.body.length bc) s.tag∧SdF w s own wr ao wo bo ac wc bc∧∀k,AFe (.slice ao (List.length own) ac) (.slice wo (List.length wr) wc) (.slice bo s.body.length bc) k→B≤k,
 fun _ _ _ hg ⟨own,wr,ao,wo,bo,ac,wc,bc,h1,h2,h3⟩=>⟨own,wr,ao,wo,bo,ac,wc,bc,h1,h2.kn hg,h3⟩⟩
theorem ZN {B:Nat} {r:Sd×Int} (w:World) (u:Value) (h:(Sp.sr B r).on w u):∃vs v,u=.tuple vs∧vs[0]?=some v∧(Sp.sl B r.1).on w v:=by
 obtain⟨own,wr,ao,wo,bo,ac,wc,bc,h1,h2⟩:=h
 exact⟨_,_,h1,rfl,own,wr,ao,wo,bo,ac,wc,bc,rfl,h2⟩
theorem Mv {B:Nat} {r:Sd×Int} (w:World) (u:Value) (h:(Sp.sr B r).on w u):∃vs v,u=.tuple vs∧vs[1]?=some v∧(Sp.is (.int .i64 r.2)).on w v:=by
 obtain⟨own,wr,ao,wo,bo,ac,wc,bc,h1,h2⟩:=h
 exact⟨_,_,h1,rfl,rfl⟩
theorem SRes.sr {w w':World} {B:Nat} {r:Sd×Int} {e:Ending} (h:SRes w w' r e) (hB:B≤w.heap.size):∃v,e=.returned v∧w.grownBy w' none∧(Sp.sr B r).on w' v:=by
 obtain⟨own,wr,ao,wo,bo,ac,wc,bc,h1,h2,h3,h4,h5,h6,f1,f2,f3,f4,h7,h8,h9⟩:=h
 refine⟨_,h1,h9,own,wr,ao,wo,bo,ac,wc,bc,rfl,⟨h2,h3,h4,h5,h6,f4,h7,h8⟩,?_⟩
 rintro k (hk|hk|hk)
 · exact Nat.le_trans hB (f1 k hk)
 · exact Nat.le_trans hB (f2 k hk)
 · exact Nat.le_trans hB (f3 k hk)
theorem AAq {W:World} {B:Nat} {ks:List VK} {vo:Option Addr} {vc_:Nat} {sa po:List Nat} (hsa:Dg sa) (hpo:Dg po) {P:List VP} {ds:List DD} {v:Value} {joint ad:Int} {x:V} {r:Sd×Int} (hr:RdK W (.slice vo ks.length vc_) ks) (hP:ks.map VK.p=P) (ho:RdD W v ds) (hdl:ds.length≤1000) (hB:B≤W.heap.size) (hres:Fm P (ds.map DD.x) joint ad x=r) :
  Calls Tryz.prog 20 #[Am sa po (.slice vo ks.length vc_),v,.int .i64 joint,.int .i64 ad,CH x] W fun e w'=>∃v,e=.returned v∧W.grownBy w' none∧(Sp.sr B r).on w' v:=by
 obtain⟨ao,cap,rfl⟩:=ho.shape
 subst hP hres
 exact(AC6 ks vo vc_ sa po hsa hpo ds ao cap joint ad x W hr ho hdl).mono fun e w' h=>h.sr hB
def KV (P:List VP) (x:V) (n:Int) (b:Bool) (a:Int):Sd×Int:=Fm P ((Ey n 6).map DD.x) (jt b) (Kk a) x
theorem AJW (n:Int) {w0 W:World} (g:w0.grownBy W none):Calls Tryz.prog 17 #[.int .i64 n] W fun e w'=>∃v,e=.returned v∧W.grownBy w' none∧(Sp.row w0.heap.size 23 32 (Ey n 6).length ((Ey n 6).flatMap LM)).on w' v:=
 (AFb n W).mono fun e w' ⟨v,h1,h2,ao,cap,h3,h4,h5⟩=>⟨v,h1,h2,ao,cap,h3,h4,fun k hk=>Nat.le_trans g.size (h5 k hk)⟩
theorem AKp {W:World} {B:Nat} {ds:List DD} {v:Value} (h:(Sp.row B 23 32 ds.length (ds.flatMap LM)).on W v):RdD W v ds:=by
 obtain⟨ao,cap,rfl,h2,_⟩:=h
 exact Own.sb h2
theorem AAr (seed:List Nat) (hse:Dg seed) (w:World) :
   Calls Tryz.prog 14 #[AP seed] w fun e w'=>∃v,e=.returned v∧w.grownBy w' none∧(Sp.vv (V6 seed) (fun _=>False)).on w' v:=by
 refine BZ Tryz.func14 rfl Tryz.ntmps14 rfl fun a0 sv0=>?_
 have HG:=World.grownBy.refl w none
 replace sv0:Sv 19 [] [(0,AP seed)] a0:=sv0
 refine ALz fun K1 k1=>?_
 refine ALy ?_
 refine Bj sv0 r6 (B6 seed hse.1) fun a2 w2 CI F8 g2 z2 Aa sv2=>?_
 replace HG:=AA HG g2
 refine Ar (T:=36) (Z:=([bv AR,bv AR,[.slice none 0 0]].flatten)) sv2 rfl rfl rfl (fun a w=>by kernel_rfl) fun a3 w3 OF Iz g3 z3 CO sv3=>?_
 have Jw:=Bt HG Iz
 replace Aa:=AC g3 Aa
 refine AE ?_
 refine k1 _ _ ?_
 refine ALz fun K4 k4=>?_
 refine ALy ?_
 refine AJ sv3 2 [(5,AP seed),(6,Am ((kd 273 seed)) ((Wr seed 0)) (.slice none 0 0))]
   ⟨yl r6 (B6 seed hse.1) Aa,Ae [AP seed] Tryz.func38 (by kernel_rfl) rq4 ⟨(oy rfl rfl),AL5⟩ (Ap fun W g=>AAB seed hse W),AL5⟩ fun a5 w5 g5 sv5=>?_
 replace Aa:=AC g5 Aa
 replace CO:=AC g5 CO
 replace HG:=AA (AA HG g3) g5
 refine Ar (T:=36) (Z:=([bv AR,bv AR,[.slice none 0 0]].flatten)) sv5 rfl rfl rfl (fun a w=>by kernel_rfl) fun a6 w6 AHZ WY g6 z6 Ii sv6=>?_
 have Nk:=An Aa WY
 have Nl:=An CO WY
 have ABw:=Bt HG WY
 refine Ao sv6 r7 (Bb (BR _ _) (Hn seed 0) (.slice none 0 0) rfl) Ii (by first|rfl|simp[Af,AI,AV,(BR _ _).1,(Hn seed 0).1]) fun w7 g7 h7=>?_
 replace Aa:=AX g7 (AC g6 Aa) (Ne.symm Nk)
 replace CO:=AX g7 (AC g6 CO) (Ne.symm Nl)
 replace HG:=AD (AA HG g6) g7 ABw
 replace Ii:=h7
 refine AE ?_
 refine k4 _ _ ?_
 refine ALz fun K8 k8=>?_
 refine ALz fun K9 k9=>?_
 refine ALy ?_
 refine AY (v:=.int .i64 0) sv6 r6 fun a10 Cb=>?_
 refine AE ?_
 refine k9 _ _ ?_
 refine BM fun Q11 x11 y11 rt11 o11=>?_
 have hr:=RdK.nil w7
 have Mw:∀k,Mh (.slice none 0 0) [] k→k≠CI:=fun k hk=>(NE k hk).elim
 have Ij:∀k,Mh (.slice none 0 0) [] k→k≠OF:=fun k hk=>(NE k hk).elim
 have Ik:∀k,Mh (.slice none 0 0) [] k→k≠AHZ:=fun k hk=>(NE k hk).elim
 have ht:=TgF.none w7
 refine wp_loop (fun a w'=>∃(i:Nat) (ks:List VK) (ao:Option Addr) (cap:Nat),(i≤6)∧(ks.map VK.p=Po seed i)∧Sv 19 [] [(4,.int .i64 ((i:Int))),(3,pt AHZ),(5,AP seed),(6,Am ((kd 273 seed)) ((Wr seed 0)) (.slice none 0 0)),(2,pt OF),(1,pt CI),(0,AP seed)] a∧w.grownBy w' none∧w'.heap[CI]?=some (.cells (bv seed).toArray 23 (0,0))∧w'.heap[OF]?=some (.cells (([bv AR,bv AR,[.slice none 0 0]].flatten)).toArray 36 (0,0))∧w'.heap[AHZ]?=some (.cells ([bv ((kd 273 seed)),bv ((Wr seed i)),[.slice ao ks.length cap]].flatten).toArray 36 (0,0))∧RdK w' (.slice ao ks.length cap) ks∧TgF w' (Mh (.slice ao ks.length cap) ks) (fun _=>False)∧(∀k,Mh (.slice ao ks.length cap) ks k→k≠CI)∧(∀k,Mh (.slice ao ks.length cap) ks k→k≠OF)∧(∀k,Mh (.slice ao ks.length cap) ks k→k≠AHZ)) (fun a _=>(6-intOf (a.tmps.getD 4 undef)).toNat) ⟨0,[],none,0,by omega,rfl,⟨Cb.1,Cb.2.1,Cb.2.2.1,Cb.2.2.2.1,Cb.2.2.2.2.1,Cb.2.2.2.2.2.1,Cb.2.2.2.2.2.2.1,Cb.2.2.2.2.2.2.2.1,(AG Cb).1,AL5⟩,HG,Aa,CO,Ii,hr,ht,Mw,Ij,Ik⟩ fun a12 w12 hI12=>?_
 clear Aa
 clear CO
 clear Ii
 clear hr
 clear ht
 clear HG
 obtain⟨i,ks,ao,cap,hi6,hP,DL,HG,Aa,CO,Ii,hr,ht,Mw,Ij,Ik⟩:=hI12
 refine ALz fun K13 k13=>?_
 refine ALz fun K14 k14=>?_
 by_cases hi:i<6
 · refine ALy ?_
   refine AJ DL 2 [(7,.int .i64 ((i:Int))),(8,.bool true)]
    ⟨ym r5,Cz r6 (fun _=>Bo (decide_eq_true (by omega))),AL5⟩ fun a15 w15 g15 Ms=>?_
   refine AE ?_
   refine k14 _ _ ?_
   refine Aw Ms rfl rfl ?_
   refine AL3 ?_
   refine k13 _ _ ?_
   refine ALz fun K16 k16=>?_
   refine BM fun Q17 x17 y17 rt17 o17=>?_
   replace Ii:=AC g15 Ii
   replace hr:=hr.kn g15
   refine DW (Ms.st w15) (by kernel_rfl) 7 [(12,Sp.is (Am ((kd 273 seed)) ((Wr seed i)) (.slice ao ks.length cap))),(13,Sp.is (.int .i64 ((i:Int)))),(14,Sp.is (AP ((FA i)))),(15,Sp.vt ((Po seed (i+1),(kd 273 seed),(Wr seed (i+1))),(0:Int)) (Mh (.slice ao ks.length cap) ks)),(11,Sp.vt ((Po seed (i+1),(kd 273 seed),(Wr seed (i+1))),(0:Int)) (Mh (.slice ao ks.length cap) ks)),(16,Sp.vv (Po seed (i+1),(kd 273 seed),(Wr seed (i+1))) (Mh (.slice ao ks.length cap) ks)),(17,Sp.is (.int .i64 0))] rfl (by kernel_rfl) (by kernel_rfl) (by kernel_rfl) [6] (by kernel_rfl)
    ⟨yl r6 (Bb (BR _ _) (Hn seed i) (.slice ao ks.length cap) rfl) Ii,ym r5,Ae [.int .i64 ((i:Int))] Tryz.func30 (by kernel_rfl) rq4 ⟨(oy rfl rfl),AL5⟩ (Ap fun W g=>KH i hi W),Ae [Am ((kd 273 seed)) ((Wr seed i)) (.slice ao ks.length cap),AP ((FA i))] Tryz.func39 (by kernel_rfl) rq4 ⟨(oy rfl rfl),(oy rfl rfl),AL5⟩ (AG1 (BR _ _) (Hn seed i) (KG i) hr rfl (T:=Tsd seed i) rfl (AJV hP hi)),ym r5,BF rq4 (fun w u h=>Rx w u h),BF rq4 (fun w u h=>Ry w u h),AL5⟩ ⟨fun o ho=>by obtain rfl:=Option.some.inj ho;exact IM rfl rfl rfl trivial (fun w u h=>Ry w u h),AL5⟩
    [] (by kernel_rfl) trivial ⟨.inl rfl,.inl rfl,.inl rfl,.inl rfl,.inl rfl,.inl rfl,.inl rfl,AL5⟩ (by kernel_rfl) fun a18 w18 g18 st18 nd18=>?_
   obtain⟨hn18,hd18,e18_12,e18_13,e18_14,e18_15,e18_11,e18_16,e18_17,e18_7,e18_8,e18_4,e18_3,e18_5,e18_6,e18_2,e18_1,e18_0,-⟩:=st18
   obtain⟨ao19,cap19,ks19,e18_16q,hp19,hk19,hf19⟩:=e18_16
   replace Aa:=AC g18 (AC g15 Aa)
   replace CO:=AC g18 (AC g15 CO)
   replace Ii:=AC g18 Ii
   have WZ:=AAp hf19 Mw Aa (by decide)
   have Wa:=AAp hf19 Ij CO (by decide)
   have KI:=AAp hf19 Ik Ii (by decide)
   have CZ:Sv 19 [] [(7,_),(8,_),(4,_),(3,_),(5,_),(6,_),(2,_),(1,_),(0,_),(16,_)] a18:=⟨hn18,hd18,e18_7,e18_8,e18_4,e18_3,e18_5,e18_6,e18_2,e18_1,e18_0,e18_16q,AL5⟩
   refine Ao CZ r7 (Bb (BR _ _) (Hn seed (i+1)) (.slice ao19 ks19.length cap19) rfl) Ii (by first|rfl|simp[Af,AI,AV,(BR _ _).1,(Hn seed (i+1)).1,(BR _ _).1,(Hn seed i).1]) fun w20 g20 h20=>?_
   refine AE ?_
   refine y17 _ _ ?_
   refine k16 _ _ ?_
   refine ALy ?_
   refine AJ CZ 2 [(9,.int .i64 ((i:Int))),(10,.int .i64 (((i+1:Nat):Int)))]
    ⟨ym r5,Cz r6 (fun _=>Dk (by rw[BG (by omega) (by omega)];omega)),AL5⟩ fun a21 w21 g21 Di=>?_
   refine AY (v:=.int .i64 (((i+1:Nat):Int))) Di r6 fun a22 Ct=>?_
   refine AE ?_
   replace Aa:=AC g21 (AX g20 Aa (Ne.symm Nk))
   replace CO:=AC g21 (AX g20 CO (Ne.symm Nl))
   replace Ii:=AC g21 h20
   replace hr:=((hr.kn g18).offR g20 (AU Ik)).kn g21
   replace ht:=TgF.kn (TgF.offR (TgF.kn (TgF.kn ht g15) g18) g20 (AU Ik)) g21
   replace hk19:=(hk19.offR g20 (AU KI)).kn g21
   replace hf19:=TgF.kn (TgF.offR hf19 g20 (AU KI)) g21
   replace HG:=AA (AD (AA (AA HG g15) g18) g20 ABw) g21
   have htn:=hf19.join ht
   exact⟨⟨i+1,ks19,ao19,cap19,by omega,hp19,⟨Ct.1,Ct.2.1,Ct.2.2.1,Ct.2.2.2.2.2.2.2.1,(AG Ct).1,(AG Ct).2.1,(AG Ct).2.2.1,(AG Ct).2.2.2.1,(AG Ct).2.2.2.2.1,AL5⟩,HG,Aa,CO,Ii,hk19,htn,WZ,Wa,KI⟩,by rw[show _=_ from Ct.2.2.1,show _=_ from DL.2.2.1];simp[intOf];omega⟩
 · obtain rfl:i=6:=by omega
   refine ALy ?_
   refine AJ DL 2 [(7,.int .i64 (((6:Nat):Int))),(8,.bool false)]
    ⟨ym r5,Cz r6 (fun _=>Bo (by simp)),AL5⟩ fun a23 w23 g23 Cw=>?_
   refine AE ?_
   refine k14 _ _ ?_
   refine A1 Cw rfl rfl ?_
   refine wp_exit ?_
   repeat refine CY ?_
   refine x11 _ _ ?_
   refine k8 _ _ ?_
   refine ALz fun K24 k24=>?_
   refine ALy ?_
   refine AJ Cw 1 [(18,Am ((kd 273 seed)) ((Wr seed 6)) (.slice ao ks.length cap))]
    ⟨yl r6 (Bb (BR _ _) (Hn seed 6) (.slice ao ks.length cap) rfl) (AC g23 Ii),AL5⟩ fun a25 w25 g25 DV=>?_
   have Kh:=AA g23 g25
   refine Ao DV r7 (Bb (BR _ _) (Hn seed 6) (.slice ao ks.length cap) rfl) (AC Kh CO) (by first|rfl|simp[Af,AI,AV,(BR _ _).1,(Hn seed 6).1]) fun w26 g26 h26=>?_
   replace hr:=(hr.kn Kh).offR g26 (AU Ij)
   replace ht:=TgF.offR (TgF.kn ht Kh) g26 (AU Ij)
   replace HG:=AD (AA HG Kh) g26 Jw
   replace CO:=h26
   refine AE ?_
   refine k24 _ _ ?_
   refine AL2 ?_
   repeat refine AL ?_
   refine BI (fn:=Tryz.f14) DV (E2 (p:=2) Tryz.results14 DV rfl rfl (Bb (BR _ _) (Hn seed 6) (.slice ao ks.length cap) rfl) CO) ?_
   exact⟨_,rfl,HG,ao,cap,ks,rfl,hP,hr,ht⟩
theorem AAs (ks:List VK) (vo:Option Addr) (vc_:Nat) (sa po:List Nat) (hsa:Dg sa) (hpo:Dg po) (P:List VP) (hP:ks.map VK.p=P) (x:V) (n:Int) (b:Bool) (a:Int) (r:Sd×Int) (hres:KV P x n b a=r) (w:World) (hr:RdK w (.slice vo ks.length vc_) ks) :
  Calls Tryz.prog 15 #[Dz x n b a,Am sa po (.slice vo ks.length vc_)] w fun e w'=>∃v,e=.returned v∧w.grownBy w' none∧(Sp.sr w.heap.size r).on w' v:=by
 refine BZ Tryz.func15 rfl Tryz.ntmps15 rfl fun a0 sv0=>?_
 have HG:=World.grownBy.refl w none
 replace sv0:Sv 19 [] [(0,Dz x n b a),(1,Am sa po (.slice vo ks.length vc_))] a0:=sv0
 refine ALz fun K1 k1=>?_
 refine ALy ?_
 refine Bj sv0 r6 (Rv x n b a) fun a2 w2 Ci Dh g2 z2 AK sv2=>?_
 refine Bj sv2 r6 (Bb hsa hpo (.slice vo ks.length vc_) rfl) fun a3 w3 CX Fd g3 z3 AN sv3=>?_
 replace HG:=AA (AA HG g2) g3
 refine Ar (T:=31) (Z:=([[.int .i64 0],[.slice none 0 0],[.int .i64 0],[.slice none 0 0],[.slice none 0 0],bv AR].flatten)) sv3 rfl rfl rfl (fun a w=>by kernel_rfl) fun a4 w4 GV CM g4 z4 AQ sv4=>?_
 have CP:=Bt HG CM
 replace AK:=AC g4 (AC g3 AK)
 replace AN:=AC g4 AN
 replace hr:=((hr.kn g2).kn g3).kn g4
 replace HG:=AA HG g4
 refine AY (v:=.int .i64 0) sv4 r6 fun a5 sv5=>?_
 refine AE ?_
 refine k1 _ _ ?_
 refine ALz fun K6 k6=>?_
 refine DW (sv5.st w4) (by kernel_rfl) 13 [(6,Sp.is (Am sa po (.slice vo ks.length vc_))),(7,Sp.is (pk Ci 3)),(8,Sp.is (.int .i64 n)),(9,Sp.row w4.heap.size 23 32 (Ey n 6).length ((Ey n 6).flatMap LM)),(10,Sp.is (Dz x n b a)),(11,Sp.is (.int .i64 ((jt b)))),(12,Sp.is (Dz x n b a)),(13,Sp.is (.int .i64 ((Kk a)))),(14,Sp.is (pt Ci)),(15,Sp.is (CH x)),(16,Sp.sr w4.heap.size r),(17,Sp.sl w4.heap.size r.1),(18,Sp.is (.int .i64 r.2))] rfl (by kernel_rfl) (by kernel_rfl) (by kernel_rfl) [] (by kernel_rfl)
  ⟨yl r6 (Bb hsa hpo (.slice vo ks.length vc_) rfl) AN,yf r6 (fun _=>by kernel_rfl),yp (i:=1) r6 (E8 n) AK rfl rfl,Ae [.int .i64 n] Tryz.func17 (by kernel_rfl) rq4 ⟨(oy rfl rfl),AL5⟩ (fun W g=>AJW n g),yl r6 (Rv x n b a) AK,Ae [Dz x n b a] Tryz.func18 (by kernel_rfl) rq4 ⟨(oy rfl rfl),AL5⟩ (Ap fun W g=>AAo x n b a W),yl r6 (Rv x n b a) AK,Ae [Dz x n b a] Tryz.func19 (by kernel_rfl) rq4 ⟨(oy rfl rfl),AL5⟩ (Ap fun W g=>Of x n b a W),yf r6 (fun _=>by kernel_rfl),yp (i:=0) r6 (En x) AK rfl rfl,Xl (Sp.sr w4.heap.size r) rfl rfl trivial rfl (fun W g av h=>match av,h with|[_,_,_,_,_],⟨rfl,hv,rfl,rfl,rfl,_⟩=>AAq hsa hpo (hr.kn g) hP (AKp hv) (Nat.le_trans (QL n 6) (by decide)) g.size hres) (fun _ _ h=>h) (Ed Tryz.func20 (by kernel_rfl) rfl),BF rq4 (fun w u h=>ZN w u h),BF rq4 (fun w u h=>Mv w u h),AL5⟩ trivial
  [] (by kernel_rfl) trivial ⟨.inl rfl,.inl rfl,.inl rfl,.inl rfl,.inl rfl,.inl rfl,.inl rfl,.inl rfl,.inl rfl,.inl rfl,.inl rfl,.inl rfl,.inl rfl,AL5⟩ (by kernel_rfl) fun a7 w7 g7 st7 nd7=>?_
 obtain⟨hn7,hd7,e7_6,e7_7,e7_8,e7_9,e7_10,e7_11,e7_12,e7_13,e7_14,e7_15,e7_16,e7_17,e7_18,e7_5,e7_4,e7_3,e7_2,e7_0,e7_1,-⟩:=st7
 obtain⟨own8,wr8,ao8,wo8,bo8,ac8,wc8,bc8,e7_17q,hF,fr8⟩:=e7_17
 have AAt:=CJ fr8 AQ
 have lo_hF:=KP HG fr8
 replace AQ:=AC g7 AQ
 have sv7:Sv 19 [] [(5,_),(4,_),(3,_),(2,_),(0,_),(1,_),(17,_),(18,_)] a7:=⟨hn7,hd7,e7_5,e7_4,e7_3,e7_2,e7_0,e7_1,e7_17q,e7_18,AL5⟩
 refine Ao sv7 r7 (EJ _ _ hF.tg (.slice ao8 (List.length own8) ac8) (.slice wo8 (List.length wr8) wc8) (.slice bo8 r.1.body.length bc8) rfl rfl rfl) AQ (FL AO hF.tg) fun w9 g9 h9=>?_
 replace hF:=hF.offR g9 (AU AAt)
 replace HG:=AD (AA HG g7) g9 CP
 replace AQ:=h9
 refine AY (v:=.int .i64 r.2) sv7 r6 fun a10 Cb=>?_
 have Cc:Sv _ _ [_,_,_,_] _:=Cb.dl [3,2,17,18]
 refine AE ?_
 refine k6 _ _ ?_
 refine AL2 ?_
 repeat refine AL ?_
 refine BI (fn:=Tryz.f15) Cc (Gd (p:=4) (q:=5) Tryz.results15 Cc rfl rfl rfl rfl (EJ _ _ hF.tg (.slice ao8 (List.length own8) ac8) (.slice wo8 (List.length wr8) wc8) (.slice bo8 r.1.body.length bc8) rfl rfl rfl) AQ) ?_
 exact⟨_,rfl,HG,own8,wr8,ao8,wo8,bo8,ac8,wc8,bc8,rfl,hF,lo_hF⟩
end Go.Proofs.YtbfjfnbcmojpiaaGreat
namespace Go.Proofs.YtbfjfnbcmojpiaaGreat
open Go.ChangeShapes Go.WideShapes Go.ChangeAt Go.RowKit Go.Deep
end Go.Proofs.YtbfjfnbcmojpiaaGreat
