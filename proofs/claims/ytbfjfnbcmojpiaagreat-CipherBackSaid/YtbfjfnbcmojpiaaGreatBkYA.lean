import Derived.Test.YtbfjfnbcmojpiaaGreatBkY8
import Derived.Test.YtbfjfnbcmojpiaaGreatBkR1
set_option linter.unusedSimpArgs false
set_option linter.unusedVariables false
set_option maxRecDepth 100000
set_option maxHeartbeats 4000000
namespace Go.Proofs.YtbfjfnbcmojpiaaGreat
open Go.RowKit Go.Shelf
end Go.Proofs.YtbfjfnbcmojpiaaGreat
namespace Go.Proofs.YtbfjfnbcmojpiaaGreat
open Go.RowKit
attribute [local go_sem] Oper.semAt_some
attribute [local go_sem] Oper.semAt_some
attribute [local go_sem] Oper.semAt_some
end Go.Proofs.YtbfjfnbcmojpiaaGreat
namespace Go.Proofs.YtbfjfnbcmojpiaaGreat
open Go.RowKit Go.Shelf
def Iv (b:List Nat):V×Int:=match pV b with
 | .ok (x,[])=>(x,0)
 | _=>(V.nul,101)
theorem Xe {b:List Nat} {x:V} (h:pV b=.ok (x,[])):Iv b=(x,0):=by unfold Iv;rw[h]
theorem ZP {b r:List Nat} {x:V} (h:pV b=.ok (x,r)) (hr:0<r.length):Iv b=(V.nul,101):=by
 unfold Iv
 rw[h]
 cases r with
 | nil=>simp at hr
 | cons c r=>rfl
theorem ABK {b:List Nat} {e:Nat} (h:pV b=.error e):Iv b=(V.nul,101):=by unfold Iv;rw[h]
def WP (P:List VP) (a:Int):List (List Nat)→List (List Nat)→Option (List Nat)
 | [],_=>none
 | o::own,wr=>if (Cl P o a).2=0 then some (L8 (KH wr 0) (Cl P o a).1) else WP P a own wr.tail
theorem Qr {P:List VP} {a:Int}:∀{own wr:List (List Nat)},(∀j,j<own.length→(Cl P (KH own j) a).2≠0)→WP P a own wr=none
 | [],_,_=>rfl
 | o::own,wr,h=>by
  have h0:(Cl P o a).2≠0:=h 0 (by simp)
  unfold WP
  rw[if_neg h0]
  exact Qr fun j hj=>h (j+1) (by simpa using hj)
theorem Ow {P:List VP} {a:Int}:∀{own wr:List (List Nat)} {i:Nat},i<own.length→(∀j,j<i→(Cl P (KH own j) a).2≠0)→(Cl P (KH own i) a).2=0→WP P a own wr=some (L8 (KH wr i) (Cl P (KH own i) a).1)
 | [],_,_,hi,_,_=>by simp at hi
 | o::own,wr,0,_,_,h=>by
  have h0:(Cl P o a).2=0:=h
  unfold WP
  rw[if_pos h0]
  rfl
 | o::own,wr,i+1,hi,hj,h=>by
  have h0:(Cl P o a).2≠0:=hj 0 (by omega)
  have:=Ow (own:=own) (wr:=wr.tail) (i:=i) (by simpa using hi) (fun j hjj=>hj (j+1) (by omega)) h
  unfold WP
  rw[if_neg h0,this]
  cases wr<;>rfl
def IH (P:List VP) (s:Sd):Option (List Nat):=if s.joint=1 then WP P s.addr s.own s.wr else if (Ca P s.addr s.own).2=0 then some (Sn (decide ((0:Int)=1)) (Ca P s.addr s.own).1) else none
def EX (P:List VP) (s:Sd):V×Int:=
 if EE s&&CR P then
  (if s.own=[] then (if Yw s.addr s.body=s.tag then Iv s.body else (V.nul,101))
  else match IH P s with
   | none=>(V.nul,10)
   | some c=>if So c s.addr s.body=s.tag then Iv (IB s.body c) else (V.nul,101))
 else (V.nul,1)
theorem ABL {s:Sd} (h:EE s=true):hd s.own s.joint s.addr=true:=by
 unfold EE at h
 simp only[Bool.and_eq_true] at h
 exact h.1.1
theorem AFK {s:Sd} (h:EE s=true):s.body.length≤64:=by
 unfold EE at h
 simp only[Bool.and_eq_true,decide_eq_true_eq] at h
 exact h.1.2
theorem AFL {s:Sd} (h:EE s=true) (hj:s.joint=1):s.wr.length=s.own.length:=by
 unfold EE at h
 rw[if_pos hj] at h
 simp only[Bool.and_eq_true,decide_eq_true_eq] at h
 exact h.2
def RecR (w w':World) (r:Option (List Nat)) (e:Ending):Prop:=∃c,e=.returned (.tuple #[AP c,.bool r.isSome])∧Dg c∧(∀c',r=some c'→c'=c)∧w.grownBy w' none
theorem RecR.some {w w':World} {r:Option (List Nat)} {c:List Nat} (h:r=some c) (hc:Dg c) (g:w.grownBy w' none):RecR w w' r (.returned (.tuple #[AP c,.bool true])):=by
 subst h
 exact⟨c,rfl,hc,fun c' h=>(Option.some.inj h).symm,g⟩
theorem RecR.none {w w':World} {r:Option (List Nat)} {c:List Nat} (h:r=none) (hc:Dg c) (g:w.grownBy w' none):RecR w w' r (.returned (.tuple #[AP c,.bool false])):=by
 subst h
 exact⟨c,rfl,hc,fun c' h=>(by cases h),g⟩
theorem WQ (ks:List VK) (vo:Option Addr) (vc_:Nat) (sa po:List Nat) (hsa:Dg sa) (hpo:Dg po) (ad joint:Int) (od wd:List DD) (ao wo bo:Option Addr) (ac wc bc:Nat) (body tg:List Nat) (htg:Dg tg) (w:World) (hr:RdK w (.slice vo ks.length vc_) ks) (ho:RdD w (.slice ao od.length ac) od) (hw:RdD w (.slice wo wd.length wc) wd) (hb:SlB w 1 (.slice bo body.length bc) body.length (bv body)) (hvs:EE ⟨ad,od.map DD.x,joint,wd.map DD.x,body,tg⟩=true) :
   Calls Tryz.prog 62 #[An sa po (.slice vo ks.length vc_),Br ad (.slice ao od.length ac) joint (.slice wo wd.length wc) (.slice bo body.length bc) tg] w fun e w'=>RecR w w' (IH (ks.map VK.p) ⟨ad,od.map DD.x,joint,wd.map DD.x,body,tg⟩) e:=by
 obtain⟨P,hP⟩:∃P,ks.map VK.p=P:=⟨_,rfl⟩
 obtain⟨own,hown⟩:∃own,od.map DD.x=own:=⟨_,rfl⟩
 have hownl:own.length=od.length:=by rw[←hown,List.length_map]
 have hnok:=hr.noks2
 rw[hP] at hnok
 rw[hP,hown]
 obtain⟨haa,hjj,hol,_⟩:=XY (ABL hvs)
 have hol:own.length≤16:=by rw[←hown];exact hol
 have hwl:joint=1→wd.length=od.length:=fun h=>by have:=AFL hvs h;simpa using this
 refine BH Tryz.func62 rfl Tryz.ntmps62 rfl fun a0 sv0=>?_
 have HG:=World.grownBy.refl w none
 replace sv0:Sv 64 [] [(0,An sa po (.slice vo ks.length vc_)),(1,Br ad (.slice ao od.length ac) joint (.slice wo wd.length wc) (.slice bo body.length bc) tg)] a0:=sv0
 refine AH4 fun K1 k1=>?_
 refine AH3 ?_
 refine BQ sv0 r6 (Bm hsa hpo (.slice vo ks.length vc_) rfl) fun a2 w2 CJ Cs g2 z2 AH sv2=>?_
 refine BQ sv2 r6 (Dn _ _ htg (.slice ao od.length ac) (.slice wo wd.length wc) (.slice bo body.length bc) rfl rfl rfl) fun a3 w3 Bw EH g3 z3 AL sv3=>?_
 replace AH:=AC g3 AH
 replace hr:=(hr.kn g2).kn g3
 replace ho:=(ho.kn g2).kn g3
 replace hw:=(hw.kn g2).kn g3
 replace hb:=(hb.kn g2).kn g3
 replace HG:=AA (AA HG g2) g3
 refine Ap (T:=23) (Z:=(bv AS)) sv3 rfl rfl rfl (fun a w=>by kernel_rfl) fun a4 w4 FG Bz g4 z4 AN sv4=>?_
 have A8:=As AH Bz
 have BJ:=As AL Bz
 have B7:=Bp HG Bz
 have Bo:=Av (hr.lt) Bz
 have DI:=Av (ho.lt) Bz
 have DJ:=Av (hw.lt) Bz
 have Cz:=Av (hb.lt) Bz
 replace AH:=AC g4 AH
 replace AL:=AC g4 AL
 replace hr:=hr.kn g4
 replace ho:=ho.kn g4
 replace hw:=hw.kn g4
 replace hb:=hb.kn g4
 replace HG:=AA HG g4
 refine AZ (v:=.bool false) sv4 r6 fun a5 sv5=>?_
 refine AE ?_
 refine k1 _ _ ?_
 refine AH4 fun K6 k6=>?_
 refine AH3 ?_
 refine AZ (v:=.slice none 0 0) sv5 r6 fun a7 sv7=>?_
 refine AE ?_
 refine k6 _ _ ?_
 refine AH4 fun K8 k8=>?_
 refine AH4 fun K9 k9=>?_
 rcases hjj with rfl|rfl
 · refine AH3 ?_
   refine AK sv7 4 [(11,pk Bw 1),(12,.slice ao od.length ac),(13,.int .i64 ((od.length:Nat))),(14,.int .i64 0)]
     ⟨yf r6 (fun _=>by kernel_rfl),yp (i:=1) r6 (J9 (.slice ao od.length ac) rfl) AL rfl rfl,Be (Tryz.underlying28) rfl rfl trivial (oy rfl rfl) (fun _=>rfl),D8 (.inl rfl) rfl trivial (fun _=>rfl),AIA⟩ fun a10 w10 g10 CG=>?_
   refine AE ?_
   refine k9 _ _ ?_
   refine BB fun Q11 x11 y11 rt11 o11=>?_
   replace AH:=AC g10 AH
   replace AL:=AC g10 AL
   replace AN:=AC g10 AN
   replace hr:=hr.kn g10
   replace ho:=ho.kn g10
   replace hw:=hw.kn g10
   replace hb:=hb.kn g10
   replace HG:=AA HG g10
   have okk:=Own.nil w10 23 32
   have DB:=I6 CJ
   have DE:=I6 Bw
   have CP:=I6 FG
   have ap_hr_okk:=I7 (Kh (.slice vo ks.length vc_) ks)
   have ap_ho_okk:=I7 (BO (.slice ao od.length ac))
   have ap_hw_okk:=I7 (BO (.slice wo wd.length wc))
   have ap_hb_okk:=I7 (BO (.slice bo body.length bc))
   have lo_okk:=Yf w
   refine wp_loop (fun a w'=>∃(i:Nat) (ko:Option Addr) (kc:Nat) (kl:List DD),(i≤od.length)∧(kl.map DD.x=(own.take i).map fun z=>(Cl P z ad).1)∧(∀j,j<i→(Cl P (KH own j) ad).2=0)∧Sv 64 [] [(14,.int .i64 ((i:Int))),(6,.slice ko i kc),(11,pk Bw 1),(12,.slice ao od.length ac),(13,.int .i64 ((od.length:Nat))),(4,pt FG),(3,pt Bw),(2,pt CJ),(0,An sa po (.slice vo ks.length vc_)),(1,Br ad (.slice ao od.length ac) 0 (.slice wo wd.length wc) (.slice bo body.length bc) tg)] a∧w.grownBy w' none∧w'.heap[CJ]?=some (.cells ([bv sa,bv po,[.slice vo ks.length vc_]].flatten).toArray 36 (0,0))∧w'.heap[Bw]?=some (.cells ([[.int .i64 ad],[.slice ao od.length ac],[.int .i64 0],[.slice wo wd.length wc],[.slice bo body.length bc],bv tg].flatten).toArray 31 (0,0))∧w'.heap[FG]?=some (.cells ((bv AS)).toArray 23 (0,0))∧RdK w' (.slice vo ks.length vc_) ks∧RdD w' (.slice ao od.length ac) od∧RdD w' (.slice wo wd.length wc) wd∧SlB w' 1 (.slice bo body.length bc) body.length (bv body)∧Own w' 23 32 (.slice ko i kc) i (kl.flatMap JW)∧(∀k,BO (.slice ko i kc) k→k≠CJ)∧(∀k,BO (.slice ko i kc) k→k≠Bw)∧(∀k,BO (.slice ko i kc) k→k≠FG)∧(∀k,Kh (.slice vo ks.length vc_) ks k→¬BO (.slice ko i kc) k)∧(∀k,BO (.slice ao od.length ac) k→¬BO (.slice ko i kc) k)∧(∀k,BO (.slice wo wd.length wc) k→¬BO (.slice ko i kc) k)∧(∀k,BO (.slice bo body.length bc) k→¬BO (.slice ko i kc) k)∧(∀k,BO (.slice ko i kc) k→w.heap.size≤k)) (fun a _=>(od.length-intOf (a.tmps.getD 14 undef)).toNat) ⟨0,none,0,[],Nat.zero_le _,rfl,fun j hj=>by omega,⟨CG.1,CG.2.1,CG.2.2.2.2.2.1,CG.2.2.2.2.2.2.1,CG.2.2.1,CG.2.2.2.1,CG.2.2.2.2.1,(AJ CG).1,(AJ CG).2.1,(AJ CG).2.2.1,(AJ CG).2.2.2.1,(AJ CG).2.2.2.2.1,AIA⟩,HG,AH,AL,AN,hr,ho,hw,hb,okk,DB,DE,CP,ap_hr_okk,ap_ho_okk,ap_hw_okk,ap_hb_okk,lo_okk⟩ fun a12 w12 hI12=>?_
   clear AH
   clear AL
   clear AN
   clear hr
   clear ho
   clear hw
   clear hb
   clear okk
   clear HG
   obtain⟨i,ko,kc,kl,hin,hkl,hok,Cr,HG,AH,AL,AN,hr,ho,hw,hb,okk,DB,DE,CP,ap_hr_okk,ap_ho_okk,ap_hw_okk,ap_hb_okk,lo_okk⟩:=hI12
   refine AH4 fun K13 k13=>?_
   by_cases hi:i<od.length
   · obtain⟨y,hx_y⟩:∃zx,od[i]'hi=zx:=⟨_,rfl⟩
     have hla:KH own i=y.x:=by rw[←hown,Jy hi,hx_y]
     obtain⟨kx,hkx⟩:∃q,Cl P y.x ad=q:=⟨_,rfl⟩
     have hkd:Dg kx.1:=hkx▸Od hnok
     refine AH3 ?_
     refine AK Cr 1 [(15,.bool true)]
       ⟨Gs r7 (fun _=>Bb (by simp;omega)),AIA⟩ fun a14 w14 g14 Cy=>?_
     refine AE ?_
     refine k13 _ _ ?_
     refine AH4 fun K15 k15=>?_
     refine Aq Cy rfl rfl ?_
     refine AH8 ?_
     refine k15 _ _ ?_
     refine AH4 fun K16 k16=>?_
     refine BB fun Q17 x17 y17 rt17 o17=>?_
     refine AH4 fun K18 k18=>?_
     refine AH3 ?_
     replace ho:=ho.kn g14
     refine AK Cy 3 [(16,.int .i64 ((i:Int))),(17,pk ((bO ao)) (oO ao+i*32)),(18,AP y.x)]
       ⟨ym r5,BA rq8 (fun w=>CD Tryz.underlying28 (by kernel_rfl) (ho.1) (by omega) (rfl) w),Bn r6 (fun _ g=>Ad (Bj y.x y.h.1) (by have:=Cw (ho.kn g).1 FX hi (by decide);rw[hx_y] at this;exact this)),AIA⟩ fun a19 w19 g19 Dv=>?_
     replace AH:=AC g19 (AC g14 AH)
     replace AL:=AC g19 (AC g14 AL)
     replace AN:=AC g19 (AC g14 AN)
     replace hr:=(hr.kn g14).kn g19
     replace ho:=ho.kn g19
     replace hw:=(hw.kn g14).kn g19
     replace hb:=(hb.kn g14).kn g19
     replace okk:=(okk.kn g14).kn g19
     replace HG:=AA (AA HG g14) g19
     refine Ap (T:=23) (Z:=(bv AS)) Dv rfl rfl rfl (fun a w=>by kernel_rfl) fun a20 w20 AHh E8 g20 z20 WR Dl=>?_
     have Pz:=As AH E8
     have P0:=As AL E8
     have P1:=As AN E8
     have ABM:=Bp HG E8
     have UM:=Av (hr.lt) E8
     have UN:=Av (ho.lt) E8
     have UO:=Av (hw.lt) E8
     have UP:=Av (hb.lt) E8
     have SD:=Av (Own.ltS okk) E8
     refine AZ (v:=.int .i64 ((i:Int))) Dl r6 fun a21 DL=>?_
     refine Am DL r7 (Bj y.x y.h.1) WR (Fu y.h) fun w22 g22 h22=>?_
     replace AH:=Aa g22 (AC g20 AH) (Ne.symm Pz)
     replace AL:=Aa g22 (AC g20 AL) (Ne.symm P0)
     replace hr:=(hr.kn g20).offR g22 (AQ UM)
     replace WR:=h22
     refine AE ?_
     refine k18 _ _ ?_
     refine AH4 fun K23 k23=>?_
     refine AH3 ?_
     refine AK DL 8 [(20,An sa po (.slice vo ks.length vc_)),(21,AP y.x),(22,pt Bw),(23,.int .i64 ad),(24,.tuple #[AP kx.1,.int .i64 kx.2]),(19,.tuple #[AP kx.1,.int .i64 kx.2]),(25,AP kx.1),(26,.int .i64 kx.2)]
       ⟨yl r6 (Bm hsa hpo (.slice vo ks.length vc_) rfl) AH,yl r6 (Bj y.x y.h.1) WR,yf r6 (fun _=>by kernel_rfl),yp (i:=0) r6 (FY ad) AL rfl rfl,Ah [An sa po (.slice vo ks.length vc_),AP y.x,.int .i64 ad] Tryz.func32 (by kernel_rfl) rq4 ⟨(oy rfl rfl),(oy rfl rfl),(oy rfl rfl),AIA⟩ (Ao fun W g=>ABB hsa hpo y.h (hr.kn g) hP hkx),ym r5,BL rq4 (fun _ _ h=>⟨_,_,h,rfl,rfl⟩),BL rq4 (fun _ _ h=>⟨_,_,h,rfl,rfl⟩),AIA⟩ fun a24 w24 g24 Dw=>?_
     replace AH:=AC g24 AH
     replace AL:=AC g24 AL
     replace AN:=AC g24 (Aa g22 (AC g20 AN) (Ne.symm P1))
     replace hr:=hr.kn g24
     replace ho:=((ho.kn g20).offR g22 (AQ UN)).kn g24
     replace hw:=((hw.kn g20).offR g22 (AQ UO)).kn g24
     replace hb:=((hb.kn g20).offR g22 (AQ UP)).kn g24
     replace okk:=((okk.kn g20).offR g22 (AQ SD)).kn g24
     replace HG:=AA (AD (AA HG g20) g22 ABM) g24
     refine Ap (T:=23) (Z:=(bv AS)) Dw rfl rfl rfl (fun a w=>by kernel_rfl) fun a25 w25 AHi E9 g25 z25 WS Cu=>?_
     have P3:=As AH E9
     have P4:=As AL E9
     have P7:=As AN E9
     have ABN:=Bp HG E9
     have UQ:=Av (hr.lt) E9
     have UR:=Av (ho.lt) E9
     have US:=Av (hw.lt) E9
     have UT:=Av (hb.lt) E9
     have SE:=Av (Own.ltS okk) E9
     refine Am Cu r7 (Bj kx.1 hkd.1) WS (Fu hkd) fun w26 g26 h26=>?_
     replace AH:=Aa g26 (AC g25 AH) (Ne.symm P3)
     replace AL:=Aa g26 (AC g25 AL) (Ne.symm P4)
     replace AN:=Aa g26 (AC g25 AN) (Ne.symm P7)
     replace hr:=(hr.kn g25).offR g26 (AQ UQ)
     replace ho:=(ho.kn g25).offR g26 (AQ UR)
     replace hw:=(hw.kn g25).offR g26 (AQ US)
     replace hb:=(hb.kn g25).offR g26 (AQ UT)
     replace okk:=(okk.kn g25).offR g26 (AQ SE)
     replace HG:=AD (AA HG g25) g26 ABN
     replace WS:=h26
     refine AZ (v:=.int .i64 kx.2) Cu r6 fun a27 F8=>?_
     have JO:Sv _ _ [_,_,_,_,_,_,_,_,_,_,_,_,_,_,_,_,_,_] _:=F8.dl [20,21,22,23,24,19,25,26]
     refine AE ?_
     refine k23 _ _ ?_
     refine AH4 fun K29 k29=>?_
     refine BB fun Q30 x30 y30 rt30 o30=>?_
     refine AH4 fun K31 k31=>?_
     by_cases he:kx.2=0
     · have hkl1:=Qq hkl (by omega) hla hkx (hkd:=hkd)
       have hok1:∀j,j<i+1→(Cl P (KH own j) ad).2=0:=fun j hj=>if e:j=i then (by rw[e,hla,hkx];exact he) else hok j (by omega)
       refine AH3 ?_
       refine AK JO 7 [(28,pk Bw 2),(29,.int .i64 0),(30,.bool false),(31,.bool false),(32,undef),(33,undef),(34,.bool false)]
        ⟨yf r6 (fun _=>by kernel_rfl),yp (i:=2) r6 (ER 0) AL rfl rfl,Cm r6 (fun _=>B3 rfl),ym r5,AY r6,AY r6,CA r7,AIA⟩ fun a32 w32 g32 CO=>?_
       refine AZ (v:=.bool false) CO r6 fun a33 I9=>?_
       have LO:Sv _ _ [_,_,_,_,_,_,_,_,_,_,_,_,_,_,_,_,_,_,_] _:=I9.dl [28,29,30,31,32,33,34]
       refine AE ?_
       refine k31 _ _ ?_
       refine Ax LO rfl rfl ?_
       refine AH4 fun K35 k35=>?_
       refine AH3 ?_
       refine AK LO 7 [(43,pk Bw 2),(44,.int .i64 0),(45,.bool true),(46,.bool true),(47,.int .i64 kx.2),(48,.bool false),(49,.bool false)]
        ⟨yf r6 (fun _=>by kernel_rfl),yp (i:=2) r6 (ER 0) (AC g32 AL) rfl rfl,Cm r6 (fun _=>B3 rfl),ym r5,Ar rq8,BD rq9 (fun _=>Ez (by simpa using he)),A1 rq9,AIA⟩ fun a36 w36 g36 FE=>?_
       have OI:=AA g32 g36
       refine AZ (v:=.bool false) FE r6 fun a37 IW=>?_
       have Vk:Sv _ _ [_,_,_,_,_,_,_,_,_,_,_,_,_,_,_,_,_,_,_,_] _:=IW.dl [43,44,45,46,47,48,49]
       refine AE ?_
       refine k35 _ _ ?_
       refine Ax Vk rfl rfl ?_
       refine AH8 ?_
       refine y30 _ _ ?_
       refine k29 _ _ ?_
       refine AH3 ?_
       refine AK Vk 2 [(51,.slice ko i kc),(52,AP kx.1)]
        ⟨ym r5,yl r6 (Bj kx.1 hkd.1) (AC OI WS),AIA⟩ fun a39 w39 g39 JP=>?_
       have SI:=AA OI g39
       refine Lb (cs:=bv kx.1) (e:=23) JP rfl rfl rfl rfl rfl rfl (ZF hkd) fun a40 w40 AHM AFf g40 z40 ADU Kk=>?_
       replace AH:=AC g40 (AC SI AH)
       replace AL:=AC g40 (AC SI AL)
       replace AN:=AC g40 (AC SI AN)
       replace hr:=(hr.kn SI).kn g40
       replace ho:=(ho.kn SI).kn g40
       replace hw:=(hw.kn SI).kn g40
       replace hb:=(hb.kn SI).kn g40
       replace okk:=(okk.kn SI).kn g40
       replace HG:=AA (AA HG SI) g40
       refine Kg dsT Kk rfl rfl rfl rfl rfl rfl rfl rfl okk (J0 ADU hkd) (Fb _) (by omega) fun a41 ao41 cap41 w41 owx41 CM MS=>?_
       have P8:=I4 CM.2 DB AH
       have P9:=I4 CM.2 DE AL
       have QA:=I4 CM.2 CP AN
       have UV:=I5 CM.2 ap_hr_okk (hr.lt)
       have UW:=I5 CM.2 ap_ho_okk (ho.lt)
       have UX:=I5 CM.2 ap_hw_okk (hw.lt)
       have UY:=I5 CM.2 ap_hb_okk (hb.lt)
       have ABO:=Vh CM.2 lo_okk HG
       replace AH:=AF CM.1 AH (fun e=>DB _ e.symm rfl)
       replace AL:=AF CM.1 AL (fun e=>DE _ e.symm rfl)
       replace AN:=AF CM.1 AN (fun e=>CP _ e.symm rfl)
       replace hr:=hr.offR CM.1 (fun k hk e=>ap_hr_okk k hk (e))
       replace ho:=ho.offR CM.1 (fun k hk e=>ap_ho_okk k hk (e))
       replace hw:=hw.offR CM.1 (fun k hk e=>ap_hw_okk k hk (e))
       replace hb:=hb.offR CM.1 (fun k hk e=>ap_hb_okk k hk (e))
       replace HG:=CN HG CM.1 fun k e=>lo_okk k (e)
       rw[Ro kl ⟨kx.1,hkd⟩] at owx41
       refine AZ (v:=.slice ao41 (i+1) cap41) MS r6 fun a42 Hk=>?_
       have IX:Sv _ _ [_,_,_,_,_,_,_,_,_,_,_,_,_,_,_,_,_,_,_,_] _:=Hk.dl [54,53,51,52]
       refine AE ?_
       refine y17 _ _ ?_
       refine k16 _ _ ?_
       refine AH3 ?_
       refine AK IX 1 [(55,.int .i64 (((i+1:Nat):Int)))]
        ⟨Cm r6 (fun _=>DH (by rw[A7 (by omega) (by omega)];omega)),AIA⟩ fun a44 w44 g44 AC2=>?_
       refine AK (AC2.dl [14]) 1 [(14,.int .i64 (((i+1:Nat):Int)))]
        ⟨ym r5,AIA⟩ fun a45 w45 g45 EQ=>?_
       have OT:=AA g44 g45
       refine AE ?_
       replace AH:=AC OT AH
       replace AL:=AC OT AL
       replace AN:=AC OT AN
       replace hr:=hr.kn OT
       replace ho:=ho.kn OT
       replace hw:=hw.kn OT
       replace hb:=hb.kn OT
       replace owx41:=owx41.kn OT
       replace HG:=AA HG OT
       exact⟨⟨i+1,ao41,cap41,(kl++[⟨kx.1,hkd⟩]),by omega,hkl1,hok1,⟨EQ.1,EQ.2.1,EQ.2.2.1,EQ.2.2.2.2.1,(AJ EQ).2.2.2.2.2.2.2.1,(AJ (AJ EQ)).1,(AJ (AJ EQ)).2.1,(AJ (AJ EQ)).2.2.1,(AJ (AJ EQ)).2.2.2.1,(AJ (AJ EQ)).2.2.2.2.1,(AJ (AJ EQ)).2.2.2.2.2.1,(AJ (AJ EQ)).2.2.2.2.2.2.1,AIA⟩,HG,AH,AL,AN,hr,ho,hw,hb,owx41,P8,P9,QA,UV,UW,UX,UY,ABO⟩,by rw[show _=_ from EQ.2.2.1,show _=_ from Cr.2.2.1];simp[intOf];omega⟩
     · have hke:=Mc (P:=P) (a:=ad) (own:=own) (i:=i) (by omega) hok (by rw[hla,hkx];exact he)
       rw[hla,hkx] at hke
       refine AH3 ?_
       refine AK JO 7 [(28,pk Bw 2),(29,.int .i64 0),(30,.bool false),(31,.bool false),(32,undef),(33,undef),(34,.bool false)]
        ⟨yf r6 (fun _=>by kernel_rfl),yp (i:=2) r6 (ER 0) AL rfl rfl,Cm r6 (fun _=>B3 rfl),ym r5,AY r6,AY r6,CA r7,AIA⟩ fun a46 w46 g46 IY=>?_
       refine AZ (v:=.bool false) IY r6 fun a47 LS=>?_
       have ADV:Sv _ _ [_,_,_,_,_,_,_,_,_,_,_,_,_,_,_,_,_,_,_] _:=LS.dl [28,29,30,31,32,33,34]
       refine AE ?_
       refine k31 _ _ ?_
       refine Ax ADV rfl rfl ?_
       refine AH4 fun K49 k49=>?_
       refine AH3 ?_
       refine AK ADV 7 [(43,pk Bw 2),(44,.int .i64 0),(45,.bool true),(46,.bool true),(47,.int .i64 kx.2),(48,.bool true),(49,.bool true)]
        ⟨yf r6 (fun _=>by kernel_rfl),yp (i:=2) r6 (ER 0) (AC g46 AL) rfl rfl,Cm r6 (fun _=>B3 rfl),ym r5,Ar rq8,BD rq9 (fun _=>Ez (by simpa using he)),A1 rq9,AIA⟩ fun a50 w50 g50 Rd=>?_
       have SL:=AA g46 g50
       refine AZ (v:=.bool true) Rd r6 fun a51 ED=>?_
       have Rc:Sv _ _ [_,_,_,_,_,_,_,_,_,_,_,_,_,_,_,_,_,_,_,_] _:=ED.dl [43,44,45,46,47,48,49]
       refine AE ?_
       refine k49 _ _ ?_
       refine Aq Rc rfl rfl ?_
       refine AH4 fun K53 k53=>?_
       refine AH3 ?_
       replace AN:=AC SL AN
       refine AK Rc 1 [(50,AP AS)]
        ⟨BM (vs:=[]) rfl rfl trivial trivial (fun _=>bD0 _) (fun _=>rfl),AIA⟩ fun a54 w54 g54 Pk=>?_
       refine Am Pk r7 (Bj AS AV.1) (AC g54 AN) (Fu AV) fun w55 g55 h55=>?_
       replace AH:=Ak g54 g55 (AC SL AH) (Ne.symm A8)
       replace AL:=Ak g54 g55 (AC SL AL) (Ne.symm BJ)
       replace hr:=((hr.kn SL).kn g54).offR g55 (AQ Bo)
       replace ho:=((ho.kn SL).kn g54).offR g55 (AQ DI)
       replace hw:=((hw.kn SL).kn g54).offR g55 (AQ DJ)
       replace hb:=((hb.kn SL).kn g54).offR g55 (AQ Cz)
       replace okk:=((okk.kn SL).kn g54).offR g55 (AQ CP)
       replace HG:=AD (AA (AA HG SL) g54) g55 B7
       replace AN:=h55
       refine AZ (v:=.bool false) Pk r6 fun a56 Pl=>?_
       refine AE ?_
       refine k53 _ _ ?_
       refine AH7 ?_
       repeat refine AM ?_
       refine rt30 _ _ ?_
       repeat refine AM ?_
       refine rt17 _ _ ?_
       repeat refine AM ?_
       refine rt11 _ _ ?_
       repeat refine AM ?_
       refine A3 (fn:=Tryz.f62) Pl (FL (p:=4) (q:=5) Tryz.results62 Pl rfl rfl rfl rfl (Bj AS AV.1) AN) ?_
       exact RecR.none (show IH P _=_ by unfold IH;rw[if_neg (show ¬(0:Int)=1 by decide),if_neg (by rw[hke];exact he)]) AV HG
   · obtain⟨hK1,hK2⟩:=Lg (P:=P) (a:=ad) (own:=own) fun j hj=>hok j (by omega)
     have hkm:kl.map DD.x=(Ca P ad own).1:=by rw[hK1,hkl,List.take_of_length_le (by omega)]
     refine AH3 ?_
     refine AK Cr 1 [(15,.bool false)]
       ⟨Gs r7 (fun _=>Bb (by simp;omega)),AIA⟩ fun a57 w57 g57 AAt=>?_
     refine AE ?_
     refine k13 _ _ ?_
     refine AH4 fun K58 k58=>?_
     refine Ax AAt rfl rfl ?_
     refine wp_exit ?_
     repeat refine CH ?_
     refine x11 _ _ ?_
     refine k8 _ _ ?_
     refine AH4 fun K59 k59=>?_
     refine AH4 fun K60 k60=>?_
     refine AH3 ?_
     refine AK AAt 3 [(56,pk Bw 2),(57,.int .i64 0),(58,.bool false)]
       ⟨yf r6 (fun _=>by kernel_rfl),yp (i:=2) r6 (ER 0) (AC g57 AL) rfl rfl,Cm r6 (fun _=>B3 rfl),AIA⟩ fun a61 w61 g61 OO=>?_
     have AGb:=AA g57 g61
     refine AE ?_
     refine k60 _ _ ?_
     refine Ax OO rfl rfl ?_
     refine AH8 ?_
     refine k59 _ _ ?_
     refine AH4 fun K62 k62=>?_
     refine AH3 ?_
     refine AK OO 3 [(60,pk Bw 2),(61,.int .i64 0),(62,.slice ko i kc)]
       ⟨yf r6 (fun _=>by kernel_rfl),yp (i:=2) r6 (ER 0) (AC AGb AL) rfl rfl,ym r5,AIA⟩ fun a63 w63 g63 ZI=>?_
     have SM:=AA AGb g63
     replace okk:=okk.kn SM
     refine BR ZI Tryz.func55 (by kernel_rfl) r6 (NH (ABA (by have:=congrArg List.length hkl;simpa using this.trans (by rw[List.length_map,List.length_take];omega)) (Own.sb okk) (by omega) rfl)) fun a64 v64 w64 hR64 ABP=>?_
     obtain⟨rfl,g64⟩:=hR64
     replace AN:=AC g64 (AC SM AN)
     refine Am ABP r7 (Bj ((Sn (decide ((0:Int)=1)) (kl.map DD.x))) (MZ _ _).1) AN (Fu (MZ _ _)) fun w65 g65 h65=>?_
     replace AH:=Aa g65 (AC g64 (AC SM AH)) (Ne.symm A8)
     replace AL:=Aa g65 (AC g64 (AC SM AL)) (Ne.symm BJ)
     replace hr:=((hr.kn SM).kn g64).offR g65 (AQ Bo)
     replace ho:=((ho.kn SM).kn g64).offR g65 (AQ DI)
     replace hw:=((hw.kn SM).kn g64).offR g65 (AQ DJ)
     replace hb:=((hb.kn SM).kn g64).offR g65 (AQ Cz)
     replace okk:=(okk.kn g64).offR g65 (AQ CP)
     replace HG:=AD (AA (AA HG SM) g64) g65 B7
     replace AN:=h65
     refine AZ (v:=.bool true) ABP r6 fun a66 AFM=>?_
     have ADW:Sv _ _ [_,_,_,_,_,_,_,_,_,_,_,_,_,_,_] _:=AFM.dl [63,60,61,62]
     refine AE ?_
     refine k62 _ _ ?_
     refine AH7 ?_
     repeat refine AM ?_
     refine A3 (fn:=Tryz.f62) ADW (FL (p:=4) (q:=5) Tryz.results62 ADW rfl rfl rfl rfl (Bj ((Sn (decide ((0:Int)=1)) (kl.map DD.x))) (MZ _ _).1) AN) ?_
     exact RecR.some (show IH P _=_ by unfold IH;rw[if_neg (show ¬(0:Int)=1 by decide),if_pos hK2,←hkm]) (MZ _ _) HG
 · refine AH3 ?_
   refine AK sv7 4 [(11,pk Bw 1),(12,.slice ao od.length ac),(13,.int .i64 ((od.length:Nat))),(14,.int .i64 0)]
     ⟨yf r6 (fun _=>by kernel_rfl),yp (i:=1) r6 (J9 (.slice ao od.length ac) rfl) AL rfl rfl,Be (Tryz.underlying28) rfl rfl trivial (oy rfl rfl) (fun _=>rfl),D8 (.inl rfl) rfl trivial (fun _=>rfl),AIA⟩ fun a68 w68 g68 Lh=>?_
   refine AE ?_
   refine k9 _ _ ?_
   refine BB fun Q69 x69 y69 rt69 o69=>?_
   replace AH:=AC g68 AH
   replace AL:=AC g68 AL
   replace AN:=AC g68 AN
   replace hr:=hr.kn g68
   replace ho:=ho.kn g68
   replace hw:=hw.kn g68
   replace hb:=hb.kn g68
   replace HG:=AA HG g68
   have okk:=Own.nil w68 23 32
   have DB:=I6 CJ
   have DE:=I6 Bw
   have CP:=I6 FG
   have ap_hr_okk:=I7 (Kh (.slice vo ks.length vc_) ks)
   have ap_ho_okk:=I7 (BO (.slice ao od.length ac))
   have ap_hw_okk:=I7 (BO (.slice wo wd.length wc))
   have ap_hb_okk:=I7 (BO (.slice bo body.length bc))
   have lo_okk:=Yf w
   refine wp_loop (fun a w'=>∃(i:Nat) (ko:Option Addr) (kc:Nat) (kl:List DD),(i≤od.length)∧(kl.length=i)∧(∀j,j<i→(Cl P (KH own j) ad).2≠0)∧Sv 64 [] [(14,.int .i64 ((i:Int))),(6,.slice ko i kc),(11,pk Bw 1),(12,.slice ao od.length ac),(13,.int .i64 ((od.length:Nat))),(4,pt FG),(3,pt Bw),(2,pt CJ),(0,An sa po (.slice vo ks.length vc_)),(1,Br ad (.slice ao od.length ac) 1 (.slice wo wd.length wc) (.slice bo body.length bc) tg)] a∧w.grownBy w' none∧w'.heap[CJ]?=some (.cells ([bv sa,bv po,[.slice vo ks.length vc_]].flatten).toArray 36 (0,0))∧w'.heap[Bw]?=some (.cells ([[.int .i64 ad],[.slice ao od.length ac],[.int .i64 1],[.slice wo wd.length wc],[.slice bo body.length bc],bv tg].flatten).toArray 31 (0,0))∧w'.heap[FG]?=some (.cells ((bv AS)).toArray 23 (0,0))∧RdK w' (.slice vo ks.length vc_) ks∧RdD w' (.slice ao od.length ac) od∧RdD w' (.slice wo wd.length wc) wd∧SlB w' 1 (.slice bo body.length bc) body.length (bv body)∧Own w' 23 32 (.slice ko i kc) i (kl.flatMap JW)∧(∀k,BO (.slice ko i kc) k→k≠CJ)∧(∀k,BO (.slice ko i kc) k→k≠Bw)∧(∀k,BO (.slice ko i kc) k→k≠FG)∧(∀k,Kh (.slice vo ks.length vc_) ks k→¬BO (.slice ko i kc) k)∧(∀k,BO (.slice ao od.length ac) k→¬BO (.slice ko i kc) k)∧(∀k,BO (.slice wo wd.length wc) k→¬BO (.slice ko i kc) k)∧(∀k,BO (.slice bo body.length bc) k→¬BO (.slice ko i kc) k)∧(∀k,BO (.slice ko i kc) k→w.heap.size≤k)) (fun a _=>(od.length-intOf (a.tmps.getD 14 undef)).toNat) ⟨0,none,0,[],Nat.zero_le _,rfl,fun j hj=>by omega,⟨Lh.1,Lh.2.1,Lh.2.2.2.2.2.1,Lh.2.2.2.2.2.2.1,Lh.2.2.1,Lh.2.2.2.1,Lh.2.2.2.2.1,(AJ Lh).1,(AJ Lh).2.1,(AJ Lh).2.2.1,(AJ Lh).2.2.2.1,(AJ Lh).2.2.2.2.1,AIA⟩,HG,AH,AL,AN,hr,ho,hw,hb,okk,DB,DE,CP,ap_hr_okk,ap_ho_okk,ap_hw_okk,ap_hb_okk,lo_okk⟩ fun a70 w70 hI70=>?_
   clear AH
   clear AL
   clear AN
   clear hr
   clear ho
   clear hw
   clear hb
   clear okk
   clear HG
   obtain⟨i,ko,kc,kl,hin,hkll,hno,WT,HG,AH,AL,AN,hr,ho,hw,hb,okk,DB,DE,CP,ap_hr_okk,ap_ho_okk,ap_hw_okk,ap_hb_okk,lo_okk⟩:=hI70
   refine AH4 fun K71 k71=>?_
   by_cases hi:i<od.length
   · obtain⟨y,hx_y⟩:∃zx,od[i]'hi=zx:=⟨_,rfl⟩
     have hla:KH own i=y.x:=by rw[←hown,Jy hi,hx_y]
     obtain⟨kx,hkx⟩:∃q,Cl P y.x ad=q:=⟨_,rfl⟩
     have hkd:Dg kx.1:=hkx▸Od hnok
     refine AH3 ?_
     refine AK WT 1 [(15,.bool true)]
       ⟨Gs r7 (fun _=>Bb (by simp;omega)),AIA⟩ fun a72 w72 g72 ADM=>?_
     refine AE ?_
     refine k71 _ _ ?_
     refine AH4 fun K73 k73=>?_
     refine Aq ADM rfl rfl ?_
     refine AH8 ?_
     refine k73 _ _ ?_
     refine AH4 fun K74 k74=>?_
     refine BB fun Q75 x75 y75 rt75 o75=>?_
     refine AH4 fun K76 k76=>?_
     refine AH3 ?_
     replace ho:=ho.kn g72
     refine AK ADM 3 [(16,.int .i64 ((i:Int))),(17,pk ((bO ao)) (oO ao+i*32)),(18,AP y.x)]
       ⟨ym r5,BA rq8 (fun w=>CD Tryz.underlying28 (by kernel_rfl) (ho.1) (by omega) (rfl) w),Bn r6 (fun _ g=>Ad (Bj y.x y.h.1) (by have:=Cw (ho.kn g).1 FX hi (by decide);rw[hx_y] at this;exact this)),AIA⟩ fun a77 w77 g77 AFN=>?_
     replace AH:=AC g77 (AC g72 AH)
     replace AL:=AC g77 (AC g72 AL)
     replace AN:=AC g77 (AC g72 AN)
     replace hr:=(hr.kn g72).kn g77
     replace ho:=ho.kn g77
     replace hw:=(hw.kn g72).kn g77
     replace hb:=(hb.kn g72).kn g77
     replace okk:=(okk.kn g72).kn g77
     replace HG:=AA (AA HG g72) g77
     refine Ap (T:=23) (Z:=(bv AS)) AFN rfl rfl rfl (fun a w=>by kernel_rfl) fun a78 w78 AHj FA g78 z78 WU AFO=>?_
     have QB:=As AH FA
     have QC:=As AL FA
     have QD:=As AN FA
     have ABQ:=Bp HG FA
     have UZ:=Av (hr.lt) FA
     have Ua:=Av (ho.lt) FA
     have Ub:=Av (hw.lt) FA
     have Uc:=Av (hb.lt) FA
     have SN:=Av (Own.ltS okk) FA
     refine AZ (v:=.int .i64 ((i:Int))) AFO r6 fun a79 Pq=>?_
     refine Am Pq r7 (Bj y.x y.h.1) WU (Fu y.h) fun w80 g80 h80=>?_
     replace AH:=Aa g80 (AC g78 AH) (Ne.symm QB)
     replace AL:=Aa g80 (AC g78 AL) (Ne.symm QC)
     replace hr:=(hr.kn g78).offR g80 (AQ UZ)
     replace WU:=h80
     refine AE ?_
     refine k76 _ _ ?_
     refine AH4 fun K81 k81=>?_
     refine AH3 ?_
     refine AK Pq 8 [(20,An sa po (.slice vo ks.length vc_)),(21,AP y.x),(22,pt Bw),(23,.int .i64 ad),(24,.tuple #[AP kx.1,.int .i64 kx.2]),(19,.tuple #[AP kx.1,.int .i64 kx.2]),(25,AP kx.1),(26,.int .i64 kx.2)]
       ⟨yl r6 (Bm hsa hpo (.slice vo ks.length vc_) rfl) AH,yl r6 (Bj y.x y.h.1) WU,yf r6 (fun _=>by kernel_rfl),yp (i:=0) r6 (FY ad) AL rfl rfl,Ah [An sa po (.slice vo ks.length vc_),AP y.x,.int .i64 ad] Tryz.func32 (by kernel_rfl) rq4 ⟨(oy rfl rfl),(oy rfl rfl),(oy rfl rfl),AIA⟩ (Ao fun W g=>ABB hsa hpo y.h (hr.kn g) hP hkx),ym r5,BL rq4 (fun _ _ h=>⟨_,_,h,rfl,rfl⟩),BL rq4 (fun _ _ h=>⟨_,_,h,rfl,rfl⟩),AIA⟩ fun a82 w82 g82 ZL=>?_
     replace AH:=AC g82 AH
     replace AL:=AC g82 AL
     replace AN:=AC g82 (Aa g80 (AC g78 AN) (Ne.symm QD))
     replace hr:=hr.kn g82
     replace ho:=((ho.kn g78).offR g80 (AQ Ua)).kn g82
     replace hw:=((hw.kn g78).offR g80 (AQ Ub)).kn g82
     replace hb:=((hb.kn g78).offR g80 (AQ Uc)).kn g82
     replace okk:=((okk.kn g78).offR g80 (AQ SN)).kn g82
     replace HG:=AA (AD (AA HG g78) g80 ABQ) g82
     refine Ap (T:=23) (Z:=(bv AS)) ZL rfl rfl rfl (fun a w=>by kernel_rfl) fun a83 w83 AHk FB g83 z83 Jc ADP=>?_
     have QE:=As AH FB
     have QF:=As AL FB
     have KJ:=As AN FB
     have ABR:=Bp HG FB
     have Ud:=Av (hr.lt) FB
     have Ue:=Av (ho.lt) FB
     have Uf:=Av (hw.lt) FB
     have Ug:=Av (hb.lt) FB
     have SO:=Av (Own.ltS okk) FB
     refine Am ADP r7 (Bj kx.1 hkd.1) Jc (Fu hkd) fun w84 g84 h84=>?_
     replace AH:=Aa g84 (AC g83 AH) (Ne.symm QE)
     replace AL:=Aa g84 (AC g83 AL) (Ne.symm QF)
     replace AN:=Aa g84 (AC g83 AN) (Ne.symm KJ)
     replace hr:=(hr.kn g83).offR g84 (AQ Ud)
     replace ho:=(ho.kn g83).offR g84 (AQ Ue)
     replace hw:=(hw.kn g83).offR g84 (AQ Uf)
     replace hb:=(hb.kn g83).offR g84 (AQ Ug)
     replace okk:=(okk.kn g83).offR g84 (AQ SO)
     replace HG:=AD (AA HG g83) g84 ABR
     replace Jc:=h84
     refine AZ (v:=.int .i64 kx.2) ADP r6 fun a85 AFH=>?_
     have Dy:Sv _ _ [_,_,_,_,_,_,_,_,_,_,_,_,_,_,_,_,_,_] _:=AFH.dl [20,21,22,23,24,19,25,26]
     refine AE ?_
     refine k81 _ _ ?_
     refine AH4 fun K87 k87=>?_
     refine BB fun Q88 x88 y88 rt88 o88=>?_
     refine AH4 fun K89 k89=>?_
     by_cases he:kx.2=0
     · have hiw:i<wd.length:=by have:=hwl rfl;omega
       obtain⟨wx,hx_wx⟩:∃zx,wd[i]'hiw=zx:=⟨_,rfl⟩
       have hhit:=Ow (P:=P) (a:=ad) (own:=own) (wr:=wd.map DD.x) (i:=i) (by omega) hno (by rw[hla,hkx];exact he)
       rw[hla,hkx,Jy hiw,hx_wx] at hhit
       refine AH3 ?_
       refine AK Dy 7 [(28,pk Bw 2),(29,.int .i64 1),(30,.bool true),(31,.bool true),(32,.int .i64 kx.2),(33,.bool true),(34,.bool true)]
        ⟨yf r6 (fun _=>by kernel_rfl),yp (i:=2) r6 (ER 1) AL rfl rfl,Cm r6 (fun _=>B3 rfl),ym r5,Ar rq8,BD rq9 (fun _=>B3 (by simpa using he)),A1 rq9,AIA⟩ fun a90 w90 g90 AHN=>?_
       refine AZ (v:=.bool true) AHN r6 fun a91 AHO=>?_
       have ABE:Sv _ _ [_,_,_,_,_,_,_,_,_,_,_,_,_,_,_,_,_,_,_] _:=AHO.dl [28,29,30,31,32,33,34]
       refine AE ?_
       refine k89 _ _ ?_
       refine Aq ABE rfl rfl ?_
       refine AH4 fun K93 k93=>?_
       replace AL:=AC g90 AL
       replace AN:=AC g90 AN
       replace Jc:=AC g90 Jc
       replace hw:=hw.kn g90
       refine C6 (ABE.st w90) (by kernel_rfl) 7 [(35,Sp.is (pk Bw 3)),(36,Sp.is (.slice wo wd.length wc)),(37,Sp.is (.int .i64 ((i:Int)))),(38,Sp.is (pk ((bO wo)) (oO wo+i*32))),(39,Sp.is (AP wx.x)),(40,Sp.is (AP kx.1)),(41,Sp.is (AP ((L8 wx.x kx.1))))] rfl (by kernel_rfl) (by kernel_rfl) (by kernel_rfl) [] (by kernel_rfl)
        ⟨yf r6 (fun _=>by kernel_rfl),yp (i:=3) r6 (J9 (.slice wo wd.length wc) rfl) AL rfl rfl,ym r5,BA rq8 (fun w=>CD Tryz.underlying28 (by kernel_rfl) (hw.1) (by omega) (rfl) w),Bn r6 (fun _ g=>Ad (Bj wx.x wx.h.1) (by have:=Cw (hw.kn g).1 FX hiw (by decide);rw[hx_wx] at this;exact this)),yl r6 (Bj kx.1 hkd.1) Jc,Ah [AP wx.x,AP kx.1] Tryz.func56 (by kernel_rfl) rq4 ⟨(oy rfl rfl),(oy rfl rfl),AIA⟩ (Ao fun W g=>La wx.x kx.1 wx.h hkd W),AIA⟩ trivial
        [] (by kernel_rfl) trivial ⟨.inl rfl,.inl rfl,.inl rfl,.inl rfl,.inl rfl,.inl rfl,.inl rfl,AIA⟩ (by kernel_rfl) fun a94 w94 g94 st94 nd94=>?_
       obtain⟨hn94,hd94,e94_35,e94_36,e94_37,e94_38,e94_39,e94_40,e94_41,e94_27,e94_10,e94_9,e94_7,e94_8,e94_16,e94_17,e94_18,e94_15,e94_14,e94_6,e94_11,e94_12,e94_13,e94_4,e94_3,e94_2,e94_0,e94_1,-⟩:=st94
       have AGc:Sv 64 [] [(27,_),(10,_),(9,_),(7,_),(8,_),(16,_),(17,_),(18,_),(15,_),(14,_),(6,_),(11,_),(12,_),(13,_),(4,_),(3,_),(2,_),(0,_),(1,_),(41,_)] a94:=⟨hn94,hd94,e94_27,e94_10,e94_9,e94_7,e94_8,e94_16,e94_17,e94_18,e94_15,e94_14,e94_6,e94_11,e94_12,e94_13,e94_4,e94_3,e94_2,e94_0,e94_1,e94_41,AIA⟩
       refine Am AGc r7 (Bj ((L8 wx.x kx.1)) (Kp wx.h hkd).1) (AC g94 AN) (Fu (Kp wx.h hkd)) fun w95 g95 h95=>?_
       replace AH:=Ak g94 g95 (AC g90 AH) (Ne.symm A8)
       replace AL:=Ak g94 g95 AL (Ne.symm BJ)
       replace Jc:=Ak g94 g95 Jc KJ
       replace hr:=((hr.kn g90).kn g94).offR g95 (AQ Bo)
       replace ho:=((ho.kn g90).kn g94).offR g95 (AQ DI)
       replace hw:=(hw.kn g94).offR g95 (AQ DJ)
       replace hb:=((hb.kn g90).kn g94).offR g95 (AQ Cz)
       replace okk:=((okk.kn g90).kn g94).offR g95 (AQ CP)
       replace HG:=AD (AA (AA HG g90) g94) g95 B7
       replace AN:=h95
       refine AZ (v:=.bool true) AGc r6 fun a96 ADR=>?_
       refine AE ?_
       refine k93 _ _ ?_
       refine AH7 ?_
       repeat refine AM ?_
       refine rt88 _ _ ?_
       repeat refine AM ?_
       refine rt75 _ _ ?_
       repeat refine AM ?_
       refine rt69 _ _ ?_
       repeat refine AM ?_
       refine A3 (fn:=Tryz.f62) ADR (FL (p:=4) (q:=5) Tryz.results62 ADR rfl rfl rfl rfl (Bj ((L8 wx.x kx.1)) (Kp wx.h hkd).1) AN) ?_
       exact RecR.some (show IH P _=_ by unfold IH;rw[if_pos rfl];exact hhit) (Kp wx.h hkd) HG
     · have hno1:∀j,j<i+1→(Cl P (KH own j) ad).2≠0:=fun j hj=>if e:j=i then (by rw[e,hla,hkx];exact he) else hno j (by omega)
       refine AH3 ?_
       refine AK Dy 7 [(28,pk Bw 2),(29,.int .i64 1),(30,.bool true),(31,.bool true),(32,.int .i64 kx.2),(33,.bool false),(34,.bool false)]
        ⟨yf r6 (fun _=>by kernel_rfl),yp (i:=2) r6 (ER 1) AL rfl rfl,Cm r6 (fun _=>B3 rfl),ym r5,Ar rq8,BD rq9 (fun _=>B3 (by simpa using he)),A1 rq9,AIA⟩ fun a97 w97 g97 ABF=>?_
       refine AZ (v:=.bool false) ABF r6 fun a98 AHP=>?_
       have AGd:Sv _ _ [_,_,_,_,_,_,_,_,_,_,_,_,_,_,_,_,_,_,_] _:=AHP.dl [28,29,30,31,32,33,34]
       refine AE ?_
       refine k89 _ _ ?_
       refine Ax AGd rfl rfl ?_
       refine AH4 fun K100 k100=>?_
       refine AH3 ?_
       refine AK AGd 7 [(43,pk Bw 2),(44,.int .i64 1),(45,.bool false),(46,.bool false),(47,undef),(48,undef),(49,.bool false)]
        ⟨yf r6 (fun _=>by kernel_rfl),yp (i:=2) r6 (ER 1) (AC g97 AL) rfl rfl,Cm r6 (fun _=>B3 rfl),ym r5,AY r6,AY r6,CA r7,AIA⟩ fun a101 w101 g101 XZ=>?_
       have AEH:=AA g97 g101
       refine AZ (v:=.bool false) XZ r6 fun a102 AGe=>?_
       have Xa:Sv _ _ [_,_,_,_,_,_,_,_,_,_,_,_,_,_,_,_,_,_,_,_] _:=AGe.dl [43,44,45,46,47,48,49]
       refine AE ?_
       refine k100 _ _ ?_
       refine Ax Xa rfl rfl ?_
       refine AH8 ?_
       refine y88 _ _ ?_
       refine k87 _ _ ?_
       refine AH3 ?_
       refine AK Xa 2 [(51,.slice ko i kc),(52,AP kx.1)]
        ⟨ym r5,yl r6 (Bj kx.1 hkd.1) (AC AEH Jc),AIA⟩ fun a104 w104 g104 ABG=>?_
       have Lp:=AA AEH g104
       refine Lb (cs:=bv kx.1) (e:=23) ABG rfl rfl rfl rfl rfl rfl (ZF hkd) fun a105 w105 AGy AFP g105 z105 ABS Xb=>?_
       replace AH:=AC g105 (AC Lp AH)
       replace AL:=AC g105 (AC Lp AL)
       replace AN:=AC g105 (AC Lp AN)
       replace hr:=(hr.kn Lp).kn g105
       replace ho:=(ho.kn Lp).kn g105
       replace hw:=(hw.kn Lp).kn g105
       replace hb:=(hb.kn Lp).kn g105
       replace okk:=(okk.kn Lp).kn g105
       replace HG:=AA (AA HG Lp) g105
       refine Kg dsT Xb rfl rfl rfl rfl rfl rfl rfl rfl okk (J0 ABS hkd) (Fb _) (by omega) fun a106 ao106 cap106 w106 owx106 CM AGf=>?_
       have Ox:=I4 CM.2 DB AH
       have Oy:=I4 CM.2 DE AL
       have Oz:=I4 CM.2 CP AN
       have SP:=I5 CM.2 ap_hr_okk (hr.lt)
       have SQ:=I5 CM.2 ap_ho_okk (ho.lt)
       have SR:=I5 CM.2 ap_hw_okk (hw.lt)
       have SS:=I5 CM.2 ap_hb_okk (hb.lt)
       have ZQ:=Vh CM.2 lo_okk HG
       replace AH:=AF CM.1 AH (fun e=>DB _ e.symm rfl)
       replace AL:=AF CM.1 AL (fun e=>DE _ e.symm rfl)
       replace AN:=AF CM.1 AN (fun e=>CP _ e.symm rfl)
       replace hr:=hr.offR CM.1 (fun k hk e=>ap_hr_okk k hk (e))
       replace ho:=ho.offR CM.1 (fun k hk e=>ap_ho_okk k hk (e))
       replace hw:=hw.offR CM.1 (fun k hk e=>ap_hw_okk k hk (e))
       replace hb:=hb.offR CM.1 (fun k hk e=>ap_hb_okk k hk (e))
       replace HG:=CN HG CM.1 fun k e=>lo_okk k (e)
       rw[Ro kl ⟨kx.1,hkd⟩] at owx106
       refine AZ (v:=.slice ao106 (i+1) cap106) AGf r6 fun a107 ABH=>?_
       have AGg:Sv _ _ [_,_,_,_,_,_,_,_,_,_,_,_,_,_,_,_,_,_,_,_] _:=ABH.dl [54,53,51,52]
       refine AE ?_
       refine y75 _ _ ?_
       refine k74 _ _ ?_
       refine AH3 ?_
       refine AK AGg 1 [(55,.int .i64 (((i+1:Nat):Int)))]
        ⟨Cm r6 (fun _=>DH (by rw[A7 (by omega) (by omega)];omega)),AIA⟩ fun a109 w109 g109 ABI=>?_
       refine AK (ABI.dl [14]) 1 [(14,.int .i64 (((i+1:Nat):Int)))]
        ⟨ym r5,AIA⟩ fun a110 w110 g110 Gj=>?_
       have Lr:=AA g109 g110
       refine AE ?_
       replace AH:=AC Lr AH
       replace AL:=AC Lr AL
       replace AN:=AC Lr AN
       replace hr:=hr.kn Lr
       replace ho:=ho.kn Lr
       replace hw:=hw.kn Lr
       replace hb:=hb.kn Lr
       replace owx106:=owx106.kn Lr
       replace HG:=AA HG Lr
       exact⟨⟨i+1,ao106,cap106,(kl++[⟨kx.1,hkd⟩]),by omega,by rw[List.length_append];simp;omega,hno1,⟨Gj.1,Gj.2.1,Gj.2.2.1,Gj.2.2.2.2.1,(AJ Gj).2.2.2.2.2.2.2.1,(AJ (AJ Gj)).1,(AJ (AJ Gj)).2.1,(AJ (AJ Gj)).2.2.1,(AJ (AJ Gj)).2.2.2.1,(AJ (AJ Gj)).2.2.2.2.1,(AJ (AJ Gj)).2.2.2.2.2.1,(AJ (AJ Gj)).2.2.2.2.2.2.1,AIA⟩,HG,AH,AL,AN,hr,ho,hw,hb,owx106,Ox,Oy,Oz,SP,SQ,SR,SS,ZQ⟩,by rw[show _=_ from Gj.2.2.1,show _=_ from WT.2.2.1];simp[intOf];omega⟩
   · have hnone:=Qr (P:=P) (a:=ad) (own:=own) (wr:=wd.map DD.x) fun j hj=>hno j (by omega)
     refine AH3 ?_
     refine AK WT 1 [(15,.bool false)]
       ⟨Gs r7 (fun _=>Bb (by simp;omega)),AIA⟩ fun a111 w111 g111 Xc=>?_
     refine AE ?_
     refine k71 _ _ ?_
     refine AH4 fun K112 k112=>?_
     refine Ax Xc rfl rfl ?_
     refine wp_exit ?_
     repeat refine CH ?_
     refine x69 _ _ ?_
     refine k8 _ _ ?_
     refine AH4 fun K113 k113=>?_
     refine AH4 fun K114 k114=>?_
     refine AH3 ?_
     refine AK Xc 3 [(56,pk Bw 2),(57,.int .i64 1),(58,.bool true)]
       ⟨yf r6 (fun _=>by kernel_rfl),yp (i:=2) r6 (ER 1) (AC g111 AL) rfl rfl,Cm r6 (fun _=>B3 rfl),AIA⟩ fun a115 w115 g115 Oq=>?_
     have ABT:=AA g111 g115
     refine AE ?_
     refine k114 _ _ ?_
     refine Aq Oq rfl rfl ?_
     refine AH4 fun K116 k116=>?_
     refine AH3 ?_
     replace AN:=AC ABT AN
     refine AK Oq 1 [(59,AP AS)]
       ⟨BM (vs:=[]) rfl rfl trivial trivial (fun _=>bD0 _) (fun _=>rfl),AIA⟩ fun a117 w117 g117 AEI=>?_
     refine Am AEI r7 (Bj AS AV.1) (AC g117 AN) (Fu AV) fun w118 g118 h118=>?_
     replace okk:=((okk.kn ABT).kn g117).offR g118 (AQ CP)
     replace HG:=AD (AA (AA HG ABT) g117) g118 B7
     replace AN:=h118
     refine AZ (v:=.bool false) AEI r6 fun a119 AEJ=>?_
     refine AE ?_
     refine k116 _ _ ?_
     refine AH7 ?_
     repeat refine AM ?_
     refine A3 (fn:=Tryz.f62) AEJ (FL (p:=4) (q:=5) Tryz.results62 AEJ rfl rfl rfl rfl (Bj AS AV.1) AN) ?_
     exact RecR.none (show IH P _=_ by unfold IH;rw[if_pos rfl];exact hnone) AV HG
end Go.Proofs.YtbfjfnbcmojpiaaGreat
