import Derived.Test.YtbfjfnbcmojpiaaGreatAlY8
import Derived.Test.YtbfjfnbcmojpiaaGreatAlR1
set_option linter.unusedSimpArgs false
set_option linter.unusedVariables false
set_option maxRecDepth 100000
set_option maxHeartbeats 4000000
namespace Go.Proofs.YtbfjfnbcmojpiaaGreat
open Go.RowKit Go.Shelf
end Go.Proofs.YtbfjfnbcmojpiaaGreat
namespace Go.Proofs.YtbfjfnbcmojpiaaGreat
open Go.RowKit
attribute [local go_sem] Oper.semAt_some
attribute [local go_sem] Oper.semAt_some
attribute [local go_sem] Oper.semAt_some
end Go.Proofs.YtbfjfnbcmojpiaaGreat
namespace Go.Proofs.YtbfjfnbcmojpiaaGreat
open Go.RowKit Go.Shelf
def KF (b:List Nat):V×Int:=match pV b with
 | .ok (x,[])=>(x,0)
 | _=>(V.nul,101)
theorem ABo {b:List Nat} {x:V} (h:pV b=.ok (x,[])):KF b=(x,0):=by unfold KF;rw[h]
theorem ADF {b r:List Nat} {x:V} (h:pV b=.ok (x,r)) (hr:0<r.length):KF b=(V.nul,101):=by
 unfold KF
 rw[h]
 cases r with
 | nil=>simp at hr
 | cons c r=>rfl
theorem AFM {b:List Nat} {e:Nat} (h:pV b=.error e):KF b=(V.nul,101):=by unfold KF;rw[h]
def AAf (P:List VP) (a:Int):List (List Nat)→List (List Nat)→Option (List Nat)
 | [],_=>none
 | o::own,wr=>if (Co P o a).2=0 then some (Mr (Ls wr 0) (Co P o a).1) else AAf P a own wr.tail
theorem Oc {P:List VP} {a:Int}:∀{own wr:List (List Nat)},(∀j,j<own.length→(Co P (Ls own j) a).2≠0)→AAf P a own wr=none
 | [],_,_=>rfl
 | o::own,wr,h=>by
  have h0:(Co P o a).2≠0:=h 0 (by simp)
  unfold AAf
  rw[if_neg h0]
  exact Oc fun j hj=>h (j+1) (by simpa using hj)
theorem Rp {P:List VP} {a:Int}:∀{own wr:List (List Nat)} {i:Nat},i<own.length→(∀j,j<i→(Co P (Ls own j) a).2≠0)→(Co P (Ls own i) a).2=0→AAf P a own wr=some (Mr (Ls wr i) (Co P (Ls own i) a).1)
 | [],_,_,hi,_,_=>by simp at hi
 | o::own,wr,0,_,_,h=>by
  have h0:(Co P o a).2=0:=h
  unfold AAf
  rw[if_pos h0]
  rfl
 | o::own,wr,i+1,hi,hj,h=>by
  have h0:(Co P o a).2≠0:=hj 0 (by omega)
  have:=Rp (own:=own) (wr:=wr.tail) (i:=i) (by simpa using hi) (fun j hjj=>hj (j+1) (by omega)) h
  unfold AAf
  rw[if_neg h0,this]
  cases wr<;>rfl
def JK (P:List VP) (s:Sd):Option (List Nat):=if s.joint=1 then AAf P s.addr s.own s.wr else if (Ck P s.addr s.own).2=0 then some (Wp (decide ((0:Int)=1)) (Ck P s.addr s.own).1) else none
def E9 (P:List VP) (s:Sd):V×Int:=
 if FK s&&CK P then
  (if s.own=[] then (if tgC s.addr s.body=s.tag then KF s.body else (V.nul,101))
  else match JK P s with
   | none=>(V.nul,10)
   | some c=>if Wq c s.addr s.body=s.tag then KF (Ja s.body c) else (V.nul,101))
 else (V.nul,1)
theorem AFN {s:Sd} (h:FK s=true):hd s.own s.joint s.addr=true:=by
 unfold FK at h
 simp only[Bool.and_eq_true] at h
 exact h.1.1
theorem AJP {s:Sd} (h:FK s=true):s.body.length≤64:=by
 unfold FK at h
 simp only[Bool.and_eq_true,decide_eq_true_eq] at h
 exact h.1.2
theorem AJQ {s:Sd} (h:FK s=true) (hj:s.joint=1):s.wr.length=s.own.length:=by
 unfold FK at h
 rw[if_pos hj] at h
 simp only[Bool.and_eq_true,decide_eq_true_eq] at h
 exact h.2
def RecR (w w':World) (r:Option (List Nat)) (e:Ending):Prop:=∃c,e=.returned (.tuple #[AP c,.bool r.isSome])∧Dg c∧(∀c',r=some c'→c'=c)∧w.grownBy w' none
theorem RecR.some {w w':World} {r:Option (List Nat)} {c:List Nat} (h:r=some c) (hc:Dg c) (g:w.grownBy w' none):RecR w w' r (.returned (.tuple #[AP c,.bool true])):=by
 subst h
 exact⟨c,rfl,hc,fun c' h=>(Option.some.inj h).symm,g⟩
theorem RecR.none {w w':World} {r:Option (List Nat)} {c:List Nat} (h:r=none) (hc:Dg c) (g:w.grownBy w' none):RecR w w' r (.returned (.tuple #[AP c,.bool false])):=by
 subst h
 exact⟨c,rfl,hc,fun c' h=>(by cases h),g⟩
theorem AAg (ks:List VK) (vo:Option Addr) (vc_:Nat) (sa po:List Nat) (hsa:Dg sa) (hpo:Dg po) (ad joint:Int) (od wd:List DD) (ao wo bo:Option Addr) (ac wc bc:Nat) (body tg:List Nat) (htg:Dg tg) (w:World) (hr:RdK w (.slice vo ks.length vc_) ks) (ho:RdD w (.slice ao od.length ac) od) (hw:RdD w (.slice wo wd.length wc) wd) (hb:SlB w 1 (.slice bo body.length bc) body.length (bv body)) (hvs:FK ⟨ad,od.map DD.x,joint,wd.map DD.x,body,tg⟩=true) :
   Calls Tryz.prog 62 #[Am sa po (.slice vo ks.length vc_),B9 ad (.slice ao od.length ac) joint (.slice wo wd.length wc) (.slice bo body.length bc) tg] w fun e w'=>RecR w w' (JK (ks.map VK.p) ⟨ad,od.map DD.x,joint,wd.map DD.x,body,tg⟩) e:=by
 obtain⟨P,hP⟩:∃P,ks.map VK.p=P:=⟨_,rfl⟩
 obtain⟨own,hown⟩:∃own,od.map DD.x=own:=⟨_,rfl⟩
 have hownl:own.length=od.length:=by rw[←hown,List.length_map]
 have hnok:=hr.noks2
 rw[hP] at hnok
 rw[hP,hown]
 obtain⟨haa,hjj,hol,_⟩:=ABi (AFN hvs)
 have hol:own.length≤16:=by rw[←hown];exact hol
 have hwl:joint=1→wd.length=od.length:=fun h=>by have:=AJQ hvs h;simpa using this
 refine BZ Tryz.func62 rfl Tryz.ntmps62 rfl fun a0 sv0=>?_
 have HG:=World.grownBy.refl w none
 replace sv0:Sv 64 [] [(0,Am sa po (.slice vo ks.length vc_)),(1,B9 ad (.slice ao od.length ac) joint (.slice wo wd.length wc) (.slice bo body.length bc) tg)] a0:=sv0
 refine ALz fun K1 k1=>?_
 refine ALy ?_
 refine Bj sv0 r6 (Bb hsa hpo (.slice vo ks.length vc_) rfl) fun a2 w2 Ci Dh g2 z2 AK sv2=>?_
 refine Bj sv2 r6 (EJ _ _ htg (.slice ao od.length ac) (.slice wo wd.length wc) (.slice bo body.length bc) rfl rfl rfl) fun a3 w3 CX Fd g3 z3 AN sv3=>?_
 replace AK:=AC g3 AK
 replace hr:=(hr.kn g2).kn g3
 replace ho:=(ho.kn g2).kn g3
 replace hw:=(hw.kn g2).kn g3
 replace hb:=(hb.kn g2).kn g3
 replace HG:=AA (AA HG g2) g3
 refine Ar (T:=23) (Z:=(bv AR)) sv3 rfl rfl rfl (fun a w=>by kernel_rfl) fun a4 w4 GV CM g4 z4 AQ sv4=>?_
 have BO:=An AK CM
 have Bd:=An AN CM
 have CP:=Bt HG CM
 have CB:=Au (hr.lt) CM
 have Dw:=Au (ho.lt) CM
 have Dx:=Au (hw.lt) CM
 have Df:=Au (hb.lt) CM
 replace AK:=AC g4 AK
 replace AN:=AC g4 AN
 replace hr:=hr.kn g4
 replace ho:=ho.kn g4
 replace hw:=hw.kn g4
 replace hb:=hb.kn g4
 replace HG:=AA HG g4
 refine AY (v:=.bool false) sv4 r6 fun a5 sv5=>?_
 refine AE ?_
 refine k1 _ _ ?_
 refine ALz fun K6 k6=>?_
 refine ALy ?_
 refine AY (v:=.slice none 0 0) sv5 r6 fun a7 sv7=>?_
 refine AE ?_
 refine k6 _ _ ?_
 refine ALz fun K8 k8=>?_
 refine ALz fun K9 k9=>?_
 rcases hjj with rfl|rfl
 · refine ALy ?_
   refine AJ sv7 4 [(11,pk CX 1),(12,.slice ao od.length ac),(13,.int .i64 ((od.length:Nat))),(14,.int .i64 0)]
     ⟨yf r6 (fun _=>by kernel_rfl),yp (i:=1) r6 (J3 (.slice ao od.length ac) rfl) AN rfl rfl,Bv (Tryz.underlying28) rfl rfl trivial (oy rfl rfl) (fun _=>rfl),E0 (.inl rfl) rfl trivial (fun _=>rfl),AL5⟩ fun a10 w10 g10 Cb=>?_
   refine AE ?_
   refine k9 _ _ ?_
   refine BM fun Q11 x11 y11 rt11 o11=>?_
   replace AK:=AC g10 AK
   replace AN:=AC g10 AN
   replace AQ:=AC g10 AQ
   replace hr:=hr.kn g10
   replace ho:=ho.kn g10
   replace hw:=hw.kn g10
   replace hb:=hb.kn g10
   replace HG:=AA HG g10
   have okk:=Own.nil w10 23 32
   have Dt:=KZ Ci
   have Du:=KZ CX
   have Cm:=KZ GV
   have ap_hr_okk:=Kg (Mh (.slice vo ks.length vc_) ks)
   have ap_ho_okk:=Kg (Bk (.slice ao od.length ac))
   have ap_hw_okk:=Kg (Bk (.slice wo wd.length wc))
   have ap_hb_okk:=Kg (Bk (.slice bo body.length bc))
   have lo_okk:=ACa w
   refine wp_loop (fun a w'=>∃(i:Nat) (ko:Option Addr) (kc:Nat) (kl:List DD),(i≤od.length)∧(kl.map DD.x=(own.take i).map fun z=>(Co P z ad).1)∧(∀j,j<i→(Co P (Ls own j) ad).2=0)∧Sv 64 [] [(14,.int .i64 ((i:Int))),(6,.slice ko i kc),(11,pk CX 1),(12,.slice ao od.length ac),(13,.int .i64 ((od.length:Nat))),(4,pt GV),(3,pt CX),(2,pt Ci),(0,Am sa po (.slice vo ks.length vc_)),(1,B9 ad (.slice ao od.length ac) 0 (.slice wo wd.length wc) (.slice bo body.length bc) tg)] a∧w.grownBy w' none∧w'.heap[Ci]?=some (.cells ([bv sa,bv po,[.slice vo ks.length vc_]].flatten).toArray 36 (0,0))∧w'.heap[CX]?=some (.cells ([[.int .i64 ad],[.slice ao od.length ac],[.int .i64 0],[.slice wo wd.length wc],[.slice bo body.length bc],bv tg].flatten).toArray 31 (0,0))∧w'.heap[GV]?=some (.cells ((bv AR)).toArray 23 (0,0))∧RdK w' (.slice vo ks.length vc_) ks∧RdD w' (.slice ao od.length ac) od∧RdD w' (.slice wo wd.length wc) wd∧SlB w' 1 (.slice bo body.length bc) body.length (bv body)∧Own w' 23 32 (.slice ko i kc) i (kl.flatMap LM)∧(∀k,Bk (.slice ko i kc) k→k≠Ci)∧(∀k,Bk (.slice ko i kc) k→k≠CX)∧(∀k,Bk (.slice ko i kc) k→k≠GV)∧(∀k,Mh (.slice vo ks.length vc_) ks k→¬Bk (.slice ko i kc) k)∧(∀k,Bk (.slice ao od.length ac) k→¬Bk (.slice ko i kc) k)∧(∀k,Bk (.slice wo wd.length wc) k→¬Bk (.slice ko i kc) k)∧(∀k,Bk (.slice bo body.length bc) k→¬Bk (.slice ko i kc) k)∧(∀k,Bk (.slice ko i kc) k→w.heap.size≤k)) (fun a _=>(od.length-intOf (a.tmps.getD 14 undef)).toNat) ⟨0,none,0,[],Nat.zero_le _,rfl,fun j hj=>by omega,⟨Cb.1,Cb.2.1,Cb.2.2.2.2.2.1,Cb.2.2.2.2.2.2.1,Cb.2.2.1,Cb.2.2.2.1,Cb.2.2.2.2.1,(AG Cb).1,(AG Cb).2.1,(AG Cb).2.2.1,(AG Cb).2.2.2.1,(AG Cb).2.2.2.2.1,AL5⟩,HG,AK,AN,AQ,hr,ho,hw,hb,okk,Dt,Du,Cm,ap_hr_okk,ap_ho_okk,ap_hw_okk,ap_hb_okk,lo_okk⟩ fun a12 w12 hI12=>?_
   clear AK
   clear AN
   clear AQ
   clear hr
   clear ho
   clear hw
   clear hb
   clear okk
   clear HG
   obtain⟨i,ko,kc,kl,hin,hkl,hok,DL,HG,AK,AN,AQ,hr,ho,hw,hb,okk,Dt,Du,Cm,ap_hr_okk,ap_ho_okk,ap_hw_okk,ap_hb_okk,lo_okk⟩:=hI12
   refine ALz fun K13 k13=>?_
   by_cases hi:i<od.length
   · obtain⟨y,hx_y⟩:∃zx,od[i]'hi=zx:=⟨_,rfl⟩
     have hla:Ls own i=y.x:=by rw[←hown,Lu hi,hx_y]
     obtain⟨kx,hkx⟩:∃q,Co P y.x ad=q:=⟨_,rfl⟩
     have hkd:Dg kx.1:=hkx▸RZ hnok
     refine ALy ?_
     refine AJ DL 1 [(15,.bool true)]
       ⟨Il r7 (fun _=>Bo (by simp;omega)),AL5⟩ fun a14 w14 g14 Da=>?_
     refine AE ?_
     refine k13 _ _ ?_
     refine ALz fun K15 k15=>?_
     refine Aw Da rfl rfl ?_
     refine AL3 ?_
     refine k15 _ _ ?_
     refine ALz fun K16 k16=>?_
     refine BM fun Q17 x17 y17 rt17 o17=>?_
     refine ALz fun K18 k18=>?_
     refine ALy ?_
     replace ho:=ho.kn g14
     refine AJ Da 3 [(16,.int .i64 ((i:Int))),(17,pk ((bO ao)) (oO ao+i*32)),(18,AP y.x)]
       ⟨ym r5,BA rq8 (fun w=>CU Tryz.underlying28 (by kernel_rfl) (ho.1) (by omega) (rfl) w),Bu r6 (fun _ g=>Ab (B6 y.x y.h.1) (by have:=DU (ho.kn g).1 GF hi (by decide);rw[hx_y] at this;exact this)),AL5⟩ fun a19 w19 g19 EQ=>?_
     replace AK:=AC g19 (AC g14 AK)
     replace AN:=AC g19 (AC g14 AN)
     replace AQ:=AC g19 (AC g14 AQ)
     replace hr:=(hr.kn g14).kn g19
     replace ho:=ho.kn g19
     replace hw:=(hw.kn g14).kn g19
     replace hb:=(hb.kn g14).kn g19
     replace okk:=(okk.kn g14).kn g19
     replace HG:=AA (AA HG g14) g19
     refine Ar (T:=23) (Z:=(bv AR)) EQ rfl rfl rfl (fun a w=>by kernel_rfl) fun a20 w20 ALg GH g20 z20 AAh Eu=>?_
     have TZ:=An AK GH
     have Ta:=An AN GH
     have Tc:=An AQ GH
     have AFO:=Bt HG GH
     have Yj:=Au (hr.lt) GH
     have Yk:=Au (ho.lt) GH
     have Yl:=Au (hw.lt) GH
     have Ym:=Au (hb.lt) GH
     have WJ:=Au (Own.ltS okk) GH
     refine AY (v:=.int .i64 ((i:Int))) Eu r6 fun a21 Di=>?_
     refine Ao Di r7 (B6 y.x y.h.1) AAh (GR y.h) fun w22 g22 h22=>?_
     replace AK:=AX g22 (AC g20 AK) (Ne.symm TZ)
     replace AN:=AX g22 (AC g20 AN) (Ne.symm Ta)
     replace hr:=(hr.kn g20).offR g22 (AU Yj)
     replace AAh:=h22
     refine AE ?_
     refine k18 _ _ ?_
     refine ALz fun K23 k23=>?_
     refine ALy ?_
     refine AJ Di 8 [(20,Am sa po (.slice vo ks.length vc_)),(21,AP y.x),(22,pt CX),(23,.int .i64 ad),(24,.tuple #[AP kx.1,.int .i64 kx.2]),(19,.tuple #[AP kx.1,.int .i64 kx.2]),(25,AP kx.1),(26,.int .i64 kx.2)]
       ⟨yl r6 (Bb hsa hpo (.slice vo ks.length vc_) rfl) AK,yl r6 (B6 y.x y.h.1) AAh,yf r6 (fun _=>by kernel_rfl),yp (i:=0) r6 (Gu ad) AN rfl rfl,Ae [Am sa po (.slice vo ks.length vc_),AP y.x,.int .i64 ad] Tryz.func32 (by kernel_rfl) rq4 ⟨(oy rfl rfl),(oy rfl rfl),(oy rfl rfl),AL5⟩ (Ap fun W g=>AFE hsa hpo y.h (hr.kn g) hP hkx),ym r5,BF rq4 (fun _ _ h=>⟨_,_,h,rfl,rfl⟩),BF rq4 (fun _ _ h=>⟨_,_,h,rfl,rfl⟩),AL5⟩ fun a24 w24 g24 ER=>?_
     replace AK:=AC g24 AK
     replace AN:=AC g24 AN
     replace AQ:=AC g24 (AX g22 (AC g20 AQ) (Ne.symm Tc))
     replace hr:=hr.kn g24
     replace ho:=((ho.kn g20).offR g22 (AU Yk)).kn g24
     replace hw:=((hw.kn g20).offR g22 (AU Yl)).kn g24
     replace hb:=((hb.kn g20).offR g22 (AU Ym)).kn g24
     replace okk:=((okk.kn g20).offR g22 (AU WJ)).kn g24
     replace HG:=AA (AD (AA HG g20) g22 AFO) g24
     refine Ar (T:=23) (Z:=(bv AR)) ER rfl rfl rfl (fun a w=>by kernel_rfl) fun a25 w25 ALh GI g25 z25 AAi DV=>?_
     have Td:=An AK GI
     have Te:=An AN GI
     have Tf:=An AQ GI
     have AFP:=Bt HG GI
     have Yn:=Au (hr.lt) GI
     have Yo:=Au (ho.lt) GI
     have Yp:=Au (hw.lt) GI
     have Yq:=Au (hb.lt) GI
     have WK:=Au (Own.ltS okk) GI
     refine Ao DV r7 (B6 kx.1 hkd.1) AAi (GR hkd) fun w26 g26 h26=>?_
     replace AK:=AX g26 (AC g25 AK) (Ne.symm Td)
     replace AN:=AX g26 (AC g25 AN) (Ne.symm Te)
     replace AQ:=AX g26 (AC g25 AQ) (Ne.symm Tf)
     replace hr:=(hr.kn g25).offR g26 (AU Yn)
     replace ho:=(ho.kn g25).offR g26 (AU Yo)
     replace hw:=(hw.kn g25).offR g26 (AU Yp)
     replace hb:=(hb.kn g25).offR g26 (AU Yq)
     replace okk:=(okk.kn g25).offR g26 (AU WK)
     replace HG:=AD (AA HG g25) g26 AFP
     replace AAi:=h26
     refine AY (v:=.int .i64 kx.2) DV r6 fun a27 JG=>?_
     have Js:Sv _ _ [_,_,_,_,_,_,_,_,_,_,_,_,_,_,_,_,_,_] _:=JG.dl [20,21,22,23,24,19,25,26]
     refine AE ?_
     refine k23 _ _ ?_
     refine ALz fun K29 k29=>?_
     refine BM fun Q30 x30 y30 rt30 o30=>?_
     refine ALz fun K31 k31=>?_
     by_cases he:kx.2=0
     · have hkl1:=Uj hkl (by omega) hla hkx (hkd:=hkd)
       have hok1:∀j,j<i+1→(Co P (Ls own j) ad).2=0:=fun j hj=>if e:j=i then (by rw[e,hla,hkx];exact he) else hok j (by omega)
       refine ALy ?_
       refine AJ Js 7 [(28,pk CX 2),(29,.int .i64 0),(30,.bool false),(31,.bool false),(32,undef),(33,undef),(34,.bool false)]
        ⟨yf r6 (fun _=>by kernel_rfl),yp (i:=2) r6 (E8 0) AN rfl rfl,Cz r6 (fun _=>CV rfl),ym r5,AZ r6,AZ r6,CL r7,AL5⟩ fun a32 w32 g32 Cl=>?_
       refine AY (v:=.bool false) Cl r6 fun a33 JU=>?_
       have MB:Sv _ _ [_,_,_,_,_,_,_,_,_,_,_,_,_,_,_,_,_,_,_] _:=JU.dl [28,29,30,31,32,33,34]
       refine AE ?_
       refine k31 _ _ ?_
       refine A1 MB rfl rfl ?_
       refine ALz fun K35 k35=>?_
       refine ALy ?_
       refine AJ MB 7 [(43,pk CX 2),(44,.int .i64 0),(45,.bool true),(46,.bool true),(47,.int .i64 kx.2),(48,.bool false),(49,.bool false)]
        ⟨yf r6 (fun _=>by kernel_rfl),yp (i:=2) r6 (E8 0) (AC g32 AN) rfl rfl,Cz r6 (fun _=>CV rfl),ym r5,Az rq8,BJ rq9 (fun _=>Dj (by simpa using he)),A2 rq9,AL5⟩ fun a36 w36 g36 Fw=>?_
       have Qx:=AA g32 g36
       refine AY (v:=.bool false) Fw r6 fun a37 IR=>?_
       have Z7:Sv _ _ [_,_,_,_,_,_,_,_,_,_,_,_,_,_,_,_,_,_,_,_] _:=IR.dl [43,44,45,46,47,48,49]
       refine AE ?_
       refine k35 _ _ ?_
       refine A1 Z7 rfl rfl ?_
       refine AL3 ?_
       refine y30 _ _ ?_
       refine k29 _ _ ?_
       refine ALy ?_
       refine AJ Z7 2 [(51,.slice ko i kc),(52,AP kx.1)]
        ⟨ym r5,yl r6 (B6 kx.1 hkd.1) (AC Qx AAi),AL5⟩ fun a39 w39 g39 JV=>?_
       have WL:=AA Qx g39
       refine NS (cs:=bv kx.1) (e:=23) JV rfl rfl rfl rfl rfl rfl (AC4 hkd) fun a40 w40 ALQ AJm g40 z40 AHS Kj=>?_
       replace AK:=AC g40 (AC WL AK)
       replace AN:=AC g40 (AC WL AN)
       replace AQ:=AC g40 (AC WL AQ)
       replace hr:=(hr.kn WL).kn g40
       replace ho:=(ho.kn WL).kn g40
       replace hw:=(hw.kn WL).kn g40
       replace hb:=(hb.kn WL).kn g40
       replace okk:=(okk.kn WL).kn g40
       replace HG:=AA (AA HG WL) g40
       refine Mg dsT Kj rfl rfl rfl rfl rfl rfl rfl rfl okk (Lx AHS hkd) (Gz _) (by omega) fun a41 ao41 cap41 w41 owx41 Cj OB=>?_
       have Tg:=KX Cj.2 Dt AK
       have Th:=KX Cj.2 Du AN
       have Ti:=KX Cj.2 Cm AQ
       have Yr:=KY Cj.2 ap_hr_okk (hr.lt)
       have Ys:=KY Cj.2 ap_ho_okk (ho.lt)
       have Yt:=KY Cj.2 ap_hw_okk (hw.lt)
       have Yu:=KY Cj.2 ap_hb_okk (hb.lt)
       have AFQ:=Zz Cj.2 lo_okk HG
       replace AK:=AF Cj.1 AK (fun e=>Dt _ e.symm rfl)
       replace AN:=AF Cj.1 AN (fun e=>Du _ e.symm rfl)
       replace AQ:=AF Cj.1 AQ (fun e=>Cm _ e.symm rfl)
       replace hr:=hr.offR Cj.1 (fun k hk e=>ap_hr_okk k hk (e))
       replace ho:=ho.offR Cj.1 (fun k hk e=>ap_ho_okk k hk (e))
       replace hw:=hw.offR Cj.1 (fun k hk e=>ap_hw_okk k hk (e))
       replace hb:=hb.offR Cj.1 (fun k hk e=>ap_hb_okk k hk (e))
       replace HG:=Bi HG Cj.1 fun k e=>lo_okk k (e)
       rw[Vn kl ⟨kx.1,hkd⟩] at owx41
       refine AY (v:=.slice ao41 (i+1) cap41) OB r6 fun a42 Hl=>?_
       have Jt:Sv _ _ [_,_,_,_,_,_,_,_,_,_,_,_,_,_,_,_,_,_,_,_] _:=Hl.dl [54,53,51,52]
       refine AE ?_
       refine y17 _ _ ?_
       refine k16 _ _ ?_
       refine ALy ?_
       refine AJ Jt 1 [(55,.int .i64 (((i+1:Nat):Int)))]
        ⟨Cz r6 (fun _=>Dk (by rw[BG (by omega) (by omega)];omega)),AL5⟩ fun a44 w44 g44 VW=>?_
       refine AJ (VW.dl [14]) 1 [(14,.int .i64 (((i+1:Nat):Int)))]
        ⟨ym r5,AL5⟩ fun a45 w45 g45 Ev=>?_
       have RO:=AA g44 g45
       refine AE ?_
       replace AK:=AC RO AK
       replace AN:=AC RO AN
       replace AQ:=AC RO AQ
       replace hr:=hr.kn RO
       replace ho:=ho.kn RO
       replace hw:=hw.kn RO
       replace hb:=hb.kn RO
       replace owx41:=owx41.kn RO
       replace HG:=AA HG RO
       exact⟨⟨i+1,ao41,cap41,(kl++[⟨kx.1,hkd⟩]),by omega,hkl1,hok1,⟨Ev.1,Ev.2.1,Ev.2.2.1,Ev.2.2.2.2.1,(AG Ev).2.2.2.2.2.2.2.1,(AG (AG Ev)).1,(AG (AG Ev)).2.1,(AG (AG Ev)).2.2.1,(AG (AG Ev)).2.2.2.1,(AG (AG Ev)).2.2.2.2.1,(AG (AG Ev)).2.2.2.2.2.1,(AG (AG Ev)).2.2.2.2.2.2.1,AL5⟩,HG,AK,AN,AQ,hr,ho,hw,hb,owx41,Tg,Th,Ti,Yr,Ys,Yt,Yu,AFQ⟩,by rw[show _=_ from Ev.2.2.1,show _=_ from DL.2.2.1];simp[intOf];omega⟩
     · have hke:=Lw (P:=P) (a:=ad) (own:=own) (i:=i) (by omega) hok (by rw[hla,hkx];exact he)
       rw[hla,hkx] at hke
       refine ALy ?_
       refine AJ Js 7 [(28,pk CX 2),(29,.int .i64 0),(30,.bool false),(31,.bool false),(32,undef),(33,undef),(34,.bool false)]
        ⟨yf r6 (fun _=>by kernel_rfl),yp (i:=2) r6 (E8 0) AN rfl rfl,Cz r6 (fun _=>CV rfl),ym r5,AZ r6,AZ r6,CL r7,AL5⟩ fun a46 w46 g46 Ju=>?_
       refine AY (v:=.bool false) Ju r6 fun a47 LG=>?_
       have AHT:Sv _ _ [_,_,_,_,_,_,_,_,_,_,_,_,_,_,_,_,_,_,_] _:=LG.dl [28,29,30,31,32,33,34]
       refine AE ?_
       refine k31 _ _ ?_
       refine A1 AHT rfl rfl ?_
       refine ALz fun K49 k49=>?_
       refine ALy ?_
       refine AJ AHT 7 [(43,pk CX 2),(44,.int .i64 0),(45,.bool true),(46,.bool true),(47,.int .i64 kx.2),(48,.bool true),(49,.bool true)]
        ⟨yf r6 (fun _=>by kernel_rfl),yp (i:=2) r6 (E8 0) (AC g46 AN) rfl rfl,Cz r6 (fun _=>CV rfl),ym r5,Az rq8,BJ rq9 (fun _=>Dj (by simpa using he)),A2 rq9,AL5⟩ fun a50 w50 g50 Va=>?_
       have WM:=AA g46 g50
       refine AY (v:=.bool true) Va r6 fun a51 EI=>?_
       have RA:Sv _ _ [_,_,_,_,_,_,_,_,_,_,_,_,_,_,_,_,_,_,_,_] _:=EI.dl [43,44,45,46,47,48,49]
       refine AE ?_
       refine k49 _ _ ?_
       refine Aw RA rfl rfl ?_
       refine ALz fun K53 k53=>?_
       refine ALy ?_
       replace AQ:=AC WM AQ
       refine AJ RA 1 [(50,AP AR)]
        ⟨BU (vs:=[]) rfl rfl trivial trivial (fun _=>bD0 _) (fun _=>rfl),AL5⟩ fun a54 w54 g54 MC=>?_
       refine Ao MC r7 (B6 AR AO.1) (AC g54 AQ) (GR AO) fun w55 g55 h55=>?_
       replace AK:=Aj g54 g55 (AC WM AK) (Ne.symm BO)
       replace AN:=Aj g54 g55 (AC WM AN) (Ne.symm Bd)
       replace hr:=((hr.kn WM).kn g54).offR g55 (AU CB)
       replace ho:=((ho.kn WM).kn g54).offR g55 (AU Dw)
       replace hw:=((hw.kn WM).kn g54).offR g55 (AU Dx)
       replace hb:=((hb.kn WM).kn g54).offR g55 (AU Df)
       replace okk:=((okk.kn WM).kn g54).offR g55 (AU Cm)
       replace HG:=AD (AA (AA HG WM) g54) g55 CP
       replace AQ:=h55
       refine AY (v:=.bool false) MC r6 fun a56 Pd=>?_
       refine AE ?_
       refine k53 _ _ ?_
       refine AL2 ?_
       repeat refine AL ?_
       refine rt30 _ _ ?_
       repeat refine AL ?_
       refine rt17 _ _ ?_
       repeat refine AL ?_
       refine rt11 _ _ ?_
       repeat refine AL ?_
       refine BI (fn:=Tryz.f62) Pd (Gd (p:=4) (q:=5) Tryz.results62 Pd rfl rfl rfl rfl (B6 AR AO.1) AQ) ?_
       exact RecR.none (show JK P _=_ by unfold JK;rw[if_neg (show ¬(0:Int)=1 by decide),if_neg (by rw[hke];exact he)]) AO HG
   · obtain⟨hK1,hK2⟩:=LR (P:=P) (a:=ad) (own:=own) fun j hj=>hok j (by omega)
     have hkm:kl.map DD.x=(Ck P ad own).1:=by rw[hK1,hkl,List.take_of_length_le (by omega)]
     refine ALy ?_
     refine AJ DL 1 [(15,.bool false)]
       ⟨Il r7 (fun _=>Bo (by simp;omega)),AL5⟩ fun a57 w57 g57 AAW=>?_
     refine AE ?_
     refine k13 _ _ ?_
     refine ALz fun K58 k58=>?_
     refine A1 AAW rfl rfl ?_
     refine wp_exit ?_
     repeat refine CY ?_
     refine x11 _ _ ?_
     refine k8 _ _ ?_
     refine ALz fun K59 k59=>?_
     refine ALz fun K60 k60=>?_
     refine ALy ?_
     refine AJ AAW 3 [(56,pk CX 2),(57,.int .i64 0),(58,.bool false)]
       ⟨yf r6 (fun _=>by kernel_rfl),yp (i:=2) r6 (E8 0) (AC g57 AN) rfl rfl,Cz r6 (fun _=>CV rfl),AL5⟩ fun a61 w61 g61 NK=>?_
     have AKh:=AA g57 g61
     refine AE ?_
     refine k60 _ _ ?_
     refine A1 NK rfl rfl ?_
     refine AL3 ?_
     refine k59 _ _ ?_
     refine ALz fun K62 k62=>?_
     refine ALy ?_
     refine AJ NK 3 [(60,pk CX 2),(61,.int .i64 0),(62,.slice ko i kc)]
       ⟨yf r6 (fun _=>by kernel_rfl),yp (i:=2) r6 (E8 0) (AC AKh AN) rfl rfl,ym r5,AL5⟩ fun a63 w63 g63 AC7=>?_
     have WN:=AA AKh g63
     replace okk:=okk.kn WN
     refine Bh AC7 Tryz.func55 (by kernel_rfl) r6 (OM (AFD (by have:=congrArg List.length hkl;simpa using this.trans (by rw[List.length_map,List.length_take];omega)) (Own.sb okk) (by omega) rfl)) fun a64 v64 w64 hR64 WO=>?_
     obtain⟨rfl,g64⟩:=hR64
     replace AQ:=AC g64 (AC WN AQ)
     refine Ao WO r7 (B6 ((Wp (decide ((0:Int)=1)) (kl.map DD.x))) (ON _ _).1) AQ (GR (ON _ _)) fun w65 g65 h65=>?_
     replace AK:=AX g65 (AC g64 (AC WN AK)) (Ne.symm BO)
     replace AN:=AX g65 (AC g64 (AC WN AN)) (Ne.symm Bd)
     replace hr:=((hr.kn WN).kn g64).offR g65 (AU CB)
     replace ho:=((ho.kn WN).kn g64).offR g65 (AU Dw)
     replace hw:=((hw.kn WN).kn g64).offR g65 (AU Dx)
     replace hb:=((hb.kn WN).kn g64).offR g65 (AU Df)
     replace okk:=(okk.kn g64).offR g65 (AU Cm)
     replace HG:=AD (AA (AA HG WN) g64) g65 CP
     replace AQ:=h65
     refine AY (v:=.bool true) WO r6 fun a66 AJR=>?_
     have AAj:Sv _ _ [_,_,_,_,_,_,_,_,_,_,_,_,_,_,_] _:=AJR.dl [63,60,61,62]
     refine AE ?_
     refine k62 _ _ ?_
     refine AL2 ?_
     repeat refine AL ?_
     refine BI (fn:=Tryz.f62) AAj (Gd (p:=4) (q:=5) Tryz.results62 AAj rfl rfl rfl rfl (B6 ((Wp (decide ((0:Int)=1)) (kl.map DD.x))) (ON _ _).1) AQ) ?_
     exact RecR.some (show JK P _=_ by unfold JK;rw[if_neg (show ¬(0:Int)=1 by decide),if_pos hK2,←hkm]) (ON _ _) HG
 · refine ALy ?_
   refine AJ sv7 4 [(11,pk CX 1),(12,.slice ao od.length ac),(13,.int .i64 ((od.length:Nat))),(14,.int .i64 0)]
     ⟨yf r6 (fun _=>by kernel_rfl),yp (i:=1) r6 (J3 (.slice ao od.length ac) rfl) AN rfl rfl,Bv (Tryz.underlying28) rfl rfl trivial (oy rfl rfl) (fun _=>rfl),E0 (.inl rfl) rfl trivial (fun _=>rfl),AL5⟩ fun a68 w68 g68 NX=>?_
   refine AE ?_
   refine k9 _ _ ?_
   refine BM fun Q69 x69 y69 rt69 o69=>?_
   replace AK:=AC g68 AK
   replace AN:=AC g68 AN
   replace AQ:=AC g68 AQ
   replace hr:=hr.kn g68
   replace ho:=ho.kn g68
   replace hw:=hw.kn g68
   replace hb:=hb.kn g68
   replace HG:=AA HG g68
   have okk:=Own.nil w68 23 32
   have Dt:=KZ Ci
   have Du:=KZ CX
   have Cm:=KZ GV
   have ap_hr_okk:=Kg (Mh (.slice vo ks.length vc_) ks)
   have ap_ho_okk:=Kg (Bk (.slice ao od.length ac))
   have ap_hw_okk:=Kg (Bk (.slice wo wd.length wc))
   have ap_hb_okk:=Kg (Bk (.slice bo body.length bc))
   have lo_okk:=ACa w
   refine wp_loop (fun a w'=>∃(i:Nat) (ko:Option Addr) (kc:Nat) (kl:List DD),(i≤od.length)∧(kl.length=i)∧(∀j,j<i→(Co P (Ls own j) ad).2≠0)∧Sv 64 [] [(14,.int .i64 ((i:Int))),(6,.slice ko i kc),(11,pk CX 1),(12,.slice ao od.length ac),(13,.int .i64 ((od.length:Nat))),(4,pt GV),(3,pt CX),(2,pt Ci),(0,Am sa po (.slice vo ks.length vc_)),(1,B9 ad (.slice ao od.length ac) 1 (.slice wo wd.length wc) (.slice bo body.length bc) tg)] a∧w.grownBy w' none∧w'.heap[Ci]?=some (.cells ([bv sa,bv po,[.slice vo ks.length vc_]].flatten).toArray 36 (0,0))∧w'.heap[CX]?=some (.cells ([[.int .i64 ad],[.slice ao od.length ac],[.int .i64 1],[.slice wo wd.length wc],[.slice bo body.length bc],bv tg].flatten).toArray 31 (0,0))∧w'.heap[GV]?=some (.cells ((bv AR)).toArray 23 (0,0))∧RdK w' (.slice vo ks.length vc_) ks∧RdD w' (.slice ao od.length ac) od∧RdD w' (.slice wo wd.length wc) wd∧SlB w' 1 (.slice bo body.length bc) body.length (bv body)∧Own w' 23 32 (.slice ko i kc) i (kl.flatMap LM)∧(∀k,Bk (.slice ko i kc) k→k≠Ci)∧(∀k,Bk (.slice ko i kc) k→k≠CX)∧(∀k,Bk (.slice ko i kc) k→k≠GV)∧(∀k,Mh (.slice vo ks.length vc_) ks k→¬Bk (.slice ko i kc) k)∧(∀k,Bk (.slice ao od.length ac) k→¬Bk (.slice ko i kc) k)∧(∀k,Bk (.slice wo wd.length wc) k→¬Bk (.slice ko i kc) k)∧(∀k,Bk (.slice bo body.length bc) k→¬Bk (.slice ko i kc) k)∧(∀k,Bk (.slice ko i kc) k→w.heap.size≤k)) (fun a _=>(od.length-intOf (a.tmps.getD 14 undef)).toNat) ⟨0,none,0,[],Nat.zero_le _,rfl,fun j hj=>by omega,⟨NX.1,NX.2.1,NX.2.2.2.2.2.1,NX.2.2.2.2.2.2.1,NX.2.2.1,NX.2.2.2.1,NX.2.2.2.2.1,(AG NX).1,(AG NX).2.1,(AG NX).2.2.1,(AG NX).2.2.2.1,(AG NX).2.2.2.2.1,AL5⟩,HG,AK,AN,AQ,hr,ho,hw,hb,okk,Dt,Du,Cm,ap_hr_okk,ap_ho_okk,ap_hw_okk,ap_hb_okk,lo_okk⟩ fun a70 w70 hI70=>?_
   clear AK
   clear AN
   clear AQ
   clear hr
   clear ho
   clear hw
   clear hb
   clear okk
   clear HG
   obtain⟨i,ko,kc,kl,hin,hkll,hno,AAk,HG,AK,AN,AQ,hr,ho,hw,hb,okk,Dt,Du,Cm,ap_hr_okk,ap_ho_okk,ap_hw_okk,ap_hb_okk,lo_okk⟩:=hI70
   refine ALz fun K71 k71=>?_
   by_cases hi:i<od.length
   · obtain⟨y,hx_y⟩:∃zx,od[i]'hi=zx:=⟨_,rfl⟩
     have hla:Ls own i=y.x:=by rw[←hown,Lu hi,hx_y]
     obtain⟨kx,hkx⟩:∃q,Co P y.x ad=q:=⟨_,rfl⟩
     have hkd:Dg kx.1:=hkx▸RZ hnok
     refine ALy ?_
     refine AJ AAk 1 [(15,.bool true)]
       ⟨Il r7 (fun _=>Bo (by simp;omega)),AL5⟩ fun a72 w72 g72 AC9=>?_
     refine AE ?_
     refine k71 _ _ ?_
     refine ALz fun K73 k73=>?_
     refine Aw AC9 rfl rfl ?_
     refine AL3 ?_
     refine k73 _ _ ?_
     refine ALz fun K74 k74=>?_
     refine BM fun Q75 x75 y75 rt75 o75=>?_
     refine ALz fun K76 k76=>?_
     refine ALy ?_
     replace ho:=ho.kn g72
     refine AJ AC9 3 [(16,.int .i64 ((i:Int))),(17,pk ((bO ao)) (oO ao+i*32)),(18,AP y.x)]
       ⟨ym r5,BA rq8 (fun w=>CU Tryz.underlying28 (by kernel_rfl) (ho.1) (by omega) (rfl) w),Bu r6 (fun _ g=>Ab (B6 y.x y.h.1) (by have:=DU (ho.kn g).1 GF hi (by decide);rw[hx_y] at this;exact this)),AL5⟩ fun a77 w77 g77 AFR=>?_
     replace AK:=AC g77 (AC g72 AK)
     replace AN:=AC g77 (AC g72 AN)
     replace AQ:=AC g77 (AC g72 AQ)
     replace hr:=(hr.kn g72).kn g77
     replace ho:=ho.kn g77
     replace hw:=(hw.kn g72).kn g77
     replace hb:=(hb.kn g72).kn g77
     replace okk:=(okk.kn g72).kn g77
     replace HG:=AA (AA HG g72) g77
     refine Ar (T:=23) (Z:=(bv AR)) AFR rfl rfl rfl (fun a w=>by kernel_rfl) fun a78 w78 ALi GJ g78 z78 AAl ADG=>?_
     have Tj:=An AK GJ
     have Tk:=An AN GJ
     have Tl:=An AQ GJ
     have AFS:=Bt HG GJ
     have Yv:=Au (hr.lt) GJ
     have Yw:=Au (ho.lt) GJ
     have Yx:=Au (hw.lt) GJ
     have Yy:=Au (hb.lt) GJ
     have WP:=Au (Own.ltS okk) GJ
     refine AY (v:=.int .i64 ((i:Int))) ADG r6 fun a79 OU=>?_
     refine Ao OU r7 (B6 y.x y.h.1) AAl (GR y.h) fun w80 g80 h80=>?_
     replace AK:=AX g80 (AC g78 AK) (Ne.symm Tj)
     replace AN:=AX g80 (AC g78 AN) (Ne.symm Tk)
     replace hr:=(hr.kn g78).offR g80 (AU Yv)
     replace AAl:=h80
     refine AE ?_
     refine k76 _ _ ?_
     refine ALz fun K81 k81=>?_
     refine ALy ?_
     refine AJ OU 8 [(20,Am sa po (.slice vo ks.length vc_)),(21,AP y.x),(22,pt CX),(23,.int .i64 ad),(24,.tuple #[AP kx.1,.int .i64 kx.2]),(19,.tuple #[AP kx.1,.int .i64 kx.2]),(25,AP kx.1),(26,.int .i64 kx.2)]
       ⟨yl r6 (Bb hsa hpo (.slice vo ks.length vc_) rfl) AK,yl r6 (B6 y.x y.h.1) AAl,yf r6 (fun _=>by kernel_rfl),yp (i:=0) r6 (Gu ad) AN rfl rfl,Ae [Am sa po (.slice vo ks.length vc_),AP y.x,.int .i64 ad] Tryz.func32 (by kernel_rfl) rq4 ⟨(oy rfl rfl),(oy rfl rfl),(oy rfl rfl),AL5⟩ (Ap fun W g=>AFE hsa hpo y.h (hr.kn g) hP hkx),ym r5,BF rq4 (fun _ _ h=>⟨_,_,h,rfl,rfl⟩),BF rq4 (fun _ _ h=>⟨_,_,h,rfl,rfl⟩),AL5⟩ fun a82 w82 g82 WA=>?_
     replace AK:=AC g82 AK
     replace AN:=AC g82 AN
     replace AQ:=AC g82 (AX g80 (AC g78 AQ) (Ne.symm Tl))
     replace hr:=hr.kn g82
     replace ho:=((ho.kn g78).offR g80 (AU Yw)).kn g82
     replace hw:=((hw.kn g78).offR g80 (AU Yx)).kn g82
     replace hb:=((hb.kn g78).offR g80 (AU Yy)).kn g82
     replace okk:=((okk.kn g78).offR g80 (AU WP)).kn g82
     replace HG:=AA (AD (AA HG g78) g80 AFS) g82
     refine Ar (T:=23) (Z:=(bv AR)) WA rfl rfl rfl (fun a w=>by kernel_rfl) fun a83 w83 ALj GK g83 z83 LU AHN=>?_
     have Tm:=An AK GK
     have Tn:=An AN GK
     have MM:=An AQ GK
     have AFT:=Bt HG GK
     have Yz:=Au (hr.lt) GK
     have Y0:=Au (ho.lt) GK
     have ZA:=Au (hw.lt) GK
     have ZB:=Au (hb.lt) GK
     have WQ:=Au (Own.ltS okk) GK
     refine Ao AHN r7 (B6 kx.1 hkd.1) LU (GR hkd) fun w84 g84 h84=>?_
     replace AK:=AX g84 (AC g83 AK) (Ne.symm Tm)
     replace AN:=AX g84 (AC g83 AN) (Ne.symm Tn)
     replace AQ:=AX g84 (AC g83 AQ) (Ne.symm MM)
     replace hr:=(hr.kn g83).offR g84 (AU Yz)
     replace ho:=(ho.kn g83).offR g84 (AU Y0)
     replace hw:=(hw.kn g83).offR g84 (AU ZA)
     replace hb:=(hb.kn g83).offR g84 (AU ZB)
     replace okk:=(okk.kn g83).offR g84 (AU WQ)
     replace HG:=AD (AA HG g83) g84 AFT
     replace LU:=h84
     refine AY (v:=.int .i64 kx.2) AHN r6 fun a85 AJM=>?_
     have Eo:Sv _ _ [_,_,_,_,_,_,_,_,_,_,_,_,_,_,_,_,_,_] _:=AJM.dl [20,21,22,23,24,19,25,26]
     refine AE ?_
     refine k81 _ _ ?_
     refine ALz fun K87 k87=>?_
     refine BM fun Q88 x88 y88 rt88 o88=>?_
     refine ALz fun K89 k89=>?_
     by_cases he:kx.2=0
     · have hiw:i<wd.length:=by have:=hwl rfl;omega
       obtain⟨wx,hx_wx⟩:∃zx,wd[i]'hiw=zx:=⟨_,rfl⟩
       have hhit:=Rp (P:=P) (a:=ad) (own:=own) (wr:=wd.map DD.x) (i:=i) (by omega) hno (by rw[hla,hkx];exact he)
       rw[hla,hkx,Lu hiw,hx_wx] at hhit
       refine ALy ?_
       refine AJ Eo 7 [(28,pk CX 2),(29,.int .i64 1),(30,.bool true),(31,.bool true),(32,.int .i64 kx.2),(33,.bool true),(34,.bool true)]
        ⟨yf r6 (fun _=>by kernel_rfl),yp (i:=2) r6 (E8 1) AN rfl rfl,Cz r6 (fun _=>CV rfl),ym r5,Az rq8,BJ rq9 (fun _=>CV (by simpa using he)),A2 rq9,AL5⟩ fun a90 w90 g90 ALR=>?_
       refine AY (v:=.bool true) ALR r6 fun a91 ALS=>?_
       have AFG:Sv _ _ [_,_,_,_,_,_,_,_,_,_,_,_,_,_,_,_,_,_,_] _:=ALS.dl [28,29,30,31,32,33,34]
       refine AE ?_
       refine k89 _ _ ?_
       refine Aw AFG rfl rfl ?_
       refine ALz fun K93 k93=>?_
       replace AN:=AC g90 AN
       replace AQ:=AC g90 AQ
       replace LU:=AC g90 LU
       replace hw:=hw.kn g90
       refine DW (AFG.st w90) (by kernel_rfl) 7 [(35,Sp.is (pk CX 3)),(36,Sp.is (.slice wo wd.length wc)),(37,Sp.is (.int .i64 ((i:Int)))),(38,Sp.is (pk ((bO wo)) (oO wo+i*32))),(39,Sp.is (AP wx.x)),(40,Sp.is (AP kx.1)),(41,Sp.is (AP ((Mr wx.x kx.1))))] rfl (by kernel_rfl) (by kernel_rfl) (by kernel_rfl) [] (by kernel_rfl)
        ⟨yf r6 (fun _=>by kernel_rfl),yp (i:=3) r6 (J3 (.slice wo wd.length wc) rfl) AN rfl rfl,ym r5,BA rq8 (fun w=>CU Tryz.underlying28 (by kernel_rfl) (hw.1) (by omega) (rfl) w),Bu r6 (fun _ g=>Ab (B6 wx.x wx.h.1) (by have:=DU (hw.kn g).1 GF hiw (by decide);rw[hx_wx] at this;exact this)),yl r6 (B6 kx.1 hkd.1) LU,Ae [AP wx.x,AP kx.1] Tryz.func56 (by kernel_rfl) rq4 ⟨(oy rfl rfl),(oy rfl rfl),AL5⟩ (Ap fun W g=>NQ wx.x kx.1 wx.h hkd W),AL5⟩ trivial
        [] (by kernel_rfl) trivial ⟨.inl rfl,.inl rfl,.inl rfl,.inl rfl,.inl rfl,.inl rfl,.inl rfl,AL5⟩ (by kernel_rfl) fun a94 w94 g94 st94 nd94=>?_
       obtain⟨hn94,hd94,e94_35,e94_36,e94_37,e94_38,e94_39,e94_40,e94_41,e94_27,e94_10,e94_9,e94_7,e94_8,e94_16,e94_17,e94_18,e94_15,e94_14,e94_6,e94_11,e94_12,e94_13,e94_4,e94_3,e94_2,e94_0,e94_1,-⟩:=st94
       have AKi:Sv 64 [] [(27,_),(10,_),(9,_),(7,_),(8,_),(16,_),(17,_),(18,_),(15,_),(14,_),(6,_),(11,_),(12,_),(13,_),(4,_),(3,_),(2,_),(0,_),(1,_),(41,_)] a94:=⟨hn94,hd94,e94_27,e94_10,e94_9,e94_7,e94_8,e94_16,e94_17,e94_18,e94_15,e94_14,e94_6,e94_11,e94_12,e94_13,e94_4,e94_3,e94_2,e94_0,e94_1,e94_41,AL5⟩
       refine Ao AKi r7 (B6 ((Mr wx.x kx.1)) (Mt wx.h hkd).1) (AC g94 AQ) (GR (Mt wx.h hkd)) fun w95 g95 h95=>?_
       replace AK:=Aj g94 g95 (AC g90 AK) (Ne.symm BO)
       replace AN:=Aj g94 g95 AN (Ne.symm Bd)
       replace LU:=Aj g94 g95 LU MM
       replace hr:=((hr.kn g90).kn g94).offR g95 (AU CB)
       replace ho:=((ho.kn g90).kn g94).offR g95 (AU Dw)
       replace hw:=(hw.kn g94).offR g95 (AU Dx)
       replace hb:=((hb.kn g90).kn g94).offR g95 (AU Df)
       replace okk:=((okk.kn g90).kn g94).offR g95 (AU Cm)
       replace HG:=AD (AA (AA HG g90) g94) g95 CP
       replace AQ:=h95
       refine AY (v:=.bool true) AKi r6 fun a96 AHP=>?_
       refine AE ?_
       refine k93 _ _ ?_
       refine AL2 ?_
       repeat refine AL ?_
       refine rt88 _ _ ?_
       repeat refine AL ?_
       refine rt75 _ _ ?_
       repeat refine AL ?_
       refine rt69 _ _ ?_
       repeat refine AL ?_
       refine BI (fn:=Tryz.f62) AHP (Gd (p:=4) (q:=5) Tryz.results62 AHP rfl rfl rfl rfl (B6 ((Mr wx.x kx.1)) (Mt wx.h hkd).1) AQ) ?_
       exact RecR.some (show JK P _=_ by unfold JK;rw[if_pos rfl];exact hhit) (Mt wx.h hkd) HG
     · have hno1:∀j,j<i+1→(Co P (Ls own j) ad).2≠0:=fun j hj=>if e:j=i then (by rw[e,hla,hkx];exact he) else hno j (by omega)
       refine ALy ?_
       refine AJ Eo 7 [(28,pk CX 2),(29,.int .i64 1),(30,.bool true),(31,.bool true),(32,.int .i64 kx.2),(33,.bool false),(34,.bool false)]
        ⟨yf r6 (fun _=>by kernel_rfl),yp (i:=2) r6 (E8 1) AN rfl rfl,Cz r6 (fun _=>CV rfl),ym r5,Az rq8,BJ rq9 (fun _=>CV (by simpa using he)),A2 rq9,AL5⟩ fun a97 w97 g97 AFH=>?_
       refine AY (v:=.bool false) AFH r6 fun a98 ALT=>?_
       have AKj:Sv _ _ [_,_,_,_,_,_,_,_,_,_,_,_,_,_,_,_,_,_,_] _:=ALT.dl [28,29,30,31,32,33,34]
       refine AE ?_
       refine k89 _ _ ?_
       refine A1 AKj rfl rfl ?_
       refine ALz fun K100 k100=>?_
       refine ALy ?_
       refine AJ AKj 7 [(43,pk CX 2),(44,.int .i64 1),(45,.bool false),(46,.bool false),(47,undef),(48,undef),(49,.bool false)]
        ⟨yf r6 (fun _=>by kernel_rfl),yp (i:=2) r6 (E8 1) (AC g97 AN) rfl rfl,Cz r6 (fun _=>CV rfl),ym r5,AZ r6,AZ r6,CL r7,AL5⟩ fun a101 w101 g101 ABj=>?_
       have AIJ:=AA g97 g101
       refine AY (v:=.bool false) ABj r6 fun a102 AKk=>?_
       have ABk:Sv _ _ [_,_,_,_,_,_,_,_,_,_,_,_,_,_,_,_,_,_,_,_] _:=AKk.dl [43,44,45,46,47,48,49]
       refine AE ?_
       refine k100 _ _ ?_
       refine A1 ABk rfl rfl ?_
       refine AL3 ?_
       refine y88 _ _ ?_
       refine k87 _ _ ?_
       refine ALy ?_
       refine AJ ABk 2 [(51,.slice ko i kc),(52,AP kx.1)]
        ⟨ym r5,yl r6 (B6 kx.1 hkd.1) (AC AIJ LU),AL5⟩ fun a104 w104 g104 AFI=>?_
       have Ng:=AA AIJ g104
       refine NS (cs:=bv kx.1) (e:=23) AFI rfl rfl rfl rfl rfl rfl (AC4 hkd) fun a105 w105 AK4 AJS g105 z105 AFU ABl=>?_
       replace AK:=AC g105 (AC Ng AK)
       replace AN:=AC g105 (AC Ng AN)
       replace AQ:=AC g105 (AC Ng AQ)
       replace hr:=(hr.kn Ng).kn g105
       replace ho:=(ho.kn Ng).kn g105
       replace hw:=(hw.kn Ng).kn g105
       replace hb:=(hb.kn Ng).kn g105
       replace okk:=(okk.kn Ng).kn g105
       replace HG:=AA (AA HG Ng) g105
       refine Mg dsT ABl rfl rfl rfl rfl rfl rfl rfl rfl okk (Lx AFU hkd) (Gz _) (by omega) fun a106 ao106 cap106 w106 owx106 Cj AKl=>?_
       have Rq:=KX Cj.2 Dt AK
       have Rr:=KX Cj.2 Du AN
       have Rs:=KX Cj.2 Cm AQ
       have WS:=KY Cj.2 ap_hr_okk (hr.lt)
       have WU:=KY Cj.2 ap_ho_okk (ho.lt)
       have WV:=KY Cj.2 ap_hw_okk (hw.lt)
       have WW:=KY Cj.2 ap_hb_okk (hb.lt)
       have ADH:=Zz Cj.2 lo_okk HG
       replace AK:=AF Cj.1 AK (fun e=>Dt _ e.symm rfl)
       replace AN:=AF Cj.1 AN (fun e=>Du _ e.symm rfl)
       replace AQ:=AF Cj.1 AQ (fun e=>Cm _ e.symm rfl)
       replace hr:=hr.offR Cj.1 (fun k hk e=>ap_hr_okk k hk (e))
       replace ho:=ho.offR Cj.1 (fun k hk e=>ap_ho_okk k hk (e))
       replace hw:=hw.offR Cj.1 (fun k hk e=>ap_hw_okk k hk (e))
       replace hb:=hb.offR Cj.1 (fun k hk e=>ap_hb_okk k hk (e))
       replace HG:=Bi HG Cj.1 fun k e=>lo_okk k (e)
       rw[Vn kl ⟨kx.1,hkd⟩] at owx106
       refine AY (v:=.slice ao106 (i+1) cap106) AKl r6 fun a107 AFJ=>?_
       have AKm:Sv _ _ [_,_,_,_,_,_,_,_,_,_,_,_,_,_,_,_,_,_,_,_] _:=AFJ.dl [54,53,51,52]
       refine AE ?_
       refine y75 _ _ ?_
       refine k74 _ _ ?_
       refine ALy ?_
       refine AJ AKm 1 [(55,.int .i64 (((i+1:Nat):Int)))]
        ⟨Cz r6 (fun _=>Dk (by rw[BG (by omega) (by omega)];omega)),AL5⟩ fun a109 w109 g109 AFK=>?_
       refine AJ (AFK.dl [14]) 1 [(14,.int .i64 (((i+1:Nat):Int)))]
        ⟨ym r5,AL5⟩ fun a110 w110 g110 Ih=>?_
       have Nh:=AA g109 g110
       refine AE ?_
       replace AK:=AC Nh AK
       replace AN:=AC Nh AN
       replace AQ:=AC Nh AQ
       replace hr:=hr.kn Nh
       replace ho:=ho.kn Nh
       replace hw:=hw.kn Nh
       replace hb:=hb.kn Nh
       replace owx106:=owx106.kn Nh
       replace HG:=AA HG Nh
       exact⟨⟨i+1,ao106,cap106,(kl++[⟨kx.1,hkd⟩]),by omega,by rw[List.length_append];simp;omega,hno1,⟨Ih.1,Ih.2.1,Ih.2.2.1,Ih.2.2.2.2.1,(AG Ih).2.2.2.2.2.2.2.1,(AG (AG Ih)).1,(AG (AG Ih)).2.1,(AG (AG Ih)).2.2.1,(AG (AG Ih)).2.2.2.1,(AG (AG Ih)).2.2.2.2.1,(AG (AG Ih)).2.2.2.2.2.1,(AG (AG Ih)).2.2.2.2.2.2.1,AL5⟩,HG,AK,AN,AQ,hr,ho,hw,hb,owx106,Rq,Rr,Rs,WS,WU,WV,WW,ADH⟩,by rw[show _=_ from Ih.2.2.1,show _=_ from AAk.2.2.1];simp[intOf];omega⟩
   · have hnone:=Oc (P:=P) (a:=ad) (own:=own) (wr:=wd.map DD.x) fun j hj=>hno j (by omega)
     refine ALy ?_
     refine AJ AAk 1 [(15,.bool false)]
       ⟨Il r7 (fun _=>Bo (by simp;omega)),AL5⟩ fun a111 w111 g111 ABm=>?_
     refine AE ?_
     refine k71 _ _ ?_
     refine ALz fun K112 k112=>?_
     refine A1 ABm rfl rfl ?_
     refine wp_exit ?_
     repeat refine CY ?_
     refine x69 _ _ ?_
     refine k8 _ _ ?_
     refine ALz fun K113 k113=>?_
     refine ALz fun K114 k114=>?_
     refine ALy ?_
     refine AJ ABm 3 [(56,pk CX 2),(57,.int .i64 1),(58,.bool true)]
       ⟨yf r6 (fun _=>by kernel_rfl),yp (i:=2) r6 (E8 1) (AC g111 AN) rfl rfl,Cz r6 (fun _=>CV rfl),AL5⟩ fun a115 w115 g115 Rl=>?_
     have AFV:=AA g111 g115
     refine AE ?_
     refine k114 _ _ ?_
     refine Aw Rl rfl rfl ?_
     refine ALz fun K116 k116=>?_
     refine ALy ?_
     replace AQ:=AC AFV AQ
     refine AJ Rl 1 [(59,AP AR)]
       ⟨BU (vs:=[]) rfl rfl trivial trivial (fun _=>bD0 _) (fun _=>rfl),AL5⟩ fun a117 w117 g117 AIK=>?_
     refine Ao AIK r7 (B6 AR AO.1) (AC g117 AQ) (GR AO) fun w118 g118 h118=>?_
     replace okk:=((okk.kn AFV).kn g117).offR g118 (AU Cm)
     replace HG:=AD (AA (AA HG AFV) g117) g118 CP
     replace AQ:=h118
     refine AY (v:=.bool false) AIK r6 fun a119 AIL=>?_
     refine AE ?_
     refine k116 _ _ ?_
     refine AL2 ?_
     repeat refine AL ?_
     refine BI (fn:=Tryz.f62) AIL (Gd (p:=4) (q:=5) Tryz.results62 AIL rfl rfl rfl rfl (B6 AR AO.1) AQ) ?_
     exact RecR.none (show JK P _=_ by unfold JK;rw[if_pos rfl];exact hnone) AO HG
end Go.Proofs.YtbfjfnbcmojpiaaGreat
