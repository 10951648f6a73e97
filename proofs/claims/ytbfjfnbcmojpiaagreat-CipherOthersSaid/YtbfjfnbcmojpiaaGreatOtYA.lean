import Derived.Test.YtbfjfnbcmojpiaaGreatOtY8
import Derived.Test.YtbfjfnbcmojpiaaGreatOtR1
set_option linter.unusedSimpArgs false
set_option linter.unusedVariables false
set_option maxRecDepth 100000
set_option maxHeartbeats 4000000
namespace Go.Proofs.YtbfjfnbcmojpiaaGreat
open Go.RowKit Go.Shelf
end Go.Proofs.YtbfjfnbcmojpiaaGreat
namespace Go.Proofs.YtbfjfnbcmojpiaaGreat
open Go.RowKit
attribute [local go_sem] Oper.semAt_some
attribute [local go_sem] Oper.semAt_some
attribute [local go_sem] Oper.semAt_some
end Go.Proofs.YtbfjfnbcmojpiaaGreat
namespace Go.Proofs.YtbfjfnbcmojpiaaGreat
open Go.RowKit Go.Shelf
def KW (b:List Nat):V×Int:=match pV b with
 | .ok (x,[])=>(x,0)
 | _=>(V.nul,101)
theorem ABa {b:List Nat} {x:V} (h:pV b=.ok (x,[])):KW b=(x,0):=by unfold KW;rw[h]
theorem AC4 {b r:List Nat} {x:V} (h:pV b=.ok (x,r)) (hr:0<r.length):KW b=(V.nul,101):=by
 unfold KW
 rw[h]
 cases r with
 | nil=>simp at hr
 | cons c r=>rfl
theorem AFD {b:List Nat} {e:Nat} (h:pV b=.error e):KW b=(V.nul,101):=by unfold KW;rw[h]
def AAV (P:List VP) (a:Int):List (List Nat)→List (List Nat)→Option (List Nat)
 | [],_=>none
 | o::own,wr=>if (Cb P o a).2=0 then some (Md (IK wr 0) (Cb P o a).1) else AAV P a own wr.tail
theorem UN {P:List VP} {a:Int}:∀{own wr:List (List Nat)},(∀j,j<own.length→(Cb P (IK own j) a).2≠0)→AAV P a own wr=none
 | [],_,_=>rfl
 | o::own,wr,h=>by
  have h0:(Cb P o a).2≠0:=h 0 (by simp)
  unfold AAV
  rw[if_neg h0]
  exact UN fun j hj=>h (j+1) (by simpa using hj)
theorem Nr {P:List VP} {a:Int}:∀{own wr:List (List Nat)} {i:Nat},i<own.length→(∀j,j<i→(Cb P (IK own j) a).2≠0)→(Cb P (IK own i) a).2=0→AAV P a own wr=some (Md (IK wr i) (Cb P (IK own i) a).1)
 | [],_,_,hi,_,_=>by simp at hi
 | o::own,wr,0,_,_,h=>by
  have h0:(Cb P o a).2=0:=h
  unfold AAV
  rw[if_pos h0]
  rfl
 | o::own,wr,i+1,hi,hj,h=>by
  have h0:(Cb P o a).2≠0:=hj 0 (by omega)
  have:=Nr (own:=own) (wr:=wr.tail) (i:=i) (by simpa using hi) (fun j hjj=>hj (j+1) (by omega)) h
  unfold AAV
  rw[if_neg h0,this]
  cases wr<;>rfl
def I8 (P:List VP) (s:Sd):Option (List Nat):=if s.joint=1 then AAV P s.addr s.own s.wr else if (Cg P s.addr s.own).2=0 then some (U5 (decide ((0:Int)=1)) (Cg P s.addr s.own).1) else none
def Fd (P:List VP) (s:Sd):V×Int:=
 if FK s&&CI P then
  (if s.own=[] then (if tgC s.addr s.body=s.tag then KW s.body else (V.nul,101))
  else match I8 P s with
   | none=>(V.nul,10)
   | some c=>if U6 c s.addr s.body=s.tag then KW (Jb s.body c) else (V.nul,101))
 else (V.nul,1)
theorem AFE {s:Sd} (h:FK s=true):hd s.own s.joint s.addr=true:=by
 unfold FK at h
 simp only[Bool.and_eq_true] at h
 exact h.1.1
theorem AI4 {s:Sd} (h:FK s=true):s.body.length≤64:=by
 unfold FK at h
 simp only[Bool.and_eq_true,decide_eq_true_eq] at h
 exact h.1.2
theorem AI5 {s:Sd} (h:FK s=true) (hj:s.joint=1):s.wr.length=s.own.length:=by
 unfold FK at h
 rw[if_pos hj] at h
 simp only[Bool.and_eq_true,decide_eq_true_eq] at h
 exact h.2
def RecR (w w':World) (r:Option (List Nat)) (e:Ending):Prop:=∃c,e=.returned (.tuple #[AR c,.bool r.isSome])∧Dg c∧(∀c',r=some c'→c'=c)∧w.grownBy w' none
theorem RecR.some {w w':World} {r:Option (List Nat)} {c:List Nat} (h:r=some c) (hc:Dg c) (g:w.grownBy w' none):RecR w w' r (.returned (.tuple #[AR c,.bool true])):=by
 subst h
 exact⟨c,rfl,hc,fun c' h=>(Option.some.inj h).symm,g⟩
theorem RecR.none {w w':World} {r:Option (List Nat)} {c:List Nat} (h:r=none) (hc:Dg c) (g:w.grownBy w' none):RecR w w' r (.returned (.tuple #[AR c,.bool false])):=by
 subst h
 exact⟨c,rfl,hc,fun c' h=>(by cases h),g⟩
theorem AAW (ks:List VK) (vo:Option Addr) (vc_:Nat) (sa po:List Nat) (hsa:Dg sa) (hpo:Dg po) (ad joint:Int) (od wd:List DD) (ao wo bo:Option Addr) (ac wc bc:Nat) (body tg:List Nat) (htg:Dg tg) (w:World) (hr:RdK w (.slice vo ks.length vc_) ks) (ho:RdD w (.slice ao od.length ac) od) (hw:RdD w (.slice wo wd.length wc) wd) (hb:SlB w 1 (.slice bo body.length bc) body.length (bv body)) (hvs:FK ⟨ad,od.map DD.x,joint,wd.map DD.x,body,tg⟩=true) :
   Calls Tryz.prog 62 #[Ao sa po (.slice vo ks.length vc_),Ce ad (.slice ao od.length ac) joint (.slice wo wd.length wc) (.slice bo body.length bc) tg] w fun e w'=>RecR w w' (I8 (ks.map VK.p) ⟨ad,od.map DD.x,joint,wd.map DD.x,body,tg⟩) e:=by
 obtain⟨P,hP⟩:∃P,ks.map VK.p=P:=⟨_,rfl⟩
 obtain⟨own,hown⟩:∃own,od.map DD.x=own:=⟨_,rfl⟩
 have hownl:own.length=od.length:=by rw[←hown,List.length_map]
 have hnok:=hr.noks2
 rw[hP] at hnok
 rw[hP,hown]
 obtain⟨haa,hjj,hol,_⟩:=ABU (AFE hvs)
 have hol:own.length≤16:=by rw[←hown];exact hol
 have hwl:joint=1→wd.length=od.length:=fun h=>by have:=AI5 hvs h;simpa using this
 refine Be Tryz.func62 rfl Tryz.ntmps62 rfl fun a0 sv0=>?_
 have HG:=World.grownBy.refl w none
 replace sv0:Sv 64 [] [(0,Ao sa po (.slice vo ks.length vc_)),(1,Ce ad (.slice ao od.length ac) joint (.slice wo wd.length wc) (.slice bo body.length bc) tg)] a0:=sv0
 refine ALl fun K1 k1=>?_
 refine ALk ?_
 refine Bm sv0 r6 (BR hsa hpo (.slice vo ks.length vc_) rfl) fun a2 w2 Cf DV g2 z2 AJ sv2=>?_
 refine Bm sv2 r6 (FL _ _ htg (.slice ao od.length ac) (.slice wo wd.length wc) (.slice bo body.length bc) rfl rfl rfl) fun a3 w3 CX FI g3 z3 AL sv3=>?_
 replace AJ:=AC g3 AJ
 replace hr:=(hr.kn g2).kn g3
 replace ho:=(ho.kn g2).kn g3
 replace hw:=(hw.kn g2).kn g3
 replace hb:=(hb.kn g2).kn g3
 replace HG:=AA (AA HG g2) g3
 refine Ax (T:=23) (Z:=(bv AS)) sv3 rfl rfl rfl (fun a w=>by kernel_rfl) fun a4 w4 Fa B9 g4 z4 AP sv4=>?_
 have A3:=Au AJ B9
 have BO:=Au AL B9
 have CG:=B7 HG B9
 have Bw:=A2 (hr.lt) B9
 have D5:=A2 (ho.lt) B9
 have D8:=A2 (hw.lt) B9
 have Dk:=A2 (hb.lt) B9
 replace AJ:=AC g4 AJ
 replace AL:=AC g4 AL
 replace hr:=hr.kn g4
 replace ho:=ho.kn g4
 replace hw:=hw.kn g4
 replace hb:=hb.kn g4
 replace HG:=AA HG g4
 refine Aa (v:=.bool false) sv4 r6 fun a5 sv5=>?_
 refine AE ?_
 refine k1 _ _ ?_
 refine ALl fun K6 k6=>?_
 refine ALk ?_
 refine Aa (v:=.slice none 0 0) sv5 r6 fun a7 sv7=>?_
 refine AE ?_
 refine k6 _ _ ?_
 refine ALl fun K8 k8=>?_
 refine ALl fun K9 k9=>?_
 rcases hjj with rfl|rfl
 · refine ALk ?_
   refine AK sv7 4 [(11,pk CX 1),(12,.slice ao od.length ac),(13,.int .i64 ((od.length:Nat))),(14,.int .i64 0)]
     ⟨yf r6 (fun _=>by kernel_rfl),yp (i:=1) r6 (MW (.slice ao od.length ac) rfl) AL rfl rfl,Bv (Tryz.underlying28) rfl rfl trivial (oy rfl rfl) (fun _=>rfl),E3 (.inl rfl) rfl trivial (fun _=>rfl),ALr⟩ fun a10 w10 g10 Cj=>?_
   refine AE ?_
   refine k9 _ _ ?_
   refine BF fun Q11 x11 y11 rt11 o11=>?_
   replace AJ:=AC g10 AJ
   replace AL:=AC g10 AL
   replace AP:=AC g10 AP
   replace hr:=hr.kn g10
   replace ho:=ho.kn g10
   replace hw:=hw.kn g10
   replace hb:=hb.kn g10
   replace HG:=AA HG g10
   have okk:=Own.nil w10 23 32
   have Dw:=Kq Cf
   have Dx:=Kq CX
   have Cm:=Kq Fa
   have ap_hr_okk:=Kr (JZ (.slice vo ks.length vc_) ks)
   have ap_ho_okk:=Kr (Bi (.slice ao od.length ac))
   have ap_hw_okk:=Kr (Bi (.slice wo wd.length wc))
   have ap_hb_okk:=Kr (Bi (.slice bo body.length bc))
   have lo_okk:=ACO w
   refine wp_loop (fun a w'=>∃(i:Nat) (ko:Option Addr) (kc:Nat) (kl:List DD),(i≤od.length)∧(kl.map DD.x=(own.take i).map fun z=>(Cb P z ad).1)∧(∀j,j<i→(Cb P (IK own j) ad).2=0)∧Sv 64 [] [(14,.int .i64 ((i:Int))),(6,.slice ko i kc),(11,pk CX 1),(12,.slice ao od.length ac),(13,.int .i64 ((od.length:Nat))),(4,pt Fa),(3,pt CX),(2,pt Cf),(0,Ao sa po (.slice vo ks.length vc_)),(1,Ce ad (.slice ao od.length ac) 0 (.slice wo wd.length wc) (.slice bo body.length bc) tg)] a∧w.grownBy w' none∧w'.heap[Cf]?=some (.cells ([bv sa,bv po,[.slice vo ks.length vc_]].flatten).toArray 36 (0,0))∧w'.heap[CX]?=some (.cells ([[.int .i64 ad],[.slice ao od.length ac],[.int .i64 0],[.slice wo wd.length wc],[.slice bo body.length bc],bv tg].flatten).toArray 31 (0,0))∧w'.heap[Fa]?=some (.cells ((bv AS)).toArray 23 (0,0))∧RdK w' (.slice vo ks.length vc_) ks∧RdD w' (.slice ao od.length ac) od∧RdD w' (.slice wo wd.length wc) wd∧SlB w' 1 (.slice bo body.length bc) body.length (bv body)∧Own w' 23 32 (.slice ko i kc) i (kl.flatMap Lf)∧(∀k,Bi (.slice ko i kc) k→k≠Cf)∧(∀k,Bi (.slice ko i kc) k→k≠CX)∧(∀k,Bi (.slice ko i kc) k→k≠Fa)∧(∀k,JZ (.slice vo ks.length vc_) ks k→¬Bi (.slice ko i kc) k)∧(∀k,Bi (.slice ao od.length ac) k→¬Bi (.slice ko i kc) k)∧(∀k,Bi (.slice wo wd.length wc) k→¬Bi (.slice ko i kc) k)∧(∀k,Bi (.slice bo body.length bc) k→¬Bi (.slice ko i kc) k)∧(∀k,Bi (.slice ko i kc) k→w.heap.size≤k)) (fun a _=>(od.length-intOf (a.tmps.getD 14 undef)).toNat) ⟨0,none,0,[],Nat.zero_le _,rfl,fun j hj=>by omega,⟨Cj.1,Cj.2.1,Cj.2.2.2.2.2.1,Cj.2.2.2.2.2.2.1,Cj.2.2.1,Cj.2.2.2.1,Cj.2.2.2.2.1,(AH Cj).1,(AH Cj).2.1,(AH Cj).2.2.1,(AH Cj).2.2.2.1,(AH Cj).2.2.2.2.1,ALr⟩,HG,AJ,AL,AP,hr,ho,hw,hb,okk,Dw,Dx,Cm,ap_hr_okk,ap_ho_okk,ap_hw_okk,ap_hb_okk,lo_okk⟩ fun a12 w12 hI12=>?_
   clear AJ
   clear AL
   clear AP
   clear hr
   clear ho
   clear hw
   clear hb
   clear okk
   clear HG
   obtain⟨i,ko,kc,kl,hin,hkl,hok,Df,HG,AJ,AL,AP,hr,ho,hw,hb,okk,Dw,Dx,Cm,ap_hr_okk,ap_ho_okk,ap_hw_okk,ap_hb_okk,lo_okk⟩:=hI12
   refine ALl fun K13 k13=>?_
   by_cases hi:i<od.length
   · obtain⟨y,hx_y⟩:∃zx,od[i]'hi=zx:=⟨_,rfl⟩
     have hla:IK own i=y.x:=by rw[←hown,MG hi,hx_y]
     obtain⟨kx,hkx⟩:∃q,Cb P y.x ad=q:=⟨_,rfl⟩
     have hkd:Dg kx.1:=hkx▸Ri hnok
     refine ALk ?_
     refine AK Df 1 [(15,.bool true)]
       ⟨Ho r7 (fun _=>Bk (by simp;omega)),ALr⟩ fun a14 w14 g14 Dl=>?_
     refine AE ?_
     refine k13 _ _ ?_
     refine ALl fun K15 k15=>?_
     refine Ar Dl rfl rfl ?_
     refine ALp ?_
     refine k15 _ _ ?_
     refine ALl fun K16 k16=>?_
     refine BF fun Q17 x17 y17 rt17 o17=>?_
     refine ALl fun K18 k18=>?_
     refine ALk ?_
     replace ho:=ho.kn g14
     refine AK Dl 3 [(16,.int .i64 ((i:Int))),(17,pk ((bO ao)) (oO ao+i*32)),(18,AR y.x)]
       ⟨ym r5,BJ rq8 (fun w=>CW Tryz.underlying28 (by kernel_rfl) (ho.1) (by omega) (rfl) w),CD r6 (fun _ g=>Ae (CB y.x y.h.1) (by have:=DS (ho.kn g).1 G0 hi (by decide);rw[hx_y] at this;exact this)),ALr⟩ fun a19 w19 g19 Er=>?_
     replace AJ:=AC g19 (AC g14 AJ)
     replace AL:=AC g19 (AC g14 AL)
     replace AP:=AC g19 (AC g14 AP)
     replace hr:=(hr.kn g14).kn g19
     replace ho:=ho.kn g19
     replace hw:=(hw.kn g14).kn g19
     replace hb:=(hb.kn g14).kn g19
     replace okk:=(okk.kn g14).kn g19
     replace HG:=AA (AA HG g14) g19
     refine Ax (T:=23) (Z:=(bv AS)) Er rfl rfl rfl (fun a w=>by kernel_rfl) fun a20 w20 ALT GH g20 z20 AAX E5=>?_
     have TM:=Au AJ GH
     have TO:=Au AL GH
     have TP:=Au AP GH
     have AFF:=B7 HG GH
     have YV:=A2 (hr.lt) GH
     have YW:=A2 (ho.lt) GH
     have YX:=A2 (hw.lt) GH
     have YY:=A2 (hb.lt) GH
     have Vl:=A2 (Own.ltS okk) GH
     refine Aa (v:=.int .i64 ((i:Int))) E5 r6 fun a21 Db=>?_
     refine Ap Db r7 (CB y.x y.h.1) AAX (Hq y.h) fun w22 g22 h22=>?_
     replace AJ:=AX g22 (AC g20 AJ) (Ne.symm TM)
     replace AL:=AX g22 (AC g20 AL) (Ne.symm TO)
     replace hr:=(hr.kn g20).offR g22 (AU YV)
     replace AAX:=h22
     refine AE ?_
     refine k18 _ _ ?_
     refine ALl fun K23 k23=>?_
     refine ALk ?_
     refine AK Db 8 [(20,Ao sa po (.slice vo ks.length vc_)),(21,AR y.x),(22,pt CX),(23,.int .i64 ad),(24,.tuple #[AR kx.1,.int .i64 kx.2]),(19,.tuple #[AR kx.1,.int .i64 kx.2]),(25,AR kx.1),(26,.int .i64 kx.2)]
       ⟨yl r6 (BR hsa hpo (.slice vo ks.length vc_) rfl) AJ,yl r6 (CB y.x y.h.1) AAX,yf r6 (fun _=>by kernel_rfl),yp (i:=0) r6 (GF ad) AL rfl rfl,Ad [Ao sa po (.slice vo ks.length vc_),AR y.x,.int .i64 ad] Tryz.func32 (by kernel_rfl) rq4 ⟨(oy rfl rfl),(oy rfl rfl),(oy rfl rfl),ALr⟩ (As fun W g=>AE5 hsa hpo y.h (hr.kn g) hP hkx),ym r5,BE rq4 (fun _ _ h=>⟨_,_,h,rfl,rfl⟩),BE rq4 (fun _ _ h=>⟨_,_,h,rfl,rfl⟩),ALr⟩ fun a24 w24 g24 Cn=>?_
     replace AJ:=AC g24 AJ
     replace AL:=AC g24 AL
     replace AP:=AC g24 (AX g22 (AC g20 AP) (Ne.symm TP))
     replace hr:=hr.kn g24
     replace ho:=((ho.kn g20).offR g22 (AU YW)).kn g24
     replace hw:=((hw.kn g20).offR g22 (AU YX)).kn g24
     replace hb:=((hb.kn g20).offR g22 (AU YY)).kn g24
     replace okk:=((okk.kn g20).offR g22 (AU Vl)).kn g24
     replace HG:=AA (AD (AA HG g20) g22 AFF) g24
     refine Ax (T:=23) (Z:=(bv AS)) Cn rfl rfl rfl (fun a w=>by kernel_rfl) fun a25 w25 ALU GI g25 z25 AAY DM=>?_
     have TQ:=Au AJ GI
     have TR:=Au AL GI
     have TS:=Au AP GI
     have AFG:=B7 HG GI
     have YZ:=A2 (hr.lt) GI
     have Ya:=A2 (ho.lt) GI
     have Yb:=A2 (hw.lt) GI
     have Yc:=A2 (hb.lt) GI
     have Vm:=A2 (Own.ltS okk) GI
     refine Ap DM r7 (CB kx.1 hkd.1) AAY (Hq hkd) fun w26 g26 h26=>?_
     replace AJ:=AX g26 (AC g25 AJ) (Ne.symm TQ)
     replace AL:=AX g26 (AC g25 AL) (Ne.symm TR)
     replace AP:=AX g26 (AC g25 AP) (Ne.symm TS)
     replace hr:=(hr.kn g25).offR g26 (AU YZ)
     replace ho:=(ho.kn g25).offR g26 (AU Ya)
     replace hw:=(hw.kn g25).offR g26 (AU Yb)
     replace hb:=(hb.kn g25).offR g26 (AU Yc)
     replace okk:=(okk.kn g25).offR g26 (AU Vm)
     replace HG:=AD (AA HG g25) g26 AFG
     replace AAY:=h26
     refine Aa (v:=.int .i64 kx.2) DM r6 fun a27 Gj=>?_
     have LU:Sv _ _ [_,_,_,_,_,_,_,_,_,_,_,_,_,_,_,_,_,_] _:=Gj.dl [20,21,22,23,24,19,25,26]
     refine AE ?_
     refine k23 _ _ ?_
     refine ALl fun K29 k29=>?_
     refine BF fun Q30 x30 y30 rt30 o30=>?_
     refine ALl fun K31 k31=>?_
     by_cases he:kx.2=0
     · have hkl1:=UM hkl (by omega) hla hkx (hkd:=hkd)
       have hok1:∀j,j<i+1→(Cb P (IK own j) ad).2=0:=fun j hj=>if e:j=i then (by rw[e,hla,hkx];exact he) else hok j (by omega)
       refine ALk ?_
       refine AK LU 7 [(28,pk CX 2),(29,.int .i64 0),(30,.bool false),(31,.bool false),(32,undef),(33,undef),(34,.bool false)]
        ⟨yf r6 (fun _=>by kernel_rfl),yp (i:=2) r6 (Eu 0) AL rfl rfl,Cq r6 (fun _=>CQ rfl),ym r5,Ab r6,Ab r6,CK r7,ALr⟩ fun a32 w32 g32 Ck=>?_
       refine Aa (v:=.bool false) Ck r6 fun a33 Ku=>?_
       have Kv:Sv _ _ [_,_,_,_,_,_,_,_,_,_,_,_,_,_,_,_,_,_,_] _:=Ku.dl [28,29,30,31,32,33,34]
       refine AE ?_
       refine k31 _ _ ?_
       refine Av Kv rfl rfl ?_
       refine ALl fun K35 k35=>?_
       refine ALk ?_
       refine AK Kv 7 [(43,pk CX 2),(44,.int .i64 0),(45,.bool true),(46,.bool true),(47,.int .i64 kx.2),(48,.bool false),(49,.bool false)]
        ⟨yf r6 (fun _=>by kernel_rfl),yp (i:=2) r6 (Eu 0) (AC g32 AL) rfl rfl,Cq r6 (fun _=>CQ rfl),ym r5,A1 rq8,BZ rq9 (fun _=>EU (by simpa using he)),BC rq9,ALr⟩ fun a36 w36 g36 FS=>?_
       have RE:=AA g32 g36
       refine Aa (v:=.bool false) FS r6 fun a37 IG=>?_
       have Zp:Sv _ _ [_,_,_,_,_,_,_,_,_,_,_,_,_,_,_,_,_,_,_,_] _:=IG.dl [43,44,45,46,47,48,49]
       refine AE ?_
       refine k35 _ _ ?_
       refine Av Zp rfl rfl ?_
       refine ALp ?_
       refine y30 _ _ ?_
       refine k29 _ _ ?_
       refine ALk ?_
       refine AK Zp 2 [(51,.slice ko i kc),(52,AR kx.1)]
        ⟨ym r5,yl r6 (CB kx.1 hkd.1) (AC RE AAY),ALr⟩ fun a39 w39 g39 Js=>?_
       have Vn:=AA RE g39
       refine Nh (cs:=bv kx.1) (e:=23) Js rfl rfl rfl rfl rfl rfl (ACu hkd) fun a40 w40 ALA AJT g40 z40 AHD I3=>?_
       replace AJ:=AC g40 (AC Vn AJ)
       replace AL:=AC g40 (AC Vn AL)
       replace AP:=AC g40 (AC Vn AP)
       replace hr:=(hr.kn Vn).kn g40
       replace ho:=(ho.kn Vn).kn g40
       replace hw:=(hw.kn Vn).kn g40
       replace hb:=(hb.kn Vn).kn g40
       replace okk:=(okk.kn Vn).kn g40
       replace HG:=AA (AA HG Vn) g40
       refine Mx dsT I3 rfl rfl rfl rfl rfl rfl rfl rfl okk (MI AHD hkd) (Ha _) (by omega) fun a41 ao41 cap41 w41 owx41 Cl Et=>?_
       have TU:=Ko Cl.2 Dw AJ
       have TV:=Ko Cl.2 Dx AL
       have TW:=Ko Cl.2 Cm AP
       have Yd:=Kp Cl.2 ap_hr_okk (hr.lt)
       have Ye:=Kp Cl.2 ap_ho_okk (ho.lt)
       have Yf:=Kp Cl.2 ap_hw_okk (hw.lt)
       have Yg:=Kp Cl.2 ap_hb_okk (hb.lt)
       have AFH:=Zm Cl.2 lo_okk HG
       replace AJ:=AF Cl.1 AJ (fun e=>Dw _ e.symm rfl)
       replace AL:=AF Cl.1 AL (fun e=>Dx _ e.symm rfl)
       replace AP:=AF Cl.1 AP (fun e=>Cm _ e.symm rfl)
       replace hr:=hr.offR Cl.1 (fun k hk e=>ap_hr_okk k hk (e))
       replace ho:=ho.offR Cl.1 (fun k hk e=>ap_ho_okk k hk (e))
       replace hw:=hw.offR Cl.1 (fun k hk e=>ap_hw_okk k hk (e))
       replace hb:=hb.offR Cl.1 (fun k hk e=>ap_hb_okk k hk (e))
       replace HG:=Bh HG Cl.1 fun k e=>lo_okk k (e)
       rw[VO kl ⟨kx.1,hkd⟩] at owx41
       refine Aa (v:=.slice ao41 (i+1) cap41) Et r6 fun a42 GR=>?_
       have I6:Sv _ _ [_,_,_,_,_,_,_,_,_,_,_,_,_,_,_,_,_,_,_,_] _:=GR.dl [54,53,51,52]
       refine AE ?_
       refine y17 _ _ ?_
       refine k16 _ _ ?_
       refine ALk ?_
       refine AK I6 1 [(55,.int .i64 (((i+1:Nat):Int)))]
        ⟨Cq r6 (fun _=>DK (by rw[BA (by omega) (by omega)];omega)),ALr⟩ fun a44 w44 g44 Pn=>?_
       refine AK (Pn.dl [14]) 1 [(14,.int .i64 (((i+1:Nat):Int)))]
        ⟨ym r5,ALr⟩ fun a45 w45 g45 FT=>?_
       have Ra:=AA g44 g45
       refine AE ?_
       replace AJ:=AC Ra AJ
       replace AL:=AC Ra AL
       replace AP:=AC Ra AP
       replace hr:=hr.kn Ra
       replace ho:=ho.kn Ra
       replace hw:=hw.kn Ra
       replace hb:=hb.kn Ra
       replace owx41:=owx41.kn Ra
       replace HG:=AA HG Ra
       exact⟨⟨i+1,ao41,cap41,(kl++[⟨kx.1,hkd⟩]),by omega,hkl1,hok1,⟨FT.1,FT.2.1,FT.2.2.1,FT.2.2.2.2.1,(AH FT).2.2.2.2.2.2.2.1,(AH (AH FT)).1,(AH (AH FT)).2.1,(AH (AH FT)).2.2.1,(AH (AH FT)).2.2.2.1,(AH (AH FT)).2.2.2.2.1,(AH (AH FT)).2.2.2.2.2.1,(AH (AH FT)).2.2.2.2.2.2.1,ALr⟩,HG,AJ,AL,AP,hr,ho,hw,hb,owx41,TU,TV,TW,Yd,Ye,Yf,Yg,AFH⟩,by rw[show _=_ from FT.2.2.1,show _=_ from Df.2.2.1];simp[intOf];omega⟩
     · have hke:=Oo (P:=P) (a:=ad) (own:=own) (i:=i) (by omega) hok (by rw[hla,hkx];exact he)
       rw[hla,hkx] at hke
       refine ALk ?_
       refine AK LU 7 [(28,pk CX 2),(29,.int .i64 0),(30,.bool false),(31,.bool false),(32,undef),(33,undef),(34,.bool false)]
        ⟨yf r6 (fun _=>by kernel_rfl),yp (i:=2) r6 (Eu 0) AL rfl rfl,Cq r6 (fun _=>CQ rfl),ym r5,Ab r6,Ab r6,CK r7,ALr⟩ fun a46 w46 g46 IH=>?_
       refine Aa (v:=.bool false) IH r6 fun a47 MV=>?_
       have AHE:Sv _ _ [_,_,_,_,_,_,_,_,_,_,_,_,_,_,_,_,_,_,_] _:=MV.dl [28,29,30,31,32,33,34]
       refine AE ?_
       refine k31 _ _ ?_
       refine Av AHE rfl rfl ?_
       refine ALl fun K49 k49=>?_
       refine ALk ?_
       refine AK AHE 7 [(43,pk CX 2),(44,.int .i64 0),(45,.bool true),(46,.bool true),(47,.int .i64 kx.2),(48,.bool true),(49,.bool true)]
        ⟨yf r6 (fun _=>by kernel_rfl),yp (i:=2) r6 (Eu 0) (AC g46 AL) rfl rfl,Cq r6 (fun _=>CQ rfl),ym r5,A1 rq8,BZ rq9 (fun _=>EU (by simpa using he)),BC rq9,ALr⟩ fun a50 w50 g50 Po=>?_
       have Vo:=AA g46 g50
       refine Aa (v:=.bool true) Po r6 fun a51 EE=>?_
       have Uz:Sv _ _ [_,_,_,_,_,_,_,_,_,_,_,_,_,_,_,_,_,_,_,_] _:=EE.dl [43,44,45,46,47,48,49]
       refine AE ?_
       refine k49 _ _ ?_
       refine Ar Uz rfl rfl ?_
       refine ALl fun K53 k53=>?_
       refine ALk ?_
       replace AP:=AC Vo AP
       refine AK Uz 1 [(50,AR AS)]
        ⟨BV (vs:=[]) rfl rfl trivial trivial (fun _=>bD0 _) (fun _=>rfl),ALr⟩ fun a54 w54 g54 E8=>?_
       refine Ap E8 r7 (CB AS AN.1) (AC g54 AP) (Hq AN) fun w55 g55 h55=>?_
       replace AJ:=Ah g54 g55 (AC Vo AJ) (Ne.symm A3)
       replace AL:=Ah g54 g55 (AC Vo AL) (Ne.symm BO)
       replace hr:=((hr.kn Vo).kn g54).offR g55 (AU Bw)
       replace ho:=((ho.kn Vo).kn g54).offR g55 (AU D5)
       replace hw:=((hw.kn Vo).kn g54).offR g55 (AU D8)
       replace hb:=((hb.kn Vo).kn g54).offR g55 (AU Dk)
       replace okk:=((okk.kn Vo).kn g54).offR g55 (AU Cm)
       replace HG:=AD (AA (AA HG Vo) g54) g55 CG
       replace AP:=h55
       refine Aa (v:=.bool false) E8 r6 fun a56 FU=>?_
       refine AE ?_
       refine k53 _ _ ?_
       refine ALo ?_
       repeat refine AM ?_
       refine rt30 _ _ ?_
       repeat refine AM ?_
       refine rt17 _ _ ?_
       repeat refine AM ?_
       refine rt11 _ _ ?_
       repeat refine AM ?_
       refine BQ (fn:=Tryz.f62) FU (Gf (p:=4) (q:=5) Tryz.results62 FU rfl rfl rfl rfl (CB AS AN.1) AP) ?_
       exact RecR.none (show I8 P _=_ by unfold I8;rw[if_neg (show ¬(0:Int)=1 by decide),if_neg (by rw[hke];exact he)]) AN HG
   · obtain⟨hK1,hK2⟩:=Iq (P:=P) (a:=ad) (own:=own) fun j hj=>hok j (by omega)
     have hkm:kl.map DD.x=(Cg P ad own).1:=by rw[hK1,hkl,List.take_of_length_le (by omega)]
     refine ALk ?_
     refine AK Df 1 [(15,.bool false)]
       ⟨Ho r7 (fun _=>Bk (by simp;omega)),ALr⟩ fun a57 w57 g57 AEm=>?_
     refine AE ?_
     refine k13 _ _ ?_
     refine ALl fun K58 k58=>?_
     refine Av AEm rfl rfl ?_
     refine wp_exit ?_
     repeat refine CJ ?_
     refine x11 _ _ ?_
     refine k8 _ _ ?_
     refine ALl fun K59 k59=>?_
     refine ALl fun K60 k60=>?_
     refine ALk ?_
     refine AK AEm 3 [(56,pk CX 2),(57,.int .i64 0),(58,.bool false)]
       ⟨yf r6 (fun _=>by kernel_rfl),yp (i:=2) r6 (Eu 0) (AC g57 AL) rfl rfl,Cq r6 (fun _=>CQ rfl),ALr⟩ fun a61 w61 g61 KM=>?_
     have AKQ:=AA g57 g61
     refine AE ?_
     refine k60 _ _ ?_
     refine Av KM rfl rfl ?_
     refine ALp ?_
     refine k59 _ _ ?_
     refine ALl fun K62 k62=>?_
     refine ALk ?_
     refine AK KM 3 [(60,pk CX 2),(61,.int .i64 0),(62,.slice ko i kc)]
       ⟨yf r6 (fun _=>by kernel_rfl),yp (i:=2) r6 (Eu 0) (AC AKQ AL) rfl rfl,ym r5,ALr⟩ fun a63 w63 g63 ACx=>?_
     have Vp:=AA AKQ g63
     replace okk:=okk.kn Vp
     refine Bo ACx Tryz.func55 (by kernel_rfl) r6 (Rb (AE4 (by have:=congrArg List.length hkl;simpa using this.trans (by rw[List.length_map,List.length_take];omega)) (Own.sb okk) (by omega) rfl)) fun a64 v64 w64 hR64 Vq=>?_
     obtain⟨rfl,g64⟩:=hR64
     replace AP:=AC g64 (AC Vp AP)
     refine Ap Vq r7 (CB ((U5 (decide ((0:Int)=1)) (kl.map DD.x))) (M4 _ _).1) AP (Hq (M4 _ _)) fun w65 g65 h65=>?_
     replace AJ:=AX g65 (AC g64 (AC Vp AJ)) (Ne.symm A3)
     replace AL:=AX g65 (AC g64 (AC Vp AL)) (Ne.symm BO)
     replace hr:=((hr.kn Vp).kn g64).offR g65 (AU Bw)
     replace ho:=((ho.kn Vp).kn g64).offR g65 (AU D5)
     replace hw:=((hw.kn Vp).kn g64).offR g65 (AU D8)
     replace hb:=((hb.kn Vp).kn g64).offR g65 (AU Dk)
     replace okk:=(okk.kn g64).offR g65 (AU Cm)
     replace HG:=AD (AA (AA HG Vp) g64) g65 CG
     replace AP:=h65
     refine Aa (v:=.bool true) Vq r6 fun a66 AI6=>?_
     have AHF:Sv _ _ [_,_,_,_,_,_,_,_,_,_,_,_,_,_,_] _:=AI6.dl [63,60,61,62]
     refine AE ?_
     refine k62 _ _ ?_
     refine ALo ?_
     repeat refine AM ?_
     refine BQ (fn:=Tryz.f62) AHF (Gf (p:=4) (q:=5) Tryz.results62 AHF rfl rfl rfl rfl (CB ((U5 (decide ((0:Int)=1)) (kl.map DD.x))) (M4 _ _).1) AP) ?_
     exact RecR.some (show I8 P _=_ by unfold I8;rw[if_neg (show ¬(0:Int)=1 by decide),if_pos hK2,←hkm]) (M4 _ _) HG
 · refine ALk ?_
   refine AK sv7 4 [(11,pk CX 1),(12,.slice ao od.length ac),(13,.int .i64 ((od.length:Nat))),(14,.int .i64 0)]
     ⟨yf r6 (fun _=>by kernel_rfl),yp (i:=1) r6 (MW (.slice ao od.length ac) rfl) AL rfl rfl,Bv (Tryz.underlying28) rfl rfl trivial (oy rfl rfl) (fun _=>rfl),E3 (.inl rfl) rfl trivial (fun _=>rfl),ALr⟩ fun a68 w68 g68 Ll=>?_
   refine AE ?_
   refine k9 _ _ ?_
   refine BF fun Q69 x69 y69 rt69 o69=>?_
   replace AJ:=AC g68 AJ
   replace AL:=AC g68 AL
   replace AP:=AC g68 AP
   replace hr:=hr.kn g68
   replace ho:=ho.kn g68
   replace hw:=hw.kn g68
   replace hb:=hb.kn g68
   replace HG:=AA HG g68
   have okk:=Own.nil w68 23 32
   have Dw:=Kq Cf
   have Dx:=Kq CX
   have Cm:=Kq Fa
   have ap_hr_okk:=Kr (JZ (.slice vo ks.length vc_) ks)
   have ap_ho_okk:=Kr (Bi (.slice ao od.length ac))
   have ap_hw_okk:=Kr (Bi (.slice wo wd.length wc))
   have ap_hb_okk:=Kr (Bi (.slice bo body.length bc))
   have lo_okk:=ACO w
   refine wp_loop (fun a w'=>∃(i:Nat) (ko:Option Addr) (kc:Nat) (kl:List DD),(i≤od.length)∧(kl.length=i)∧(∀j,j<i→(Cb P (IK own j) ad).2≠0)∧Sv 64 [] [(14,.int .i64 ((i:Int))),(6,.slice ko i kc),(11,pk CX 1),(12,.slice ao od.length ac),(13,.int .i64 ((od.length:Nat))),(4,pt Fa),(3,pt CX),(2,pt Cf),(0,Ao sa po (.slice vo ks.length vc_)),(1,Ce ad (.slice ao od.length ac) 1 (.slice wo wd.length wc) (.slice bo body.length bc) tg)] a∧w.grownBy w' none∧w'.heap[Cf]?=some (.cells ([bv sa,bv po,[.slice vo ks.length vc_]].flatten).toArray 36 (0,0))∧w'.heap[CX]?=some (.cells ([[.int .i64 ad],[.slice ao od.length ac],[.int .i64 1],[.slice wo wd.length wc],[.slice bo body.length bc],bv tg].flatten).toArray 31 (0,0))∧w'.heap[Fa]?=some (.cells ((bv AS)).toArray 23 (0,0))∧RdK w' (.slice vo ks.length vc_) ks∧RdD w' (.slice ao od.length ac) od∧RdD w' (.slice wo wd.length wc) wd∧SlB w' 1 (.slice bo body.length bc) body.length (bv body)∧Own w' 23 32 (.slice ko i kc) i (kl.flatMap Lf)∧(∀k,Bi (.slice ko i kc) k→k≠Cf)∧(∀k,Bi (.slice ko i kc) k→k≠CX)∧(∀k,Bi (.slice ko i kc) k→k≠Fa)∧(∀k,JZ (.slice vo ks.length vc_) ks k→¬Bi (.slice ko i kc) k)∧(∀k,Bi (.slice ao od.length ac) k→¬Bi (.slice ko i kc) k)∧(∀k,Bi (.slice wo wd.length wc) k→¬Bi (.slice ko i kc) k)∧(∀k,Bi (.slice bo body.length bc) k→¬Bi (.slice ko i kc) k)∧(∀k,Bi (.slice ko i kc) k→w.heap.size≤k)) (fun a _=>(od.length-intOf (a.tmps.getD 14 undef)).toNat) ⟨0,none,0,[],Nat.zero_le _,rfl,fun j hj=>by omega,⟨Ll.1,Ll.2.1,Ll.2.2.2.2.2.1,Ll.2.2.2.2.2.2.1,Ll.2.2.1,Ll.2.2.2.1,Ll.2.2.2.2.1,(AH Ll).1,(AH Ll).2.1,(AH Ll).2.2.1,(AH Ll).2.2.2.1,(AH Ll).2.2.2.2.1,ALr⟩,HG,AJ,AL,AP,hr,ho,hw,hb,okk,Dw,Dx,Cm,ap_hr_okk,ap_ho_okk,ap_hw_okk,ap_hb_okk,lo_okk⟩ fun a70 w70 hI70=>?_
   clear AJ
   clear AL
   clear AP
   clear hr
   clear ho
   clear hw
   clear hb
   clear okk
   clear HG
   obtain⟨i,ko,kc,kl,hin,hkll,hno,GJ,HG,AJ,AL,AP,hr,ho,hw,hb,okk,Dw,Dx,Cm,ap_hr_okk,ap_ho_okk,ap_hw_okk,ap_hb_okk,lo_okk⟩:=hI70
   refine ALl fun K71 k71=>?_
   by_cases hi:i<od.length
   · obtain⟨y,hx_y⟩:∃zx,od[i]'hi=zx:=⟨_,rfl⟩
     have hla:IK own i=y.x:=by rw[←hown,MG hi,hx_y]
     obtain⟨kx,hkx⟩:∃q,Cb P y.x ad=q:=⟨_,rfl⟩
     have hkd:Dg kx.1:=hkx▸Ri hnok
     refine ALk ?_
     refine AK GJ 1 [(15,.bool true)]
       ⟨Ho r7 (fun _=>Bk (by simp;omega)),ALr⟩ fun a72 w72 g72 AG8=>?_
     refine AE ?_
     refine k71 _ _ ?_
     refine ALl fun K73 k73=>?_
     refine Ar AG8 rfl rfl ?_
     refine ALp ?_
     refine k73 _ _ ?_
     refine ALl fun K74 k74=>?_
     refine BF fun Q75 x75 y75 rt75 o75=>?_
     refine ALl fun K76 k76=>?_
     refine ALk ?_
     replace ho:=ho.kn g72
     refine AK AG8 3 [(16,.int .i64 ((i:Int))),(17,pk ((bO ao)) (oO ao+i*32)),(18,AR y.x)]
       ⟨ym r5,BJ rq8 (fun w=>CW Tryz.underlying28 (by kernel_rfl) (ho.1) (by omega) (rfl) w),CD r6 (fun _ g=>Ae (CB y.x y.h.1) (by have:=DS (ho.kn g).1 G0 hi (by decide);rw[hx_y] at this;exact this)),ALr⟩ fun a77 w77 g77 AI7=>?_
     replace AJ:=AC g77 (AC g72 AJ)
     replace AL:=AC g77 (AC g72 AL)
     replace AP:=AC g77 (AC g72 AP)
     replace hr:=(hr.kn g72).kn g77
     replace ho:=ho.kn g77
     replace hw:=(hw.kn g72).kn g77
     replace hb:=(hb.kn g72).kn g77
     replace okk:=(okk.kn g72).kn g77
     replace HG:=AA (AA HG g72) g77
     refine Ax (T:=23) (Z:=(bv AS)) AI7 rfl rfl rfl (fun a w=>by kernel_rfl) fun a78 w78 ALV GK g78 z78 AAZ AI8=>?_
     have TX:=Au AJ GK
     have TZ:=Au AL GK
     have Ta:=Au AP GK
     have AFI:=B7 HG GK
     have Yh:=A2 (hr.lt) GK
     have Yi:=A2 (ho.lt) GK
     have Yj:=A2 (hw.lt) GK
     have Yk:=A2 (hb.lt) GK
     have Vr:=A2 (Own.ltS okk) GK
     refine Aa (v:=.int .i64 ((i:Int))) AI8 r6 fun a79 Ou=>?_
     refine Ap Ou r7 (CB y.x y.h.1) AAZ (Hq y.h) fun w80 g80 h80=>?_
     replace AJ:=AX g80 (AC g78 AJ) (Ne.symm TX)
     replace AL:=AX g80 (AC g78 AL) (Ne.symm TZ)
     replace hr:=(hr.kn g78).offR g80 (AU Yh)
     replace AAZ:=h80
     refine AE ?_
     refine k76 _ _ ?_
     refine ALl fun K81 k81=>?_
     refine ALk ?_
     refine AK Ou 8 [(20,Ao sa po (.slice vo ks.length vc_)),(21,AR y.x),(22,pt CX),(23,.int .i64 ad),(24,.tuple #[AR kx.1,.int .i64 kx.2]),(19,.tuple #[AR kx.1,.int .i64 kx.2]),(25,AR kx.1),(26,.int .i64 kx.2)]
       ⟨yl r6 (BR hsa hpo (.slice vo ks.length vc_) rfl) AJ,yl r6 (CB y.x y.h.1) AAZ,yf r6 (fun _=>by kernel_rfl),yp (i:=0) r6 (GF ad) AL rfl rfl,Ad [Ao sa po (.slice vo ks.length vc_),AR y.x,.int .i64 ad] Tryz.func32 (by kernel_rfl) rq4 ⟨(oy rfl rfl),(oy rfl rfl),(oy rfl rfl),ALr⟩ (As fun W g=>AE5 hsa hpo y.h (hr.kn g) hP hkx),ym r5,BE rq4 (fun _ _ h=>⟨_,_,h,rfl,rfl⟩),BE rq4 (fun _ _ h=>⟨_,_,h,rfl,rfl⟩),ALr⟩ fun a82 w82 g82 YQ=>?_
     replace AJ:=AC g82 AJ
     replace AL:=AC g82 AL
     replace AP:=AC g82 (AX g80 (AC g78 AP) (Ne.symm Ta))
     replace hr:=hr.kn g82
     replace ho:=((ho.kn g78).offR g80 (AU Yi)).kn g82
     replace hw:=((hw.kn g78).offR g80 (AU Yj)).kn g82
     replace hb:=((hb.kn g78).offR g80 (AU Yk)).kn g82
     replace okk:=((okk.kn g78).offR g80 (AU Vr)).kn g82
     replace HG:=AA (AD (AA HG g78) g80 AFI) g82
     refine Ax (T:=23) (Z:=(bv AS)) YQ rfl rfl rfl (fun a w=>by kernel_rfl) fun a83 w83 ALW GL g83 z83 Lm Hj=>?_
     have Tc:=Au AJ GL
     have Td:=Au AL GL
     have Mf:=Au AP GL
     have AFJ:=B7 HG GL
     have Yl:=A2 (hr.lt) GL
     have Ym:=A2 (ho.lt) GL
     have Yn:=A2 (hw.lt) GL
     have Yo:=A2 (hb.lt) GL
     have Vs:=A2 (Own.ltS okk) GL
     refine Ap Hj r7 (CB kx.1 hkd.1) Lm (Hq hkd) fun w84 g84 h84=>?_
     replace AJ:=AX g84 (AC g83 AJ) (Ne.symm Tc)
     replace AL:=AX g84 (AC g83 AL) (Ne.symm Td)
     replace AP:=AX g84 (AC g83 AP) (Ne.symm Mf)
     replace hr:=(hr.kn g83).offR g84 (AU Yl)
     replace ho:=(ho.kn g83).offR g84 (AU Ym)
     replace hw:=(hw.kn g83).offR g84 (AU Yn)
     replace hb:=(hb.kn g83).offR g84 (AU Yo)
     replace okk:=(okk.kn g83).offR g84 (AU Vs)
     replace HG:=AD (AA HG g83) g84 AFJ
     replace Lm:=h84
     refine Aa (v:=.int .i64 kx.2) Hj r6 fun a85 AI0=>?_
     have Ee:Sv _ _ [_,_,_,_,_,_,_,_,_,_,_,_,_,_,_,_,_,_] _:=AI0.dl [20,21,22,23,24,19,25,26]
     refine AE ?_
     refine k81 _ _ ?_
     refine ALl fun K87 k87=>?_
     refine BF fun Q88 x88 y88 rt88 o88=>?_
     refine ALl fun K89 k89=>?_
     by_cases he:kx.2=0
     · have hiw:i<wd.length:=by have:=hwl rfl;omega
       obtain⟨wx,hx_wx⟩:∃zx,wd[i]'hiw=zx:=⟨_,rfl⟩
       have hhit:=Nr (P:=P) (a:=ad) (own:=own) (wr:=wd.map DD.x) (i:=i) (by omega) hno (by rw[hla,hkx];exact he)
       rw[hla,hkx,MG hiw,hx_wx] at hhit
       refine ALk ?_
       refine AK Ee 7 [(28,pk CX 2),(29,.int .i64 1),(30,.bool true),(31,.bool true),(32,.int .i64 kx.2),(33,.bool true),(34,.bool true)]
        ⟨yf r6 (fun _=>by kernel_rfl),yp (i:=2) r6 (Eu 1) AL rfl rfl,Cq r6 (fun _=>CQ rfl),ym r5,A1 rq8,BZ rq9 (fun _=>CQ (by simpa using he)),BC rq9,ALr⟩ fun a90 w90 g90 AI9=>?_
       refine Aa (v:=.bool true) AI9 r6 fun a91 ALB=>?_
       have YT:Sv _ _ [_,_,_,_,_,_,_,_,_,_,_,_,_,_,_,_,_,_,_] _:=ALB.dl [28,29,30,31,32,33,34]
       refine AE ?_
       refine k89 _ _ ?_
       refine Ar YT rfl rfl ?_
       refine ALl fun K93 k93=>?_
       replace AL:=AC g90 AL
       replace AP:=AC g90 AP
       replace Lm:=AC g90 Lm
       replace hw:=hw.kn g90
       refine DU (YT.st w90) (by kernel_rfl) 7 [(35,Sp.is (pk CX 3)),(36,Sp.is (.slice wo wd.length wc)),(37,Sp.is (.int .i64 ((i:Int)))),(38,Sp.is (pk ((bO wo)) (oO wo+i*32))),(39,Sp.is (AR wx.x)),(40,Sp.is (AR kx.1)),(41,Sp.is (AR ((Md wx.x kx.1))))] rfl (by kernel_rfl) (by kernel_rfl) (by kernel_rfl) [] (by kernel_rfl)
        ⟨yf r6 (fun _=>by kernel_rfl),yp (i:=3) r6 (MW (.slice wo wd.length wc) rfl) AL rfl rfl,ym r5,BJ rq8 (fun w=>CW Tryz.underlying28 (by kernel_rfl) (hw.1) (by omega) (rfl) w),CD r6 (fun _ g=>Ae (CB wx.x wx.h.1) (by have:=DS (hw.kn g).1 G0 hiw (by decide);rw[hx_wx] at this;exact this)),yl r6 (CB kx.1 hkd.1) Lm,Ad [AR wx.x,AR kx.1] Tryz.func56 (by kernel_rfl) rq4 ⟨(oy rfl rfl),(oy rfl rfl),ALr⟩ (As fun W g=>Ng wx.x kx.1 wx.h hkd W),ALr⟩ trivial
        [] (by kernel_rfl) trivial ⟨.inl rfl,.inl rfl,.inl rfl,.inl rfl,.inl rfl,.inl rfl,.inl rfl,ALr⟩ (by kernel_rfl) fun a94 w94 g94 st94 nd94=>?_
       obtain⟨hn94,hd94,e94_35,e94_36,e94_37,e94_38,e94_39,e94_40,e94_41,e94_27,e94_10,e94_9,e94_7,e94_8,e94_16,e94_17,e94_18,e94_15,e94_14,e94_6,e94_11,e94_12,e94_13,e94_4,e94_3,e94_2,e94_0,e94_1,-⟩:=st94
       have AKR:Sv 64 [] [(27,_),(10,_),(9,_),(7,_),(8,_),(16,_),(17,_),(18,_),(15,_),(14,_),(6,_),(11,_),(12,_),(13,_),(4,_),(3,_),(2,_),(0,_),(1,_),(41,_)] a94:=⟨hn94,hd94,e94_27,e94_10,e94_9,e94_7,e94_8,e94_16,e94_17,e94_18,e94_15,e94_14,e94_6,e94_11,e94_12,e94_13,e94_4,e94_3,e94_2,e94_0,e94_1,e94_41,ALr⟩
       refine Ap AKR r7 (CB ((Md wx.x kx.1)) (M5 wx.h hkd).1) (AC g94 AP) (Hq (M5 wx.h hkd)) fun w95 g95 h95=>?_
       replace AJ:=Ah g94 g95 (AC g90 AJ) (Ne.symm A3)
       replace AL:=Ah g94 g95 AL (Ne.symm BO)
       replace Lm:=Ah g94 g95 Lm Mf
       replace hr:=((hr.kn g90).kn g94).offR g95 (AU Bw)
       replace ho:=((ho.kn g90).kn g94).offR g95 (AU D5)
       replace hw:=(hw.kn g94).offR g95 (AU D8)
       replace hb:=((hb.kn g90).kn g94).offR g95 (AU Dk)
       replace okk:=((okk.kn g90).kn g94).offR g95 (AU Cm)
       replace HG:=AD (AA (AA HG g90) g94) g95 CG
       replace AP:=h95
       refine Aa (v:=.bool true) AKR r6 fun a96 AAT=>?_
       refine AE ?_
       refine k93 _ _ ?_
       refine ALo ?_
       repeat refine AM ?_
       refine rt88 _ _ ?_
       repeat refine AM ?_
       refine rt75 _ _ ?_
       repeat refine AM ?_
       refine rt69 _ _ ?_
       repeat refine AM ?_
       refine BQ (fn:=Tryz.f62) AAT (Gf (p:=4) (q:=5) Tryz.results62 AAT rfl rfl rfl rfl (CB ((Md wx.x kx.1)) (M5 wx.h hkd).1) AP) ?_
       exact RecR.some (show I8 P _=_ by unfold I8;rw[if_pos rfl];exact hhit) (M5 wx.h hkd) HG
     · have hno1:∀j,j<i+1→(Cb P (IK own j) ad).2≠0:=fun j hj=>if e:j=i then (by rw[e,hla,hkx];exact he) else hno j (by omega)
       refine ALk ?_
       refine AK Ee 7 [(28,pk CX 2),(29,.int .i64 1),(30,.bool true),(31,.bool true),(32,.int .i64 kx.2),(33,.bool false),(34,.bool false)]
        ⟨yf r6 (fun _=>by kernel_rfl),yp (i:=2) r6 (Eu 1) AL rfl rfl,Cq r6 (fun _=>CQ rfl),ym r5,A1 rq8,BZ rq9 (fun _=>CQ (by simpa using he)),BC rq9,ALr⟩ fun a97 w97 g97 AE8=>?_
       refine Aa (v:=.bool false) AE8 r6 fun a98 ALC=>?_
       have AKS:Sv _ _ [_,_,_,_,_,_,_,_,_,_,_,_,_,_,_,_,_,_,_] _:=ALC.dl [28,29,30,31,32,33,34]
       refine AE ?_
       refine k89 _ _ ?_
       refine Av AKS rfl rfl ?_
       refine ALl fun K100 k100=>?_
       refine ALk ?_
       refine AK AKS 7 [(43,pk CX 2),(44,.int .i64 1),(45,.bool false),(46,.bool false),(47,undef),(48,undef),(49,.bool false)]
        ⟨yf r6 (fun _=>by kernel_rfl),yp (i:=2) r6 (Eu 1) (AC g97 AL) rfl rfl,Cq r6 (fun _=>CQ rfl),ym r5,Ab r6,Ab r6,CK r7,ALr⟩ fun a101 w101 g101 ABV=>?_
       have AHx:=AA g97 g101
       refine Aa (v:=.bool false) ABV r6 fun a102 AKT=>?_
       have ABW:Sv _ _ [_,_,_,_,_,_,_,_,_,_,_,_,_,_,_,_,_,_,_,_] _:=AKT.dl [43,44,45,46,47,48,49]
       refine AE ?_
       refine k100 _ _ ?_
       refine Av ABW rfl rfl ?_
       refine ALp ?_
       refine y88 _ _ ?_
       refine k87 _ _ ?_
       refine ALk ?_
       refine AK ABW 2 [(51,.slice ko i kc),(52,AR kx.1)]
        ⟨ym r5,yl r6 (CB kx.1 hkd.1) (AC AHx Lm),ALr⟩ fun a104 w104 g104 AE9=>?_
       have Nt:=AA AHx g104
       refine Nh (cs:=bv kx.1) (e:=23) AE9 rfl rfl rfl rfl rfl rfl (ACu hkd) fun a105 w105 AKq AJA g105 z105 AFK ABX=>?_
       replace AJ:=AC g105 (AC Nt AJ)
       replace AL:=AC g105 (AC Nt AL)
       replace AP:=AC g105 (AC Nt AP)
       replace hr:=(hr.kn Nt).kn g105
       replace ho:=(ho.kn Nt).kn g105
       replace hw:=(hw.kn Nt).kn g105
       replace hb:=(hb.kn Nt).kn g105
       replace okk:=(okk.kn Nt).kn g105
       replace HG:=AA (AA HG Nt) g105
       refine Mx dsT ABX rfl rfl rfl rfl rfl rfl rfl rfl okk (MI AFK hkd) (Ha _) (by omega) fun a106 ao106 cap106 w106 owx106 Cl AKU=>?_
       have Ry:=Ko Cl.2 Dw AJ
       have Rz:=Ko Cl.2 Dx AL
       have R3:=Ko Cl.2 Cm AP
       have Vt:=Kp Cl.2 ap_hr_okk (hr.lt)
       have Vu:=Kp Cl.2 ap_ho_okk (ho.lt)
       have Vv:=Kp Cl.2 ap_hw_okk (hw.lt)
       have Vw:=Kp Cl.2 ap_hb_okk (hb.lt)
       have AC5:=Zm Cl.2 lo_okk HG
       replace AJ:=AF Cl.1 AJ (fun e=>Dw _ e.symm rfl)
       replace AL:=AF Cl.1 AL (fun e=>Dx _ e.symm rfl)
       replace AP:=AF Cl.1 AP (fun e=>Cm _ e.symm rfl)
       replace hr:=hr.offR Cl.1 (fun k hk e=>ap_hr_okk k hk (e))
       replace ho:=ho.offR Cl.1 (fun k hk e=>ap_ho_okk k hk (e))
       replace hw:=hw.offR Cl.1 (fun k hk e=>ap_hw_okk k hk (e))
       replace hb:=hb.offR Cl.1 (fun k hk e=>ap_hb_okk k hk (e))
       replace HG:=Bh HG Cl.1 fun k e=>lo_okk k (e)
       rw[VO kl ⟨kx.1,hkd⟩] at owx106
       refine Aa (v:=.slice ao106 (i+1) cap106) AKU r6 fun a107 AFA=>?_
       have AKV:Sv _ _ [_,_,_,_,_,_,_,_,_,_,_,_,_,_,_,_,_,_,_,_] _:=AFA.dl [54,53,51,52]
       refine AE ?_
       refine y75 _ _ ?_
       refine k74 _ _ ?_
       refine ALk ?_
       refine AK AKV 1 [(55,.int .i64 (((i+1:Nat):Int)))]
        ⟨Cq r6 (fun _=>DK (by rw[BA (by omega) (by omega)];omega)),ALr⟩ fun a109 w109 g109 AFB=>?_
       refine AK (AFB.dl [14]) 1 [(14,.int .i64 (((i+1:Nat):Int)))]
        ⟨ym r5,ALr⟩ fun a110 w110 g110 Iv=>?_
       have Nu:=AA g109 g110
       refine AE ?_
       replace AJ:=AC Nu AJ
       replace AL:=AC Nu AL
       replace AP:=AC Nu AP
       replace hr:=hr.kn Nu
       replace ho:=ho.kn Nu
       replace hw:=hw.kn Nu
       replace hb:=hb.kn Nu
       replace owx106:=owx106.kn Nu
       replace HG:=AA HG Nu
       exact⟨⟨i+1,ao106,cap106,(kl++[⟨kx.1,hkd⟩]),by omega,by rw[List.length_append];simp;omega,hno1,⟨Iv.1,Iv.2.1,Iv.2.2.1,Iv.2.2.2.2.1,(AH Iv).2.2.2.2.2.2.2.1,(AH (AH Iv)).1,(AH (AH Iv)).2.1,(AH (AH Iv)).2.2.1,(AH (AH Iv)).2.2.2.1,(AH (AH Iv)).2.2.2.2.1,(AH (AH Iv)).2.2.2.2.2.1,(AH (AH Iv)).2.2.2.2.2.2.1,ALr⟩,HG,AJ,AL,AP,hr,ho,hw,hb,owx106,Ry,Rz,R3,Vt,Vu,Vv,Vw,AC5⟩,by rw[show _=_ from Iv.2.2.1,show _=_ from GJ.2.2.1];simp[intOf];omega⟩
   · have hnone:=UN (P:=P) (a:=ad) (own:=own) (wr:=wd.map DD.x) fun j hj=>hno j (by omega)
     refine ALk ?_
     refine AK GJ 1 [(15,.bool false)]
       ⟨Ho r7 (fun _=>Bk (by simp;omega)),ALr⟩ fun a111 w111 g111 ABY=>?_
     refine AE ?_
     refine k71 _ _ ?_
     refine ALl fun K112 k112=>?_
     refine Av ABY rfl rfl ?_
     refine wp_exit ?_
     repeat refine CJ ?_
     refine x69 _ _ ?_
     refine k8 _ _ ?_
     refine ALl fun K113 k113=>?_
     refine ALl fun K114 k114=>?_
     refine ALk ?_
     refine AK ABY 3 [(56,pk CX 2),(57,.int .i64 1),(58,.bool true)]
       ⟨yf r6 (fun _=>by kernel_rfl),yp (i:=2) r6 (Eu 1) (AC g111 AL) rfl rfl,Cq r6 (fun _=>CQ rfl),ALr⟩ fun a115 w115 g115 Rt=>?_
     have AFL:=AA g111 g115
     refine AE ?_
     refine k114 _ _ ?_
     refine Ar Rt rfl rfl ?_
     refine ALl fun K116 k116=>?_
     refine ALk ?_
     replace AP:=AC AFL AP
     refine AK Rt 1 [(59,AR AS)]
       ⟨BV (vs:=[]) rfl rfl trivial trivial (fun _=>bD0 _) (fun _=>rfl),ALr⟩ fun a117 w117 g117 AHy=>?_
     refine Ap AHy r7 (CB AS AN.1) (AC g117 AP) (Hq AN) fun w118 g118 h118=>?_
     replace okk:=((okk.kn AFL).kn g117).offR g118 (AU Cm)
     replace HG:=AD (AA (AA HG AFL) g117) g118 CG
     replace AP:=h118
     refine Aa (v:=.bool false) AHy r6 fun a119 AHz=>?_
     refine AE ?_
     refine k116 _ _ ?_
     refine ALo ?_
     repeat refine AM ?_
     refine BQ (fn:=Tryz.f62) AHz (Gf (p:=4) (q:=5) Tryz.results62 AHz rfl rfl rfl rfl (CB AS AN.1) AP) ?_
     exact RecR.none (show I8 P _=_ by unfold I8;rw[if_pos rfl];exact hnone) AN HG
end Go.Proofs.YtbfjfnbcmojpiaaGreat
