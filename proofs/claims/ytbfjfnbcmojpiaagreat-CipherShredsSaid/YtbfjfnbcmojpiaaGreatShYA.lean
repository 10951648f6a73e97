import Derived.Test.YtbfjfnbcmojpiaaGreatShY8
import Derived.Test.YtbfjfnbcmojpiaaGreatShR1
set_option linter.unusedSimpArgs false
set_option linter.unusedVariables false
set_option maxRecDepth 100000
set_option maxHeartbeats 4000000
namespace Go.Proofs.YtbfjfnbcmojpiaaGreat
open Go.RowKit Go.Shelf
end Go.Proofs.YtbfjfnbcmojpiaaGreat
namespace Go.Proofs.YtbfjfnbcmojpiaaGreat
open Go.RowKit
attribute [local go_sem] Oper.semAt_some
attribute [local go_sem] Oper.semAt_some
attribute [local go_sem] Oper.semAt_some
end Go.Proofs.YtbfjfnbcmojpiaaGreat
namespace Go.Proofs.YtbfjfnbcmojpiaaGreat
open Go.RowKit Go.Shelf
def Kw (b:List Nat):V×Int:=match pV b with
 | .ok (x,[])=>(x,0)
 | _=>(V.nul,101)
theorem ABt {b:List Nat} {x:V} (h:pV b=.ok (x,[])):Kw b=(x,0):=by unfold Kw;rw[h]
theorem ADI {b r:List Nat} {x:V} (h:pV b=.ok (x,r)) (hr:0<r.length):Kw b=(V.nul,101):=by
 unfold Kw
 rw[h]
 cases r with
 | nil=>simp at hr
 | cons c r=>rfl
theorem AFP {b:List Nat} {e:Nat} (h:pV b=.error e):Kw b=(V.nul,101):=by unfold Kw;rw[h]
def AAn (P:List VP) (a:Int):List (List Nat)→List (List Nat)→Option (List Nat)
 | [],_=>none
 | o::own,wr=>if (CP P o a).2=0 then some (NC (Hg wr 0) (CP P o a).1) else AAn P a own wr.tail
theorem Pj {P:List VP} {a:Int}:∀{own wr:List (List Nat)},(∀j,j<own.length→(CP P (Hg own j) a).2≠0)→AAn P a own wr=none
 | [],_,_=>rfl
 | o::own,wr,h=>by
  have h0:(CP P o a).2≠0:=h 0 (by simp)
  unfold AAn
  rw[if_neg h0]
  exact Pj fun j hj=>h (j+1) (by simpa using hj)
theorem On {P:List VP} {a:Int}:∀{own wr:List (List Nat)} {i:Nat},i<own.length→(∀j,j<i→(CP P (Hg own j) a).2≠0)→(CP P (Hg own i) a).2=0→AAn P a own wr=some (NC (Hg wr i) (CP P (Hg own i) a).1)
 | [],_,_,hi,_,_=>by simp at hi
 | o::own,wr,0,_,_,h=>by
  have h0:(CP P o a).2=0:=h
  unfold AAn
  rw[if_pos h0]
  rfl
 | o::own,wr,i+1,hi,hj,h=>by
  have h0:(CP P o a).2≠0:=hj 0 (by omega)
  have:=On (own:=own) (wr:=wr.tail) (i:=i) (by simpa using hi) (fun j hjj=>hj (j+1) (by omega)) h
  unfold AAn
  rw[if_neg h0,this]
  cases wr<;>rfl
def Ig (P:List VP) (s:Sd):Option (List Nat):=if s.joint=1 then AAn P s.addr s.own s.wr else if (Cf P s.addr s.own).2=0 then some (Vf (decide ((0:Int)=1)) (Cf P s.addr s.own).1) else none
def DE (P:List VP) (s:Sd):V×Int:=
 if FQ s&&CH P then
  (if s.own=[] then (if tgC s.addr s.body=s.tag then Kw s.body else (V.nul,101))
  else match Ig P s with
   | none=>(V.nul,10)
   | some c=>if Vg c s.addr s.body=s.tag then Kw (Jv s.body c) else (V.nul,101))
 else (V.nul,1)
theorem AFQ {s:Sd} (h:FQ s=true):hd s.own s.joint s.addr=true:=by
 unfold FQ at h
 simp only[Bool.and_eq_true] at h
 exact h.1.1
theorem AJE {s:Sd} (h:FQ s=true):s.body.length≤64:=by
 unfold FQ at h
 simp only[Bool.and_eq_true,decide_eq_true_eq] at h
 exact h.1.2
theorem AJF {s:Sd} (h:FQ s=true) (hj:s.joint=1):s.wr.length=s.own.length:=by
 unfold FQ at h
 rw[if_pos hj] at h
 simp only[Bool.and_eq_true,decide_eq_true_eq] at h
 exact h.2
def RecR (w w':World) (r:Option (List Nat)) (e:Ending):Prop:=∃c,e=.returned (.tuple #[AP c,.bool r.isSome])∧Dg c∧(∀c',r=some c'→c'=c)∧w.grownBy w' none
theorem RecR.some {w w':World} {r:Option (List Nat)} {c:List Nat} (h:r=some c) (hc:Dg c) (g:w.grownBy w' none):RecR w w' r (.returned (.tuple #[AP c,.bool true])):=by
 subst h
 exact⟨c,rfl,hc,fun c' h=>(Option.some.inj h).symm,g⟩
theorem RecR.none {w w':World} {r:Option (List Nat)} {c:List Nat} (h:r=none) (hc:Dg c) (g:w.grownBy w' none):RecR w w' r (.returned (.tuple #[AP c,.bool false])):=by
 subst h
 exact⟨c,rfl,hc,fun c' h=>(by cases h),g⟩
theorem AAo (ks:List VK) (vo:Option Addr) (vc_:Nat) (sa po:List Nat) (hsa:Dg sa) (hpo:Dg po) (ad joint:Int) (od wd:List DD) (ao wo bo:Option Addr) (ac wc bc:Nat) (body tg:List Nat) (htg:Dg tg) (w:World) (hr:RdK w (.slice vo ks.length vc_) ks) (ho:RdD w (.slice ao od.length ac) od) (hw:RdD w (.slice wo wd.length wc) wd) (hb:SlB w 1 (.slice bo body.length bc) body.length (bv body)) (hvs:FQ ⟨ad,od.map DD.x,joint,wd.map DD.x,body,tg⟩=true) :
   Calls Tryz.prog 62 #[Ao sa po (.slice vo ks.length vc_),Bw ad (.slice ao od.length ac) joint (.slice wo wd.length wc) (.slice bo body.length bc) tg] w fun e w'=>RecR w w' (Ig (ks.map VK.p) ⟨ad,od.map DD.x,joint,wd.map DD.x,body,tg⟩) e:=by
 obtain⟨P,hP⟩:∃P,ks.map VK.p=P:=⟨_,rfl⟩
 obtain⟨own,hown⟩:∃own,od.map DD.x=own:=⟨_,rfl⟩
 have hownl:own.length=od.length:=by rw[←hown,List.length_map]
 have hnok:=hr.noks2
 rw[hP] at hnok
 rw[hP,hown]
 obtain⟨haa,hjj,hol,_⟩:=ABp (AFQ hvs)
 have hol:own.length≤16:=by rw[←hown];exact hol
 have hwl:joint=1→wd.length=od.length:=fun h=>by have:=AJF hvs h;simpa using this
 refine Bg Tryz.func62 rfl Tryz.ntmps62 rfl fun a0 sv0=>?_
 have HG:=World.grownBy.refl w none
 replace sv0:Sv 64 [] [(0,Ao sa po (.slice vo ks.length vc_)),(1,Bw ad (.slice ao od.length ac) joint (.slice wo wd.length wc) (.slice bo body.length bc) tg)] a0:=sv0
 refine ALo fun K1 k1=>?_
 refine ALn ?_
 refine Bn sv0 r6 (BX hsa hpo (.slice vo ks.length vc_) rfl) fun a2 w2 Cp Ds g2 z2 AK sv2=>?_
 refine Bn sv2 r6 (Dz _ _ htg (.slice ao od.length ac) (.slice wo wd.length wc) (.slice bo body.length bc) rfl rfl rfl) fun a3 w3 Cc Fl g3 z3 AN sv3=>?_
 replace AK:=AC g3 AK
 replace hr:=(hr.kn g2).kn g3
 replace ho:=(ho.kn g2).kn g3
 replace hw:=(hw.kn g2).kn g3
 replace hb:=(hb.kn g2).kn g3
 replace HG:=AA (AA HG g2) g3
 refine Av (T:=23) (Z:=(bv AQ)) sv3 rfl rfl rfl (fun a w=>by kernel_rfl) fun a4 w4 Gg CS g4 z4 AR sv4=>?_
 have BZ:=Ar AK CS
 have Bl:=Ar AN CS
 have CY:=Bt HG CS
 have CJ:=A1 (hr.lt) CS
 have EA:=A1 (ho.lt) CS
 have EB:=A1 (hw.lt) CS
 have Dr:=A1 (hb.lt) CS
 replace AK:=AC g4 AK
 replace AN:=AC g4 AN
 replace hr:=hr.kn g4
 replace ho:=ho.kn g4
 replace hw:=hw.kn g4
 replace hb:=hb.kn g4
 replace HG:=AA HG g4
 refine Aa (v:=.bool false) sv4 r6 fun a5 sv5=>?_
 refine AE ?_
 refine k1 _ _ ?_
 refine ALo fun K6 k6=>?_
 refine ALn ?_
 refine Aa (v:=.slice none 0 0) sv5 r6 fun a7 sv7=>?_
 refine AE ?_
 refine k6 _ _ ?_
 refine ALo fun K8 k8=>?_
 refine ALo fun K9 k9=>?_
 rcases hjj with rfl|rfl
 · refine ALn ?_
   refine AI sv7 4 [(11,pk Cc 1),(12,.slice ao od.length ac),(13,.int .i64 ((od.length:Nat))),(14,.int .i64 0)]
     ⟨yf r6 (fun _=>by kernel_rfl),yp (i:=1) r6 (M4 (.slice ao od.length ac) rfl) AN rfl rfl,CB (Tryz.underlying28) rfl rfl trivial (oy rfl rfl) (fun _=>rfl),FE (.inl rfl) rfl trivial (fun _=>rfl),ALu⟩ fun a10 w10 g10 Ci=>?_
   refine AE ?_
   refine k9 _ _ ?_
   refine BM fun Q11 x11 y11 rt11 o11=>?_
   replace AK:=AC g10 AK
   replace AN:=AC g10 AN
   replace AR:=AC g10 AR
   replace hr:=hr.kn g10
   replace ho:=ho.kn g10
   replace hw:=hw.kn g10
   replace hb:=hb.kn g10
   replace HG:=AA HG g10
   have okk:=Own.nil w10 23 32
   have D4:=LZ Cp
   have D5:=LZ Cc
   have Cs:=LZ Gg
   have ap_hr_okk:=La (KX (.slice vo ks.length vc_) ks)
   have ap_ho_okk:=La (Bq (.slice ao od.length ac))
   have ap_hw_okk:=La (Bq (.slice wo wd.length wc))
   have ap_hb_okk:=La (Bq (.slice bo body.length bc))
   have lo_okk:=ACe w
   refine wp_loop (fun a w'=>∃(i:Nat) (ko:Option Addr) (kc:Nat) (kl:List DD),(i≤od.length)∧(kl.map DD.x=(own.take i).map fun z=>(CP P z ad).1)∧(∀j,j<i→(CP P (Hg own j) ad).2=0)∧Sv 64 [] [(14,.int .i64 ((i:Int))),(6,.slice ko i kc),(11,pk Cc 1),(12,.slice ao od.length ac),(13,.int .i64 ((od.length:Nat))),(4,pt Gg),(3,pt Cc),(2,pt Cp),(0,Ao sa po (.slice vo ks.length vc_)),(1,Bw ad (.slice ao od.length ac) 0 (.slice wo wd.length wc) (.slice bo body.length bc) tg)] a∧w.grownBy w' none∧w'.heap[Cp]?=some (.cells ([bv sa,bv po,[.slice vo ks.length vc_]].flatten).toArray 36 (0,0))∧w'.heap[Cc]?=some (.cells ([[.int .i64 ad],[.slice ao od.length ac],[.int .i64 0],[.slice wo wd.length wc],[.slice bo body.length bc],bv tg].flatten).toArray 31 (0,0))∧w'.heap[Gg]?=some (.cells ((bv AQ)).toArray 23 (0,0))∧RdK w' (.slice vo ks.length vc_) ks∧RdD w' (.slice ao od.length ac) od∧RdD w' (.slice wo wd.length wc) wd∧SlB w' 1 (.slice bo body.length bc) body.length (bv body)∧Own w' 23 32 (.slice ko i kc) i (kl.flatMap ML)∧(∀k,Bq (.slice ko i kc) k→k≠Cp)∧(∀k,Bq (.slice ko i kc) k→k≠Cc)∧(∀k,Bq (.slice ko i kc) k→k≠Gg)∧(∀k,KX (.slice vo ks.length vc_) ks k→¬Bq (.slice ko i kc) k)∧(∀k,Bq (.slice ao od.length ac) k→¬Bq (.slice ko i kc) k)∧(∀k,Bq (.slice wo wd.length wc) k→¬Bq (.slice ko i kc) k)∧(∀k,Bq (.slice bo body.length bc) k→¬Bq (.slice ko i kc) k)∧(∀k,Bq (.slice ko i kc) k→w.heap.size≤k)) (fun a _=>(od.length-intOf (a.tmps.getD 14 undef)).toNat) ⟨0,none,0,[],Nat.zero_le _,rfl,fun j hj=>by omega,⟨Ci.1,Ci.2.1,Ci.2.2.2.2.2.1,Ci.2.2.2.2.2.2.1,Ci.2.2.1,Ci.2.2.2.1,Ci.2.2.2.2.1,(AH Ci).1,(AH Ci).2.1,(AH Ci).2.2.1,(AH Ci).2.2.2.1,(AH Ci).2.2.2.2.1,ALu⟩,HG,AK,AN,AR,hr,ho,hw,hb,okk,D4,D5,Cs,ap_hr_okk,ap_ho_okk,ap_hw_okk,ap_hb_okk,lo_okk⟩ fun a12 w12 hI12=>?_
   clear AK
   clear AN
   clear AR
   clear hr
   clear ho
   clear hw
   clear hb
   clear okk
   clear HG
   obtain⟨i,ko,kc,kl,hin,hkl,hok,DX,HG,AK,AN,AR,hr,ho,hw,hb,okk,D4,D5,Cs,ap_hr_okk,ap_ho_okk,ap_hw_okk,ap_hb_okk,lo_okk⟩:=hI12
   refine ALo fun K13 k13=>?_
   by_cases hi:i<od.length
   · obtain⟨y,hx_y⟩:∃zx,od[i]'hi=zx:=⟨_,rfl⟩
     have hla:Hg own i=y.x:=by rw[←hown,Mq hi,hx_y]
     obtain⟨kx,hkx⟩:∃q,CP P y.x ad=q:=⟨_,rfl⟩
     have hkd:Dg kx.1:=hkx▸SN hnok
     refine ALn ?_
     refine AI DX 1 [(15,.bool true)]
       ⟨Hc r7 (fun _=>Bv (by simp;omega)),ALu⟩ fun a14 w14 g14 Db=>?_
     refine AE ?_
     refine k13 _ _ ?_
     refine ALo fun K15 k15=>?_
     refine Ay Db rfl rfl ?_
     refine ALs ?_
     refine k15 _ _ ?_
     refine ALo fun K16 k16=>?_
     refine BM fun Q17 x17 y17 rt17 o17=>?_
     refine ALo fun K18 k18=>?_
     refine ALn ?_
     replace ho:=ho.kn g14
     refine AI Db 3 [(16,.int .i64 ((i:Int))),(17,pk ((bO ao)) (oO ao+i*32)),(18,AP y.x)]
       ⟨ym r5,BV rq8 (fun w=>Ce Tryz.underlying28 (by kernel_rfl) (ho.1) (by omega) (rfl) w),CE r6 (fun _ g=>Ac (CD y.x y.h.1) (by have:=Dq (ho.kn g).1 Hh hi (by decide);rw[hx_y] at this;exact this)),ALu⟩ fun a19 w19 g19 E3=>?_
     replace AK:=AC g19 (AC g14 AK)
     replace AN:=AC g19 (AC g14 AN)
     replace AR:=AC g19 (AC g14 AR)
     replace hr:=(hr.kn g14).kn g19
     replace ho:=ho.kn g19
     replace hw:=(hw.kn g14).kn g19
     replace hb:=(hb.kn g14).kn g19
     replace okk:=(okk.kn g14).kn g19
     replace HG:=AA (AA HG g14) g19
     refine Av (T:=23) (Z:=(bv AQ)) E3 rfl rfl rfl (fun a w=>by kernel_rfl) fun a20 w20 ALU GY g20 z20 AAp FA=>?_
     have Tt:=Ar AK GY
     have Tu:=Ar AN GY
     have Tv:=Ar AR GY
     have AFR:=Bt HG GY
     have Yl:=A1 (hr.lt) GY
     have Ym:=A1 (ho.lt) GY
     have Yn:=A1 (hw.lt) GY
     have Yo:=A1 (hb.lt) GY
     have WO:=A1 (Own.ltS okk) GY
     refine Aa (v:=.int .i64 ((i:Int))) FA r6 fun a21 Da=>?_
     refine As Da r7 (CD y.x y.h.1) AAp (IB y.h) fun w22 g22 h22=>?_
     replace AK:=AY g22 (AC g20 AK) (Ne.symm Tt)
     replace AN:=AY g22 (AC g20 AN) (Ne.symm Tu)
     replace hr:=(hr.kn g20).offR g22 (AV Yl)
     replace AAp:=h22
     refine AE ?_
     refine k18 _ _ ?_
     refine ALo fun K23 k23=>?_
     refine ALn ?_
     refine AI Da 8 [(20,Ao sa po (.slice vo ks.length vc_)),(21,AP y.x),(22,pt Cc),(23,.int .i64 ad),(24,.tuple #[AP kx.1,.int .i64 kx.2]),(19,.tuple #[AP kx.1,.int .i64 kx.2]),(25,AP kx.1),(26,.int .i64 kx.2)]
       ⟨yl r6 (BX hsa hpo (.slice vo ks.length vc_) rfl) AK,yl r6 (CD y.x y.h.1) AAp,yf r6 (fun _=>by kernel_rfl),yp (i:=0) r6 (Hi ad) AN rfl rfl,Ae [Ao sa po (.slice vo ks.length vc_),AP y.x,.int .i64 ad] Tryz.func32 (by kernel_rfl) rq4 ⟨(oy rfl rfl),(oy rfl rfl),(oy rfl rfl),ALu⟩ (Au fun W g=>AFJ hsa hpo y.h (hr.kn g) hP hkx),ym r5,BC rq4 (fun _ _ h=>⟨_,_,h,rfl,rfl⟩),BC rq4 (fun _ _ h=>⟨_,_,h,rfl,rfl⟩),ALu⟩ fun a24 w24 g24 CI=>?_
     replace AK:=AC g24 AK
     replace AN:=AC g24 AN
     replace AR:=AC g24 (AY g22 (AC g20 AR) (Ne.symm Tv))
     replace hr:=hr.kn g24
     replace ho:=((ho.kn g20).offR g22 (AV Ym)).kn g24
     replace hw:=((hw.kn g20).offR g22 (AV Yn)).kn g24
     replace hb:=((hb.kn g20).offR g22 (AV Yo)).kn g24
     replace okk:=((okk.kn g20).offR g22 (AV WO)).kn g24
     replace HG:=AA (AD (AA HG g20) g22 AFR) g24
     refine Av (T:=23) (Z:=(bv AQ)) CI rfl rfl rfl (fun a w=>by kernel_rfl) fun a25 w25 ALV GZ g25 z25 AAq DY=>?_
     have Tw:=Ar AK GZ
     have Tx:=Ar AN GZ
     have Ty:=Ar AR GZ
     have AFS:=Bt HG GZ
     have Yp:=A1 (hr.lt) GZ
     have Yq:=A1 (ho.lt) GZ
     have Yr:=A1 (hw.lt) GZ
     have Ys:=A1 (hb.lt) GZ
     have WP:=A1 (Own.ltS okk) GZ
     refine As DY r7 (CD kx.1 hkd.1) AAq (IB hkd) fun w26 g26 h26=>?_
     replace AK:=AY g26 (AC g25 AK) (Ne.symm Tw)
     replace AN:=AY g26 (AC g25 AN) (Ne.symm Tx)
     replace AR:=AY g26 (AC g25 AR) (Ne.symm Ty)
     replace hr:=(hr.kn g25).offR g26 (AV Yp)
     replace ho:=(ho.kn g25).offR g26 (AV Yq)
     replace hw:=(hw.kn g25).offR g26 (AV Yr)
     replace hb:=(hb.kn g25).offR g26 (AV Ys)
     replace okk:=(okk.kn g25).offR g26 (AV WP)
     replace HG:=AD (AA HG g25) g26 AFS
     replace AAq:=h26
     refine Aa (v:=.int .i64 kx.2) DY r6 fun a27 Jr=>?_
     have L8:Sv _ _ [_,_,_,_,_,_,_,_,_,_,_,_,_,_,_,_,_,_] _:=Jr.dl [20,21,22,23,24,19,25,26]
     refine AE ?_
     refine k23 _ _ ?_
     refine ALo fun K29 k29=>?_
     refine BM fun Q30 x30 y30 rt30 o30=>?_
     refine ALo fun K31 k31=>?_
     by_cases he:kx.2=0
     · have hkl1:=Um hkl (by omega) hla hkx (hkd:=hkd)
       have hok1:∀j,j<i+1→(CP P (Hg own j) ad).2=0:=fun j hj=>if e:j=i then (by rw[e,hla,hkx];exact he) else hok j (by omega)
       refine ALn ?_
       refine AI L8 7 [(28,pk Cc 2),(29,.int .i64 0),(30,.bool false),(31,.bool false),(32,undef),(33,undef),(34,.bool false)]
        ⟨yf r6 (fun _=>by kernel_rfl),yp (i:=2) r6 (C3 0) AN rfl rfl,CQ r6 (fun _=>Bi rfl),ym r5,AX r6,AX r6,B8 r7,ALu⟩ fun a32 w32 g32 Cr=>?_
       refine Aa (v:=.bool false) Cr r6 fun a33 IZ=>?_
       have M3:Sv _ _ [_,_,_,_,_,_,_,_,_,_,_,_,_,_,_,_,_,_,_] _:=IZ.dl [28,29,30,31,32,33,34]
       refine AE ?_
       refine k31 _ _ ?_
       refine Az M3 rfl rfl ?_
       refine ALo fun K35 k35=>?_
       refine ALn ?_
       refine AI M3 7 [(43,pk Cc 2),(44,.int .i64 0),(45,.bool true),(46,.bool true),(47,.int .i64 kx.2),(48,.bool false),(49,.bool false)]
        ⟨yf r6 (fun _=>by kernel_rfl),yp (i:=2) r6 (C3 0) (AC g32 AN) rfl rfl,CQ r6 (fun _=>Bi rfl),ym r5,Aw rq8,Bc rq9 (fun _=>Dt (by simpa using he)),Ax rq9,ALu⟩ fun a36 w36 g36 F5=>?_
       have Rn:=AA g32 g36
       refine Aa (v:=.bool false) F5 r6 fun a37 Jt=>?_
       have Ro:Sv _ _ [_,_,_,_,_,_,_,_,_,_,_,_,_,_,_,_,_,_,_,_] _:=Jt.dl [43,44,45,46,47,48,49]
       refine AE ?_
       refine k35 _ _ ?_
       refine Az Ro rfl rfl ?_
       refine ALs ?_
       refine y30 _ _ ?_
       refine k29 _ _ ?_
       refine ALn ?_
       refine AI Ro 2 [(51,.slice ko i kc),(52,AP kx.1)]
        ⟨ym r5,yl r6 (CD kx.1 hkd.1) (AC Rn AAq),ALu⟩ fun a39 w39 g39 L9=>?_
       have WQ:=AA Rn g39
       refine Oa (cs:=bv kx.1) (e:=23) L9 rfl rfl rfl rfl rfl rfl (AC7 hkd) fun a40 w40 ALF AJe g40 z40 AHQ Lc=>?_
       replace AK:=AC g40 (AC WQ AK)
       replace AN:=AC g40 (AC WQ AN)
       replace AR:=AC g40 (AC WQ AR)
       replace hr:=(hr.kn WQ).kn g40
       replace ho:=(ho.kn WQ).kn g40
       replace hw:=(hw.kn WQ).kn g40
       replace hb:=(hb.kn WQ).kn g40
       replace okk:=(okk.kn WQ).kn g40
       replace HG:=AA (AA HG WQ) g40
       refine NZ dsT Lc rfl rfl rfl rfl rfl rfl rfl rfl okk (Ms AHQ hkd) (Hl _) (by omega) fun a41 ao41 cap41 w41 owx41 Cq Kh=>?_
       have Tz:=LV Cq.2 D4 AK
       have T6:=LV Cq.2 D5 AN
       have T7:=LV Cq.2 Cs AR
       have Yt:=LY Cq.2 ap_hr_okk (hr.lt)
       have Yu:=LY Cq.2 ap_ho_okk (ho.lt)
       have Yv:=LY Cq.2 ap_hw_okk (hw.lt)
       have Yw:=LY Cq.2 ap_hb_okk (hb.lt)
       have AFT:=AAD Cq.2 lo_okk HG
       replace AK:=AF Cq.1 AK (fun e=>D4 _ e.symm rfl)
       replace AN:=AF Cq.1 AN (fun e=>D5 _ e.symm rfl)
       replace AR:=AF Cq.1 AR (fun e=>Cs _ e.symm rfl)
       replace hr:=hr.offR Cq.1 (fun k hk e=>ap_hr_okk k hk (e))
       replace ho:=ho.offR Cq.1 (fun k hk e=>ap_ho_okk k hk (e))
       replace hw:=hw.offR Cq.1 (fun k hk e=>ap_hw_okk k hk (e))
       replace hb:=hb.offR Cq.1 (fun k hk e=>ap_hb_okk k hk (e))
       replace HG:=Bp HG Cq.1 fun k e=>lo_okk k (e)
       rw[Vr kl ⟨kx.1,hkd⟩] at owx41
       refine Aa (v:=.slice ao41 (i+1) cap41) Kh r6 fun a42 GK=>?_
       have Kg:Sv _ _ [_,_,_,_,_,_,_,_,_,_,_,_,_,_,_,_,_,_,_,_] _:=GK.dl [54,53,51,52]
       refine AE ?_
       refine y17 _ _ ?_
       refine k16 _ _ ?_
       refine ALn ?_
       refine AI Kg 1 [(55,.int .i64 (((i+1:Nat):Int)))]
        ⟨CQ r6 (fun _=>DV (by rw[BG (by omega) (by omega)];omega)),ALu⟩ fun a44 w44 g44 PZ=>?_
       refine AI (PZ.dl [14]) 1 [(14,.int .i64 (((i+1:Nat):Int)))]
        ⟨ym r5,ALu⟩ fun a45 w45 g45 CL=>?_
       have SA:=AA g44 g45
       refine AE ?_
       replace AK:=AC SA AK
       replace AN:=AC SA AN
       replace AR:=AC SA AR
       replace hr:=hr.kn SA
       replace ho:=ho.kn SA
       replace hw:=hw.kn SA
       replace hb:=hb.kn SA
       replace owx41:=owx41.kn SA
       replace HG:=AA HG SA
       exact⟨⟨i+1,ao41,cap41,(kl++[⟨kx.1,hkd⟩]),by omega,hkl1,hok1,⟨CL.1,CL.2.1,CL.2.2.1,CL.2.2.2.2.1,(AH CL).2.2.2.2.2.2.2.1,(AH (AH CL)).1,(AH (AH CL)).2.1,(AH (AH CL)).2.2.1,(AH (AH CL)).2.2.2.1,(AH (AH CL)).2.2.2.2.1,(AH (AH CL)).2.2.2.2.2.1,(AH (AH CL)).2.2.2.2.2.2.1,ALu⟩,HG,AK,AN,AR,hr,ho,hw,hb,owx41,Tz,T6,T7,Yt,Yu,Yv,Yw,AFT⟩,by rw[show _=_ from CL.2.2.1,show _=_ from DX.2.2.1];simp[intOf];omega⟩
     · have hke:=KI (P:=P) (a:=ad) (own:=own) (i:=i) (by omega) hok (by rw[hla,hkx];exact he)
       rw[hla,hkx] at hke
       refine ALn ?_
       refine AI L8 7 [(28,pk Cc 2),(29,.int .i64 0),(30,.bool false),(31,.bool false),(32,undef),(33,undef),(34,.bool false)]
        ⟨yf r6 (fun _=>by kernel_rfl),yp (i:=2) r6 (C3 0) AN rfl rfl,CQ r6 (fun _=>Bi rfl),ym r5,AX r6,AX r6,B8 r7,ALu⟩ fun a46 w46 g46 IC=>?_
       refine Aa (v:=.bool false) IC r6 fun a47 Ld=>?_
       have Dh:Sv _ _ [_,_,_,_,_,_,_,_,_,_,_,_,_,_,_,_,_,_,_] _:=Ld.dl [28,29,30,31,32,33,34]
       refine AE ?_
       refine k31 _ _ ?_
       refine Az Dh rfl rfl ?_
       refine ALo fun K49 k49=>?_
       refine ALn ?_
       refine AI Dh 7 [(43,pk Cc 2),(44,.int .i64 0),(45,.bool true),(46,.bool true),(47,.int .i64 kx.2),(48,.bool true),(49,.bool true)]
        ⟨yf r6 (fun _=>by kernel_rfl),yp (i:=2) r6 (C3 0) (AC g46 AN) rfl rfl,CQ r6 (fun _=>Bi rfl),ym r5,Aw rq8,Bc rq9 (fun _=>Dt (by simpa using he)),Ax rq9,ALu⟩ fun a50 w50 g50 Vd=>?_
       have WS:=AA g46 g50
       refine Aa (v:=.bool true) Vd r6 fun a51 ED=>?_
       have VZ:Sv _ _ [_,_,_,_,_,_,_,_,_,_,_,_,_,_,_,_,_,_,_,_] _:=ED.dl [43,44,45,46,47,48,49]
       refine AE ?_
       refine k49 _ _ ?_
       refine Ay VZ rfl rfl ?_
       refine ALo fun K53 k53=>?_
       refine ALn ?_
       replace AR:=AC WS AR
       refine AI VZ 1 [(50,AP AQ)]
        ⟨Ba (vs:=[]) rfl rfl trivial trivial (fun _=>bD0 _) (fun _=>rfl),ALu⟩ fun a54 w54 g54 ME=>?_
       refine As ME r7 (CD AQ AO.1) (AC g54 AR) (IB AO) fun w55 g55 h55=>?_
       replace AK:=Al g54 g55 (AC WS AK) (Ne.symm BZ)
       replace AN:=Al g54 g55 (AC WS AN) (Ne.symm Bl)
       replace hr:=((hr.kn WS).kn g54).offR g55 (AV CJ)
       replace ho:=((ho.kn WS).kn g54).offR g55 (AV EA)
       replace hw:=((hw.kn WS).kn g54).offR g55 (AV EB)
       replace hb:=((hb.kn WS).kn g54).offR g55 (AV Dr)
       replace okk:=((okk.kn WS).kn g54).offR g55 (AV Cs)
       replace HG:=AD (AA (AA HG WS) g54) g55 CY
       replace AR:=h55
       refine Aa (v:=.bool false) ME r6 fun a56 QU=>?_
       refine AE ?_
       refine k53 _ _ ?_
       refine ALr ?_
       repeat refine AL ?_
       refine rt30 _ _ ?_
       repeat refine AL ?_
       refine rt17 _ _ ?_
       repeat refine AL ?_
       refine rt11 _ _ ?_
       repeat refine AL ?_
       refine BH (fn:=Tryz.f62) QU (Gp (p:=4) (q:=5) Tryz.results62 QU rfl rfl rfl rfl (CD AQ AO.1) AR) ?_
       exact RecR.none (show Ig P _=_ by unfold Ig;rw[if_neg (show ¬(0:Int)=1 by decide),if_neg (by rw[hke];exact he)]) AO HG
   · obtain⟨hK1,hK2⟩:=GV (P:=P) (a:=ad) (own:=own) fun j hj=>hok j (by omega)
     have hkm:kl.map DD.x=(Cf P ad own).1:=by rw[hK1,hkl,List.take_of_length_le (by omega)]
     refine ALn ?_
     refine AI DX 1 [(15,.bool false)]
       ⟨Hc r7 (fun _=>Bv (by simp;omega)),ALu⟩ fun a57 w57 g57 Ve=>?_
     refine AE ?_
     refine k13 _ _ ?_
     refine ALo fun K58 k58=>?_
     refine Az Ve rfl rfl ?_
     refine wp_exit ?_
     repeat refine CW ?_
     refine x11 _ _ ?_
     refine k8 _ _ ?_
     refine ALo fun K59 k59=>?_
     refine ALo fun K60 k60=>?_
     refine ALn ?_
     refine AI Ve 3 [(56,pk Cc 2),(57,.int .i64 0),(58,.bool false)]
       ⟨yf r6 (fun _=>by kernel_rfl),yp (i:=2) r6 (C3 0) (AC g57 AN) rfl rfl,CQ r6 (fun _=>Bi rfl),ALu⟩ fun a61 w61 g61 Lg=>?_
     have AKZ:=AA g57 g61
     refine AE ?_
     refine k60 _ _ ?_
     refine Az Lg rfl rfl ?_
     refine ALs ?_
     refine k59 _ _ ?_
     refine ALo fun K62 k62=>?_
     refine ALn ?_
     refine AI Lg 3 [(60,pk Cc 2),(61,.int .i64 0),(62,.slice ko i kc)]
       ⟨yf r6 (fun _=>by kernel_rfl),yp (i:=2) r6 (C3 0) (AC AKZ AN) rfl rfl,ym r5,ALu⟩ fun a63 w63 g63 ADA=>?_
     have WU:=AA AKZ g63
     replace okk:=okk.kn WU
     refine Bu ADA Tryz.func55 (by kernel_rfl) r6 (QV (AFI (by have:=congrArg List.length hkl;simpa using this.trans (by rw[List.length_map,List.length_take];omega)) (Own.sb okk) (by omega) rfl)) fun a64 v64 w64 hR64 Si=>?_
     obtain⟨rfl,g64⟩:=hR64
     replace AR:=AC g64 (AC WU AR)
     refine As Si r7 (CD ((Vf (decide ((0:Int)=1)) (kl.map DD.x))) (Nk _ _).1) AR (IB (Nk _ _)) fun w65 g65 h65=>?_
     replace AK:=AY g65 (AC g64 (AC WU AK)) (Ne.symm BZ)
     replace AN:=AY g65 (AC g64 (AC WU AN)) (Ne.symm Bl)
     replace hr:=((hr.kn WU).kn g64).offR g65 (AV CJ)
     replace ho:=((ho.kn WU).kn g64).offR g65 (AV EA)
     replace hw:=((hw.kn WU).kn g64).offR g65 (AV EB)
     replace hb:=((hb.kn WU).kn g64).offR g65 (AV Dr)
     replace okk:=(okk.kn g64).offR g65 (AV Cs)
     replace HG:=AD (AA (AA HG WU) g64) g65 CY
     replace AR:=h65
     refine Aa (v:=.bool true) Si r6 fun a66 WV=>?_
     have Yx:Sv _ _ [_,_,_,_,_,_,_,_,_,_,_,_,_,_,_] _:=WV.dl [63,60,61,62]
     refine AE ?_
     refine k62 _ _ ?_
     refine ALr ?_
     repeat refine AL ?_
     refine BH (fn:=Tryz.f62) Yx (Gp (p:=4) (q:=5) Tryz.results62 Yx rfl rfl rfl rfl (CD ((Vf (decide ((0:Int)=1)) (kl.map DD.x))) (Nk _ _).1) AR) ?_
     exact RecR.some (show Ig P _=_ by unfold Ig;rw[if_neg (show ¬(0:Int)=1 by decide),if_pos hK2,←hkm]) (Nk _ _) HG
 · refine ALn ?_
   refine AI sv7 4 [(11,pk Cc 1),(12,.slice ao od.length ac),(13,.int .i64 ((od.length:Nat))),(14,.int .i64 0)]
     ⟨yf r6 (fun _=>by kernel_rfl),yp (i:=1) r6 (M4 (.slice ao od.length ac) rfl) AN rfl rfl,CB (Tryz.underlying28) rfl rfl trivial (oy rfl rfl) (fun _=>rfl),FE (.inl rfl) rfl trivial (fun _=>rfl),ALu⟩ fun a68 w68 g68 Of=>?_
   refine AE ?_
   refine k9 _ _ ?_
   refine BM fun Q69 x69 y69 rt69 o69=>?_
   replace AK:=AC g68 AK
   replace AN:=AC g68 AN
   replace AR:=AC g68 AR
   replace hr:=hr.kn g68
   replace ho:=ho.kn g68
   replace hw:=hw.kn g68
   replace hb:=hb.kn g68
   replace HG:=AA HG g68
   have okk:=Own.nil w68 23 32
   have D4:=LZ Cp
   have D5:=LZ Cc
   have Cs:=LZ Gg
   have ap_hr_okk:=La (KX (.slice vo ks.length vc_) ks)
   have ap_ho_okk:=La (Bq (.slice ao od.length ac))
   have ap_hw_okk:=La (Bq (.slice wo wd.length wc))
   have ap_hb_okk:=La (Bq (.slice bo body.length bc))
   have lo_okk:=ACe w
   refine wp_loop (fun a w'=>∃(i:Nat) (ko:Option Addr) (kc:Nat) (kl:List DD),(i≤od.length)∧(kl.length=i)∧(∀j,j<i→(CP P (Hg own j) ad).2≠0)∧Sv 64 [] [(14,.int .i64 ((i:Int))),(6,.slice ko i kc),(11,pk Cc 1),(12,.slice ao od.length ac),(13,.int .i64 ((od.length:Nat))),(4,pt Gg),(3,pt Cc),(2,pt Cp),(0,Ao sa po (.slice vo ks.length vc_)),(1,Bw ad (.slice ao od.length ac) 1 (.slice wo wd.length wc) (.slice bo body.length bc) tg)] a∧w.grownBy w' none∧w'.heap[Cp]?=some (.cells ([bv sa,bv po,[.slice vo ks.length vc_]].flatten).toArray 36 (0,0))∧w'.heap[Cc]?=some (.cells ([[.int .i64 ad],[.slice ao od.length ac],[.int .i64 1],[.slice wo wd.length wc],[.slice bo body.length bc],bv tg].flatten).toArray 31 (0,0))∧w'.heap[Gg]?=some (.cells ((bv AQ)).toArray 23 (0,0))∧RdK w' (.slice vo ks.length vc_) ks∧RdD w' (.slice ao od.length ac) od∧RdD w' (.slice wo wd.length wc) wd∧SlB w' 1 (.slice bo body.length bc) body.length (bv body)∧Own w' 23 32 (.slice ko i kc) i (kl.flatMap ML)∧(∀k,Bq (.slice ko i kc) k→k≠Cp)∧(∀k,Bq (.slice ko i kc) k→k≠Cc)∧(∀k,Bq (.slice ko i kc) k→k≠Gg)∧(∀k,KX (.slice vo ks.length vc_) ks k→¬Bq (.slice ko i kc) k)∧(∀k,Bq (.slice ao od.length ac) k→¬Bq (.slice ko i kc) k)∧(∀k,Bq (.slice wo wd.length wc) k→¬Bq (.slice ko i kc) k)∧(∀k,Bq (.slice bo body.length bc) k→¬Bq (.slice ko i kc) k)∧(∀k,Bq (.slice ko i kc) k→w.heap.size≤k)) (fun a _=>(od.length-intOf (a.tmps.getD 14 undef)).toNat) ⟨0,none,0,[],Nat.zero_le _,rfl,fun j hj=>by omega,⟨Of.1,Of.2.1,Of.2.2.2.2.2.1,Of.2.2.2.2.2.2.1,Of.2.2.1,Of.2.2.2.1,Of.2.2.2.2.1,(AH Of).1,(AH Of).2.1,(AH Of).2.2.1,(AH Of).2.2.2.1,(AH Of).2.2.2.2.1,ALu⟩,HG,AK,AN,AR,hr,ho,hw,hb,okk,D4,D5,Cs,ap_hr_okk,ap_ho_okk,ap_hw_okk,ap_hb_okk,lo_okk⟩ fun a70 w70 hI70=>?_
   clear AK
   clear AN
   clear AR
   clear hr
   clear ho
   clear hw
   clear hb
   clear okk
   clear HG
   obtain⟨i,ko,kc,kl,hin,hkll,hno,Sj,HG,AK,AN,AR,hr,ho,hw,hb,okk,D4,D5,Cs,ap_hr_okk,ap_ho_okk,ap_hw_okk,ap_hb_okk,lo_okk⟩:=hI70
   refine ALo fun K71 k71=>?_
   by_cases hi:i<od.length
   · obtain⟨y,hx_y⟩:∃zx,od[i]'hi=zx:=⟨_,rfl⟩
     have hla:Hg own i=y.x:=by rw[←hown,Mq hi,hx_y]
     obtain⟨kx,hkx⟩:∃q,CP P y.x ad=q:=⟨_,rfl⟩
     have hkd:Dg kx.1:=hkx▸SN hnok
     refine ALn ?_
     refine AI Sj 1 [(15,.bool true)]
       ⟨Hc r7 (fun _=>Bv (by simp;omega)),ALu⟩ fun a72 w72 g72 AHM=>?_
     refine AE ?_
     refine k71 _ _ ?_
     refine ALo fun K73 k73=>?_
     refine Ay AHM rfl rfl ?_
     refine ALs ?_
     refine k73 _ _ ?_
     refine ALo fun K74 k74=>?_
     refine BM fun Q75 x75 y75 rt75 o75=>?_
     refine ALo fun K76 k76=>?_
     refine ALn ?_
     replace ho:=ho.kn g72
     refine AI AHM 3 [(16,.int .i64 ((i:Int))),(17,pk ((bO ao)) (oO ao+i*32)),(18,AP y.x)]
       ⟨ym r5,BV rq8 (fun w=>Ce Tryz.underlying28 (by kernel_rfl) (ho.1) (by omega) (rfl) w),CE r6 (fun _ g=>Ac (CD y.x y.h.1) (by have:=Dq (ho.kn g).1 Hh hi (by decide);rw[hx_y] at this;exact this)),ALu⟩ fun a77 w77 g77 AAr=>?_
     replace AK:=AC g77 (AC g72 AK)
     replace AN:=AC g77 (AC g72 AN)
     replace AR:=AC g77 (AC g72 AR)
     replace hr:=(hr.kn g72).kn g77
     replace ho:=ho.kn g77
     replace hw:=(hw.kn g72).kn g77
     replace hb:=(hb.kn g72).kn g77
     replace okk:=(okk.kn g72).kn g77
     replace HG:=AA (AA HG g72) g77
     refine Av (T:=23) (Z:=(bv AQ)) AAr rfl rfl rfl (fun a w=>by kernel_rfl) fun a78 w78 ALW Ga g78 z78 AAs AJG=>?_
     have T8:=Ar AK Ga
     have T9:=Ar AN Ga
     have UA:=Ar AR Ga
     have AFU:=Bt HG Ga
     have Yy:=A1 (hr.lt) Ga
     have Yz:=A1 (ho.lt) Ga
     have Y0:=A1 (hw.lt) Ga
     have ZA:=A1 (hb.lt) Ga
     have WW:=A1 (Own.ltS okk) Ga
     refine Aa (v:=.int .i64 ((i:Int))) AJG r6 fun a79 Tj=>?_
     refine As Tj r7 (CD y.x y.h.1) AAs (IB y.h) fun w80 g80 h80=>?_
     replace AK:=AY g80 (AC g78 AK) (Ne.symm T8)
     replace AN:=AY g80 (AC g78 AN) (Ne.symm T9)
     replace hr:=(hr.kn g78).offR g80 (AV Yy)
     replace AAs:=h80
     refine AE ?_
     refine k76 _ _ ?_
     refine ALo fun K81 k81=>?_
     refine ALn ?_
     refine AI Tj 8 [(20,Ao sa po (.slice vo ks.length vc_)),(21,AP y.x),(22,pt Cc),(23,.int .i64 ad),(24,.tuple #[AP kx.1,.int .i64 kx.2]),(19,.tuple #[AP kx.1,.int .i64 kx.2]),(25,AP kx.1),(26,.int .i64 kx.2)]
       ⟨yl r6 (BX hsa hpo (.slice vo ks.length vc_) rfl) AK,yl r6 (CD y.x y.h.1) AAs,yf r6 (fun _=>by kernel_rfl),yp (i:=0) r6 (Hi ad) AN rfl rfl,Ae [Ao sa po (.slice vo ks.length vc_),AP y.x,.int .i64 ad] Tryz.func32 (by kernel_rfl) rq4 ⟨(oy rfl rfl),(oy rfl rfl),(oy rfl rfl),ALu⟩ (Au fun W g=>AFJ hsa hpo y.h (hr.kn g) hP hkx),ym r5,BC rq4 (fun _ _ h=>⟨_,_,h,rfl,rfl⟩),BC rq4 (fun _ _ h=>⟨_,_,h,rfl,rfl⟩),ALu⟩ fun a82 w82 g82 Qa=>?_
     replace AK:=AC g82 AK
     replace AN:=AC g82 AN
     replace AR:=AC g82 (AY g80 (AC g78 AR) (Ne.symm UA))
     replace hr:=hr.kn g82
     replace ho:=((ho.kn g78).offR g80 (AV Yz)).kn g82
     replace hw:=((hw.kn g78).offR g80 (AV Y0)).kn g82
     replace hb:=((hb.kn g78).offR g80 (AV ZA)).kn g82
     replace okk:=((okk.kn g78).offR g80 (AV WW)).kn g82
     replace HG:=AA (AD (AA HG g78) g80 AFU) g82
     refine Av (T:=23) (Z:=(bv AQ)) Qa rfl rfl rfl (fun a w=>by kernel_rfl) fun a83 w83 ALX Gb g83 z83 MS Yi=>?_
     have UB:=Ar AK Gb
     have UC:=Ar AN Gb
     have NF:=Ar AR Gb
     have AFV:=Bt HG Gb
     have ZB:=A1 (hr.lt) Gb
     have ZC:=A1 (ho.lt) Gb
     have ZD:=A1 (hw.lt) Gb
     have ZE:=A1 (hb.lt) Gb
     have WX:=A1 (Own.ltS okk) Gb
     refine As Yi r7 (CD kx.1 hkd.1) MS (IB hkd) fun w84 g84 h84=>?_
     replace AK:=AY g84 (AC g83 AK) (Ne.symm UB)
     replace AN:=AY g84 (AC g83 AN) (Ne.symm UC)
     replace AR:=AY g84 (AC g83 AR) (Ne.symm NF)
     replace hr:=(hr.kn g83).offR g84 (AV ZB)
     replace ho:=(ho.kn g83).offR g84 (AV ZC)
     replace hw:=(hw.kn g83).offR g84 (AV ZD)
     replace hb:=(hb.kn g83).offR g84 (AV ZE)
     replace okk:=(okk.kn g83).offR g84 (AV WX)
     replace HG:=AD (AA HG g83) g84 AFV
     replace MS:=h84
     refine Aa (v:=.int .i64 kx.2) Yi r6 fun a85 AAl=>?_
     have EN:Sv _ _ [_,_,_,_,_,_,_,_,_,_,_,_,_,_,_,_,_,_] _:=AAl.dl [20,21,22,23,24,19,25,26]
     refine AE ?_
     refine k81 _ _ ?_
     refine ALo fun K87 k87=>?_
     refine BM fun Q88 x88 y88 rt88 o88=>?_
     refine ALo fun K89 k89=>?_
     by_cases he:kx.2=0
     · have hiw:i<wd.length:=by have:=hwl rfl;omega
       obtain⟨wx,hx_wx⟩:∃zx,wd[i]'hiw=zx:=⟨_,rfl⟩
       have hhit:=On (P:=P) (a:=ad) (own:=own) (wr:=wd.map DD.x) (i:=i) (by omega) hno (by rw[hla,hkx];exact he)
       rw[hla,hkx,Mq hiw,hx_wx] at hhit
       refine ALn ?_
       refine AI EN 7 [(28,pk Cc 2),(29,.int .i64 1),(30,.bool true),(31,.bool true),(32,.int .i64 kx.2),(33,.bool true),(34,.bool true)]
        ⟨yf r6 (fun _=>by kernel_rfl),yp (i:=2) r6 (C3 1) AN rfl rfl,CQ r6 (fun _=>Bi rfl),ym r5,Aw rq8,Bc rq9 (fun _=>Bi (by simpa using he)),Ax rq9,ALu⟩ fun a90 w90 g90 AAt=>?_
       refine Aa (v:=.bool true) AAt r6 fun a91 ALG=>?_
       have WH:Sv _ _ [_,_,_,_,_,_,_,_,_,_,_,_,_,_,_,_,_,_,_] _:=ALG.dl [28,29,30,31,32,33,34]
       refine AE ?_
       refine k89 _ _ ?_
       refine Ay WH rfl rfl ?_
       refine ALo fun K93 k93=>?_
       replace AN:=AC g90 AN
       replace AR:=AC g90 AR
       replace MS:=AC g90 MS
       replace hw:=hw.kn g90
       refine DZ (WH.st w90) (by kernel_rfl) 7 [(35,Sp.is (pk Cc 3)),(36,Sp.is (.slice wo wd.length wc)),(37,Sp.is (.int .i64 ((i:Int)))),(38,Sp.is (pk ((bO wo)) (oO wo+i*32))),(39,Sp.is (AP wx.x)),(40,Sp.is (AP kx.1)),(41,Sp.is (AP ((NC wx.x kx.1))))] rfl (by kernel_rfl) (by kernel_rfl) (by kernel_rfl) [] (by kernel_rfl)
        ⟨yf r6 (fun _=>by kernel_rfl),yp (i:=3) r6 (M4 (.slice wo wd.length wc) rfl) AN rfl rfl,ym r5,BV rq8 (fun w=>Ce Tryz.underlying28 (by kernel_rfl) (hw.1) (by omega) (rfl) w),CE r6 (fun _ g=>Ac (CD wx.x wx.h.1) (by have:=Dq (hw.kn g).1 Hh hiw (by decide);rw[hx_wx] at this;exact this)),yl r6 (CD kx.1 hkd.1) MS,Ae [AP wx.x,AP kx.1] Tryz.func56 (by kernel_rfl) rq4 ⟨(oy rfl rfl),(oy rfl rfl),ALu⟩ (Au fun W g=>OZ wx.x kx.1 wx.h hkd W),ALu⟩ trivial
        [] (by kernel_rfl) trivial ⟨.inl rfl,.inl rfl,.inl rfl,.inl rfl,.inl rfl,.inl rfl,.inl rfl,ALu⟩ (by kernel_rfl) fun a94 w94 g94 st94 nd94=>?_
       obtain⟨hn94,hd94,e94_35,e94_36,e94_37,e94_38,e94_39,e94_40,e94_41,e94_27,e94_10,e94_9,e94_7,e94_8,e94_16,e94_17,e94_18,e94_15,e94_14,e94_6,e94_11,e94_12,e94_13,e94_4,e94_3,e94_2,e94_0,e94_1,-⟩:=st94
       have AKa:Sv 64 [] [(27,_),(10,_),(9,_),(7,_),(8,_),(16,_),(17,_),(18,_),(15,_),(14,_),(6,_),(11,_),(12,_),(13,_),(4,_),(3,_),(2,_),(0,_),(1,_),(41,_)] a94:=⟨hn94,hd94,e94_27,e94_10,e94_9,e94_7,e94_8,e94_16,e94_17,e94_18,e94_15,e94_14,e94_6,e94_11,e94_12,e94_13,e94_4,e94_3,e94_2,e94_0,e94_1,e94_41,ALu⟩
       refine As AKa r7 (CD ((NC wx.x kx.1)) (Nl wx.h hkd).1) (AC g94 AR) (IB (Nl wx.h hkd)) fun w95 g95 h95=>?_
       replace AK:=Al g94 g95 (AC g90 AK) (Ne.symm BZ)
       replace AN:=Al g94 g95 AN (Ne.symm Bl)
       replace MS:=Al g94 g95 MS NF
       replace hr:=((hr.kn g90).kn g94).offR g95 (AV CJ)
       replace ho:=((ho.kn g90).kn g94).offR g95 (AV EA)
       replace hw:=(hw.kn g94).offR g95 (AV EB)
       replace hb:=((hb.kn g90).kn g94).offR g95 (AV Dr)
       replace okk:=((okk.kn g90).kn g94).offR g95 (AV Cs)
       replace HG:=AD (AA (AA HG g90) g94) g95 CY
       replace AR:=h95
       refine Aa (v:=.bool true) AKa r6 fun a96 Tm=>?_
       refine AE ?_
       refine k93 _ _ ?_
       refine ALr ?_
       repeat refine AL ?_
       refine rt88 _ _ ?_
       repeat refine AL ?_
       refine rt75 _ _ ?_
       repeat refine AL ?_
       refine rt69 _ _ ?_
       repeat refine AL ?_
       refine BH (fn:=Tryz.f62) Tm (Gp (p:=4) (q:=5) Tryz.results62 Tm rfl rfl rfl rfl (CD ((NC wx.x kx.1)) (Nl wx.h hkd).1) AR) ?_
       exact RecR.some (show Ig P _=_ by unfold Ig;rw[if_pos rfl];exact hhit) (Nl wx.h hkd) HG
     · have hno1:∀j,j<i+1→(CP P (Hg own j) ad).2≠0:=fun j hj=>if e:j=i then (by rw[e,hla,hkx];exact he) else hno j (by omega)
       refine ALn ?_
       refine AI EN 7 [(28,pk Cc 2),(29,.int .i64 1),(30,.bool true),(31,.bool true),(32,.int .i64 kx.2),(33,.bool false),(34,.bool false)]
        ⟨yf r6 (fun _=>by kernel_rfl),yp (i:=2) r6 (C3 1) AN rfl rfl,CQ r6 (fun _=>Bi rfl),ym r5,Aw rq8,Bc rq9 (fun _=>Bi (by simpa using he)),Ax rq9,ALu⟩ fun a97 w97 g97 AFL=>?_
       refine Aa (v:=.bool false) AFL r6 fun a98 AFW=>?_
       have ADJ:Sv _ _ [_,_,_,_,_,_,_,_,_,_,_,_,_,_,_,_,_,_,_] _:=AFW.dl [28,29,30,31,32,33,34]
       refine AE ?_
       refine k89 _ _ ?_
       refine Az ADJ rfl rfl ?_
       refine ALo fun K100 k100=>?_
       refine ALn ?_
       refine AI ADJ 7 [(43,pk Cc 2),(44,.int .i64 1),(45,.bool false),(46,.bool false),(47,undef),(48,undef),(49,.bool false)]
        ⟨yf r6 (fun _=>by kernel_rfl),yp (i:=2) r6 (C3 1) (AC g97 AN) rfl rfl,CQ r6 (fun _=>Bi rfl),ym r5,AX r6,AX r6,B8 r7,ALu⟩ fun a101 w101 g101 ND=>?_
       have AIB:=AA g97 g101
       refine Aa (v:=.bool false) ND r6 fun a102 AKb=>?_
       have QE:Sv _ _ [_,_,_,_,_,_,_,_,_,_,_,_,_,_,_,_,_,_,_,_] _:=AKb.dl [43,44,45,46,47,48,49]
       refine AE ?_
       refine k100 _ _ ?_
       refine Az QE rfl rfl ?_
       refine ALs ?_
       refine y88 _ _ ?_
       refine k87 _ _ ?_
       refine ALn ?_
       refine AI QE 2 [(51,.slice ko i kc),(52,AP kx.1)]
        ⟨ym r5,yl r6 (CD kx.1 hkd.1) (AC AIB MS),ALu⟩ fun a104 w104 g104 Og=>?_
       have Oo:=AA AIB g104
       refine Oa (cs:=bv kx.1) (e:=23) Og rfl rfl rfl rfl rfl rfl (AC7 hkd) fun a105 w105 AKu AJH g105 z105 AFX ABq=>?_
       replace AK:=AC g105 (AC Oo AK)
       replace AN:=AC g105 (AC Oo AN)
       replace AR:=AC g105 (AC Oo AR)
       replace hr:=(hr.kn Oo).kn g105
       replace ho:=(ho.kn Oo).kn g105
       replace hw:=(hw.kn Oo).kn g105
       replace hb:=(hb.kn Oo).kn g105
       replace okk:=(okk.kn Oo).kn g105
       replace HG:=AA (AA HG Oo) g105
       refine NZ dsT ABq rfl rfl rfl rfl rfl rfl rfl rfl okk (Ms AFX hkd) (Hl _) (by omega) fun a106 ao106 cap106 w106 owx106 Cq AKc=>?_
       have Sk:=LV Cq.2 D4 AK
       have Sm:=LV Cq.2 D5 AN
       have Sn:=LV Cq.2 Cs AR
       have WY:=LY Cq.2 ap_hr_okk (hr.lt)
       have WZ:=LY Cq.2 ap_ho_okk (ho.lt)
       have Wa:=LY Cq.2 ap_hw_okk (hw.lt)
       have Wb:=LY Cq.2 ap_hb_okk (hb.lt)
       have ADK:=AAD Cq.2 lo_okk HG
       replace AK:=AF Cq.1 AK (fun e=>D4 _ e.symm rfl)
       replace AN:=AF Cq.1 AN (fun e=>D5 _ e.symm rfl)
       replace AR:=AF Cq.1 AR (fun e=>Cs _ e.symm rfl)
       replace hr:=hr.offR Cq.1 (fun k hk e=>ap_hr_okk k hk (e))
       replace ho:=ho.offR Cq.1 (fun k hk e=>ap_ho_okk k hk (e))
       replace hw:=hw.offR Cq.1 (fun k hk e=>ap_hw_okk k hk (e))
       replace hb:=hb.offR Cq.1 (fun k hk e=>ap_hb_okk k hk (e))
       replace HG:=Bp HG Cq.1 fun k e=>lo_okk k (e)
       rw[Vr kl ⟨kx.1,hkd⟩] at owx106
       refine Aa (v:=.slice ao106 (i+1) cap106) AKc r6 fun a107 AFM=>?_
       have AKd:Sv _ _ [_,_,_,_,_,_,_,_,_,_,_,_,_,_,_,_,_,_,_,_] _:=AFM.dl [54,53,51,52]
       refine AE ?_
       refine y75 _ _ ?_
       refine k74 _ _ ?_
       refine ALn ?_
       refine AI AKd 1 [(55,.int .i64 (((i+1:Nat):Int)))]
        ⟨CQ r6 (fun _=>DV (by rw[BG (by omega) (by omega)];omega)),ALu⟩ fun a109 w109 g109 AFN=>?_
       refine AI (AFN.dl [14]) 1 [(14,.int .i64 (((i+1:Nat):Int)))]
        ⟨ym r5,ALu⟩ fun a110 w110 g110 JD=>?_
       have Oq:=AA g109 g110
       refine AE ?_
       replace AK:=AC Oq AK
       replace AN:=AC Oq AN
       replace AR:=AC Oq AR
       replace hr:=hr.kn Oq
       replace ho:=ho.kn Oq
       replace hw:=hw.kn Oq
       replace hb:=hb.kn Oq
       replace owx106:=owx106.kn Oq
       replace HG:=AA HG Oq
       exact⟨⟨i+1,ao106,cap106,(kl++[⟨kx.1,hkd⟩]),by omega,by rw[List.length_append];simp;omega,hno1,⟨JD.1,JD.2.1,JD.2.2.1,JD.2.2.2.2.1,(AH JD).2.2.2.2.2.2.2.1,(AH (AH JD)).1,(AH (AH JD)).2.1,(AH (AH JD)).2.2.1,(AH (AH JD)).2.2.2.1,(AH (AH JD)).2.2.2.2.1,(AH (AH JD)).2.2.2.2.2.1,(AH (AH JD)).2.2.2.2.2.2.1,ALu⟩,HG,AK,AN,AR,hr,ho,hw,hb,owx106,Sk,Sm,Sn,WY,WZ,Wa,Wb,ADK⟩,by rw[show _=_ from JD.2.2.1,show _=_ from Sj.2.2.1];simp[intOf];omega⟩
   · have hnone:=Pj (P:=P) (a:=ad) (own:=own) (wr:=wd.map DD.x) fun j hj=>hno j (by omega)
     refine ALn ?_
     refine AI Sj 1 [(15,.bool false)]
       ⟨Hc r7 (fun _=>Bv (by simp;omega)),ALu⟩ fun a111 w111 g111 ABr=>?_
     refine AE ?_
     refine k71 _ _ ?_
     refine ALo fun K112 k112=>?_
     refine Az ABr rfl rfl ?_
     refine wp_exit ?_
     repeat refine CW ?_
     refine x69 _ _ ?_
     refine k8 _ _ ?_
     refine ALo fun K113 k113=>?_
     refine ALo fun K114 k114=>?_
     refine ALn ?_
     refine AI ABr 3 [(56,pk Cc 2),(57,.int .i64 1),(58,.bool true)]
       ⟨yf r6 (fun _=>by kernel_rfl),yp (i:=2) r6 (C3 1) (AC g111 AN) rfl rfl,CQ r6 (fun _=>Bi rfl),ALu⟩ fun a115 w115 g115 Se=>?_
     have AFY:=AA g111 g115
     refine AE ?_
     refine k114 _ _ ?_
     refine Ay Se rfl rfl ?_
     refine ALo fun K116 k116=>?_
     refine ALn ?_
     replace AR:=AC AFY AR
     refine AI Se 1 [(59,AP AQ)]
       ⟨Ba (vs:=[]) rfl rfl trivial trivial (fun _=>bD0 _) (fun _=>rfl),ALu⟩ fun a117 w117 g117 AIC=>?_
     refine As AIC r7 (CD AQ AO.1) (AC g117 AR) (IB AO) fun w118 g118 h118=>?_
     replace okk:=((okk.kn AFY).kn g117).offR g118 (AV Cs)
     replace HG:=AD (AA (AA HG AFY) g117) g118 CY
     replace AR:=h118
     refine Aa (v:=.bool false) AIC r6 fun a119 AID=>?_
     refine AE ?_
     refine k116 _ _ ?_
     refine ALr ?_
     repeat refine AL ?_
     refine BH (fn:=Tryz.f62) AID (Gp (p:=4) (q:=5) Tryz.results62 AID rfl rfl rfl rfl (CD AQ AO.1) AR) ?_
     exact RecR.none (show Ig P _=_ by unfold Ig;rw[if_pos rfl];exact hnone) AO HG
end Go.Proofs.YtbfjfnbcmojpiaaGreat
