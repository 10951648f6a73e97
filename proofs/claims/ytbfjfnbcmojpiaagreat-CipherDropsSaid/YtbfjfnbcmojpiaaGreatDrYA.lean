import Derived.Test.YtbfjfnbcmojpiaaGreatDrY8
import Derived.Test.YtbfjfnbcmojpiaaGreatDrR1
set_option linter.unusedSimpArgs false
set_option linter.unusedVariables false
set_option maxRecDepth 100000
set_option maxHeartbeats 4000000
namespace Go.Proofs.YtbfjfnbcmojpiaaGreat
open Go.RowKit Go.Shelf
end Go.Proofs.YtbfjfnbcmojpiaaGreat
namespace Go.Proofs.YtbfjfnbcmojpiaaGreat
open Go.RowKit
attribute [local go_sem] Oper.semAt_some
attribute [local go_sem] Oper.semAt_some
attribute [local go_sem] Oper.semAt_some
end Go.Proofs.YtbfjfnbcmojpiaaGreat
namespace Go.Proofs.YtbfjfnbcmojpiaaGreat
open Go.RowKit Go.Shelf
def I9 (b:List Nat):V×Int:=match pV b with
 | .ok (x,[])=>(x,0)
 | _=>(V.nul,101)
theorem YX {b:List Nat} {x:V} (h:pV b=.ok (x,[])):I9 b=(x,0):=by unfold I9;rw[h]
theorem AAD {b r:List Nat} {x:V} (h:pV b=.ok (x,r)) (hr:0<r.length):I9 b=(V.nul,101):=by
 unfold I9
 rw[h]
 cases r with
 | nil=>simp at hr
 | cons c r=>rfl
theorem AB5 {b:List Nat} {e:Nat} (h:pV b=.error e):I9 b=(V.nul,101):=by unfold I9;rw[h]
def XA (P:List VP) (a:Int):List (List Nat)→List (List Nat)→Option (List Nat)
 | [],_=>none
 | o::own,wr=>if (Ck P o a).2=0 then some (Me (KQ wr 0) (Ck P o a).1) else XA P a own wr.tail
theorem NA {P:List VP} {a:Int}:∀{own wr:List (List Nat)},(∀j,j<own.length→(Ck P (KQ own j) a).2≠0)→XA P a own wr=none
 | [],_,_=>rfl
 | o::own,wr,h=>by
  have h0:(Ck P o a).2≠0:=h 0 (by simp)
  unfold XA
  rw[if_neg h0]
  exact NA fun j hj=>h (j+1) (by simpa using hj)
theorem PS {P:List VP} {a:Int}:∀{own wr:List (List Nat)} {i:Nat},i<own.length→(∀j,j<i→(Ck P (KQ own j) a).2≠0)→(Ck P (KQ own i) a).2=0→XA P a own wr=some (Me (KQ wr i) (Ck P (KQ own i) a).1)
 | [],_,_,hi,_,_=>by simp at hi
 | o::own,wr,0,_,_,h=>by
  have h0:(Ck P o a).2=0:=h
  unfold XA
  rw[if_pos h0]
  rfl
 | o::own,wr,i+1,hi,hj,h=>by
  have h0:(Ck P o a).2≠0:=hj 0 (by omega)
  have:=PS (own:=own) (wr:=wr.tail) (i:=i) (by simpa using hi) (fun j hjj=>hj (j+1) (by omega)) h
  unfold XA
  rw[if_neg h0,this]
  cases wr<;>rfl
def IG (P:List VP) (s:Sd):Option (List Nat):=if s.joint=1 then XA P s.addr s.own s.wr else if (Cb P s.addr s.own).2=0 then some (Ta (decide ((0:Int)=1)) (Cb P s.addr s.own).1) else none
def E2 (P:List VP) (s:Sd):V×Int:=
 if ES s&&CE P then
  (if s.own=[] then (if Zn s.addr s.body=s.tag then I9 s.body else (V.nul,101))
  else match IG P s with
   | none=>(V.nul,10)
   | some c=>if Tc c s.addr s.body=s.tag then I9 (IX s.body c) else (V.nul,101))
 else (V.nul,1)
theorem AB6 {s:Sd} (h:ES s=true):hd s.own s.joint s.addr=true:=by
 unfold ES at h
 simp only[Bool.and_eq_true] at h
 exact h.1.1
theorem AF3 {s:Sd} (h:ES s=true):s.body.length≤64:=by
 unfold ES at h
 simp only[Bool.and_eq_true,decide_eq_true_eq] at h
 exact h.1.2
theorem AF4 {s:Sd} (h:ES s=true) (hj:s.joint=1):s.wr.length=s.own.length:=by
 unfold ES at h
 rw[if_pos hj] at h
 simp only[Bool.and_eq_true,decide_eq_true_eq] at h
 exact h.2
def RecR (w w':World) (r:Option (List Nat)) (e:Ending):Prop:=∃c,e=.returned (.tuple #[AO c,.bool r.isSome])∧Dg c∧(∀c',r=some c'→c'=c)∧w.grownBy w' none
theorem RecR.some {w w':World} {r:Option (List Nat)} {c:List Nat} (h:r=some c) (hc:Dg c) (g:w.grownBy w' none):RecR w w' r (.returned (.tuple #[AO c,.bool true])):=by
 subst h
 exact⟨c,rfl,hc,fun c' h=>(Option.some.inj h).symm,g⟩
theorem RecR.none {w w':World} {r:Option (List Nat)} {c:List Nat} (h:r=none) (hc:Dg c) (g:w.grownBy w' none):RecR w w' r (.returned (.tuple #[AO c,.bool false])):=by
 subst h
 exact⟨c,rfl,hc,fun c' h=>(by cases h),g⟩
theorem XB (ks:List VK) (vo:Option Addr) (vc_:Nat) (sa po:List Nat) (hsa:Dg sa) (hpo:Dg po) (ad joint:Int) (od wd:List DD) (ao wo bo:Option Addr) (ac wc bc:Nat) (body tg:List Nat) (htg:Dg tg) (w:World) (hr:RdK w (.slice vo ks.length vc_) ks) (ho:RdD w (.slice ao od.length ac) od) (hw:RdD w (.slice wo wd.length wc) wd) (hb:SlB w 1 (.slice bo body.length bc) body.length (bv body)) (hvs:ES ⟨ad,od.map DD.x,joint,wd.map DD.x,body,tg⟩=true) :
   Calls Tryz.prog 62 #[Ao sa po (.slice vo ks.length vc_),CP ad (.slice ao od.length ac) joint (.slice wo wd.length wc) (.slice bo body.length bc) tg] w fun e w'=>RecR w w' (IG (ks.map VK.p) ⟨ad,od.map DD.x,joint,wd.map DD.x,body,tg⟩) e:=by
 obtain⟨P,hP⟩:∃P,ks.map VK.p=P:=⟨_,rfl⟩
 obtain⟨own,hown⟩:∃own,od.map DD.x=own:=⟨_,rfl⟩
 have hownl:own.length=od.length:=by rw[←hown,List.length_map]
 have hnok:=hr.noks2
 rw[hP] at hnok
 rw[hP,hown]
 obtain⟨haa,hjj,hol,_⟩:=YR (AB6 hvs)
 have hol:own.length≤16:=by rw[←hown];exact hol
 have hwl:joint=1→wd.length=od.length:=fun h=>by have:=AF4 hvs h;simpa using this
 refine BM Tryz.func62 rfl Tryz.ntmps62 rfl fun a0 sv0=>?_
 have HG:=World.grownBy.refl w none
 replace sv0:Sv 64 [] [(0,Ao sa po (.slice vo ks.length vc_)),(1,CP ad (.slice ao od.length ac) joint (.slice wo wd.length wc) (.slice bo body.length bc) tg)] a0:=sv0
 refine AIi fun K1 k1=>?_
 refine AIh ?_
 refine BT sv0 r6 (BX hsa hpo (.slice vo ks.length vc_) rfl) fun a2 w2 CC Cq g2 z2 AG sv2=>?_
 refine BT sv2 r6 (EU _ _ htg (.slice ao od.length ac) (.slice wo wd.length wc) (.slice bo body.length bc) rfl rfl rfl) fun a3 w3 Bo EC g3 z3 AJ sv3=>?_
 replace AG:=AC g3 AG
 replace hr:=(hr.kn g2).kn g3
 replace ho:=(ho.kn g2).kn g3
 replace hw:=(hw.kn g2).kn g3
 replace hb:=(hb.kn g2).kn g3
 replace HG:=AA (AA HG g2) g3
 refine As (T:=23) (Z:=(bv AS)) sv3 rfl rfl rfl (fun a w=>by kernel_rfl) fun a4 w4 Eh Bi g4 z4 AN sv4=>?_
 have Aw:=Ar AG Bi
 have A9:=Ar AJ Bi
 have Br:=Bq HG Bi
 have Bb:=Ax (hr.lt) Bi
 have DT:=Ax (ho.lt) Bi
 have DU:=Ax (hw.lt) Bi
 have DA:=Ax (hb.lt) Bi
 replace AG:=AC g4 AG
 replace AJ:=AC g4 AJ
 replace hr:=hr.kn g4
 replace ho:=ho.kn g4
 replace hw:=hw.kn g4
 replace hb:=hb.kn g4
 replace HG:=AA HG g4
 refine Aa (v:=.bool false) sv4 r6 fun a5 sv5=>?_
 refine AE ?_
 refine k1 _ _ ?_
 refine AIi fun K6 k6=>?_
 refine AIh ?_
 refine Aa (v:=.slice none 0 0) sv5 r6 fun a7 sv7=>?_
 refine AE ?_
 refine k6 _ _ ?_
 refine AIi fun K8 k8=>?_
 refine AIi fun K9 k9=>?_
 rcases hjj with rfl|rfl
 · refine AIh ?_
   refine AL sv7 4 [(11,pk Bo 1),(12,.slice ao od.length ac),(13,.int .i64 ((od.length:Nat))),(14,.int .i64 0)]
     ⟨yf r6 (fun _=>by kernel_rfl),yp (i:=1) r6 (Kj (.slice ao od.length ac) rfl) AJ rfl rfl,Bk (Tryz.underlying28) rfl rfl trivial (oy rfl rfl) (fun _=>rfl),EI (.inl rfl) rfl trivial (fun _=>rfl),AIo⟩ fun a10 w10 g10 CK=>?_
   refine AE ?_
   refine k9 _ _ ?_
   refine BB fun Q11 x11 y11 rt11 o11=>?_
   replace AG:=AC g10 AG
   replace AJ:=AC g10 AJ
   replace AN:=AC g10 AN
   replace hr:=hr.kn g10
   replace ho:=ho.kn g10
   replace hw:=hw.kn g10
   replace hb:=hb.kn g10
   replace HG:=AA HG g10
   have okk:=Own.nil w10 23 32
   have DM:=JK CC
   have DP:=JK Bo
   have CU:=JK Eh
   have ap_hr_okk:=JL (Je (.slice vo ks.length vc_) ks)
   have ap_ho_okk:=JL (BO (.slice ao od.length ac))
   have ap_hw_okk:=JL (BO (.slice wo wd.length wc))
   have ap_hb_okk:=JL (BO (.slice bo body.length bc))
   have lo_okk:=ZU w
   refine wp_loop (fun a w'=>∃(i:Nat) (ko:Option Addr) (kc:Nat) (kl:List DD),(i≤od.length)∧(kl.map DD.x=(own.take i).map fun z=>(Ck P z ad).1)∧(∀j,j<i→(Ck P (KQ own j) ad).2=0)∧Sv 64 [] [(14,.int .i64 ((i:Int))),(6,.slice ko i kc),(11,pk Bo 1),(12,.slice ao od.length ac),(13,.int .i64 ((od.length:Nat))),(4,pt Eh),(3,pt Bo),(2,pt CC),(0,Ao sa po (.slice vo ks.length vc_)),(1,CP ad (.slice ao od.length ac) 0 (.slice wo wd.length wc) (.slice bo body.length bc) tg)] a∧w.grownBy w' none∧w'.heap[CC]?=some (.cells ([bv sa,bv po,[.slice vo ks.length vc_]].flatten).toArray 36 (0,0))∧w'.heap[Bo]?=some (.cells ([[.int .i64 ad],[.slice ao od.length ac],[.int .i64 0],[.slice wo wd.length wc],[.slice bo body.length bc],bv tg].flatten).toArray 31 (0,0))∧w'.heap[Eh]?=some (.cells ((bv AS)).toArray 23 (0,0))∧RdK w' (.slice vo ks.length vc_) ks∧RdD w' (.slice ao od.length ac) od∧RdD w' (.slice wo wd.length wc) wd∧SlB w' 1 (.slice bo body.length bc) body.length (bv body)∧Own w' 23 32 (.slice ko i kc) i (kl.flatMap Jo)∧(∀k,BO (.slice ko i kc) k→k≠CC)∧(∀k,BO (.slice ko i kc) k→k≠Bo)∧(∀k,BO (.slice ko i kc) k→k≠Eh)∧(∀k,Je (.slice vo ks.length vc_) ks k→¬BO (.slice ko i kc) k)∧(∀k,BO (.slice ao od.length ac) k→¬BO (.slice ko i kc) k)∧(∀k,BO (.slice wo wd.length wc) k→¬BO (.slice ko i kc) k)∧(∀k,BO (.slice bo body.length bc) k→¬BO (.slice ko i kc) k)∧(∀k,BO (.slice ko i kc) k→w.heap.size≤k)) (fun a _=>(od.length-intOf (a.tmps.getD 14 undef)).toNat) ⟨0,none,0,[],Nat.zero_le _,rfl,fun j hj=>by omega,⟨CK.1,CK.2.1,CK.2.2.2.2.2.1,CK.2.2.2.2.2.2.1,CK.2.2.1,CK.2.2.2.1,CK.2.2.2.2.1,(AK CK).1,(AK CK).2.1,(AK CK).2.2.1,(AK CK).2.2.2.1,(AK CK).2.2.2.2.1,AIo⟩,HG,AG,AJ,AN,hr,ho,hw,hb,okk,DM,DP,CU,ap_hr_okk,ap_ho_okk,ap_hw_okk,ap_hb_okk,lo_okk⟩ fun a12 w12 hI12=>?_
   clear AG
   clear AJ
   clear AN
   clear hr
   clear ho
   clear hw
   clear hb
   clear okk
   clear HG
   obtain⟨i,ko,kc,kl,hin,hkl,hok,C6,HG,AG,AJ,AN,hr,ho,hw,hb,okk,DM,DP,CU,ap_hr_okk,ap_ho_okk,ap_hw_okk,ap_hb_okk,lo_okk⟩:=hI12
   refine AIi fun K13 k13=>?_
   by_cases hi:i<od.length
   · obtain⟨y,hx_y⟩:∃zx,od[i]'hi=zx:=⟨_,rfl⟩
     have hla:KQ own i=y.x:=by rw[←hown,KR hi,hx_y]
     obtain⟨kx,hkx⟩:∃q,Ck P y.x ad=q:=⟨_,rfl⟩
     have hkd:Dg kx.1:=hkx▸PB hnok
     refine AIh ?_
     refine AL C6 1 [(15,.bool true)]
       ⟨Hl r7 (fun _=>Ba (by simp;omega)),AIo⟩ fun a14 w14 g14 DE=>?_
     refine AE ?_
     refine k13 _ _ ?_
     refine AIi fun K15 k15=>?_
     refine Ap DE rfl rfl ?_
     refine AIm ?_
     refine k15 _ _ ?_
     refine AIi fun K16 k16=>?_
     refine BB fun Q17 x17 y17 rt17 o17=>?_
     refine AIi fun K18 k18=>?_
     refine AIh ?_
     replace ho:=ho.kn g14
     refine AL DE 3 [(16,.int .i64 ((i:Int))),(17,pk ((bO ao)) (oO ao+i*32)),(18,AO y.x)]
       ⟨ym r5,BD rq8 (fun w=>CM Tryz.underlying28 (by kernel_rfl) (ho.1) (by omega) (rfl) w),Bv r6 (fun _ g=>Ae (Bn y.x y.h.1) (by have:=Cz (ho.kn g).1 Fe hi (by decide);rw[hx_y] at this;exact this)),AIo⟩ fun a19 w19 g19 Dj=>?_
     replace AG:=AC g19 (AC g14 AG)
     replace AJ:=AC g19 (AC g14 AJ)
     replace AN:=AC g19 (AC g14 AN)
     replace hr:=(hr.kn g14).kn g19
     replace ho:=ho.kn g19
     replace hw:=(hw.kn g14).kn g19
     replace hb:=(hb.kn g14).kn g19
     replace okk:=(okk.kn g14).kn g19
     replace HG:=AA (AA HG g14) g19
     refine As (T:=23) (Z:=(bv AS)) Dj rfl rfl rfl (fun a w=>by kernel_rfl) fun a20 w20 AIO FL g20 z20 XC EL=>?_
     have QU:=Ar AG FL
     have QV:=Ar AJ FL
     have QW:=Ar AN FL
     have AB7:=Bq HG FL
     have U1:=Ax (hr.lt) FL
     have U2:=Ax (ho.lt) FL
     have U3:=Ax (hw.lt) FL
     have U4:=Ax (hb.lt) FL
     have Ss:=Ax (Own.ltS okk) FL
     refine Aa (v:=.int .i64 ((i:Int))) EL r6 fun a21 DY=>?_
     refine An DY r7 (Bn y.x y.h.1) XC (F5 y.h) fun w22 g22 h22=>?_
     replace AG:=Ab g22 (AC g20 AG) (Ne.symm QU)
     replace AJ:=Ab g22 (AC g20 AJ) (Ne.symm QV)
     replace hr:=(hr.kn g20).offR g22 (AU U1)
     replace XC:=h22
     refine AE ?_
     refine k18 _ _ ?_
     refine AIi fun K23 k23=>?_
     refine AIh ?_
     refine AL DY 8 [(20,Ao sa po (.slice vo ks.length vc_)),(21,AO y.x),(22,pt Bo),(23,.int .i64 ad),(24,.tuple #[AO kx.1,.int .i64 kx.2]),(19,.tuple #[AO kx.1,.int .i64 kx.2]),(25,AO kx.1),(26,.int .i64 kx.2)]
       ⟨yl r6 (BX hsa hpo (.slice vo ks.length vc_) rfl) AG,yl r6 (Bn y.x y.h.1) XC,yf r6 (fun _=>by kernel_rfl),yp (i:=0) r6 (Ff ad) AJ rfl rfl,Ad [Ao sa po (.slice vo ks.length vc_),AO y.x,.int .i64 ad] Tryz.func32 (by kernel_rfl) rq4 ⟨(oy rfl rfl),(oy rfl rfl),(oy rfl rfl),AIo⟩ (Aq fun W g=>ABw hsa hpo y.h (hr.kn g) hP hkx),ym r5,BH rq4 (fun _ _ h=>⟨_,_,h,rfl,rfl⟩),BH rq4 (fun _ _ h=>⟨_,_,h,rfl,rfl⟩),AIo⟩ fun a24 w24 g24 DZ=>?_
     replace AG:=AC g24 AG
     replace AJ:=AC g24 AJ
     replace AN:=AC g24 (Ab g22 (AC g20 AN) (Ne.symm QW))
     replace hr:=hr.kn g24
     replace ho:=((ho.kn g20).offR g22 (AU U2)).kn g24
     replace hw:=((hw.kn g20).offR g22 (AU U3)).kn g24
     replace hb:=((hb.kn g20).offR g22 (AU U4)).kn g24
     replace okk:=((okk.kn g20).offR g22 (AU Ss)).kn g24
     replace HG:=AA (AD (AA HG g20) g22 AB7) g24
     refine As (T:=23) (Z:=(bv AS)) DZ rfl rfl rfl (fun a w=>by kernel_rfl) fun a25 w25 AIP FM g25 z25 XD Cx=>?_
     have QX:=Ar AG FM
     have QY:=Ar AJ FM
     have QZ:=Ar AN FM
     have AB8:=Bq HG FM
     have U5:=Ax (hr.lt) FM
     have U6:=Ax (ho.lt) FM
     have U7:=Ax (hw.lt) FM
     have U8:=Ax (hb.lt) FM
     have Su:=Ax (Own.ltS okk) FM
     refine An Cx r7 (Bn kx.1 hkd.1) XD (F5 hkd) fun w26 g26 h26=>?_
     replace AG:=Ab g26 (AC g25 AG) (Ne.symm QX)
     replace AJ:=Ab g26 (AC g25 AJ) (Ne.symm QY)
     replace AN:=Ab g26 (AC g25 AN) (Ne.symm QZ)
     replace hr:=(hr.kn g25).offR g26 (AU U5)
     replace ho:=(ho.kn g25).offR g26 (AU U6)
     replace hw:=(hw.kn g25).offR g26 (AU U7)
     replace hb:=(hb.kn g25).offR g26 (AU U8)
     replace okk:=(okk.kn g25).offR g26 (AU Su)
     replace HG:=AD (AA HG g25) g26 AB8
     replace XD:=h26
     refine Aa (v:=.int .i64 kx.2) Cx r6 fun a27 IC=>?_
     have Jg:Sv _ _ [_,_,_,_,_,_,_,_,_,_,_,_,_,_,_,_,_,_] _:=IC.dl [20,21,22,23,24,19,25,26]
     refine AE ?_
     refine k23 _ _ ?_
     refine AIi fun K29 k29=>?_
     refine BB fun Q30 x30 y30 rt30 o30=>?_
     refine AIi fun K31 k31=>?_
     by_cases he:kx.2=0
     · have hkl1:=RQ hkl (by omega) hla hkx (hkd:=hkd)
       have hok1:∀j,j<i+1→(Ck P (KQ own j) ad).2=0:=fun j hj=>if e:j=i then (by rw[e,hla,hkx];exact he) else hok j (by omega)
       refine AIh ?_
       refine AL Jg 7 [(28,pk Bo 2),(29,.int .i64 0),(30,.bool false),(31,.bool false),(32,undef),(33,undef),(34,.bool false)]
        ⟨yf r6 (fun _=>by kernel_rfl),yp (i:=2) r6 (EA 0) AJ rfl rfl,Cm r6 (fun _=>CB rfl),ym r5,AX r6,AX r6,B6 r7,AIo⟩ fun a32 w32 g32 Bc=>?_
       refine Aa (v:=.bool false) Bc r6 fun a33 JN=>?_
       have JO:Sv _ _ [_,_,_,_,_,_,_,_,_,_,_,_,_,_,_,_,_,_,_] _:=JN.dl [28,29,30,31,32,33,34]
       refine AE ?_
       refine k31 _ _ ?_
       refine Au JO rfl rfl ?_
       refine AIi fun K35 k35=>?_
       refine AIh ?_
       refine AL JO 7 [(43,pk Bo 2),(44,.int .i64 0),(45,.bool true),(46,.bool true),(47,.int .i64 kx.2),(48,.bool false),(49,.bool false)]
        ⟨yf r6 (fun _=>by kernel_rfl),yp (i:=2) r6 (EA 0) (AC g32 AJ) rfl rfl,Cm r6 (fun _=>CB rfl),ym r5,Av rq8,BA rq9 (fun _=>Eb (by simpa using he)),A3 rq9,AIo⟩ fun a36 w36 g36 FQ=>?_
       have Oo:=AA g32 g36
       refine Aa (v:=.bool false) FQ r6 fun a37 F6=>?_
       have WX:Sv _ _ [_,_,_,_,_,_,_,_,_,_,_,_,_,_,_,_,_,_,_,_] _:=F6.dl [43,44,45,46,47,48,49]
       refine AE ?_
       refine k35 _ _ ?_
       refine Au WX rfl rfl ?_
       refine AIm ?_
       refine y30 _ _ ?_
       refine k29 _ _ ?_
       refine AIh ?_
       refine AL WX 2 [(51,.slice ko i kc),(52,AO kx.1)]
        ⟨ym r5,yl r6 (Bn kx.1 hkd.1) (AC Oo XD),AIo⟩ fun a39 w39 g39 Jh=>?_
       have Sw:=AA Oo g39
       refine MF (cs:=bv kx.1) (e:=23) Jh rfl rfl rfl rfl rfl rfl (Zy hkd) fun a40 w40 AH4 AGR g40 z40 AEB Ji=>?_
       replace AG:=AC g40 (AC Sw AG)
       replace AJ:=AC g40 (AC Sw AJ)
       replace AN:=AC g40 (AC Sw AN)
       replace hr:=(hr.kn Sw).kn g40
       replace ho:=(ho.kn Sw).kn g40
       replace hw:=(hw.kn Sw).kn g40
       replace hb:=(hb.kn Sw).kn g40
       replace okk:=(okk.kn Sw).kn g40
       replace HG:=AA (AA HG Sw) g40
       refine LM dsT Ji rfl rfl rfl rfl rfl rfl rfl rfl okk (KU AEB hkd) (Fj _) (by omega) fun a41 ao41 cap41 w41 owx41 CR JP=>?_
       have Qa:=JI CR.2 DM AG
       have Qb:=JI CR.2 DP AJ
       have Qc:=JI CR.2 CU AN
       have U9:=JJ CR.2 ap_hr_okk (hr.lt)
       have VC:=JJ CR.2 ap_ho_okk (ho.lt)
       have VF:=JJ CR.2 ap_hw_okk (hw.lt)
       have VG:=JJ CR.2 ap_hb_okk (hb.lt)
       have AB9:=WV CR.2 lo_okk HG
       replace AG:=AF CR.1 AG (fun e=>DM _ e.symm rfl)
       replace AJ:=AF CR.1 AJ (fun e=>DP _ e.symm rfl)
       replace AN:=AF CR.1 AN (fun e=>CU _ e.symm rfl)
       replace hr:=hr.offR CR.1 (fun k hk e=>ap_hr_okk k hk (e))
       replace ho:=ho.offR CR.1 (fun k hk e=>ap_ho_okk k hk (e))
       replace hw:=hw.offR CR.1 (fun k hk e=>ap_hw_okk k hk (e))
       replace hb:=hb.offR CR.1 (fun k hk e=>ap_hb_okk k hk (e))
       replace HG:=CJ HG CR.1 fun k e=>lo_okk k (e)
       rw[SU kl ⟨kx.1,hkd⟩] at owx41
       refine Aa (v:=.slice ao41 (i+1) cap41) JP r6 fun a42 Gi=>?_
       have Hf:Sv _ _ [_,_,_,_,_,_,_,_,_,_,_,_,_,_,_,_,_,_,_,_] _:=Gi.dl [54,53,51,52]
       refine AE ?_
       refine y17 _ _ ?_
       refine k16 _ _ ?_
       refine AIh ?_
       refine AL Hf 1 [(55,.int .i64 (((i+1:Nat):Int)))]
        ⟨Cm r6 (fun _=>C4 (by rw[A1 (by omega) (by omega)];omega)),AIo⟩ fun a44 w44 g44 Zo=>?_
       refine AL (Zo.dl [14]) 1 [(14,.int .i64 (((i+1:Nat):Int)))]
        ⟨ym r5,AIo⟩ fun a45 w45 g45 Ec=>?_
       have O0:=AA g44 g45
       refine AE ?_
       replace AG:=AC O0 AG
       replace AJ:=AC O0 AJ
       replace AN:=AC O0 AN
       replace hr:=hr.kn O0
       replace ho:=ho.kn O0
       replace hw:=hw.kn O0
       replace hb:=hb.kn O0
       replace owx41:=owx41.kn O0
       replace HG:=AA HG O0
       exact⟨⟨i+1,ao41,cap41,(kl++[⟨kx.1,hkd⟩]),by omega,hkl1,hok1,⟨Ec.1,Ec.2.1,Ec.2.2.1,Ec.2.2.2.2.1,(AK Ec).2.2.2.2.2.2.2.1,(AK (AK Ec)).1,(AK (AK Ec)).2.1,(AK (AK Ec)).2.2.1,(AK (AK Ec)).2.2.2.1,(AK (AK Ec)).2.2.2.2.1,(AK (AK Ec)).2.2.2.2.2.1,(AK (AK Ec)).2.2.2.2.2.2.1,AIo⟩,HG,AG,AJ,AN,hr,ho,hw,hb,owx41,Qa,Qb,Qc,U9,VC,VF,VG,AB9⟩,by rw[show _=_ from Ec.2.2.1,show _=_ from C6.2.2.1];simp[intOf];omega⟩
     · have hke:=KT (P:=P) (a:=ad) (own:=own) (i:=i) (by omega) hok (by rw[hla,hkx];exact he)
       rw[hla,hkx] at hke
       refine AIh ?_
       refine AL Jg 7 [(28,pk Bo 2),(29,.int .i64 0),(30,.bool false),(31,.bool false),(32,undef),(33,undef),(34,.bool false)]
        ⟨yf r6 (fun _=>by kernel_rfl),yp (i:=2) r6 (EA 0) AJ rfl rfl,Cm r6 (fun _=>CB rfl),ym r5,AX r6,AX r6,B6 r7,AIo⟩ fun a46 w46 g46 GM=>?_
       refine Aa (v:=.bool false) GM r6 fun a47 Jl=>?_
       have XE:Sv _ _ [_,_,_,_,_,_,_,_,_,_,_,_,_,_,_,_,_,_,_] _:=Jl.dl [28,29,30,31,32,33,34]
       refine AE ?_
       refine k31 _ _ ?_
       refine Au XE rfl rfl ?_
       refine AIi fun K49 k49=>?_
       refine AIh ?_
       refine AL XE 7 [(43,pk Bo 2),(44,.int .i64 0),(45,.bool true),(46,.bool true),(47,.int .i64 kx.2),(48,.bool true),(49,.bool true)]
        ⟨yf r6 (fun _=>by kernel_rfl),yp (i:=2) r6 (EA 0) (AC g46 AJ) rfl rfl,Cm r6 (fun _=>CB rfl),ym r5,Av rq8,BA rq9 (fun _=>Eb (by simpa using he)),A3 rq9,AIo⟩ fun a50 w50 g50 Ox=>?_
       have Sy:=AA g46 g50
       refine Aa (v:=.bool true) Ox r6 fun a51 CT=>?_
       have Nk:Sv _ _ [_,_,_,_,_,_,_,_,_,_,_,_,_,_,_,_,_,_,_,_] _:=CT.dl [43,44,45,46,47,48,49]
       refine AE ?_
       refine k49 _ _ ?_
       refine Ap Nk rfl rfl ?_
       refine AIi fun K53 k53=>?_
       refine AIh ?_
       replace AN:=AC Sy AN
       refine AL Nk 1 [(50,AO AS)]
        ⟨BI (vs:=[]) rfl rfl trivial trivial (fun _=>bD0 _) (fun _=>rfl),AIo⟩ fun a54 w54 g54 Nl=>?_
       refine An Nl r7 (Bn AS AR.1) (AC g54 AN) (F5 AR) fun w55 g55 h55=>?_
       replace AG:=Ak g54 g55 (AC Sy AG) (Ne.symm Aw)
       replace AJ:=Ak g54 g55 (AC Sy AJ) (Ne.symm A9)
       replace hr:=((hr.kn Sy).kn g54).offR g55 (AU Bb)
       replace ho:=((ho.kn Sy).kn g54).offR g55 (AU DT)
       replace hw:=((hw.kn Sy).kn g54).offR g55 (AU DU)
       replace hb:=((hb.kn Sy).kn g54).offR g55 (AU DA)
       replace okk:=((okk.kn Sy).kn g54).offR g55 (AU CU)
       replace HG:=AD (AA (AA HG Sy) g54) g55 Br
       replace AN:=h55
       refine Aa (v:=.bool false) Nl r6 fun a56 QG=>?_
       refine AE ?_
       refine k53 _ _ ?_
       refine AIl ?_
       repeat refine AM ?_
       refine rt30 _ _ ?_
       repeat refine AM ?_
       refine rt17 _ _ ?_
       repeat refine AM ?_
       refine rt11 _ _ ?_
       repeat refine AM ?_
       refine A8 (fn:=Tryz.f62) QG (FV (p:=4) (q:=5) Tryz.results62 QG rfl rfl rfl rfl (Bn AS AR.1) AN) ?_
       exact RecR.none (show IG P _=_ by unfold IG;rw[if_neg (show ¬(0:Int)=1 by decide),if_neg (by rw[hke];exact he)]) AR HG
   · obtain⟨hK1,hK2⟩:=Jt (P:=P) (a:=ad) (own:=own) fun j hj=>hok j (by omega)
     have hkm:kl.map DD.x=(Cb P ad own).1:=by rw[hK1,hkl,List.take_of_length_le (by omega)]
     refine AIh ?_
     refine AL C6 1 [(15,.bool false)]
       ⟨Hl r7 (fun _=>Ba (by simp;omega)),AIo⟩ fun a57 w57 g57 Wu=>?_
     refine AE ?_
     refine k13 _ _ ?_
     refine AIi fun K58 k58=>?_
     refine Au Wu rfl rfl ?_
     refine wp_exit ?_
     repeat refine CD ?_
     refine x11 _ _ ?_
     refine k8 _ _ ?_
     refine AIi fun K59 k59=>?_
     refine AIi fun K60 k60=>?_
     refine AIh ?_
     refine AL Wu 3 [(56,pk Bo 2),(57,.int .i64 0),(58,.bool false)]
       ⟨yf r6 (fun _=>by kernel_rfl),yp (i:=2) r6 (EA 0) (AC g57 AJ) rfl rfl,Cm r6 (fun _=>CB rfl),AIo⟩ fun a61 w61 g61 Mz=>?_
     have AHN:=AA g57 g61
     refine AE ?_
     refine k60 _ _ ?_
     refine Au Mz rfl rfl ?_
     refine AIm ?_
     refine k59 _ _ ?_
     refine AIi fun K62 k62=>?_
     refine AIh ?_
     refine AL Mz 3 [(60,pk Bo 2),(61,.int .i64 0),(62,.slice ko i kc)]
       ⟨yf r6 (fun _=>by kernel_rfl),yp (i:=2) r6 (EA 0) (AC AHN AJ) rfl rfl,ym r5,AIo⟩ fun a63 w63 g63 Z6=>?_
     have Sz:=AA AHN g63
     replace okk:=okk.kn Sz
     refine BU Z6 Tryz.func55 (by kernel_rfl) r6 (O4 (ABv (by have:=congrArg List.length hkl;simpa using this.trans (by rw[List.length_map,List.length_take];omega)) (Own.sb okk) (by omega) rfl)) fun a64 v64 w64 hR64 ACA=>?_
     obtain⟨rfl,g64⟩:=hR64
     replace AN:=AC g64 (AC Sz AN)
     refine An ACA r7 (Bn ((Ta (decide ((0:Int)=1)) (kl.map DD.x))) (M2 _ _).1) AN (F5 (M2 _ _)) fun w65 g65 h65=>?_
     replace AG:=Ab g65 (AC g64 (AC Sz AG)) (Ne.symm Aw)
     replace AJ:=Ab g65 (AC g64 (AC Sz AJ)) (Ne.symm A9)
     replace hr:=((hr.kn Sz).kn g64).offR g65 (AU Bb)
     replace ho:=((ho.kn Sz).kn g64).offR g65 (AU DT)
     replace hw:=((hw.kn Sz).kn g64).offR g65 (AU DU)
     replace hb:=((hb.kn Sz).kn g64).offR g65 (AU DA)
     replace okk:=(okk.kn g64).offR g65 (AU CU)
     replace HG:=AD (AA (AA HG Sz) g64) g65 Br
     replace AN:=h65
     refine Aa (v:=.bool true) ACA r6 fun a66 AF5=>?_
     have AEC:Sv _ _ [_,_,_,_,_,_,_,_,_,_,_,_,_,_,_] _:=AF5.dl [63,60,61,62]
     refine AE ?_
     refine k62 _ _ ?_
     refine AIl ?_
     repeat refine AM ?_
     refine A8 (fn:=Tryz.f62) AEC (FV (p:=4) (q:=5) Tryz.results62 AEC rfl rfl rfl rfl (Bn ((Ta (decide ((0:Int)=1)) (kl.map DD.x))) (M2 _ _).1) AN) ?_
     exact RecR.some (show IG P _=_ by unfold IG;rw[if_neg (show ¬(0:Int)=1 by decide),if_pos hK2,←hkm]) (M2 _ _) HG
 · refine AIh ?_
   refine AL sv7 4 [(11,pk Bo 1),(12,.slice ao od.length ac),(13,.int .i64 ((od.length:Nat))),(14,.int .i64 0)]
     ⟨yf r6 (fun _=>by kernel_rfl),yp (i:=1) r6 (Kj (.slice ao od.length ac) rfl) AJ rfl rfl,Bk (Tryz.underlying28) rfl rfl trivial (oy rfl rfl) (fun _=>rfl),EI (.inl rfl) rfl trivial (fun _=>rfl),AIo⟩ fun a68 w68 g68 MJ=>?_
   refine AE ?_
   refine k9 _ _ ?_
   refine BB fun Q69 x69 y69 rt69 o69=>?_
   replace AG:=AC g68 AG
   replace AJ:=AC g68 AJ
   replace AN:=AC g68 AN
   replace hr:=hr.kn g68
   replace ho:=ho.kn g68
   replace hw:=hw.kn g68
   replace hb:=hb.kn g68
   replace HG:=AA HG g68
   have okk:=Own.nil w68 23 32
   have DM:=JK CC
   have DP:=JK Bo
   have CU:=JK Eh
   have ap_hr_okk:=JL (Je (.slice vo ks.length vc_) ks)
   have ap_ho_okk:=JL (BO (.slice ao od.length ac))
   have ap_hw_okk:=JL (BO (.slice wo wd.length wc))
   have ap_hb_okk:=JL (BO (.slice bo body.length bc))
   have lo_okk:=ZU w
   refine wp_loop (fun a w'=>∃(i:Nat) (ko:Option Addr) (kc:Nat) (kl:List DD),(i≤od.length)∧(kl.length=i)∧(∀j,j<i→(Ck P (KQ own j) ad).2≠0)∧Sv 64 [] [(14,.int .i64 ((i:Int))),(6,.slice ko i kc),(11,pk Bo 1),(12,.slice ao od.length ac),(13,.int .i64 ((od.length:Nat))),(4,pt Eh),(3,pt Bo),(2,pt CC),(0,Ao sa po (.slice vo ks.length vc_)),(1,CP ad (.slice ao od.length ac) 1 (.slice wo wd.length wc) (.slice bo body.length bc) tg)] a∧w.grownBy w' none∧w'.heap[CC]?=some (.cells ([bv sa,bv po,[.slice vo ks.length vc_]].flatten).toArray 36 (0,0))∧w'.heap[Bo]?=some (.cells ([[.int .i64 ad],[.slice ao od.length ac],[.int .i64 1],[.slice wo wd.length wc],[.slice bo body.length bc],bv tg].flatten).toArray 31 (0,0))∧w'.heap[Eh]?=some (.cells ((bv AS)).toArray 23 (0,0))∧RdK w' (.slice vo ks.length vc_) ks∧RdD w' (.slice ao od.length ac) od∧RdD w' (.slice wo wd.length wc) wd∧SlB w' 1 (.slice bo body.length bc) body.length (bv body)∧Own w' 23 32 (.slice ko i kc) i (kl.flatMap Jo)∧(∀k,BO (.slice ko i kc) k→k≠CC)∧(∀k,BO (.slice ko i kc) k→k≠Bo)∧(∀k,BO (.slice ko i kc) k→k≠Eh)∧(∀k,Je (.slice vo ks.length vc_) ks k→¬BO (.slice ko i kc) k)∧(∀k,BO (.slice ao od.length ac) k→¬BO (.slice ko i kc) k)∧(∀k,BO (.slice wo wd.length wc) k→¬BO (.slice ko i kc) k)∧(∀k,BO (.slice bo body.length bc) k→¬BO (.slice ko i kc) k)∧(∀k,BO (.slice ko i kc) k→w.heap.size≤k)) (fun a _=>(od.length-intOf (a.tmps.getD 14 undef)).toNat) ⟨0,none,0,[],Nat.zero_le _,rfl,fun j hj=>by omega,⟨MJ.1,MJ.2.1,MJ.2.2.2.2.2.1,MJ.2.2.2.2.2.2.1,MJ.2.2.1,MJ.2.2.2.1,MJ.2.2.2.2.1,(AK MJ).1,(AK MJ).2.1,(AK MJ).2.2.1,(AK MJ).2.2.2.1,(AK MJ).2.2.2.2.1,AIo⟩,HG,AG,AJ,AN,hr,ho,hw,hb,okk,DM,DP,CU,ap_hr_okk,ap_ho_okk,ap_hw_okk,ap_hb_okk,lo_okk⟩ fun a70 w70 hI70=>?_
   clear AG
   clear AJ
   clear AN
   clear hr
   clear ho
   clear hw
   clear hb
   clear okk
   clear HG
   obtain⟨i,ko,kc,kl,hin,hkll,hno,XF,HG,AG,AJ,AN,hr,ho,hw,hb,okk,DM,DP,CU,ap_hr_okk,ap_ho_okk,ap_hw_okk,ap_hb_okk,lo_okk⟩:=hI70
   refine AIi fun K71 k71=>?_
   by_cases hi:i<od.length
   · obtain⟨y,hx_y⟩:∃zx,od[i]'hi=zx:=⟨_,rfl⟩
     have hla:KQ own i=y.x:=by rw[←hown,KR hi,hx_y]
     obtain⟨kx,hkx⟩:∃q,Ck P y.x ad=q:=⟨_,rfl⟩
     have hkd:Dg kx.1:=hkx▸PB hnok
     refine AIh ?_
     refine AL XF 1 [(15,.bool true)]
       ⟨Hl r7 (fun _=>Ba (by simp;omega)),AIo⟩ fun a72 w72 g72 AD3=>?_
     refine AE ?_
     refine k71 _ _ ?_
     refine AIi fun K73 k73=>?_
     refine Ap AD3 rfl rfl ?_
     refine AIm ?_
     refine k73 _ _ ?_
     refine AIi fun K74 k74=>?_
     refine BB fun Q75 x75 y75 rt75 o75=>?_
     refine AIi fun K76 k76=>?_
     refine AIh ?_
     replace ho:=ho.kn g72
     refine AL AD3 3 [(16,.int .i64 ((i:Int))),(17,pk ((bO ao)) (oO ao+i*32)),(18,AO y.x)]
       ⟨ym r5,BD rq8 (fun w=>CM Tryz.underlying28 (by kernel_rfl) (ho.1) (by omega) (rfl) w),Bv r6 (fun _ g=>Ae (Bn y.x y.h.1) (by have:=Cz (ho.kn g).1 Fe hi (by decide);rw[hx_y] at this;exact this)),AIo⟩ fun a77 w77 g77 AF6=>?_
     replace AG:=AC g77 (AC g72 AG)
     replace AJ:=AC g77 (AC g72 AJ)
     replace AN:=AC g77 (AC g72 AN)
     replace hr:=(hr.kn g72).kn g77
     replace ho:=ho.kn g77
     replace hw:=(hw.kn g72).kn g77
     replace hb:=(hb.kn g72).kn g77
     replace okk:=(okk.kn g72).kn g77
     replace HG:=AA (AA HG g72) g77
     refine As (T:=23) (Z:=(bv AS)) AF6 rfl rfl rfl (fun a w=>by kernel_rfl) fun a78 w78 AIQ FN g78 z78 XG AF7=>?_
     have Qd:=Ar AG FN
     have Qe:=Ar AJ FN
     have Qf:=Ar AN FN
     have ACB:=Bq HG FN
     have VH:=Ax (hr.lt) FN
     have VJ:=Ax (ho.lt) FN
     have VL:=Ax (hw.lt) FN
     have VM:=Ax (hb.lt) FN
     have S4:=Ax (Own.ltS okk) FN
     refine Aa (v:=.int .i64 ((i:Int))) AF7 r6 fun a79 QL=>?_
     refine An QL r7 (Bn y.x y.h.1) XG (F5 y.h) fun w80 g80 h80=>?_
     replace AG:=Ab g80 (AC g78 AG) (Ne.symm Qd)
     replace AJ:=Ab g80 (AC g78 AJ) (Ne.symm Qe)
     replace hr:=(hr.kn g78).offR g80 (AU VH)
     replace XG:=h80
     refine AE ?_
     refine k76 _ _ ?_
     refine AIi fun K81 k81=>?_
     refine AIh ?_
     refine AL QL 8 [(20,Ao sa po (.slice vo ks.length vc_)),(21,AO y.x),(22,pt Bo),(23,.int .i64 ad),(24,.tuple #[AO kx.1,.int .i64 kx.2]),(19,.tuple #[AO kx.1,.int .i64 kx.2]),(25,AO kx.1),(26,.int .i64 kx.2)]
       ⟨yl r6 (BX hsa hpo (.slice vo ks.length vc_) rfl) AG,yl r6 (Bn y.x y.h.1) XG,yf r6 (fun _=>by kernel_rfl),yp (i:=0) r6 (Ff ad) AJ rfl rfl,Ad [Ao sa po (.slice vo ks.length vc_),AO y.x,.int .i64 ad] Tryz.func32 (by kernel_rfl) rq4 ⟨(oy rfl rfl),(oy rfl rfl),(oy rfl rfl),AIo⟩ (Aq fun W g=>ABw hsa hpo y.h (hr.kn g) hP hkx),ym r5,BH rq4 (fun _ _ h=>⟨_,_,h,rfl,rfl⟩),BH rq4 (fun _ _ h=>⟨_,_,h,rfl,rfl⟩),AIo⟩ fun a82 w82 g82 Z9=>?_
     replace AG:=AC g82 AG
     replace AJ:=AC g82 AJ
     replace AN:=AC g82 (Ab g80 (AC g78 AN) (Ne.symm Qf))
     replace hr:=hr.kn g82
     replace ho:=((ho.kn g78).offR g80 (AU VJ)).kn g82
     replace hw:=((hw.kn g78).offR g80 (AU VL)).kn g82
     replace hb:=((hb.kn g78).offR g80 (AU VM)).kn g82
     replace okk:=((okk.kn g78).offR g80 (AU S4)).kn g82
     replace HG:=AA (AD (AA HG g78) g80 ACB) g82
     refine As (T:=23) (Z:=(bv AS)) Z9 rfl rfl rfl (fun a w=>by kernel_rfl) fun a83 w83 AIR FO g83 z83 Jv AD6=>?_
     have Qg:=Ar AG FO
     have Qh:=Ar AJ FO
     have Ko:=Ar AN FO
     have ACC:=Bq HG FO
     have VN:=Ax (hr.lt) FO
     have VO:=Ax (ho.lt) FO
     have VQ:=Ax (hw.lt) FO
     have VR:=Ax (hb.lt) FO
     have S5:=Ax (Own.ltS okk) FO
     refine An AD6 r7 (Bn kx.1 hkd.1) Jv (F5 hkd) fun w84 g84 h84=>?_
     replace AG:=Ab g84 (AC g83 AG) (Ne.symm Qg)
     replace AJ:=Ab g84 (AC g83 AJ) (Ne.symm Qh)
     replace AN:=Ab g84 (AC g83 AN) (Ne.symm Ko)
     replace hr:=(hr.kn g83).offR g84 (AU VN)
     replace ho:=(ho.kn g83).offR g84 (AU VO)
     replace hw:=(hw.kn g83).offR g84 (AU VQ)
     replace hb:=(hb.kn g83).offR g84 (AU VR)
     replace okk:=(okk.kn g83).offR g84 (AU S5)
     replace HG:=AD (AA HG g83) g84 ACC
     replace Jv:=h84
     refine Aa (v:=.int .i64 kx.2) AD6 r6 fun a85 AF0=>?_
     have EB:Sv _ _ [_,_,_,_,_,_,_,_,_,_,_,_,_,_,_,_,_,_] _:=AF0.dl [20,21,22,23,24,19,25,26]
     refine AE ?_
     refine k81 _ _ ?_
     refine AIi fun K87 k87=>?_
     refine BB fun Q88 x88 y88 rt88 o88=>?_
     refine AIi fun K89 k89=>?_
     by_cases he:kx.2=0
     · have hiw:i<wd.length:=by have:=hwl rfl;omega
       obtain⟨wx,hx_wx⟩:∃zx,wd[i]'hiw=zx:=⟨_,rfl⟩
       have hhit:=PS (P:=P) (a:=ad) (own:=own) (wr:=wd.map DD.x) (i:=i) (by omega) hno (by rw[hla,hkx];exact he)
       rw[hla,hkx,KR hiw,hx_wx] at hhit
       refine AIh ?_
       refine AL EB 7 [(28,pk Bo 2),(29,.int .i64 1),(30,.bool true),(31,.bool true),(32,.int .i64 kx.2),(33,.bool true),(34,.bool true)]
        ⟨yf r6 (fun _=>by kernel_rfl),yp (i:=2) r6 (EA 1) AJ rfl rfl,Cm r6 (fun _=>CB rfl),ym r5,Av rq8,BA rq9 (fun _=>CB (by simpa using he)),A3 rq9,AIo⟩ fun a90 w90 g90 AH5=>?_
       refine Aa (v:=.bool true) AH5 r6 fun a91 AH6=>?_
       have ABz:Sv _ _ [_,_,_,_,_,_,_,_,_,_,_,_,_,_,_,_,_,_,_] _:=AH6.dl [28,29,30,31,32,33,34]
       refine AE ?_
       refine k89 _ _ ?_
       refine Ap ABz rfl rfl ?_
       refine AIi fun K93 k93=>?_
       replace AJ:=AC g90 AJ
       replace AN:=AC g90 AN
       replace Jv:=AC g90 Jv
       replace hw:=hw.kn g90
       refine DB (ABz.st w90) (by kernel_rfl) 7 [(35,Sp.is (pk Bo 3)),(36,Sp.is (.slice wo wd.length wc)),(37,Sp.is (.int .i64 ((i:Int)))),(38,Sp.is (pk ((bO wo)) (oO wo+i*32))),(39,Sp.is (AO wx.x)),(40,Sp.is (AO kx.1)),(41,Sp.is (AO ((Me wx.x kx.1))))] rfl (by kernel_rfl) (by kernel_rfl) (by kernel_rfl) [] (by kernel_rfl)
        ⟨yf r6 (fun _=>by kernel_rfl),yp (i:=3) r6 (Kj (.slice wo wd.length wc) rfl) AJ rfl rfl,ym r5,BD rq8 (fun w=>CM Tryz.underlying28 (by kernel_rfl) (hw.1) (by omega) (rfl) w),Bv r6 (fun _ g=>Ae (Bn wx.x wx.h.1) (by have:=Cz (hw.kn g).1 Fe hiw (by decide);rw[hx_wx] at this;exact this)),yl r6 (Bn kx.1 hkd.1) Jv,Ad [AO wx.x,AO kx.1] Tryz.func56 (by kernel_rfl) rq4 ⟨(oy rfl rfl),(oy rfl rfl),AIo⟩ (Aq fun W g=>ME wx.x kx.1 wx.h hkd W),AIo⟩ trivial
        [] (by kernel_rfl) trivial ⟨.inl rfl,.inl rfl,.inl rfl,.inl rfl,.inl rfl,.inl rfl,.inl rfl,AIo⟩ (by kernel_rfl) fun a94 w94 g94 st94 nd94=>?_
       obtain⟨hn94,hd94,e94_35,e94_36,e94_37,e94_38,e94_39,e94_40,e94_41,e94_27,e94_10,e94_9,e94_7,e94_8,e94_16,e94_17,e94_18,e94_15,e94_14,e94_6,e94_11,e94_12,e94_13,e94_4,e94_3,e94_2,e94_0,e94_1,-⟩:=st94
       have AHO:Sv 64 [] [(27,_),(10,_),(9,_),(7,_),(8,_),(16,_),(17,_),(18,_),(15,_),(14,_),(6,_),(11,_),(12,_),(13,_),(4,_),(3,_),(2,_),(0,_),(1,_),(41,_)] a94:=⟨hn94,hd94,e94_27,e94_10,e94_9,e94_7,e94_8,e94_16,e94_17,e94_18,e94_15,e94_14,e94_6,e94_11,e94_12,e94_13,e94_4,e94_3,e94_2,e94_0,e94_1,e94_41,AIo⟩
       refine An AHO r7 (Bn ((Me wx.x kx.1)) (LU wx.h hkd).1) (AC g94 AN) (F5 (LU wx.h hkd)) fun w95 g95 h95=>?_
       replace AG:=Ak g94 g95 (AC g90 AG) (Ne.symm Aw)
       replace AJ:=Ak g94 g95 AJ (Ne.symm A9)
       replace Jv:=Ak g94 g95 Jv Ko
       replace hr:=((hr.kn g90).kn g94).offR g95 (AU Bb)
       replace ho:=((ho.kn g90).kn g94).offR g95 (AU DT)
       replace hw:=(hw.kn g94).offR g95 (AU DU)
       replace hb:=((hb.kn g90).kn g94).offR g95 (AU DA)
       replace okk:=((okk.kn g90).kn g94).offR g95 (AU CU)
       replace HG:=AD (AA (AA HG g90) g94) g95 Br
       replace AN:=h95
       refine Aa (v:=.bool true) AHO r6 fun a96 AD8=>?_
       refine AE ?_
       refine k93 _ _ ?_
       refine AIl ?_
       repeat refine AM ?_
       refine rt88 _ _ ?_
       repeat refine AM ?_
       refine rt75 _ _ ?_
       repeat refine AM ?_
       refine rt69 _ _ ?_
       repeat refine AM ?_
       refine A8 (fn:=Tryz.f62) AD8 (FV (p:=4) (q:=5) Tryz.results62 AD8 rfl rfl rfl rfl (Bn ((Me wx.x kx.1)) (LU wx.h hkd).1) AN) ?_
       exact RecR.some (show IG P _=_ by unfold IG;rw[if_pos rfl];exact hhit) (LU wx.h hkd) HG
     · have hno1:∀j,j<i+1→(Ck P (KQ own j) ad).2≠0:=fun j hj=>if e:j=i then (by rw[e,hla,hkx];exact he) else hno j (by omega)
       refine AIh ?_
       refine AL EB 7 [(28,pk Bo 2),(29,.int .i64 1),(30,.bool true),(31,.bool true),(32,.int .i64 kx.2),(33,.bool false),(34,.bool false)]
        ⟨yf r6 (fun _=>by kernel_rfl),yp (i:=2) r6 (EA 1) AJ rfl rfl,Cm r6 (fun _=>CB rfl),ym r5,Av rq8,BA rq9 (fun _=>CB (by simpa using he)),A3 rq9,AIo⟩ fun a97 w97 g97 AB0=>?_
       refine Aa (v:=.bool false) AB0 r6 fun a98 AH7=>?_
       have AHP:Sv _ _ [_,_,_,_,_,_,_,_,_,_,_,_,_,_,_,_,_,_,_] _:=AH7.dl [28,29,30,31,32,33,34]
       refine AE ?_
       refine k89 _ _ ?_
       refine Au AHP rfl rfl ?_
       refine AIi fun K100 k100=>?_
       refine AIh ?_
       refine AL AHP 7 [(43,pk Bo 2),(44,.int .i64 1),(45,.bool false),(46,.bool false),(47,undef),(48,undef),(49,.bool false)]
        ⟨yf r6 (fun _=>by kernel_rfl),yp (i:=2) r6 (EA 1) (AC g97 AJ) rfl rfl,Cm r6 (fun _=>CB rfl),ym r5,AX r6,AX r6,B6 r7,AIo⟩ fun a101 w101 g101 YS=>?_
       have AEw:=AA g97 g101
       refine Aa (v:=.bool false) YS r6 fun a102 AHQ=>?_
       have YT:Sv _ _ [_,_,_,_,_,_,_,_,_,_,_,_,_,_,_,_,_,_,_,_] _:=AHQ.dl [43,44,45,46,47,48,49]
       refine AE ?_
       refine k100 _ _ ?_
       refine Au YT rfl rfl ?_
       refine AIm ?_
       refine y88 _ _ ?_
       refine k87 _ _ ?_
       refine AIh ?_
       refine AL YT 2 [(51,.slice ko i kc),(52,AO kx.1)]
        ⟨ym r5,yl r6 (Bn kx.1 hkd.1) (AC AEw Jv),AIo⟩ fun a104 w104 g104 AB1=>?_
       have MS:=AA AEw g104
       refine MF (cs:=bv kx.1) (e:=23) AB1 rfl rfl rfl rfl rfl rfl (Zy hkd) fun a105 w105 AHi AF8 g105 z105 ACD YU=>?_
       replace AG:=AC g105 (AC MS AG)
       replace AJ:=AC g105 (AC MS AJ)
       replace AN:=AC g105 (AC MS AN)
       replace hr:=(hr.kn MS).kn g105
       replace ho:=(ho.kn MS).kn g105
       replace hw:=(hw.kn MS).kn g105
       replace hb:=(hb.kn MS).kn g105
       replace okk:=(okk.kn MS).kn g105
       replace HG:=AA (AA HG MS) g105
       refine LM dsT YU rfl rfl rfl rfl rfl rfl rfl rfl okk (KU ACD hkd) (Fj _) (by omega) fun a106 ao106 cap106 w106 owx106 CR AHR=>?_
       have PT:=JI CR.2 DM AG
       have PU:=JI CR.2 DP AJ
       have PW:=JI CR.2 CU AN
       have S6:=JJ CR.2 ap_hr_okk (hr.lt)
       have S7:=JJ CR.2 ap_ho_okk (ho.lt)
       have S9:=JJ CR.2 ap_hw_okk (hw.lt)
       have TA:=JJ CR.2 ap_hb_okk (hb.lt)
       have AAE:=WV CR.2 lo_okk HG
       replace AG:=AF CR.1 AG (fun e=>DM _ e.symm rfl)
       replace AJ:=AF CR.1 AJ (fun e=>DP _ e.symm rfl)
       replace AN:=AF CR.1 AN (fun e=>CU _ e.symm rfl)
       replace hr:=hr.offR CR.1 (fun k hk e=>ap_hr_okk k hk (e))
       replace ho:=ho.offR CR.1 (fun k hk e=>ap_ho_okk k hk (e))
       replace hw:=hw.offR CR.1 (fun k hk e=>ap_hw_okk k hk (e))
       replace hb:=hb.offR CR.1 (fun k hk e=>ap_hb_okk k hk (e))
       replace HG:=CJ HG CR.1 fun k e=>lo_okk k (e)
       rw[SU kl ⟨kx.1,hkd⟩] at owx106
       refine Aa (v:=.slice ao106 (i+1) cap106) AHR r6 fun a107 AB2=>?_
       have AHS:Sv _ _ [_,_,_,_,_,_,_,_,_,_,_,_,_,_,_,_,_,_,_,_] _:=AB2.dl [54,53,51,52]
       refine AE ?_
       refine y75 _ _ ?_
       refine k74 _ _ ?_
       refine AIh ?_
       refine AL AHS 1 [(55,.int .i64 (((i+1:Nat):Int)))]
        ⟨Cm r6 (fun _=>C4 (by rw[A1 (by omega) (by omega)];omega)),AIo⟩ fun a109 w109 g109 AB3=>?_
       refine AL (AB3.dl [14]) 1 [(14,.int .i64 (((i+1:Nat):Int)))]
        ⟨ym r5,AIo⟩ fun a110 w110 g110 HH=>?_
       have MT:=AA g109 g110
       refine AE ?_
       replace AG:=AC MT AG
       replace AJ:=AC MT AJ
       replace AN:=AC MT AN
       replace hr:=hr.kn MT
       replace ho:=ho.kn MT
       replace hw:=hw.kn MT
       replace hb:=hb.kn MT
       replace owx106:=owx106.kn MT
       replace HG:=AA HG MT
       exact⟨⟨i+1,ao106,cap106,(kl++[⟨kx.1,hkd⟩]),by omega,by rw[List.length_append];simp;omega,hno1,⟨HH.1,HH.2.1,HH.2.2.1,HH.2.2.2.2.1,(AK HH).2.2.2.2.2.2.2.1,(AK (AK HH)).1,(AK (AK HH)).2.1,(AK (AK HH)).2.2.1,(AK (AK HH)).2.2.2.1,(AK (AK HH)).2.2.2.2.1,(AK (AK HH)).2.2.2.2.2.1,(AK (AK HH)).2.2.2.2.2.2.1,AIo⟩,HG,AG,AJ,AN,hr,ho,hw,hb,owx106,PT,PU,PW,S6,S7,S9,TA,AAE⟩,by rw[show _=_ from HH.2.2.1,show _=_ from XF.2.2.1];simp[intOf];omega⟩
   · have hnone:=NA (P:=P) (a:=ad) (own:=own) (wr:=wd.map DD.x) fun j hj=>hno j (by omega)
     refine AIh ?_
     refine AL XF 1 [(15,.bool false)]
       ⟨Hl r7 (fun _=>Ba (by simp;omega)),AIo⟩ fun a111 w111 g111 YV=>?_
     refine AE ?_
     refine k71 _ _ ?_
     refine AIi fun K112 k112=>?_
     refine Au YV rfl rfl ?_
     refine wp_exit ?_
     repeat refine CD ?_
     refine x69 _ _ ?_
     refine k8 _ _ ?_
     refine AIi fun K113 k113=>?_
     refine AIi fun K114 k114=>?_
     refine AIh ?_
     refine AL YV 3 [(56,pk Bo 2),(57,.int .i64 1),(58,.bool true)]
       ⟨yf r6 (fun _=>by kernel_rfl),yp (i:=2) r6 (EA 1) (AC g111 AJ) rfl rfl,Cm r6 (fun _=>CB rfl),AIo⟩ fun a115 w115 g115 PN=>?_
     have ACE:=AA g111 g115
     refine AE ?_
     refine k114 _ _ ?_
     refine Ap PN rfl rfl ?_
     refine AIi fun K116 k116=>?_
     refine AIh ?_
     replace AN:=AC ACE AN
     refine AL PN 1 [(59,AO AS)]
       ⟨BI (vs:=[]) rfl rfl trivial trivial (fun _=>bD0 _) (fun _=>rfl),AIo⟩ fun a117 w117 g117 AEx=>?_
     refine An AEx r7 (Bn AS AR.1) (AC g117 AN) (F5 AR) fun w118 g118 h118=>?_
     replace okk:=((okk.kn ACE).kn g117).offR g118 (AU CU)
     replace HG:=AD (AA (AA HG ACE) g117) g118 Br
     replace AN:=h118
     refine Aa (v:=.bool false) AEx r6 fun a119 AEy=>?_
     refine AE ?_
     refine k116 _ _ ?_
     refine AIl ?_
     repeat refine AM ?_
     refine A8 (fn:=Tryz.f62) AEy (FV (p:=4) (q:=5) Tryz.results62 AEy rfl rfl rfl rfl (Bn AS AR.1) AN) ?_
     exact RecR.none (show IG P _=_ by unfold IG;rw[if_pos rfl];exact hnone) AR HG
end Go.Proofs.YtbfjfnbcmojpiaaGreat
