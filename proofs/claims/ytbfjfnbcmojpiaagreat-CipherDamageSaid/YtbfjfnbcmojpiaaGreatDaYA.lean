import Derived.Test.YtbfjfnbcmojpiaaGreatDaY9
import Derived.Test.YtbfjfnbcmojpiaaGreatDaRT
set_option linter.unusedSimpArgs false
set_option linter.unusedVariables false
set_option maxRecDepth 100000
set_option maxHeartbeats 4000000
namespace Go.Proofs.YtbfjfnbcmojpiaaGreat
open Go.RowKit Go.Shelf
theorem ABD {P:Program} {ops:Array Oper} {L:Nat→Sp} {n:Nat} {w0:World} {o:Oper} {ty:TypeId} {x:Operand} {k d:Nat} {p v:Value} (ho:o.op=.fieldAddr ty x k) (hd:o.dst=some d) (hg:GX ops L n o.guard) (hx:OpX L n x p) (hrun:∀w,(Instr.fieldAt ty p k).run P w=.ok v w) (h:∀w,(L d).on w v):PX P ops L n w0 o:=
 SN hg fun a w hw hl hsz=>⟨v,fun w'=>by
  have e1:=hx.eval (o:=o) (by simp[ho,Op.operands]) hl
  simp only[execOp,ho,e1,Sem.run_bind,Sem.run_pure,Result.andThen_ok,hrun w'],Da hd (h w)⟩
def LC (b:List Nat):V×Int:=match pV b with
 | .ok (x,[])=>(x,0)
 | _=>(V.nul,101)
theorem AEp {b:List Nat} {x:V} (h:pV b=.ok (x,[])):LC b=(x,0):=by unfold LC;rw[h]
theorem AGF {b r:List Nat} {x:V} (h:pV b=.ok (x,r)) (hr:0<r.length):LC b=(V.nul,101):=by
 unfold LC
 rw[h]
 cases r with
 | nil=>simp at hr
 | cons c r=>rfl
theorem AIG {b:List Nat} {e:Nat} (h:pV b=.error e):LC b=(V.nul,101):=by unfold LC;rw[h]
def ADf (P:List VP) (a:Int):List (List Nat)→List (List Nat)→Option (List Nat)
 | [],_=>none
 | o::own,wr=>if (DI P o a).2=0 then some (Mg (Lf wr 0) (DI P o a).1) else ADf P a own wr.tail
theorem P9 {P:List VP} {a:Int}:∀{own wr:List (List Nat)},(∀j,j<own.length→(DI P (Lf own j) a).2≠0)→ADf P a own wr=none
 | [],_,_=>rfl
 | o::own,wr,h=>by
  have h0:(DI P o a).2≠0:=h 0 (by simp)
  unfold ADf
  rw[if_neg h0]
  exact P9 fun j hj=>h (j+1) (by simpa using hj)
theorem PS {P:List VP} {a:Int}:∀{own wr:List (List Nat)} {i:Nat},i<own.length→(∀j,j<i→(DI P (Lf own j) a).2≠0)→(DI P (Lf own i) a).2=0→ADf P a own wr=some (Mg (Lf wr i) (DI P (Lf own i) a).1)
 | [],_,_,hi,_,_=>by simp at hi
 | o::own,wr,0,_,_,h=>by
  have h0:(DI P o a).2=0:=h
  unfold ADf
  rw[if_pos h0]
  rfl
 | o::own,wr,i+1,hi,hj,h=>by
  have h0:(DI P o a).2≠0:=hj 0 (by omega)
  have:=PS (own:=own) (wr:=wr.tail) (i:=i) (by simpa using hi) (fun j hjj=>hj (j+1) (by omega)) h
  unfold ADf
  rw[if_neg h0,this]
  cases wr<;>rfl
def Ga (P:List VP) (s:Sd):Option (List Nat):=if s.joint=1 then ADf P s.addr s.own s.wr else if (Df P s.addr s.own).2=0 then some (Qx (decide ((0:Int)=1)) (Df P s.addr s.own).1) else none
def Fl (P:List VP) (s:Sd):V×Int:=
 if Ed s&&Co P then
  (if s.own=[] then (if Nt s.addr s.body=s.tag then LC s.body else (V.nul,101))
  else match Ga P s with
   | none=>(V.nul,10)
   | some c=>if MI c s.addr s.body=s.tag then LC (Fj s.body c) else (V.nul,101))
 else (V.nul,1)
theorem Yb {s:Sd} (h:Ed s=true):hd s.own s.joint s.addr=true:=by
 unfold Ed at h
 simp only[Bool.and_eq_true] at h
 exact h.1.1
theorem AIH {s:Sd} (h:Ed s=true):s.body.length≤64:=by
 unfold Ed at h
 simp only[Bool.and_eq_true,decide_eq_true_eq] at h
 exact h.1.2
theorem AII {s:Sd} (h:Ed s=true) (hj:s.joint=1):s.wr.length=s.own.length:=by
 unfold Ed at h
 rw[if_pos hj] at h
 simp only[Bool.and_eq_true,decide_eq_true_eq] at h
 exact h.2
def RecR (w w':World) (r:Option (List Nat)) (e:Ending):Prop:=∃c,e=.returned (.tuple #[AQ c,.bool r.isSome])∧Dg c∧(∀c',r=some c'→c'=c)∧w.grownBy w' none
theorem RecR.some {w w':World} {r:Option (List Nat)} {c:List Nat} (h:r=some c) (hc:Dg c) (g:w.grownBy w' none):RecR w w' r (.returned (.tuple #[AQ c,.bool true])):=by
 subst h
 exact⟨c,rfl,hc,fun c' h=>(Option.some.inj h).symm,g⟩
theorem RecR.none {w w':World} {r:Option (List Nat)} {c:List Nat} (h:r=none) (hc:Dg c) (g:w.grownBy w' none):RecR w w' r (.returned (.tuple #[AQ c,.bool false])):=by
 subst h
 exact⟨c,rfl,hc,fun c' h=>(by cases h),g⟩
theorem ADg (ks:List VK) (vo:Option Addr) (vc_:Nat) (sa po:List Nat) (hsa:Dg sa) (hpo:Dg po) (ad joint:Int) (od wd:List DD) (ao wo bo:Option Addr) (ac wc bc:Nat) (body tg:List Nat) (htg:Dg tg) (w:World) (hr:RdK w (.slice vo ks.length vc_) ks) (ho:RdD w (.slice ao od.length ac) od) (hw:RdD w (.slice wo wd.length wc) wd) (hb:SlB w 1 (.slice bo body.length bc) body.length (bv body)) (hvs:Ed ⟨ad,od.map DD.x,joint,wd.map DD.x,body,tg⟩=true) :
   Calls Tryz.prog 62 #[Ay sa po (.slice vo ks.length vc_),Bv ad (.slice ao od.length ac) joint (.slice wo wd.length wc) (.slice bo body.length bc) tg] w fun e w'=>RecR w w' (Ga (ks.map VK.p) ⟨ad,od.map DD.x,joint,wd.map DD.x,body,tg⟩) e:=by
 obtain⟨P,hP⟩:∃P,ks.map VK.p=P:=⟨_,rfl⟩
 obtain⟨own,hown⟩:∃own,od.map DD.x=own:=⟨_,rfl⟩
 have hownl:own.length=od.length:=by rw[←hown,List.length_map]
 have hnok:=hr.noks2
 rw[hP] at hnok
 rw[hP,hown]
 obtain⟨haa,hjj,hol,_⟩:=Sz (Yb hvs)
 have hol:own.length≤16:=by rw[←hown];exact hol
 have hwl:joint=1→wd.length=od.length:=fun h=>by have:=AII hvs h;simpa using this
 refine BV Tryz.func62 rfl Tryz.ntmps62 rfl fun a0 sv0=>?_
 have HG:=World.grownBy.refl w none
 replace sv0:Sv 64 [] [(0,Ay sa po (.slice vo ks.length vc_)),(1,Bv ad (.slice ao od.length ac) joint (.slice wo wd.length wc) (.slice bo body.length bc) tg)] a0:=sv0
 refine AOQ fun K1 k1=>?_
 refine AOP ?_
 refine Bi sv0 r6 (B6 hsa hpo (.slice vo ks.length vc_) rfl) fun a2 w2 Cp Dt g2 z2 AJ sv2=>?_
 refine Bi sv2 r6 (Dh _ _ htg (.slice ao od.length ac) (.slice wo wd.length wc) (.slice bo body.length bc) rfl rfl rfl) fun a3 w3 Bn Fh g3 z3 AI sv3=>?_
 replace AJ:=AC g3 AJ
 replace hr:=(hr.kn g2).kn g3
 replace ho:=(ho.kn g2).kn g3
 replace hw:=(hw.kn g2).kn g3
 replace hb:=(hb.kn g2).kn g3
 replace HG:=AA (AA HG g2) g3
 refine A9 (T:=23) (Z:=(bv AR)) sv3 rfl rfl rfl (fun a w=>by kernel_rfl) fun a4 w4 Ev Bl g4 z4 AL sv4=>?_
 have A3:=Ao AJ Bl
 have A7:=Ao AI Bl
 have Bm:=Bq HG Bl
 have Bd:=Aw (hr.lt) Bl
 have CC:=Aw (ho.lt) Bl
 have CD:=Aw (hw.lt) Bl
 have B9:=Aw (hb.lt) Bl
 replace AJ:=AC g4 AJ
 replace AI:=AC g4 AI
 replace hr:=hr.kn g4
 replace ho:=ho.kn g4
 replace hw:=hw.kn g4
 replace hb:=hb.kn g4
 replace HG:=AA HG g4
 refine AS (v:=.bool false) sv4 r6 fun a5 sv5=>?_
 refine AD ?_
 refine k1 _ _ ?_
 refine AOQ fun K6 k6=>?_
 refine AOP ?_
 refine AS (v:=.slice none 0 0) sv5 r6 fun a7 sv7=>?_
 refine AD ?_
 refine k6 _ _ ?_
 refine AOQ fun K8 k8=>?_
 refine AOQ fun K9 k9=>?_
 rcases hjj with rfl|rfl
 · refine AOP ?_
   refine AH sv7 4 [(11,pk Bn 1),(12,.slice ao od.length ac),(13,.int .i64 ((od.length:Nat))),(14,.int .i64 0)]
     ⟨yf r6 (fun _=>by kernel_rfl),yp (i:=1) r6 (Fe (.slice ao od.length ac) rfl) AI rfl rfl,BJ (Tryz.underlying28) rfl rfl trivial (oy rfl rfl) (fun _=>rfl),Fw (.inl rfl) rfl trivial (fun _=>rfl),AOW⟩ fun a10 w10 g10 Bt=>?_
   refine AD ?_
   refine k9 _ _ ?_
   refine BH fun Q11 x11 y11 rt11 o11=>?_
   replace AJ:=AC g10 AJ
   replace AI:=AC g10 AI
   replace AL:=AC g10 AL
   replace hr:=hr.kn g10
   replace ho:=ho.kn g10
   replace hw:=hw.kn g10
   replace hb:=hb.kn g10
   replace HG:=AA HG g10
   have okk:=Own.nil w10 23 32
   have CL:=Gg Cp
   have CM:=Gg Bn
   have Bg:=Gg Ev
   have ap_hr_okk:=GV (KO (.slice vo ks.length vc_) ks)
   have ap_ho_okk:=GV (BC (.slice ao od.length ac))
   have ap_hw_okk:=GV (BC (.slice wo wd.length wc))
   have ap_hb_okk:=GV (BC (.slice bo body.length bc))
   have lo_okk:=UZ w
   refine wp_loop (fun a w'=>∃(i:Nat) (ko:Option Addr) (kc:Nat) (kl:List DD),(i≤od.length)∧(kl.map DD.x=(own.take i).map fun z=>(DI P z ad).1)∧(∀j,j<i→(DI P (Lf own j) ad).2=0)∧Sv 64 [] [(14,.int .i64 ((i:Int))),(6,.slice ko i kc),(11,pk Bn 1),(12,.slice ao od.length ac),(13,.int .i64 ((od.length:Nat))),(4,pt Ev),(3,pt Bn),(2,pt Cp),(0,Ay sa po (.slice vo ks.length vc_)),(1,Bv ad (.slice ao od.length ac) 0 (.slice wo wd.length wc) (.slice bo body.length bc) tg)] a∧w.grownBy w' none∧w'.heap[Cp]?=some (.cells ([bv sa,bv po,[.slice vo ks.length vc_]].flatten).toArray 36 (0,0))∧w'.heap[Bn]?=some (.cells ([[.int .i64 ad],[.slice ao od.length ac],[.int .i64 0],[.slice wo wd.length wc],[.slice bo body.length bc],bv tg].flatten).toArray 31 (0,0))∧w'.heap[Ev]?=some (.cells ((bv AR)).toArray 23 (0,0))∧RdK w' (.slice vo ks.length vc_) ks∧RdD w' (.slice ao od.length ac) od∧RdD w' (.slice wo wd.length wc) wd∧SlB w' 1 (.slice bo body.length bc) body.length (bv body)∧Own w' 23 32 (.slice ko i kc) i (kl.flatMap Ja)∧(∀k,BC (.slice ko i kc) k→k≠Cp)∧(∀k,BC (.slice ko i kc) k→k≠Bn)∧(∀k,BC (.slice ko i kc) k→k≠Ev)∧(∀k,KO (.slice vo ks.length vc_) ks k→¬BC (.slice ko i kc) k)∧(∀k,BC (.slice ao od.length ac) k→¬BC (.slice ko i kc) k)∧(∀k,BC (.slice wo wd.length wc) k→¬BC (.slice ko i kc) k)∧(∀k,BC (.slice bo body.length bc) k→¬BC (.slice ko i kc) k)∧(∀k,BC (.slice ko i kc) k→w.heap.size≤k)) (fun a _=>(od.length-intOf (a.tmps.getD 14 undef)).toNat) ⟨0,none,0,[],Nat.zero_le _,rfl,fun j hj=>by omega,⟨Bt.1,Bt.2.1,Bt.2.2.2.2.2.1,Bt.2.2.2.2.2.2.1,Bt.2.2.1,Bt.2.2.2.1,Bt.2.2.2.2.1,(AG Bt).1,(AG Bt).2.1,(AG Bt).2.2.1,(AG Bt).2.2.2.1,(AG Bt).2.2.2.2.1,AOW⟩,HG,AJ,AI,AL,hr,ho,hw,hb,okk,CL,CM,Bg,ap_hr_okk,ap_ho_okk,ap_hw_okk,ap_hb_okk,lo_okk⟩ fun a12 w12 hI12=>?_
   clear AJ
   clear AI
   clear AL
   clear hr
   clear ho
   clear hw
   clear hb
   clear okk
   clear HG
   obtain⟨i,ko,kc,kl,hin,hkl,hok,DF,HG,AJ,AI,AL,hr,ho,hw,hb,okk,CL,CM,Bg,ap_hr_okk,ap_ho_okk,ap_hw_okk,ap_hb_okk,lo_okk⟩:=hI12
   refine AOQ fun K13 k13=>?_
   by_cases hi:i<od.length
   · obtain⟨y,hx_y⟩:∃zx,od[i]'hi=zx:=⟨_,rfl⟩
     have hla:Lf own i=y.x:=by rw[←hown,Is hi,hx_y]
     obtain⟨kx,hkx⟩:∃q,DI P y.x ad=q:=⟨_,rfl⟩
     have hkd:Dg kx.1:=hkx▸Lh hnok
     refine AOP ?_
     refine AH DF 1 [(15,.bool true)]
       ⟨Fg r7 (fun _=>BR (by simp;omega)),AOW⟩ fun a14 w14 g14 D1=>?_
     refine AD ?_
     refine k13 _ _ ?_
     refine AOQ fun K15 k15=>?_
     refine Am D1 rfl rfl ?_
     refine AOU ?_
     refine k15 _ _ ?_
     refine AOQ fun K16 k16=>?_
     refine BH fun Q17 x17 y17 rt17 o17=>?_
     refine AOQ fun K18 k18=>?_
     refine AOP ?_
     replace ho:=ho.kn g14
     refine AH D1 3 [(16,.int .i64 ((i:Int))),(17,pk ((bO ao)) (oO ao+i*32)),(18,AQ y.x)]
       ⟨ym r5,BD rq8 (fun w=>CF Tryz.underlying28 (by kernel_rfl) (ho.1) (by omega) (rfl) w),Bj r6 (fun _ g=>Ad (Bb y.x y.h.1) (by have:=CW (ho.kn g).1 Dj hi (by decide);rw[hx_y] at this;exact this)),AOW⟩ fun a19 w19 g19 Dq=>?_
     replace AJ:=AC g19 (AC g14 AJ)
     replace AI:=AC g19 (AC g14 AI)
     replace AL:=AC g19 (AC g14 AL)
     replace hr:=(hr.kn g14).kn g19
     replace ho:=ho.kn g19
     replace hw:=(hw.kn g14).kn g19
     replace hb:=(hb.kn g14).kn g19
     replace okk:=(okk.kn g14).kn g19
     replace HG:=AA (AA HG g14) g19
     refine A9 (T:=23) (Z:=(bv AR)) Dq rfl rfl rfl (fun a w=>by kernel_rfl) fun a20 w20 AN2 Hz g20 z20 ADh Du=>?_
     have U8:=Ao AJ Hz
     have U9:=Ao AI Hz
     have VC:=Ao AL Hz
     have AIJ:=Bq HG Hz
     have ABE:=Aw (hr.lt) Hz
     have ABF:=Aw (ho.lt) Hz
     have ABG:=Aw (hw.lt) Hz
     have ABH:=Aw (hb.lt) Hz
     have Yc:=Aw (Own.ltS okk) Hz
     refine AS (v:=.int .i64 ((i:Int))) Du r6 fun a21 Dl=>?_
     refine Aq Dl r7 (Bb y.x y.h.1) ADh (EM y.h) fun w22 g22 h22=>?_
     replace AJ:=Aa g22 (AC g20 AJ) (Ne.symm U8)
     replace AI:=Aa g22 (AC g20 AI) (Ne.symm U9)
     replace hr:=(hr.kn g20).offR g22 (AP ABE)
     replace ADh:=h22
     refine AD ?_
     refine k18 _ _ ?_
     refine AOQ fun K23 k23=>?_
     refine AOP ?_
     refine AH Dl 8 [(20,Ay sa po (.slice vo ks.length vc_)),(21,AQ y.x),(22,pt Bn),(23,.int .i64 ad),(24,.tuple #[AQ kx.1,.int .i64 kx.2]),(19,.tuple #[AQ kx.1,.int .i64 kx.2]),(25,AQ kx.1),(26,.int .i64 kx.2)]
       ⟨yl r6 (B6 hsa hpo (.slice vo ks.length vc_) rfl) AJ,yl r6 (Bb y.x y.h.1) ADh,yf r6 (fun _=>by kernel_rfl),yp (i:=0) r6 (D9 ad) AI rfl rfl,Ag [Ay sa po (.slice vo ks.length vc_),AQ y.x,.int .i64 ad] Tryz.func32 (by kernel_rfl) rq4 ⟨(oy rfl rfl),(oy rfl rfl),(oy rfl rfl),AOW⟩ (A1 fun W g=>AH8 hsa hpo y.h (hr.kn g) hP hkx),ym r5,Bh rq4 (fun _ _ h=>⟨_,_,h,rfl,rfl⟩),Bh rq4 (fun _ _ h=>⟨_,_,h,rfl,rfl⟩),AOW⟩ fun a24 w24 g24 EN=>?_
     replace AJ:=AC g24 AJ
     replace AI:=AC g24 AI
     replace AL:=AC g24 (Aa g22 (AC g20 AL) (Ne.symm VC))
     replace hr:=hr.kn g24
     replace ho:=((ho.kn g20).offR g22 (AP ABF)).kn g24
     replace hw:=((hw.kn g20).offR g22 (AP ABG)).kn g24
     replace hb:=((hb.kn g20).offR g22 (AP ABH)).kn g24
     replace okk:=((okk.kn g20).offR g22 (AP Yc)).kn g24
     replace HG:=AA (AE (AA HG g20) g22 AIJ) g24
     refine A9 (T:=23) (Z:=(bv AR)) EN rfl rfl rfl (fun a w=>by kernel_rfl) fun a25 w25 AN3 H0 g25 z25 ADi DR=>?_
     have VF:=Ao AJ H0
     have VG:=Ao AI H0
     have VJ:=Ao AL H0
     have AIK:=Bq HG H0
     have ABI:=Aw (hr.lt) H0
     have ABJ:=Aw (ho.lt) H0
     have ABK:=Aw (hw.lt) H0
     have ABL:=Aw (hb.lt) H0
     have Yd:=Aw (Own.ltS okk) H0
     refine Aq DR r7 (Bb kx.1 hkd.1) ADi (EM hkd) fun w26 g26 h26=>?_
     replace AJ:=Aa g26 (AC g25 AJ) (Ne.symm VF)
     replace AI:=Aa g26 (AC g25 AI) (Ne.symm VG)
     replace AL:=Aa g26 (AC g25 AL) (Ne.symm VJ)
     replace hr:=(hr.kn g25).offR g26 (AP ABI)
     replace ho:=(ho.kn g25).offR g26 (AP ABJ)
     replace hw:=(hw.kn g25).offR g26 (AP ABK)
     replace hb:=(hb.kn g25).offR g26 (AP ABL)
     replace okk:=(okk.kn g25).offR g26 (AP Yd)
     replace HG:=AE (AA HG g25) g26 AIK
     replace ADi:=h26
     refine AS (v:=.int .i64 kx.2) DR r6 fun a27 HU=>?_
     have Dm:Sv _ _ [_,_,_,_,_,_,_,_,_,_,_,_,_,_,_,_,_,_] _:=HU.dl [20,21,22,23,24,19,25,26]
     refine AD ?_
     refine k23 _ _ ?_
     refine AOQ fun K29 k29=>?_
     refine BH fun Q30 x30 y30 rt30 o30=>?_
     refine AOQ fun K31 k31=>?_
     by_cases he:kx.2=0
     · have hkl1:=NY hkl (by omega) hla hkx (hkd:=hkd)
       have hok1:∀j,j<i+1→(DI P (Lf own j) ad).2=0:=fun j hj=>if e:j=i then (by rw[e,hla,hkx];exact he) else hok j (by omega)
       refine AOP ?_
       refine AH Dm 7 [(28,pk Bn 2),(29,.int .i64 0),(30,.bool false),(31,.bool false),(32,undef),(33,undef),(34,.bool false)]
        ⟨yf r6 (fun _=>by kernel_rfl),yp (i:=2) r6 (DE 0) AI rfl rfl,Ce r6 (fun _=>BM rfl),ym r5,AN r6,AN r6,BF r7,AOW⟩ fun a32 w32 g32 Cu=>?_
       refine AS (v:=.bool false) Cu r6 fun a33 FS=>?_
       have DW:Sv _ _ [_,_,_,_,_,_,_,_,_,_,_,_,_,_,_,_,_,_,_] _:=FS.dl [28,29,30,31,32,33,34]
       refine AD ?_
       refine k31 _ _ ?_
       refine Au DW rfl rfl ?_
       refine AOQ fun K35 k35=>?_
       refine AOP ?_
       refine AH DW 7 [(43,pk Bn 2),(44,.int .i64 0),(45,.bool true),(46,.bool true),(47,.int .i64 kx.2),(48,.bool false),(49,.bool false)]
        ⟨yf r6 (fun _=>by kernel_rfl),yp (i:=2) r6 (DE 0) (AC g32 AI) rfl rfl,Ce r6 (fun _=>BM rfl),ym r5,Ae rq8,Ai rq9 (fun _=>Dy (by simpa using he)),Ah rq9,AOW⟩ fun a36 w36 g36 GC=>?_
       have Ow:=AA g32 g36
       refine AS (v:=.bool false) GC r6 fun a37 Gi=>?_
       have Qt:Sv _ _ [_,_,_,_,_,_,_,_,_,_,_,_,_,_,_,_,_,_,_,_] _:=Gi.dl [43,44,45,46,47,48,49]
       refine AD ?_
       refine k35 _ _ ?_
       refine Au Qt rfl rfl ?_
       refine AOU ?_
       refine y30 _ _ ?_
       refine k29 _ _ ?_
       refine AOP ?_
       refine AH Qt 2 [(51,.slice ko i kc),(52,AQ kx.1)]
        ⟨ym r5,yl r6 (Bb kx.1 hkd.1) (AC Ow ADi),AOW⟩ fun a39 w39 g39 JY=>?_
       have Me:=AA Ow g39
       refine Jc (cs:=bv kx.1) (e:=23) JY rfl rfl rfl rfl rfl rfl (Up hkd) fun a40 w40 ANe AL9 g40 z40 AKB I7=>?_
       replace AJ:=AC g40 (AC Me AJ)
       replace AI:=AC g40 (AC Me AI)
       replace AL:=AC g40 (AC Me AL)
       replace hr:=(hr.kn Me).kn g40
       replace ho:=(ho.kn Me).kn g40
       replace hw:=(hw.kn Me).kn g40
       replace hb:=(hb.kn Me).kn g40
       replace okk:=(okk.kn Me).kn g40
       replace HG:=AA (AA HG Me) g40
       refine GZ dsT I7 rfl rfl rfl rfl rfl rfl rfl rfl okk (Iv AKB hkd) (Dk _) (by omega) fun a41 ao41 cap41 w41 owx41 Bk Eu=>?_
       have VL:=Fo Bk.2 CL AJ
       have VM:=Fo Bk.2 CM AI
       have VN:=Fo Bk.2 Bg AL
       have ABM:=E4 Bk.2 ap_hr_okk (hr.lt)
       have ABN:=E4 Bk.2 ap_ho_okk (ho.lt)
       have ABO:=E4 Bk.2 ap_hw_okk (hw.lt)
       have ABP:=E4 Bk.2 ap_hb_okk (hb.lt)
       have AIL:=Oq Bk.2 lo_okk HG
       replace AJ:=AF Bk.1 AJ (fun e=>CL _ e.symm rfl)
       replace AI:=AF Bk.1 AI (fun e=>CM _ e.symm rfl)
       replace AL:=AF Bk.1 AL (fun e=>Bg _ e.symm rfl)
       replace hr:=hr.offR Bk.1 (fun k hk e=>ap_hr_okk k hk (e))
       replace ho:=ho.offR Bk.1 (fun k hk e=>ap_ho_okk k hk (e))
       replace hw:=hw.offR Bk.1 (fun k hk e=>ap_hw_okk k hk (e))
       replace hb:=hb.offR Bk.1 (fun k hk e=>ap_hb_okk k hk (e))
       replace HG:=Bu HG Bk.1 fun k e=>lo_okk k (e)
       rw[OP kl ⟨kx.1,hkd⟩] at owx41
       refine AS (v:=.slice ao41 (i+1) cap41) Eu r6 fun a42 Gj=>?_
       have IK:Sv _ _ [_,_,_,_,_,_,_,_,_,_,_,_,_,_,_,_,_,_,_,_] _:=Gj.dl [54,53,51,52]
       refine AD ?_
       refine y17 _ _ ?_
       refine k16 _ _ ?_
       refine AOP ?_
       refine AH IK 1 [(55,.int .i64 (((i+1:Nat):Int)))]
        ⟨Ce r6 (fun _=>Dd (by rw[BT (by omega) (by omega)];omega)),AOW⟩ fun a44 w44 g44 Mv=>?_
       refine AH (Mv.dl [14]) 1 [(14,.int .i64 (((i+1:Nat):Int)))]
        ⟨ym r5,AOW⟩ fun a45 w45 g45 FT=>?_
       have Sh:=AA g44 g45
       refine AD ?_
       replace AJ:=AC Sh AJ
       replace AI:=AC Sh AI
       replace AL:=AC Sh AL
       replace hr:=hr.kn Sh
       replace ho:=ho.kn Sh
       replace hw:=hw.kn Sh
       replace hb:=hb.kn Sh
       replace owx41:=owx41.kn Sh
       replace HG:=AA HG Sh
       exact⟨⟨i+1,ao41,cap41,(kl++[⟨kx.1,hkd⟩]),by omega,hkl1,hok1,⟨FT.1,FT.2.1,FT.2.2.1,FT.2.2.2.2.1,(AG FT).2.2.2.2.2.2.2.1,(AG (AG FT)).1,(AG (AG FT)).2.1,(AG (AG FT)).2.2.1,(AG (AG FT)).2.2.2.1,(AG (AG FT)).2.2.2.2.1,(AG (AG FT)).2.2.2.2.2.1,(AG (AG FT)).2.2.2.2.2.2.1,AOW⟩,HG,AJ,AI,AL,hr,ho,hw,hb,owx41,VL,VM,VN,ABM,ABN,ABO,ABP,AIL⟩,by rw[show _=_ from FT.2.2.1,show _=_ from DF.2.2.1];simp[intOf];omega⟩
     · have hke:=Lg (P:=P) (a:=ad) (own:=own) (i:=i) (by omega) hok (by rw[hla,hkx];exact he)
       rw[hla,hkx] at hke
       refine AOP ?_
       refine AH Dm 7 [(28,pk Bn 2),(29,.int .i64 0),(30,.bool false),(31,.bool false),(32,undef),(33,undef),(34,.bool false)]
        ⟨yf r6 (fun _=>by kernel_rfl),yp (i:=2) r6 (DE 0) AI rfl rfl,Ce r6 (fun _=>BM rfl),ym r5,AN r6,AN r6,BF r7,AOW⟩ fun a46 w46 g46 JK=>?_
       refine AS (v:=.bool false) JK r6 fun a47 Kx=>?_
       have TV:Sv _ _ [_,_,_,_,_,_,_,_,_,_,_,_,_,_,_,_,_,_,_] _:=Kx.dl [28,29,30,31,32,33,34]
       refine AD ?_
       refine k31 _ _ ?_
       refine Au TV rfl rfl ?_
       refine AOQ fun K49 k49=>?_
       refine AOP ?_
       refine AH TV 7 [(43,pk Bn 2),(44,.int .i64 0),(45,.bool true),(46,.bool true),(47,.int .i64 kx.2),(48,.bool true),(49,.bool true)]
        ⟨yf r6 (fun _=>by kernel_rfl),yp (i:=2) r6 (DE 0) (AC g46 AI) rfl rfl,Ce r6 (fun _=>BM rfl),ym r5,Ae rq8,Ai rq9 (fun _=>Dy (by simpa using he)),Ah rq9,AOW⟩ fun a50 w50 g50 Ky=>?_
       have Ye:=AA g46 g50
       refine AS (v:=.bool true) Ky r6 fun a51 FV=>?_
       have Mw:Sv _ _ [_,_,_,_,_,_,_,_,_,_,_,_,_,_,_,_,_,_,_,_] _:=FV.dl [43,44,45,46,47,48,49]
       refine AD ?_
       refine k49 _ _ ?_
       refine Am Mw rfl rfl ?_
       refine AOQ fun K53 k53=>?_
       refine AOP ?_
       replace AL:=AC Ye AL
       refine AH Mw 1 [(50,AQ AR)]
        ⟨BG (vs:=[]) rfl rfl trivial trivial (fun _=>ZQ _) (fun _=>rfl),AOW⟩ fun a54 w54 g54 JL=>?_
       refine Aq JL r7 (Bb AR AU.1) (AC g54 AL) (EM AU) fun w55 g55 h55=>?_
       replace AJ:=Ab g54 g55 (AC Ye AJ) (Ne.symm A3)
       replace AI:=Ab g54 g55 (AC Ye AI) (Ne.symm A7)
       replace hr:=((hr.kn Ye).kn g54).offR g55 (AP Bd)
       replace ho:=((ho.kn Ye).kn g54).offR g55 (AP CC)
       replace hw:=((hw.kn Ye).kn g54).offR g55 (AP CD)
       replace hb:=((hb.kn Ye).kn g54).offR g55 (AP B9)
       replace okk:=((okk.kn Ye).kn g54).offR g55 (AP Bg)
       replace HG:=AE (AA (AA HG Ye) g54) g55 Bm
       replace AL:=h55
       refine AS (v:=.bool false) JL r6 fun a56 Oz=>?_
       refine AD ?_
       refine k53 _ _ ?_
       refine AOT ?_
       repeat refine AM ?_
       refine rt30 _ _ ?_
       repeat refine AM ?_
       refine rt17 _ _ ?_
       repeat refine AM ?_
       refine rt11 _ _ ?_
       repeat refine AM ?_
       refine Ap (fn:=Tryz.f62) Oz (Cb (p:=4) (q:=5) Tryz.results62 Oz rfl rfl rfl rfl (Bb AR AU.1) AL) ?_
       exact RecR.none (show Ga P _=_ by unfold Ga;rw[if_neg (show ¬(0:Int)=1 by decide),if_neg (by rw[hke];exact he)]) AU HG
   · obtain⟨hK1,hK2⟩:=J8 (P:=P) (a:=ad) (own:=own) fun j hj=>hok j (by omega)
     have hkm:kl.map DD.x=(Df P ad own).1:=by rw[hK1,hkl,List.take_of_length_le (by omega)]
     refine AOP ?_
     refine AH DF 1 [(15,.bool false)]
       ⟨Fg r7 (fun _=>BR (by simp;omega)),AOW⟩ fun a57 w57 g57 Qw=>?_
     refine AD ?_
     refine k13 _ _ ?_
     refine AOQ fun K58 k58=>?_
     refine Au Qw rfl rfl ?_
     refine wp_exit ?_
     repeat refine CA ?_
     refine x11 _ _ ?_
     refine k8 _ _ ?_
     refine AOQ fun K59 k59=>?_
     refine AOQ fun K60 k60=>?_
     refine AOP ?_
     refine AH Qw 3 [(56,pk Bn 2),(57,.int .i64 0),(58,.bool false)]
       ⟨yf r6 (fun _=>by kernel_rfl),yp (i:=2) r6 (DE 0) (AC g57 AI) rfl rfl,Ce r6 (fun _=>BM rfl),AOW⟩ fun a61 w61 g61 Nm=>?_
     have AMx:=AA g57 g61
     refine AD ?_
     refine k60 _ _ ?_
     refine Au Nm rfl rfl ?_
     refine AOU ?_
     refine k59 _ _ ?_
     refine AOQ fun K62 k62=>?_
     refine AOP ?_
     refine AH Nm 3 [(60,pk Bn 2),(61,.int .i64 0),(62,.slice ko i kc)]
       ⟨yf r6 (fun _=>by kernel_rfl),yp (i:=2) r6 (DE 0) (AC AMx AI) rfl rfl,ym r5,AOW⟩ fun a63 w63 g63 PF=>?_
     have RJ:=AA AMx g63
     replace okk:=okk.kn RJ
     refine BA PF Tryz.func55 (by kernel_rfl) r6 (Jb (AH7 (by have:=congrArg List.length hkl;simpa using this.trans (by rw[List.length_map,List.length_take];omega)) (Own.sb okk) (by omega) rfl)) fun a64 v64 w64 hR64 U5=>?_
     obtain⟨rfl,g64⟩:=hR64
     replace AL:=AC g64 (AC RJ AL)
     refine Aq U5 r7 (Bb ((Qx (decide ((0:Int)=1)) (kl.map DD.x))) (Hc _ _).1) AL (EM (Hc _ _)) fun w65 g65 h65=>?_
     replace AJ:=Aa g65 (AC g64 (AC RJ AJ)) (Ne.symm A3)
     replace AI:=Aa g65 (AC g64 (AC RJ AI)) (Ne.symm A7)
     replace hr:=((hr.kn RJ).kn g64).offR g65 (AP Bd)
     replace ho:=((ho.kn RJ).kn g64).offR g65 (AP CC)
     replace hw:=((hw.kn RJ).kn g64).offR g65 (AP CD)
     replace hb:=((hb.kn RJ).kn g64).offR g65 (AP B9)
     replace okk:=(okk.kn g64).offR g65 (AP Bg)
     replace HG:=AE (AA (AA HG RJ) g64) g65 Bm
     replace AL:=h65
     refine AS (v:=.bool true) U5 r6 fun a66 Gq=>?_
     have Tc:Sv _ _ [_,_,_,_,_,_,_,_,_,_,_,_,_,_,_] _:=Gq.dl [63,60,61,62]
     refine AD ?_
     refine k62 _ _ ?_
     refine AOT ?_
     repeat refine AM ?_
     refine Ap (fn:=Tryz.f62) Tc (Cb (p:=4) (q:=5) Tryz.results62 Tc rfl rfl rfl rfl (Bb ((Qx (decide ((0:Int)=1)) (kl.map DD.x))) (Hc _ _).1) AL) ?_
     exact RecR.some (show Ga P _=_ by unfold Ga;rw[if_neg (show ¬(0:Int)=1 by decide),if_pos hK2,←hkm]) (Hc _ _) HG
 · refine AOP ?_
   refine AH sv7 4 [(11,pk Bn 1),(12,.slice ao od.length ac),(13,.int .i64 ((od.length:Nat))),(14,.int .i64 0)]
     ⟨yf r6 (fun _=>by kernel_rfl),yp (i:=1) r6 (Fe (.slice ao od.length ac) rfl) AI rfl rfl,BJ (Tryz.underlying28) rfl rfl trivial (oy rfl rfl) (fun _=>rfl),Fw (.inl rfl) rfl trivial (fun _=>rfl),AOW⟩ fun a68 w68 g68 Ih=>?_
   refine AD ?_
   refine k9 _ _ ?_
   refine BH fun Q69 x69 y69 rt69 o69=>?_
   replace AJ:=AC g68 AJ
   replace AI:=AC g68 AI
   replace AL:=AC g68 AL
   replace hr:=hr.kn g68
   replace ho:=ho.kn g68
   replace hw:=hw.kn g68
   replace hb:=hb.kn g68
   replace HG:=AA HG g68
   have okk:=Own.nil w68 23 32
   have CL:=Gg Cp
   have CM:=Gg Bn
   have Bg:=Gg Ev
   have ap_hr_okk:=GV (KO (.slice vo ks.length vc_) ks)
   have ap_ho_okk:=GV (BC (.slice ao od.length ac))
   have ap_hw_okk:=GV (BC (.slice wo wd.length wc))
   have ap_hb_okk:=GV (BC (.slice bo body.length bc))
   have lo_okk:=UZ w
   refine wp_loop (fun a w'=>∃(i:Nat) (ko:Option Addr) (kc:Nat) (kl:List DD),(i≤od.length)∧(kl.length=i)∧(∀j,j<i→(DI P (Lf own j) ad).2≠0)∧Sv 64 [] [(14,.int .i64 ((i:Int))),(6,.slice ko i kc),(11,pk Bn 1),(12,.slice ao od.length ac),(13,.int .i64 ((od.length:Nat))),(4,pt Ev),(3,pt Bn),(2,pt Cp),(0,Ay sa po (.slice vo ks.length vc_)),(1,Bv ad (.slice ao od.length ac) 1 (.slice wo wd.length wc) (.slice bo body.length bc) tg)] a∧w.grownBy w' none∧w'.heap[Cp]?=some (.cells ([bv sa,bv po,[.slice vo ks.length vc_]].flatten).toArray 36 (0,0))∧w'.heap[Bn]?=some (.cells ([[.int .i64 ad],[.slice ao od.length ac],[.int .i64 1],[.slice wo wd.length wc],[.slice bo body.length bc],bv tg].flatten).toArray 31 (0,0))∧w'.heap[Ev]?=some (.cells ((bv AR)).toArray 23 (0,0))∧RdK w' (.slice vo ks.length vc_) ks∧RdD w' (.slice ao od.length ac) od∧RdD w' (.slice wo wd.length wc) wd∧SlB w' 1 (.slice bo body.length bc) body.length (bv body)∧Own w' 23 32 (.slice ko i kc) i (kl.flatMap Ja)∧(∀k,BC (.slice ko i kc) k→k≠Cp)∧(∀k,BC (.slice ko i kc) k→k≠Bn)∧(∀k,BC (.slice ko i kc) k→k≠Ev)∧(∀k,KO (.slice vo ks.length vc_) ks k→¬BC (.slice ko i kc) k)∧(∀k,BC (.slice ao od.length ac) k→¬BC (.slice ko i kc) k)∧(∀k,BC (.slice wo wd.length wc) k→¬BC (.slice ko i kc) k)∧(∀k,BC (.slice bo body.length bc) k→¬BC (.slice ko i kc) k)∧(∀k,BC (.slice ko i kc) k→w.heap.size≤k)) (fun a _=>(od.length-intOf (a.tmps.getD 14 undef)).toNat) ⟨0,none,0,[],Nat.zero_le _,rfl,fun j hj=>by omega,⟨Ih.1,Ih.2.1,Ih.2.2.2.2.2.1,Ih.2.2.2.2.2.2.1,Ih.2.2.1,Ih.2.2.2.1,Ih.2.2.2.2.1,(AG Ih).1,(AG Ih).2.1,(AG Ih).2.2.1,(AG Ih).2.2.2.1,(AG Ih).2.2.2.2.1,AOW⟩,HG,AJ,AI,AL,hr,ho,hw,hb,okk,CL,CM,Bg,ap_hr_okk,ap_ho_okk,ap_hw_okk,ap_hb_okk,lo_okk⟩ fun a70 w70 hI70=>?_
   clear AJ
   clear AI
   clear AL
   clear hr
   clear ho
   clear hw
   clear hb
   clear okk
   clear HG
   obtain⟨i,ko,kc,kl,hin,hkll,hno,PT,HG,AJ,AI,AL,hr,ho,hw,hb,okk,CL,CM,Bg,ap_hr_okk,ap_ho_okk,ap_hw_okk,ap_hb_okk,lo_okk⟩:=hI70
   refine AOQ fun K71 k71=>?_
   by_cases hi:i<od.length
   · obtain⟨y,hx_y⟩:∃zx,od[i]'hi=zx:=⟨_,rfl⟩
     have hla:Lf own i=y.x:=by rw[←hown,Is hi,hx_y]
     obtain⟨kx,hkx⟩:∃q,DI P y.x ad=q:=⟨_,rfl⟩
     have hkd:Dg kx.1:=hkx▸Lh hnok
     refine AOP ?_
     refine AH PT 1 [(15,.bool true)]
       ⟨Fg r7 (fun _=>BR (by simp;omega)),AOW⟩ fun a72 w72 g72 Xu=>?_
     refine AD ?_
     refine k71 _ _ ?_
     refine AOQ fun K73 k73=>?_
     refine Am Xu rfl rfl ?_
     refine AOU ?_
     refine k73 _ _ ?_
     refine AOQ fun K74 k74=>?_
     refine BH fun Q75 x75 y75 rt75 o75=>?_
     refine AOQ fun K76 k76=>?_
     refine AOP ?_
     replace ho:=ho.kn g72
     refine AH Xu 3 [(16,.int .i64 ((i:Int))),(17,pk ((bO ao)) (oO ao+i*32)),(18,AQ y.x)]
       ⟨ym r5,BD rq8 (fun w=>CF Tryz.underlying28 (by kernel_rfl) (ho.1) (by omega) (rfl) w),Bj r6 (fun _ g=>Ad (Bb y.x y.h.1) (by have:=CW (ho.kn g).1 Dj hi (by decide);rw[hx_y] at this;exact this)),AOW⟩ fun a77 w77 g77 U6=>?_
     replace AJ:=AC g77 (AC g72 AJ)
     replace AI:=AC g77 (AC g72 AI)
     replace AL:=AC g77 (AC g72 AL)
     replace hr:=(hr.kn g72).kn g77
     replace ho:=ho.kn g77
     replace hw:=(hw.kn g72).kn g77
     replace hb:=(hb.kn g72).kn g77
     replace okk:=(okk.kn g72).kn g77
     replace HG:=AA (AA HG g72) g77
     refine A9 (T:=23) (Z:=(bv AR)) U6 rfl rfl rfl (fun a w=>by kernel_rfl) fun a78 w78 AN4 IA g78 z78 ADj AA9=>?_
     have VO:=Ao AJ IA
     have VQ:=Ao AI IA
     have VR:=Ao AL IA
     have AIM:=Bq HG IA
     have ABQ:=Aw (hr.lt) IA
     have ABR:=Aw (ho.lt) IA
     have ABS:=Aw (hw.lt) IA
     have ABT:=Aw (hb.lt) IA
     have Yf:=Aw (Own.ltS okk) IA
     refine AS (v:=.int .i64 ((i:Int))) AA9 r6 fun a79 Md=>?_
     refine Aq Md r7 (Bb y.x y.h.1) ADj (EM y.h) fun w80 g80 h80=>?_
     replace AJ:=Aa g80 (AC g78 AJ) (Ne.symm VO)
     replace AI:=Aa g80 (AC g78 AI) (Ne.symm VQ)
     replace hr:=(hr.kn g78).offR g80 (AP ABQ)
     replace ADj:=h80
     refine AD ?_
     refine k76 _ _ ?_
     refine AOQ fun K81 k81=>?_
     refine AOP ?_
     refine AH Md 8 [(20,Ay sa po (.slice vo ks.length vc_)),(21,AQ y.x),(22,pt Bn),(23,.int .i64 ad),(24,.tuple #[AQ kx.1,.int .i64 kx.2]),(19,.tuple #[AQ kx.1,.int .i64 kx.2]),(25,AQ kx.1),(26,.int .i64 kx.2)]
       ⟨yl r6 (B6 hsa hpo (.slice vo ks.length vc_) rfl) AJ,yl r6 (Bb y.x y.h.1) ADj,yf r6 (fun _=>by kernel_rfl),yp (i:=0) r6 (D9 ad) AI rfl rfl,Ag [Ay sa po (.slice vo ks.length vc_),AQ y.x,.int .i64 ad] Tryz.func32 (by kernel_rfl) rq4 ⟨(oy rfl rfl),(oy rfl rfl),(oy rfl rfl),AOW⟩ (A1 fun W g=>AH8 hsa hpo y.h (hr.kn g) hP hkx),ym r5,Bh rq4 (fun _ _ h=>⟨_,_,h,rfl,rfl⟩),Bh rq4 (fun _ _ h=>⟨_,_,h,rfl,rfl⟩),AOW⟩ fun a82 w82 g82 TB=>?_
     replace AJ:=AC g82 AJ
     replace AI:=AC g82 AI
     replace AL:=AC g82 (Aa g80 (AC g78 AL) (Ne.symm VR))
     replace hr:=hr.kn g82
     replace ho:=((ho.kn g78).offR g80 (AP ABR)).kn g82
     replace hw:=((hw.kn g78).offR g80 (AP ABS)).kn g82
     replace hb:=((hb.kn g78).offR g80 (AP ABT)).kn g82
     replace okk:=((okk.kn g78).offR g80 (AP Yf)).kn g82
     replace HG:=AA (AE (AA HG g78) g80 AIM) g82
     refine A9 (T:=23) (Z:=(bv AR)) TB rfl rfl rfl (fun a w=>by kernel_rfl) fun a83 w83 AN5 IB g83 z83 M9 Lj=>?_
     have VS:=Ao AJ IB
     have VT:=Ao AI IB
     have Ny:=Ao AL IB
     have AIN:=Bq HG IB
     have ABU:=Aw (hr.lt) IB
     have ABV:=Aw (ho.lt) IB
     have ABW:=Aw (hw.lt) IB
     have ABX:=Aw (hb.lt) IB
     have Yg:=Aw (Own.ltS okk) IB
     refine Aq Lj r7 (Bb kx.1 hkd.1) M9 (EM hkd) fun w84 g84 h84=>?_
     replace AJ:=Aa g84 (AC g83 AJ) (Ne.symm VS)
     replace AI:=Aa g84 (AC g83 AI) (Ne.symm VT)
     replace AL:=Aa g84 (AC g83 AL) (Ne.symm Ny)
     replace hr:=(hr.kn g83).offR g84 (AP ABU)
     replace ho:=(ho.kn g83).offR g84 (AP ABV)
     replace hw:=(hw.kn g83).offR g84 (AP ABW)
     replace hb:=(hb.kn g83).offR g84 (AP ABX)
     replace okk:=(okk.kn g83).offR g84 (AP Yg)
     replace HG:=AE (AA HG g83) g84 AIN
     replace M9:=h84
     refine AS (v:=.int .i64 kx.2) Lj r6 fun a85 AA2=>?_
     have En:Sv _ _ [_,_,_,_,_,_,_,_,_,_,_,_,_,_,_,_,_,_] _:=AA2.dl [20,21,22,23,24,19,25,26]
     refine AD ?_
     refine k81 _ _ ?_
     refine AOQ fun K87 k87=>?_
     refine BH fun Q88 x88 y88 rt88 o88=>?_
     refine AOQ fun K89 k89=>?_
     by_cases he:kx.2=0
     · have hiw:i<wd.length:=by have:=hwl rfl;omega
       obtain⟨wx,hx_wx⟩:∃zx,wd[i]'hiw=zx:=⟨_,rfl⟩
       have hhit:=PS (P:=P) (a:=ad) (own:=own) (wr:=wd.map DD.x) (i:=i) (by omega) hno (by rw[hla,hkx];exact he)
       rw[hla,hkx,Is hiw,hx_wx] at hhit
       refine AOP ?_
       refine AH En 7 [(28,pk Bn 2),(29,.int .i64 1),(30,.bool true),(31,.bool true),(32,.int .i64 kx.2),(33,.bool true),(34,.bool true)]
        ⟨yf r6 (fun _=>by kernel_rfl),yp (i:=2) r6 (DE 1) AI rfl rfl,Ce r6 (fun _=>BM rfl),ym r5,Ae rq8,Ai rq9 (fun _=>BM (by simpa using he)),Ah rq9,AOW⟩ fun a90 w90 g90 ABY=>?_
       refine AS (v:=.bool true) ABY r6 fun a91 AKC=>?_
       have ADV:Sv _ _ [_,_,_,_,_,_,_,_,_,_,_,_,_,_,_,_,_,_,_] _:=AKC.dl [28,29,30,31,32,33,34]
       refine AD ?_
       refine k89 _ _ ?_
       refine Am ADV rfl rfl ?_
       refine AOQ fun K93 k93=>?_
       replace AI:=AC g90 AI
       replace AL:=AC g90 AL
       replace M9:=AC g90 M9
       replace hw:=hw.kn g90
       refine DP (ADV.st w90) (by kernel_rfl) 7 [(35,Sp.is (pk Bn 3)),(36,Sp.is (.slice wo wd.length wc)),(37,Sp.is (.int .i64 ((i:Int)))),(38,Sp.is (pk ((bO wo)) (oO wo+i*32))),(39,Sp.is (AQ wx.x)),(40,Sp.is (AQ kx.1)),(41,Sp.is (AQ ((Mg wx.x kx.1))))] rfl (by kernel_rfl) (by kernel_rfl) (by kernel_rfl) [] (by kernel_rfl)
        ⟨yf r6 (fun _=>by kernel_rfl),yp (i:=3) r6 (Fe (.slice wo wd.length wc) rfl) AI rfl rfl,ym r5,BD rq8 (fun w=>CF Tryz.underlying28 (by kernel_rfl) (hw.1) (by omega) (rfl) w),Bj r6 (fun _ g=>Ad (Bb wx.x wx.h.1) (by have:=CW (hw.kn g).1 Dj hiw (by decide);rw[hx_wx] at this;exact this)),yl r6 (Bb kx.1 hkd.1) M9,Ag [AQ wx.x,AQ kx.1] Tryz.func56 (by kernel_rfl) rq4 ⟨(oy rfl rfl),(oy rfl rfl),AOW⟩ (A1 fun W g=>O8 wx.x kx.1 wx.h hkd W),AOW⟩ trivial
        [] (by kernel_rfl) trivial ⟨.inl rfl,.inl rfl,.inl rfl,.inl rfl,.inl rfl,.inl rfl,.inl rfl,AOW⟩ (by kernel_rfl) fun a94 w94 g94 st94 nd94=>?_
       obtain⟨hn94,hd94,e94_35,e94_36,e94_37,e94_38,e94_39,e94_40,e94_41,e94_27,e94_10,e94_9,e94_7,e94_8,e94_16,e94_17,e94_18,e94_15,e94_14,e94_6,e94_11,e94_12,e94_13,e94_4,e94_3,e94_2,e94_0,e94_1,-⟩:=st94
       have AIO:Sv 64 [] [(27,_),(10,_),(9,_),(7,_),(8,_),(16,_),(17,_),(18,_),(15,_),(14,_),(6,_),(11,_),(12,_),(13,_),(4,_),(3,_),(2,_),(0,_),(1,_),(41,_)] a94:=⟨hn94,hd94,e94_27,e94_10,e94_9,e94_7,e94_8,e94_16,e94_17,e94_18,e94_15,e94_14,e94_6,e94_11,e94_12,e94_13,e94_4,e94_3,e94_2,e94_0,e94_1,e94_41,AOW⟩
       refine Aq AIO r7 (Bb ((Mg wx.x kx.1)) (Ig wx.h hkd).1) (AC g94 AL) (EM (Ig wx.h hkd)) fun w95 g95 h95=>?_
       replace AJ:=Ab g94 g95 (AC g90 AJ) (Ne.symm A3)
       replace AI:=Ab g94 g95 AI (Ne.symm A7)
       replace M9:=Ab g94 g95 M9 Ny
       replace hr:=((hr.kn g90).kn g94).offR g95 (AP Bd)
       replace ho:=((ho.kn g90).kn g94).offR g95 (AP CC)
       replace hw:=(hw.kn g94).offR g95 (AP CD)
       replace hb:=((hb.kn g90).kn g94).offR g95 (AP B9)
       replace okk:=((okk.kn g90).kn g94).offR g95 (AP Bg)
       replace HG:=AE (AA (AA HG g90) g94) g95 Bm
       replace AL:=h95
       refine AS (v:=.bool true) AIO r6 fun a96 AA3=>?_
       refine AD ?_
       refine k93 _ _ ?_
       refine AOT ?_
       repeat refine AM ?_
       refine rt88 _ _ ?_
       repeat refine AM ?_
       refine rt75 _ _ ?_
       repeat refine AM ?_
       refine rt69 _ _ ?_
       repeat refine AM ?_
       refine Ap (fn:=Tryz.f62) AA3 (Cb (p:=4) (q:=5) Tryz.results62 AA3 rfl rfl rfl rfl (Bb ((Mg wx.x kx.1)) (Ig wx.h hkd).1) AL) ?_
       exact RecR.some (show Ga P _=_ by unfold Ga;rw[if_pos rfl];exact hhit) (Ig wx.h hkd) HG
     · have hno1:∀j,j<i+1→(DI P (Lf own j) ad).2≠0:=fun j hj=>if e:j=i then (by rw[e,hla,hkx];exact he) else hno j (by omega)
       refine AOP ?_
       refine AH En 7 [(28,pk Bn 2),(29,.int .i64 1),(30,.bool true),(31,.bool true),(32,.int .i64 kx.2),(33,.bool false),(34,.bool false)]
        ⟨yf r6 (fun _=>by kernel_rfl),yp (i:=2) r6 (DE 1) AI rfl rfl,Ce r6 (fun _=>BM rfl),ym r5,Ae rq8,Ai rq9 (fun _=>BM (by simpa using he)),Ah rq9,AOW⟩ fun a97 w97 g97 Uu=>?_
       refine AS (v:=.bool false) Uu r6 fun a98 YY=>?_
       have AKD:Sv _ _ [_,_,_,_,_,_,_,_,_,_,_,_,_,_,_,_,_,_,_] _:=YY.dl [28,29,30,31,32,33,34]
       refine AD ?_
       refine k89 _ _ ?_
       refine Au AKD rfl rfl ?_
       refine AOQ fun K100 k100=>?_
       refine AOP ?_
       refine AH AKD 7 [(43,pk Bn 2),(44,.int .i64 1),(45,.bool false),(46,.bool false),(47,undef),(48,undef),(49,.bool false)]
        ⟨yf r6 (fun _=>by kernel_rfl),yp (i:=2) r6 (DE 1) (AC g97 AI) rfl rfl,Ce r6 (fun _=>BM rfl),ym r5,AN r6,AN r6,BF r7,AOW⟩ fun a101 w101 g101 PH=>?_
       have AKv:=AA g97 g101
       refine AS (v:=.bool false) PH r6 fun a102 Wk=>?_
       have AEj:Sv _ _ [_,_,_,_,_,_,_,_,_,_,_,_,_,_,_,_,_,_,_,_] _:=Wk.dl [43,44,45,46,47,48,49]
       refine AD ?_
       refine k100 _ _ ?_
       refine Au AEj rfl rfl ?_
       refine AOU ?_
       refine y88 _ _ ?_
       refine k87 _ _ ?_
       refine AOP ?_
       refine AH AEj 2 [(51,.slice ko i kc),(52,AQ kx.1)]
        ⟨ym r5,yl r6 (Bb kx.1 hkd.1) (AC AKv M9),AOW⟩ fun a104 w104 g104 TK=>?_
       have PU:=AA AKv g104
       refine Jc (cs:=bv kx.1) (e:=23) TK rfl rfl rfl rfl rfl rfl (Up hkd) fun a105 w105 EA Hd g105 z105 DZ We=>?_
       replace AJ:=AC g105 (AC PU AJ)
       replace AI:=AC g105 (AC PU AI)
       replace AL:=AC g105 (AC PU AL)
       replace hr:=(hr.kn PU).kn g105
       replace ho:=(ho.kn PU).kn g105
       replace hw:=(hw.kn PU).kn g105
       replace hb:=(hb.kn PU).kn g105
       replace okk:=(okk.kn PU).kn g105
       replace HG:=AA (AA HG PU) g105
       refine GZ dsT We rfl rfl rfl rfl rfl rfl rfl rfl okk (Iv DZ hkd) (Dk _) (by omega) fun a106 ao106 cap106 w106 owx106 Bk ABA=>?_
       have Tk:=Fo Bk.2 CL AJ
       have Tl:=Fo Bk.2 CM AI
       have Tm:=Fo Bk.2 Bg AL
       have Yh:=E4 Bk.2 ap_hr_okk (hr.lt)
       have Yi:=E4 Bk.2 ap_ho_okk (ho.lt)
       have Yj:=E4 Bk.2 ap_hw_okk (hw.lt)
       have Yk:=E4 Bk.2 ap_hb_okk (hb.lt)
       have AGG:=Oq Bk.2 lo_okk HG
       replace AJ:=AF Bk.1 AJ (fun e=>CL _ e.symm rfl)
       replace AI:=AF Bk.1 AI (fun e=>CM _ e.symm rfl)
       replace AL:=AF Bk.1 AL (fun e=>Bg _ e.symm rfl)
       replace hr:=hr.offR Bk.1 (fun k hk e=>ap_hr_okk k hk (e))
       replace ho:=ho.offR Bk.1 (fun k hk e=>ap_ho_okk k hk (e))
       replace hw:=hw.offR Bk.1 (fun k hk e=>ap_hw_okk k hk (e))
       replace hb:=hb.offR Bk.1 (fun k hk e=>ap_hb_okk k hk (e))
       replace HG:=Bu HG Bk.1 fun k e=>lo_okk k (e)
       rw[OP kl ⟨kx.1,hkd⟩] at owx106
       refine AS (v:=.slice ao106 (i+1) cap106) ABA r6 fun a107 TL=>?_
       have AIF:Sv _ _ [_,_,_,_,_,_,_,_,_,_,_,_,_,_,_,_,_,_,_,_] _:=TL.dl [54,53,51,52]
       refine AD ?_
       refine y75 _ _ ?_
       refine k74 _ _ ?_
       refine AOP ?_
       refine AH AIF 1 [(55,.int .i64 (((i+1:Nat):Int)))]
        ⟨Ce r6 (fun _=>Dd (by rw[BT (by omega) (by omega)];omega)),AOW⟩ fun a109 w109 g109 QY=>?_
       refine AH (QY.dl [14]) 1 [(14,.int .i64 (((i+1:Nat):Int)))]
        ⟨ym r5,AOW⟩ fun a110 w110 g110 JB=>?_
       have PW:=AA g109 g110
       refine AD ?_
       replace AJ:=AC PW AJ
       replace AI:=AC PW AI
       replace AL:=AC PW AL
       replace hr:=hr.kn PW
       replace ho:=ho.kn PW
       replace hw:=hw.kn PW
       replace hb:=hb.kn PW
       replace owx106:=owx106.kn PW
       replace HG:=AA HG PW
       exact⟨⟨i+1,ao106,cap106,(kl++[⟨kx.1,hkd⟩]),by omega,by rw[List.length_append];simp;omega,hno1,⟨JB.1,JB.2.1,JB.2.2.1,JB.2.2.2.2.1,(AG JB).2.2.2.2.2.2.2.1,(AG (AG JB)).1,(AG (AG JB)).2.1,(AG (AG JB)).2.2.1,(AG (AG JB)).2.2.2.1,(AG (AG JB)).2.2.2.2.1,(AG (AG JB)).2.2.2.2.2.1,(AG (AG JB)).2.2.2.2.2.2.1,AOW⟩,HG,AJ,AI,AL,hr,ho,hw,hb,owx106,Tk,Tl,Tm,Yh,Yi,Yj,Yk,AGG⟩,by rw[show _=_ from JB.2.2.1,show _=_ from PT.2.2.1];simp[intOf];omega⟩
   · have hnone:=P9 (P:=P) (a:=ad) (own:=own) (wr:=wd.map DD.x) fun j hj=>hno j (by omega)
     refine AOP ?_
     refine AH PT 1 [(15,.bool false)]
       ⟨Fg r7 (fun _=>BR (by simp;omega)),AOW⟩ fun a111 w111 g111 Nv=>?_
     refine AD ?_
     refine k71 _ _ ?_
     refine AOQ fun K112 k112=>?_
     refine Au Nv rfl rfl ?_
     refine wp_exit ?_
     repeat refine CA ?_
     refine x69 _ _ ?_
     refine k8 _ _ ?_
     refine AOQ fun K113 k113=>?_
     refine AOQ fun K114 k114=>?_
     refine AOP ?_
     refine AH Nv 3 [(56,pk Bn 2),(57,.int .i64 1),(58,.bool true)]
       ⟨yf r6 (fun _=>by kernel_rfl),yp (i:=2) r6 (DE 1) (AC g111 AI) rfl rfl,Ce r6 (fun _=>BM rfl),AOW⟩ fun a115 w115 g115 Cv=>?_
     have AIP:=AA g111 g115
     refine AD ?_
     refine k114 _ _ ?_
     refine Am Cv rfl rfl ?_
     refine AOQ fun K116 k116=>?_
     refine AOP ?_
     replace AL:=AC AIP AL
     refine AH Cv 1 [(59,AQ AR)]
       ⟨BG (vs:=[]) rfl rfl trivial trivial (fun _=>ZQ _) (fun _=>rfl),AOW⟩ fun a117 w117 g117 PQ=>?_
     refine Aq PQ r7 (Bb AR AU.1) (AC g117 AL) (EM AU) fun w118 g118 h118=>?_
     replace okk:=((okk.kn AIP).kn g117).offR g118 (AP Bg)
     replace HG:=AE (AA (AA HG AIP) g117) g118 Bm
     replace AL:=h118
     refine AS (v:=.bool false) PQ r6 fun a119 ABZ=>?_
     refine AD ?_
     refine k116 _ _ ?_
     refine AOT ?_
     repeat refine AM ?_
     refine Ap (fn:=Tryz.f62) ABZ (Cb (p:=4) (q:=5) Tryz.results62 ABZ rfl rfl rfl rfl (Bb AR AU.1) AL) ?_
     exact RecR.none (show Ga P _=_ by unfold Ga;rw[if_pos rfl];exact hnone) AU HG
theorem ABa (ks:List VK) (vo:Option Addr) (vc_:Nat) (sa po:List Nat) (hsa:Dg sa) (hpo:Dg po) (ad joint:Int) (od wd:List DD) (ao wo bo:Option Addr) (ac wc bc:Nat) (body tg:List Nat) (htg:Dg tg) (w:World) (hr:RdK w (.slice vo ks.length vc_) ks) (ho:RdD w (.slice ao od.length ac) od) (hw:RdD w (.slice wo wd.length wc) wd) (hb:SlB w 1 (.slice bo body.length bc) body.length (bv body)) (hvs:Ed ⟨ad,od.map DD.x,joint,wd.map DD.x,body,tg⟩=true) :
   Calls Tryz.prog 63 #[Ay sa po (.slice vo ks.length vc_),Bv ad (.slice ao od.length ac) joint (.slice wo wd.length wc) (.slice bo body.length bc) tg] w fun e w'=>RecR w w' (Ga (ks.map VK.p) ⟨ad,od.map DD.x,joint,wd.map DD.x,body,tg⟩) e:=by
 obtain⟨P,hP⟩:∃P,ks.map VK.p=P:=⟨_,rfl⟩
 obtain⟨own,hown⟩:∃own,od.map DD.x=own:=⟨_,rfl⟩
 have hownl:own.length=od.length:=by rw[←hown,List.length_map]
 have hnok:=hr.noks2
 rw[hP] at hnok
 rw[hP,hown]
 obtain⟨haa,hjj,hol,_⟩:=Sz (Yb hvs)
 have hol:own.length≤16:=by rw[←hown];exact hol
 have hwl:joint=1→wd.length=od.length:=fun h=>by have:=AII hvs h;simpa using this
 refine BV Tryz.func63 rfl Tryz.ntmps63 rfl fun a0 sv0=>?_
 have HG:=World.grownBy.refl w none
 replace sv0:Sv 60 [] [(0,Ay sa po (.slice vo ks.length vc_)),(1,Bv ad (.slice ao od.length ac) joint (.slice wo wd.length wc) (.slice bo body.length bc) tg)] a0:=sv0
 refine AOQ fun K1 k1=>?_
 refine AOP ?_
 refine Bi sv0 r6 (B6 hsa hpo (.slice vo ks.length vc_) rfl) fun a2 w2 Cp Dt g2 z2 AJ sv2=>?_
 refine Bi sv2 r6 (Dh _ _ htg (.slice ao od.length ac) (.slice wo wd.length wc) (.slice bo body.length bc) rfl rfl rfl) fun a3 w3 Bn Fh g3 z3 AI sv3=>?_
 replace AJ:=AC g3 AJ
 replace hr:=(hr.kn g2).kn g3
 replace ho:=(ho.kn g2).kn g3
 replace hw:=(hw.kn g2).kn g3
 replace hb:=(hb.kn g2).kn g3
 replace HG:=AA (AA HG g2) g3
 refine A9 (T:=23) (Z:=(bv AR)) sv3 rfl rfl rfl (fun a w=>by kernel_rfl) fun a4 w4 Ev Bl g4 z4 AL sv4=>?_
 have A3:=Ao AJ Bl
 have A7:=Ao AI Bl
 have Bm:=Bq HG Bl
 have Bd:=Aw (hr.lt) Bl
 have CC:=Aw (ho.lt) Bl
 have CD:=Aw (hw.lt) Bl
 have B9:=Aw (hb.lt) Bl
 replace AJ:=AC g4 AJ
 replace AI:=AC g4 AI
 replace hr:=hr.kn g4
 replace ho:=ho.kn g4
 replace hw:=hw.kn g4
 replace hb:=hb.kn g4
 replace HG:=AA HG g4
 refine AS (v:=.bool false) sv4 r6 fun a5 sv5=>?_
 refine AD ?_
 refine k1 _ _ ?_
 refine AOQ fun K6 k6=>?_
 refine AOP ?_
 refine AS (v:=.slice none 0 0) sv5 r6 fun a7 sv7=>?_
 refine AD ?_
 refine k6 _ _ ?_
 refine AOQ fun K8 k8=>?_
 refine AOQ fun K9 k9=>?_
 rcases hjj with rfl|rfl
 · refine AOP ?_
   refine AS (v:=.int .i64 0) sv7 r6 fun a10 Bt=>?_
   refine AD ?_
   refine k9 _ _ ?_
   refine BH fun Q11 x11 y11 rt11 o11=>?_
   have okk:=Own.nil w4 23 32
   have CL:=Gg Cp
   have CM:=Gg Bn
   have Bg:=Gg Ev
   have ap_hr_okk:=GV (KO (.slice vo ks.length vc_) ks)
   have ap_ho_okk:=GV (BC (.slice ao od.length ac))
   have ap_hw_okk:=GV (BC (.slice wo wd.length wc))
   have ap_hb_okk:=GV (BC (.slice bo body.length bc))
   have lo_okk:=UZ w
   refine wp_loop (fun a w'=>∃(i:Nat) (ko:Option Addr) (kc:Nat) (kl:List DD),(i≤od.length)∧(kl.map DD.x=(own.take i).map fun z=>(DI P z ad).1)∧(∀j,j<i→(DI P (Lf own j) ad).2=0)∧Sv 60 [] [(7,.int .i64 ((i:Int))),(6,.slice ko i kc),(4,pt Ev),(3,pt Bn),(2,pt Cp),(0,Ay sa po (.slice vo ks.length vc_)),(1,Bv ad (.slice ao od.length ac) 0 (.slice wo wd.length wc) (.slice bo body.length bc) tg)] a∧w.grownBy w' none∧w'.heap[Cp]?=some (.cells ([bv sa,bv po,[.slice vo ks.length vc_]].flatten).toArray 36 (0,0))∧w'.heap[Bn]?=some (.cells ([[.int .i64 ad],[.slice ao od.length ac],[.int .i64 0],[.slice wo wd.length wc],[.slice bo body.length bc],bv tg].flatten).toArray 31 (0,0))∧w'.heap[Ev]?=some (.cells ((bv AR)).toArray 23 (0,0))∧RdK w' (.slice vo ks.length vc_) ks∧RdD w' (.slice ao od.length ac) od∧RdD w' (.slice wo wd.length wc) wd∧SlB w' 1 (.slice bo body.length bc) body.length (bv body)∧Own w' 23 32 (.slice ko i kc) i (kl.flatMap Ja)∧(∀k,BC (.slice ko i kc) k→k≠Cp)∧(∀k,BC (.slice ko i kc) k→k≠Bn)∧(∀k,BC (.slice ko i kc) k→k≠Ev)∧(∀k,KO (.slice vo ks.length vc_) ks k→¬BC (.slice ko i kc) k)∧(∀k,BC (.slice ao od.length ac) k→¬BC (.slice ko i kc) k)∧(∀k,BC (.slice wo wd.length wc) k→¬BC (.slice ko i kc) k)∧(∀k,BC (.slice bo body.length bc) k→¬BC (.slice ko i kc) k)∧(∀k,BC (.slice ko i kc) k→w.heap.size≤k)) (fun a _=>(od.length-intOf (a.tmps.getD 7 undef)).toNat) ⟨0,none,0,[],Nat.zero_le _,rfl,fun j hj=>by omega,⟨Bt.1,Bt.2.1,Bt.2.2.1,Bt.2.2.2.1,Bt.2.2.2.2.2.1,Bt.2.2.2.2.2.2.1,Bt.2.2.2.2.2.2.2.1,(AG Bt).1,(AG Bt).2.1,AOW⟩,HG,AJ,AI,AL,hr,ho,hw,hb,okk,CL,CM,Bg,ap_hr_okk,ap_ho_okk,ap_hw_okk,ap_hb_okk,lo_okk⟩ fun a12 w12 hI12=>?_
   clear AJ
   clear AI
   clear AL
   clear hr
   clear ho
   clear hw
   clear hb
   clear okk
   clear HG
   obtain⟨i,ko,kc,kl,hin,hkl,hok,DF,HG,AJ,AI,AL,hr,ho,hw,hb,okk,CL,CM,Bg,ap_hr_okk,ap_ho_okk,ap_hw_okk,ap_hb_okk,lo_okk⟩:=hI12
   refine AOQ fun K13 k13=>?_
   refine AOQ fun K14 k14=>?_
   by_cases hi:i<od.length
   · obtain⟨y,hx_y⟩:∃zx,od[i]'hi=zx:=⟨_,rfl⟩
     have hla:Lf own i=y.x:=by rw[←hown,Is hi,hx_y]
     obtain⟨kx,hkx⟩:∃q,DI P y.x ad=q:=⟨_,rfl⟩
     have hkd:Dg kx.1:=hkx▸Lh hnok
     refine AOP ?_
     refine AH DF 5 [(10,.int .i64 ((i:Int))),(11,pk Bn 1),(12,.slice ao od.length ac),(13,.int .i64 ((od.length:Nat))),(14,.bool true)]
       ⟨ym r5,yf r6 (fun _=>by kernel_rfl),yp (i:=1) r6 (Fe (.slice ao od.length ac) rfl) AI rfl rfl,BJ (Tryz.underlying28) rfl rfl trivial (oy rfl rfl) (fun _=>rfl),Fg r7 (fun _=>BR (by simp;omega)),AOW⟩ fun a15 w15 g15 Fp=>?_
     refine AD ?_
     refine k14 _ _ ?_
     refine Am Fp rfl rfl ?_
     refine AOU ?_
     refine k13 _ _ ?_
     refine AOQ fun K16 k16=>?_
     refine BH fun Q17 x17 y17 rt17 o17=>?_
     refine AOQ fun K18 k18=>?_
     replace AJ:=AC g15 AJ
     replace AI:=AC g15 AI
     replace AL:=AC g15 AL
     replace hr:=hr.kn g15
     replace ho:=ho.kn g15
     replace hw:=hw.kn g15
     replace hb:=hb.kn g15
     replace okk:=okk.kn g15
     replace HG:=AA HG g15
     refine DP (Fp.st w15) (by kernel_rfl) 13 [(18,Sp.is (Ay sa po (.slice vo ks.length vc_))),(19,Sp.is (pk Bn 1)),(20,Sp.is (.slice ao od.length ac)),(21,Sp.is (.int .i64 ((i:Int)))),(22,Sp.is (pk ((bO ao)) (oO ao+i*32))),(23,Sp.is (AQ y.x)),(24,Sp.is (pt Bn)),(25,Sp.is (.int .i64 ad)),(26,Sp.is (.tuple #[AQ kx.1,.int .i64 kx.2])),(17,Sp.is (.tuple #[AQ kx.1,.int .i64 kx.2])),(27,Sp.is (AQ kx.1)),(28,Sp.is (.int .i64 kx.2)),(8,Sp.new w15.heap.size ((bv AR)) 23)] rfl (by kernel_rfl) (by kernel_rfl) (by kernel_rfl) [11] (by kernel_rfl)
       ⟨yl r6 (B6 hsa hpo (.slice vo ks.length vc_) rfl) AJ,yf r6 (fun _=>by kernel_rfl),yp (i:=1) r6 (Fe (.slice ao od.length ac) rfl) AI rfl rfl,ym r5,BD rq8 (fun w=>CF Tryz.underlying28 (by kernel_rfl) (ho.1) (by omega) (rfl) w),Bj r6 (fun _ g=>Ad (Bb y.x y.h.1) (by have:=CW (ho.kn g).1 Dj hi (by decide);rw[hx_y] at this;exact this)),yf r6 (fun _=>by kernel_rfl),yp (i:=0) r6 (D9 ad) AI rfl rfl,Ag [Ay sa po (.slice vo ks.length vc_),AQ y.x,.int .i64 ad] Tryz.func42 (by kernel_rfl) rq4 ⟨(oy rfl rfl),(oy rfl rfl),(oy rfl rfl),AOW⟩ (A1 fun W g=>ADZ hsa hpo y.h (hr.kn g) hP hkx),ym r5,Bh rq4 (fun _ _ h=>⟨_,_,h,rfl,rfl⟩),Bh rq4 (fun _ _ h=>⟨_,_,h,rfl,rfl⟩),Ju rfl trivial (Nat.le_refl _) (fun a w=>by kernel_rfl) (fun _ _ h=>h),AOW⟩ ⟨fun o ho=>by obtain rfl:=Option.some.inj ho;exact HH rfl rfl rfl trivial (fun _ _ h=>⟨_,_,h,rfl,rfl⟩),AOW⟩
       [8] (by kernel_rfl) ⟨Sp.new_lt,AOW⟩ ⟨.inl rfl,.inl rfl,.inl rfl,.inl rfl,.inl rfl,.inl rfl,.inl rfl,.inl rfl,.inl rfl,.inl rfl,.inl rfl,.inl rfl,.inr ⟨rfl,((bv AR)).toArray,23,fun a w=>by kernel_rfl⟩,AOW⟩ (by kernel_rfl) fun a19 w19 g19 st19 nd19=>?_
     obtain⟨hn19,hd19,e19_18,e19_19,e19_20,e19_21,e19_22,e19_23,e19_24,e19_25,e19_26,e19_17,e19_27,e19_28,e19_8,e19_10,e19_11,e19_12,e19_13,e19_14,e19_7,e19_6,e19_4,e19_3,e19_2,e19_0,e19_1,-⟩:=st19
     obtain⟨AN6,e19_8q,IC,ADk⟩:=e19_8
     have VU:=Fu AJ IC
     have VW:=Fu AI IC
     have VY:=Fu AL IC
     have AIQ:=QR HG IC
     have ABb:=GO (hr.lt) IC
     have ABc:=GO (ho.lt) IC
     have ABd:=GO (hw.lt) IC
     have ABe:=GO (hb.lt) IC
     have Yl:=GO (Own.ltS okk) IC
     have Dq:Sv 60 [] [(10,_),(11,_),(12,_),(13,_),(14,_),(7,_),(6,_),(4,_),(3,_),(2,_),(0,_),(1,_),(27,_),(28,_),(8,_)] a19:=⟨hn19,hd19,e19_10,e19_11,e19_12,e19_13,e19_14,e19_7,e19_6,e19_4,e19_3,e19_2,e19_0,e19_1,e19_27,e19_28,e19_8q,AOW⟩
     refine Aq Dq r7 (Bb kx.1 hkd.1) ADk (EM hkd) fun w20 g20 h20=>?_
     replace AJ:=Aa g20 (AC g19 AJ) (Ne.symm VU)
     replace AI:=Aa g20 (AC g19 AI) (Ne.symm VW)
     replace AL:=Aa g20 (AC g19 AL) (Ne.symm VY)
     replace hr:=(hr.kn g19).offR g20 (AP ABb)
     replace ho:=(ho.kn g19).offR g20 (AP ABc)
     replace hw:=(hw.kn g19).offR g20 (AP ABd)
     replace hb:=(hb.kn g19).offR g20 (AP ABe)
     replace okk:=(okk.kn g19).offR g20 (AP Yl)
     replace HG:=AE (AA HG g19) g20 AIQ
     replace ADk:=h20
     refine AS (v:=.int .i64 kx.2) Dq r6 fun a21 Dl=>?_
     refine AD ?_
     refine k18 _ _ ?_
     refine AOQ fun K22 k22=>?_
     refine AOQ fun K23 k23=>?_
     by_cases he:kx.2=0
     · have hkl1:=NY hkl (by omega) hla hkx (hkd:=hkd)
       have hok1:∀j,j<i+1→(DI P (Lf own j) ad).2=0:=fun j hj=>if e:j=i then (by rw[e,hla,hkx];exact he) else hok j (by omega)
       refine AOP ?_
       refine AH Dl 7 [(29,.int .i64 kx.2),(30,.bool true),(31,.bool true),(32,pk Bn 2),(33,.int .i64 0),(34,.bool false),(35,.bool false)]
        ⟨ym r5,Ce r6 (fun _=>BM (by simpa using he)),ym r5,BI rq9 (fun _=>by kernel_rfl),A8 rq9 (fun _ g=>Ad (DE 0) (BB (L:=[[.int .i64 ad],[.slice ao od.length ac],[.int .i64 0],[.slice wo wd.length wc],[.slice bo body.length bc],bv tg]) (i:=2) (AF g AI (by simp)) rfl rfl)),Ai rq9 (fun _=>BM rfl),Ah rq9,AOW⟩ fun a24 w24 g24 EN=>?_
       refine AD ?_
       refine k23 _ _ ?_
       refine Au EN rfl rfl ?_
       refine AOU ?_
       refine k22 _ _ ?_
       refine AOQ fun K25 k25=>?_
       refine AOQ fun K26 k26=>?_
       refine AOP ?_
       refine AH EN 7 [(43,.int .i64 kx.2),(44,.bool false),(45,.bool false),(46,undef),(47,undef),(48,undef),(49,.bool false)]
        ⟨ym r5,Ce r6 (fun _=>Dy (by simpa using he)),ym r5,AN r6,AN r6,AN r6,BF r7,AOW⟩ fun a27 w27 g27 HU=>?_
       have Uf:=AA g24 g27
       refine AD ?_
       refine k26 _ _ ?_
       refine Au HU rfl rfl ?_
       refine AOU ?_
       refine k25 _ _ ?_
       refine AOP ?_
       refine AH HU 2 [(51,.slice ko i kc),(52,AQ kx.1)]
        ⟨ym r5,yl r6 (Bb kx.1 hkd.1) (AC Uf ADk),AOW⟩ fun a28 w28 g28 Dm=>?_
       have FR:=AA Uf g28
       refine Jc (cs:=bv kx.1) (e:=23) Dm rfl rfl rfl rfl rfl rfl (Up hkd) fun a29 w29 ANf AMA g29 z29 AKE Ck=>?_
       replace AJ:=AC g29 (AC FR AJ)
       replace AI:=AC g29 (AC FR AI)
       replace AL:=AC g29 (AC FR AL)
       replace hr:=(hr.kn FR).kn g29
       replace ho:=(ho.kn FR).kn g29
       replace hw:=(hw.kn FR).kn g29
       replace hb:=(hb.kn FR).kn g29
       replace okk:=(okk.kn FR).kn g29
       replace HG:=AA (AA HG FR) g29
       refine GZ dsT Ck rfl rfl rfl rfl rfl rfl rfl rfl okk (Iv AKE hkd) (Dk _) (by omega) fun a30 ao30 cap30 w30 owx30 Bk EF=>?_
       have VZ:=Fo Bk.2 CL AJ
       have Va:=Fo Bk.2 CM AI
       have Vb:=Fo Bk.2 Bg AL
       have ABf:=E4 Bk.2 ap_hr_okk (hr.lt)
       have ABg:=E4 Bk.2 ap_ho_okk (ho.lt)
       have ABh:=E4 Bk.2 ap_hw_okk (hw.lt)
       have ABi:=E4 Bk.2 ap_hb_okk (hb.lt)
       have AIR:=Oq Bk.2 lo_okk HG
       replace AJ:=AF Bk.1 AJ (fun e=>CL _ e.symm rfl)
       replace AI:=AF Bk.1 AI (fun e=>CM _ e.symm rfl)
       replace AL:=AF Bk.1 AL (fun e=>Bg _ e.symm rfl)
       replace hr:=hr.offR Bk.1 (fun k hk e=>ap_hr_okk k hk (e))
       replace ho:=ho.offR Bk.1 (fun k hk e=>ap_ho_okk k hk (e))
       replace hw:=hw.offR Bk.1 (fun k hk e=>ap_hw_okk k hk (e))
       replace hb:=hb.offR Bk.1 (fun k hk e=>ap_hb_okk k hk (e))
       replace HG:=Bu HG Bk.1 fun k e=>lo_okk k (e)
       rw[OP kl ⟨kx.1,hkd⟩] at owx30
       refine AS (v:=.slice ao30 (i+1) cap30) EF r6 fun a31 IJ=>?_
       have Cu:Sv _ _ [_,_,_,_,_,_,_,_,_,_,_,_,_,_,_,_,_,_,_,_,_,_,_,_,_,_,_,_,_,_] _:=IJ.dl [54,53,51,52]
       refine AD ?_
       refine y17 _ _ ?_
       refine k16 _ _ ?_
       refine AOP ?_
       refine AH Cu 2 [(15,.int .i64 ((i:Int))),(16,.int .i64 (((i+1:Nat):Int)))]
        ⟨ym r5,Ce r6 (fun _=>Dd (by rw[BT (by omega) (by omega)];omega)),AOW⟩ fun a33 w33 g33 FS=>?_
       refine AS (v:=.int .i64 (((i+1:Nat):Int))) FS r6 fun a34 DW=>?_
       refine AD ?_
       replace AJ:=AC g33 AJ
       replace AI:=AC g33 AI
       replace AL:=AC g33 AL
       replace hr:=hr.kn g33
       replace ho:=ho.kn g33
       replace hw:=hw.kn g33
       replace hb:=hb.kn g33
       replace owx30:=owx30.kn g33
       replace HG:=AA HG g33
       exact⟨⟨i+1,ao30,cap30,(kl++[⟨kx.1,hkd⟩]),by omega,hkl1,hok1,⟨DW.1,DW.2.1,DW.2.2.1,DW.2.2.2.2.2.1,(AG (AG (AG DW))).2.2.1,(AG (AG (AG DW))).2.2.2.1,(AG (AG (AG DW))).2.2.2.2.1,(AG (AG (AG DW))).2.2.2.2.2.1,(AG (AG (AG DW))).2.2.2.2.2.2.1,AOW⟩,HG,AJ,AI,AL,hr,ho,hw,hb,owx30,VZ,Va,Vb,ABf,ABg,ABh,ABi,AIR⟩,by rw[show _=_ from DW.2.2.1,show _=_ from DF.2.2.1];simp[intOf];omega⟩
     · have hke:=Lg (P:=P) (a:=ad) (own:=own) (i:=i) (by omega) hok (by rw[hla,hkx];exact he)
       rw[hla,hkx] at hke
       refine AOP ?_
       refine AH Dl 7 [(29,.int .i64 kx.2),(30,.bool false),(31,.bool false),(32,undef),(33,undef),(34,undef),(35,.bool false)]
        ⟨ym r5,Ce r6 (fun _=>BM (by simpa using he)),ym r5,AN r6,AN r6,AN r6,BF r7,AOW⟩ fun a35 w35 g35 Kw=>?_
       refine AD ?_
       refine k23 _ _ ?_
       refine Au Kw rfl rfl ?_
       refine AOU ?_
       refine k22 _ _ ?_
       refine AOQ fun K36 k36=>?_
       refine AOQ fun K37 k37=>?_
       refine AOP ?_
       refine AH Kw 7 [(43,.int .i64 kx.2),(44,.bool true),(45,.bool true),(46,pk Bn 2),(47,.int .i64 0),(48,.bool true),(49,.bool true)]
        ⟨ym r5,Ce r6 (fun _=>Dy (by simpa using he)),ym r5,BI rq9 (fun _=>by kernel_rfl),A8 rq9 (fun _ g=>Ad (DE 0) (BB (L:=[[.int .i64 ad],[.slice ao od.length ac],[.int .i64 0],[.slice wo wd.length wc],[.slice bo body.length bc],bv tg]) (i:=2) (AF g (AC g35 AI) (by simp)) rfl rfl)),Ai rq9 (fun _=>BM rfl),Ah rq9,AOW⟩ fun a38 w38 g38 Qt=>?_
       have Qy:=AA g35 g38
       refine AD ?_
       refine k37 _ _ ?_
       refine Am Qt rfl rfl ?_
       refine AOQ fun K39 k39=>?_
       refine AOP ?_
       replace AL:=AC Qy AL
       refine AH Qt 1 [(50,AQ AR)]
        ⟨BG (vs:=[]) rfl rfl trivial trivial (fun _=>ZQ _) (fun _=>rfl),AOW⟩ fun a40 w40 g40 I7=>?_
       refine Aq I7 r7 (Bb AR AU.1) (AC g40 AL) (EM AU) fun w41 g41 h41=>?_
       replace AJ:=Ab g40 g41 (AC Qy AJ) (Ne.symm A3)
       replace AI:=Ab g40 g41 (AC Qy AI) (Ne.symm A7)
       replace hr:=((hr.kn Qy).kn g40).offR g41 (AP Bd)
       replace ho:=((ho.kn Qy).kn g40).offR g41 (AP CC)
       replace hw:=((hw.kn Qy).kn g40).offR g41 (AP CD)
       replace hb:=((hb.kn Qy).kn g40).offR g41 (AP B9)
       replace okk:=((okk.kn Qy).kn g40).offR g41 (AP Bg)
       replace HG:=AE (AA (AA HG Qy) g40) g41 Bm
       replace AL:=h41
       refine AS (v:=.bool false) I7 r6 fun a42 Gj=>?_
       refine AD ?_
       refine k39 _ _ ?_
       refine AOT ?_
       repeat refine AM ?_
       refine rt17 _ _ ?_
       repeat refine AM ?_
       refine rt11 _ _ ?_
       repeat refine AM ?_
       refine Ap (fn:=Tryz.f63) Gj (Cb (p:=4) (q:=5) Tryz.results63 Gj rfl rfl rfl rfl (Bb AR AU.1) AL) ?_
       exact RecR.none (show Ga P _=_ by unfold Ga;rw[if_neg (show ¬(0:Int)=1 by decide),if_neg (by rw[hke];exact he)]) AU HG
   · obtain⟨hK1,hK2⟩:=J8 (P:=P) (a:=ad) (own:=own) fun j hj=>hok j (by omega)
     have hkm:kl.map DD.x=(Df P ad own).1:=by rw[hK1,hkl,List.take_of_length_le (by omega)]
     refine AOP ?_
     refine AH DF 5 [(10,.int .i64 ((i:Int))),(11,pk Bn 1),(12,.slice ao od.length ac),(13,.int .i64 ((od.length:Nat))),(14,.bool false)]
       ⟨ym r5,yf r6 (fun _=>by kernel_rfl),yp (i:=1) r6 (Fe (.slice ao od.length ac) rfl) AI rfl rfl,BJ (Tryz.underlying28) rfl rfl trivial (oy rfl rfl) (fun _=>rfl),Fg r7 (fun _=>BR (by simp;omega)),AOW⟩ fun a43 w43 g43 IK=>?_
     refine AD ?_
     refine k14 _ _ ?_
     refine Au IK rfl rfl ?_
     refine wp_exit ?_
     repeat refine CA ?_
     refine x11 _ _ ?_
     refine k8 _ _ ?_
     refine AOQ fun K44 k44=>?_
     have gd45:=Cz w43
     replace AI:=AC gd45 (AC g43 AI)
     replace okk:=(okk.kn g43).kn gd45
     refine wp_region_noPanic ?_
     refine Gf (fun w'=>w'.heap[Bn]?=some (.cells ([[.int .i64 ad],[.slice ao od.length ac],[.int .i64 0],[.slice wo wd.length wc],[.slice bo body.length bc],bv tg].flatten).toArray 31 (0,0))∧True) [0,2,3,4] [1,5,6] (by kernel_rfl) (by kernel_rfl) (fun _ _ d _ _ h=>by cases d<;>exact h) rfl (by kernel_rfl) ⟨AI,AOW⟩ ?_
     simp only[List.filterMap_cons,List.filterMap_nil,List.getElem?_toArray,List.getElem?_cons_succ,List.getElem?_cons_zero]
     refine IP (v:=.slice ko i kc) w43.drew IK rfl (by kernel_rfl) (F9 6 55 (.inl rfl) rfl rfl trivial (fun _ _ h=>h)) fun a46 JK=>?_
     refine IP (v:=pk Bn 2) w43.drew JK rfl (by kernel_rfl) (ABD rfl rfl trivial (oy rfl rfl) (fun _=>by kernel_rfl) (fun _=>rfl)) fun a47 Kx=>?_
     refine NV Kx rfl rfl rfl rfl ⟨rfl,rfl⟩ (fun w hS=>Ad (DE 0) (BB (L:=[[.int .i64 ad],[.slice ao od.length ac],[.int .i64 0],[.slice wo wd.length wc],[.slice bo body.length bc],bv tg]) (i:=2) hS.1 rfl rfl)) fun a48 TV=>?_
     refine IP (v:=.bool true) w43.drew TV rfl (by kernel_rfl) (ACz rfl rfl trivial (oy rfl rfl) rfl (fun _=>BM rfl) (fun _=>rfl)) fun a49 ER=>?_
     change wpList _ _ _ _ _ _
     refine BA ER Tryz.func45 (by kernel_rfl) r6 (Jb (Py (by have:=congrArg List.length hkl;simpa using this.trans (by rw[List.length_map,List.length_take];omega)) (Own.sb okk) (by omega) (.inl rfl) rfl)) fun a50 v50 w50 hR50 Ky=>?_
     obtain⟨rfl,g50⟩:=hR50
     replace AI:=AC g50 AI
     replace AL:=AC g50 (AC gd45 (AC g43 AL))
     refine AD ⟨⟨AI,AOW⟩,?_⟩
     change wpList _ _ _ _ _ _
     refine Aq Ky r7 (Bb ((Qx (decide ((0:Int)=1)) (kl.map DD.x))) (Hc _ _).1) AL (EM (Hc _ _)) fun w51 g51 h51=>?_
     replace AJ:=Aa g51 (AC g50 (AC gd45 (AC g43 AJ))) (Ne.symm A3)
     replace AI:=Aa g51 AI (Ne.symm A7)
     replace hr:=(((hr.kn g43).kn gd45).kn g50).offR g51 (AP Bd)
     replace ho:=(((ho.kn g43).kn gd45).kn g50).offR g51 (AP CC)
     replace hw:=(((hw.kn g43).kn gd45).kn g50).offR g51 (AP CD)
     replace hb:=(((hb.kn g43).kn gd45).kn g50).offR g51 (AP B9)
     replace okk:=(okk.kn g50).offR g51 (AP Bg)
     replace HG:=AE (AA (AA (AA HG g43) gd45) g50) g51 Bm
     replace AL:=h51
     refine AD ⟨⟨AI,AOW⟩,?_⟩
     change wpList _ _ _ _ _ _
     refine AS (v:=.bool true) Ky r6 fun a52 Mw=>?_
     refine AD ⟨⟨AI,AOW⟩,?_⟩
     refine NoPanic.normal ?_
     have FU:Sv _ _ [_,_,_,_,_,_,_,_,_,_,_,_,_] _:=Mw.dl [56,59,58,57,55]
     refine k44 _ _ ?_
     refine AOT ?_
     repeat refine AM ?_
     refine Ap (fn:=Tryz.f63) FU (Cb (p:=4) (q:=5) Tryz.results63 FU rfl rfl rfl rfl (Bb ((Qx (decide ((0:Int)=1)) (kl.map DD.x))) (Hc _ _).1) AL) ?_
     exact RecR.some (show Ga P _=_ by unfold Ga;rw[if_neg (show ¬(0:Int)=1 by decide),if_pos hK2,←hkm]) (Hc _ _) HG
 · refine AOP ?_
   refine AS (v:=.int .i64 0) sv7 r6 fun a54 JL=>?_
   refine AD ?_
   refine k9 _ _ ?_
   refine BH fun Q55 x55 y55 rt55 o55=>?_
   have okk:=Own.nil w4 23 32
   have CL:=Gg Cp
   have CM:=Gg Bn
   have Bg:=Gg Ev
   have ap_hr_okk:=GV (KO (.slice vo ks.length vc_) ks)
   have ap_ho_okk:=GV (BC (.slice ao od.length ac))
   have ap_hw_okk:=GV (BC (.slice wo wd.length wc))
   have ap_hb_okk:=GV (BC (.slice bo body.length bc))
   have lo_okk:=UZ w
   refine wp_loop (fun a w'=>∃(i:Nat) (ko:Option Addr) (kc:Nat) (kl:List DD),(i≤od.length)∧(kl.length=i)∧(∀j,j<i→(DI P (Lf own j) ad).2≠0)∧Sv 60 [] [(7,.int .i64 ((i:Int))),(6,.slice ko i kc),(4,pt Ev),(3,pt Bn),(2,pt Cp),(0,Ay sa po (.slice vo ks.length vc_)),(1,Bv ad (.slice ao od.length ac) 1 (.slice wo wd.length wc) (.slice bo body.length bc) tg)] a∧w.grownBy w' none∧w'.heap[Cp]?=some (.cells ([bv sa,bv po,[.slice vo ks.length vc_]].flatten).toArray 36 (0,0))∧w'.heap[Bn]?=some (.cells ([[.int .i64 ad],[.slice ao od.length ac],[.int .i64 1],[.slice wo wd.length wc],[.slice bo body.length bc],bv tg].flatten).toArray 31 (0,0))∧w'.heap[Ev]?=some (.cells ((bv AR)).toArray 23 (0,0))∧RdK w' (.slice vo ks.length vc_) ks∧RdD w' (.slice ao od.length ac) od∧RdD w' (.slice wo wd.length wc) wd∧SlB w' 1 (.slice bo body.length bc) body.length (bv body)∧Own w' 23 32 (.slice ko i kc) i (kl.flatMap Ja)∧(∀k,BC (.slice ko i kc) k→k≠Cp)∧(∀k,BC (.slice ko i kc) k→k≠Bn)∧(∀k,BC (.slice ko i kc) k→k≠Ev)∧(∀k,KO (.slice vo ks.length vc_) ks k→¬BC (.slice ko i kc) k)∧(∀k,BC (.slice ao od.length ac) k→¬BC (.slice ko i kc) k)∧(∀k,BC (.slice wo wd.length wc) k→¬BC (.slice ko i kc) k)∧(∀k,BC (.slice bo body.length bc) k→¬BC (.slice ko i kc) k)∧(∀k,BC (.slice ko i kc) k→w.heap.size≤k)) (fun a _=>(od.length-intOf (a.tmps.getD 7 undef)).toNat) ⟨0,none,0,[],Nat.zero_le _,rfl,fun j hj=>by omega,⟨JL.1,JL.2.1,JL.2.2.1,JL.2.2.2.1,JL.2.2.2.2.2.1,JL.2.2.2.2.2.2.1,JL.2.2.2.2.2.2.2.1,(AG JL).1,(AG JL).2.1,AOW⟩,HG,AJ,AI,AL,hr,ho,hw,hb,okk,CL,CM,Bg,ap_hr_okk,ap_ho_okk,ap_hw_okk,ap_hb_okk,lo_okk⟩ fun a56 w56 hI56=>?_
   clear AJ
   clear AI
   clear AL
   clear hr
   clear ho
   clear hw
   clear hb
   clear okk
   clear HG
   obtain⟨i,ko,kc,kl,hin,hkll,hno,Oz,HG,AJ,AI,AL,hr,ho,hw,hb,okk,CL,CM,Bg,ap_hr_okk,ap_ho_okk,ap_hw_okk,ap_hb_okk,lo_okk⟩:=hI56
   refine AOQ fun K57 k57=>?_
   refine AOQ fun K58 k58=>?_
   by_cases hi:i<od.length
   · obtain⟨y,hx_y⟩:∃zx,od[i]'hi=zx:=⟨_,rfl⟩
     have hla:Lf own i=y.x:=by rw[←hown,Is hi,hx_y]
     obtain⟨kx,hkx⟩:∃q,DI P y.x ad=q:=⟨_,rfl⟩
     have hkd:Dg kx.1:=hkx▸Lh hnok
     refine AOP ?_
     refine AH Oz 5 [(10,.int .i64 ((i:Int))),(11,pk Bn 1),(12,.slice ao od.length ac),(13,.int .i64 ((od.length:Nat))),(14,.bool true)]
       ⟨ym r5,yf r6 (fun _=>by kernel_rfl),yp (i:=1) r6 (Fe (.slice ao od.length ac) rfl) AI rfl rfl,BJ (Tryz.underlying28) rfl rfl trivial (oy rfl rfl) (fun _=>rfl),Fg r7 (fun _=>BR (by simp;omega)),AOW⟩ fun a59 w59 g59 Eh=>?_
     refine AD ?_
     refine k58 _ _ ?_
     refine Am Eh rfl rfl ?_
     refine AOU ?_
     refine k57 _ _ ?_
     refine AOQ fun K60 k60=>?_
     refine BH fun Q61 x61 y61 rt61 o61=>?_
     refine AOQ fun K62 k62=>?_
     replace AJ:=AC g59 AJ
     replace AI:=AC g59 AI
     replace AL:=AC g59 AL
     replace hr:=hr.kn g59
     replace ho:=ho.kn g59
     replace hw:=hw.kn g59
     replace hb:=hb.kn g59
     replace okk:=okk.kn g59
     replace HG:=AA HG g59
     refine DP (Eh.st w59) (by kernel_rfl) 13 [(18,Sp.is (Ay sa po (.slice vo ks.length vc_))),(19,Sp.is (pk Bn 1)),(20,Sp.is (.slice ao od.length ac)),(21,Sp.is (.int .i64 ((i:Int)))),(22,Sp.is (pk ((bO ao)) (oO ao+i*32))),(23,Sp.is (AQ y.x)),(24,Sp.is (pt Bn)),(25,Sp.is (.int .i64 ad)),(26,Sp.is (.tuple #[AQ kx.1,.int .i64 kx.2])),(17,Sp.is (.tuple #[AQ kx.1,.int .i64 kx.2])),(27,Sp.is (AQ kx.1)),(28,Sp.is (.int .i64 kx.2)),(8,Sp.new w59.heap.size ((bv AR)) 23)] rfl (by kernel_rfl) (by kernel_rfl) (by kernel_rfl) [11] (by kernel_rfl)
       ⟨yl r6 (B6 hsa hpo (.slice vo ks.length vc_) rfl) AJ,yf r6 (fun _=>by kernel_rfl),yp (i:=1) r6 (Fe (.slice ao od.length ac) rfl) AI rfl rfl,ym r5,BD rq8 (fun w=>CF Tryz.underlying28 (by kernel_rfl) (ho.1) (by omega) (rfl) w),Bj r6 (fun _ g=>Ad (Bb y.x y.h.1) (by have:=CW (ho.kn g).1 Dj hi (by decide);rw[hx_y] at this;exact this)),yf r6 (fun _=>by kernel_rfl),yp (i:=0) r6 (D9 ad) AI rfl rfl,Ag [Ay sa po (.slice vo ks.length vc_),AQ y.x,.int .i64 ad] Tryz.func42 (by kernel_rfl) rq4 ⟨(oy rfl rfl),(oy rfl rfl),(oy rfl rfl),AOW⟩ (A1 fun W g=>ADZ hsa hpo y.h (hr.kn g) hP hkx),ym r5,Bh rq4 (fun _ _ h=>⟨_,_,h,rfl,rfl⟩),Bh rq4 (fun _ _ h=>⟨_,_,h,rfl,rfl⟩),Ju rfl trivial (Nat.le_refl _) (fun a w=>by kernel_rfl) (fun _ _ h=>h),AOW⟩ ⟨fun o ho=>by obtain rfl:=Option.some.inj ho;exact HH rfl rfl rfl trivial (fun _ _ h=>⟨_,_,h,rfl,rfl⟩),AOW⟩
       [8] (by kernel_rfl) ⟨Sp.new_lt,AOW⟩ ⟨.inl rfl,.inl rfl,.inl rfl,.inl rfl,.inl rfl,.inl rfl,.inl rfl,.inl rfl,.inl rfl,.inl rfl,.inl rfl,.inl rfl,.inr ⟨rfl,((bv AR)).toArray,23,fun a w=>by kernel_rfl⟩,AOW⟩ (by kernel_rfl) fun a63 w63 g63 st63 nd63=>?_
     obtain⟨hn63,hd63,e63_18,e63_19,e63_20,e63_21,e63_22,e63_23,e63_24,e63_25,e63_26,e63_17,e63_27,e63_28,e63_8,e63_10,e63_11,e63_12,e63_13,e63_14,e63_7,e63_6,e63_4,e63_3,e63_2,e63_0,e63_1,-⟩:=st63
     obtain⟨AN7,e63_8q,IE,NA⟩:=e63_8
     have Vc:=Fu AJ IE
     have Vd:=Fu AI IE
     have Nz:=Fu AL IE
     have AIS:=QR HG IE
     have ABj:=GO (hr.lt) IE
     have ABk:=GO (ho.lt) IE
     have ABl:=GO (hw.lt) IE
     have ABm:=GO (hb.lt) IE
     have Ym:=GO (Own.ltS okk) IE
     have PF:Sv 60 [] [(10,_),(11,_),(12,_),(13,_),(14,_),(7,_),(6,_),(4,_),(3,_),(2,_),(0,_),(1,_),(27,_),(28,_),(8,_)] a63:=⟨hn63,hd63,e63_10,e63_11,e63_12,e63_13,e63_14,e63_7,e63_6,e63_4,e63_3,e63_2,e63_0,e63_1,e63_27,e63_28,e63_8q,AOW⟩
     refine Aq PF r7 (Bb kx.1 hkd.1) NA (EM hkd) fun w64 g64 h64=>?_
     replace AJ:=Aa g64 (AC g63 AJ) (Ne.symm Vc)
     replace AI:=Aa g64 (AC g63 AI) (Ne.symm Vd)
     replace AL:=Aa g64 (AC g63 AL) (Ne.symm Nz)
     replace hr:=(hr.kn g63).offR g64 (AP ABj)
     replace ho:=(ho.kn g63).offR g64 (AP ABk)
     replace hw:=(hw.kn g63).offR g64 (AP ABl)
     replace hb:=(hb.kn g63).offR g64 (AP ABm)
     replace okk:=(okk.kn g63).offR g64 (AP Ym)
     replace HG:=AE (AA HG g63) g64 AIS
     replace NA:=h64
     refine AS (v:=.int .i64 kx.2) PF r6 fun a65 AIT=>?_
     refine AD ?_
     refine k62 _ _ ?_
     refine AOQ fun K66 k66=>?_
     refine AOQ fun K67 k67=>?_
     by_cases he:kx.2=0
     · have hiw:i<wd.length:=by have:=hwl rfl;omega
       obtain⟨wx,hx_wx⟩:∃zx,wd[i]'hiw=zx:=⟨_,rfl⟩
       have hhit:=PS (P:=P) (a:=ad) (own:=own) (wr:=wd.map DD.x) (i:=i) (by omega) hno (by rw[hla,hkx];exact he)
       rw[hla,hkx,Is hiw,hx_wx] at hhit
       refine AOP ?_
       refine AH AIT 7 [(29,.int .i64 kx.2),(30,.bool true),(31,.bool true),(32,pk Bn 2),(33,.int .i64 1),(34,.bool true),(35,.bool true)]
        ⟨ym r5,Ce r6 (fun _=>BM (by simpa using he)),ym r5,BI rq9 (fun _=>by kernel_rfl),A8 rq9 (fun _ g=>Ad (DE 1) (BB (L:=[[.int .i64 ad],[.slice ao od.length ac],[.int .i64 1],[.slice wo wd.length wc],[.slice bo body.length bc],bv tg]) (i:=2) (AF g AI (by simp)) rfl rfl)),Ai rq9 (fun _=>BM rfl),Ah rq9,AOW⟩ fun a68 w68 g68 Ih=>?_
       refine AD ?_
       refine k67 _ _ ?_
       refine Am Ih rfl rfl ?_
       refine AOQ fun K69 k69=>?_
       replace AI:=AC g68 AI
       replace AL:=AC g68 AL
       replace NA:=AC g68 NA
       replace hw:=hw.kn g68
       refine DP (Ih.st w68) (by kernel_rfl) 7 [(36,Sp.is (pk Bn 3)),(37,Sp.is (.slice wo wd.length wc)),(38,Sp.is (.int .i64 ((i:Int)))),(39,Sp.is (pk ((bO wo)) (oO wo+i*32))),(40,Sp.is (AQ wx.x)),(41,Sp.is (AQ kx.1)),(42,Sp.is (AQ ((Mg wx.x kx.1))))] rfl (by kernel_rfl) (by kernel_rfl) (by kernel_rfl) [] (by kernel_rfl)
        ⟨yf r6 (fun _=>by kernel_rfl),yp (i:=3) r6 (Fe (.slice wo wd.length wc) rfl) AI rfl rfl,ym r5,BD rq8 (fun w=>CF Tryz.underlying28 (by kernel_rfl) (hw.1) (by omega) (rfl) w),Bj r6 (fun _ g=>Ad (Bb wx.x wx.h.1) (by have:=CW (hw.kn g).1 Dj hiw (by decide);rw[hx_wx] at this;exact this)),yl r6 (Bb kx.1 hkd.1) NA,Ag [AQ wx.x,AQ kx.1] Tryz.func46 (by kernel_rfl) rq4 ⟨(oy rfl rfl),(oy rfl rfl),AOW⟩ (A1 fun W g=>WY wx.x kx.1 wx.h hkd W),AOW⟩ trivial
        [] (by kernel_rfl) trivial ⟨.inl rfl,.inl rfl,.inl rfl,.inl rfl,.inl rfl,.inl rfl,.inl rfl,AOW⟩ (by kernel_rfl) fun a70 w70 g70 st70 nd70=>?_
       obtain⟨hn70,hd70,e70_36,e70_37,e70_38,e70_39,e70_40,e70_41,e70_42,e70_29,e70_30,e70_31,e70_32,e70_33,e70_34,e70_35,e70_9,e70_10,e70_11,e70_12,e70_13,e70_14,e70_7,e70_6,e70_4,e70_3,e70_2,e70_0,e70_1,e70_27,e70_28,e70_8,-⟩:=st70
       have PT:Sv 60 [] [(29,_),(30,_),(31,_),(32,_),(33,_),(34,_),(35,_),(9,_),(10,_),(11,_),(12,_),(13,_),(14,_),(7,_),(6,_),(4,_),(3,_),(2,_),(0,_),(1,_),(27,_),(28,_),(8,_),(42,_)] a70:=⟨hn70,hd70,e70_29,e70_30,e70_31,e70_32,e70_33,e70_34,e70_35,e70_9,e70_10,e70_11,e70_12,e70_13,e70_14,e70_7,e70_6,e70_4,e70_3,e70_2,e70_0,e70_1,e70_27,e70_28,e70_8,e70_42,AOW⟩
       refine Aq PT r7 (Bb ((Mg wx.x kx.1)) (Ig wx.h hkd).1) (AC g70 AL) (EM (Ig wx.h hkd)) fun w71 g71 h71=>?_
       replace AJ:=Ab g70 g71 (AC g68 AJ) (Ne.symm A3)
       replace AI:=Ab g70 g71 AI (Ne.symm A7)
       replace NA:=Ab g70 g71 NA Nz
       replace hr:=((hr.kn g68).kn g70).offR g71 (AP Bd)
       replace ho:=((ho.kn g68).kn g70).offR g71 (AP CC)
       replace hw:=(hw.kn g70).offR g71 (AP CD)
       replace hb:=((hb.kn g68).kn g70).offR g71 (AP B9)
       replace okk:=((okk.kn g68).kn g70).offR g71 (AP Bg)
       replace HG:=AE (AA (AA HG g68) g70) g71 Bm
       replace AL:=h71
       refine AS (v:=.bool true) PT r6 fun a72 Xu=>?_
       refine AD ?_
       refine k69 _ _ ?_
       refine AOT ?_
       repeat refine AM ?_
       refine rt61 _ _ ?_
       repeat refine AM ?_
       refine rt55 _ _ ?_
       repeat refine AM ?_
       refine Ap (fn:=Tryz.f63) Xu (Cb (p:=4) (q:=5) Tryz.results63 Xu rfl rfl rfl rfl (Bb ((Mg wx.x kx.1)) (Ig wx.h hkd).1) AL) ?_
       exact RecR.some (show Ga P _=_ by unfold Ga;rw[if_pos rfl];exact hhit) (Ig wx.h hkd) HG
     · have hno1:∀j,j<i+1→(DI P (Lf own j) ad).2≠0:=fun j hj=>if e:j=i then (by rw[e,hla,hkx];exact he) else hno j (by omega)
       refine AOP ?_
       refine AH AIT 7 [(29,.int .i64 kx.2),(30,.bool false),(31,.bool false),(32,undef),(33,undef),(34,undef),(35,.bool false)]
        ⟨ym r5,Ce r6 (fun _=>BM (by simpa using he)),ym r5,AN r6,AN r6,AN r6,BF r7,AOW⟩ fun a73 w73 g73 Nn=>?_
       refine AD ?_
       refine k67 _ _ ?_
       refine Au Nn rfl rfl ?_
       refine AOU ?_
       refine k66 _ _ ?_
       refine AOQ fun K74 k74=>?_
       refine AOQ fun K75 k75=>?_
       refine AOP ?_
       refine AH Nn 7 [(43,.int .i64 kx.2),(44,.bool true),(45,.bool true),(46,pk Bn 2),(47,.int .i64 1),(48,.bool false),(49,.bool false)]
        ⟨ym r5,Ce r6 (fun _=>Dy (by simpa using he)),ym r5,BI rq9 (fun _=>by kernel_rfl),A8 rq9 (fun _ g=>Ad (DE 1) (BB (L:=[[.int .i64 ad],[.slice ao od.length ac],[.int .i64 1],[.slice wo wd.length wc],[.slice bo body.length bc],bv tg]) (i:=2) (AF g (AC g73 AI) (by simp)) rfl rfl)),Ai rq9 (fun _=>BM rfl),Ah rq9,AOW⟩ fun a76 w76 g76 P1=>?_
       have AIU:=AA g73 g76
       refine AD ?_
       refine k75 _ _ ?_
       refine Au P1 rfl rfl ?_
       refine AOU ?_
       refine k74 _ _ ?_
       refine AOP ?_
       refine AH P1 2 [(51,.slice ko i kc),(52,AQ kx.1)]
        ⟨ym r5,yl r6 (Bb kx.1 hkd.1) (AC AIU NA),AOW⟩ fun a77 w77 g77 U6=>?_
       have Yn:=AA AIU g77
       refine Jc (cs:=bv kx.1) (e:=23) U6 rfl rfl rfl rfl rfl rfl (Up hkd) fun a78 w78 ANg AMB g78 z78 AKF AA9=>?_
       replace AJ:=AC g78 (AC Yn AJ)
       replace AI:=AC g78 (AC Yn AI)
       replace AL:=AC g78 (AC Yn AL)
       replace hr:=(hr.kn Yn).kn g78
       replace ho:=(ho.kn Yn).kn g78
       replace hw:=(hw.kn Yn).kn g78
       replace hb:=(hb.kn Yn).kn g78
       replace okk:=(okk.kn Yn).kn g78
       replace HG:=AA (AA HG Yn) g78
       refine GZ dsT AA9 rfl rfl rfl rfl rfl rfl rfl rfl okk (Iv AKF hkd) (Dk _) (by omega) fun a79 ao79 cap79 w79 owx79 Bk Md=>?_
       have Ve:=Fo Bk.2 CL AJ
       have Vf:=Fo Bk.2 CM AI
       have Vg:=Fo Bk.2 Bg AL
       have ABn:=E4 Bk.2 ap_hr_okk (hr.lt)
       have ABo:=E4 Bk.2 ap_ho_okk (ho.lt)
       have ABp:=E4 Bk.2 ap_hw_okk (hw.lt)
       have ABq:=E4 Bk.2 ap_hb_okk (hb.lt)
       have AIV:=Oq Bk.2 lo_okk HG
       replace AJ:=AF Bk.1 AJ (fun e=>CL _ e.symm rfl)
       replace AI:=AF Bk.1 AI (fun e=>CM _ e.symm rfl)
       replace AL:=AF Bk.1 AL (fun e=>Bg _ e.symm rfl)
       replace hr:=hr.offR Bk.1 (fun k hk e=>ap_hr_okk k hk (e))
       replace ho:=ho.offR Bk.1 (fun k hk e=>ap_ho_okk k hk (e))
       replace hw:=hw.offR Bk.1 (fun k hk e=>ap_hw_okk k hk (e))
       replace hb:=hb.offR Bk.1 (fun k hk e=>ap_hb_okk k hk (e))
       replace HG:=Bu HG Bk.1 fun k e=>lo_okk k (e)
       rw[OP kl ⟨kx.1,hkd⟩] at owx79
       refine AS (v:=.slice ao79 (i+1) cap79) Md r6 fun a80 Gn=>?_
       have AF6:Sv _ _ [_,_,_,_,_,_,_,_,_,_,_,_,_,_,_,_,_,_,_,_,_,_,_,_,_,_,_,_,_,_] _:=Gn.dl [54,53,51,52]
       refine AD ?_
       refine y61 _ _ ?_
       refine k60 _ _ ?_
       refine AOP ?_
       refine AH AF6 2 [(15,.int .i64 ((i:Int))),(16,.int .i64 (((i+1:Nat):Int)))]
        ⟨ym r5,Ce r6 (fun _=>Dd (by rw[BT (by omega) (by omega)];omega)),AOW⟩ fun a82 w82 g82 TB=>?_
       refine AS (v:=.int .i64 (((i+1:Nat):Int))) TB r6 fun a83 Lj=>?_
       refine AD ?_
       replace AJ:=AC g82 AJ
       replace AI:=AC g82 AI
       replace AL:=AC g82 AL
       replace hr:=hr.kn g82
       replace ho:=ho.kn g82
       replace hw:=hw.kn g82
       replace hb:=hb.kn g82
       replace owx79:=owx79.kn g82
       replace HG:=AA HG g82
       exact⟨⟨i+1,ao79,cap79,(kl++[⟨kx.1,hkd⟩]),by omega,by rw[List.length_append];simp;omega,hno1,⟨Lj.1,Lj.2.1,Lj.2.2.1,Lj.2.2.2.2.2.1,(AG (AG (AG Lj))).2.2.1,(AG (AG (AG Lj))).2.2.2.1,(AG (AG (AG Lj))).2.2.2.2.1,(AG (AG (AG Lj))).2.2.2.2.2.1,(AG (AG (AG Lj))).2.2.2.2.2.2.1,AOW⟩,HG,AJ,AI,AL,hr,ho,hw,hb,owx79,Ve,Vf,Vg,ABn,ABo,ABp,ABq,AIV⟩,by rw[show _=_ from Lj.2.2.1,show _=_ from Oz.2.2.1];simp[intOf];omega⟩
   · have hnone:=P9 (P:=P) (a:=ad) (own:=own) (wr:=wd.map DD.x) fun j hj=>hno j (by omega)
     refine AOP ?_
     refine AH Oz 5 [(10,.int .i64 ((i:Int))),(11,pk Bn 1),(12,.slice ao od.length ac),(13,.int .i64 ((od.length:Nat))),(14,.bool false)]
       ⟨ym r5,yf r6 (fun _=>by kernel_rfl),yp (i:=1) r6 (Fe (.slice ao od.length ac) rfl) AI rfl rfl,BJ (Tryz.underlying28) rfl rfl trivial (oy rfl rfl) (fun _=>rfl),Fg r7 (fun _=>BR (by simp;omega)),AOW⟩ fun a84 w84 g84 M6=>?_
     refine AD ?_
     refine k58 _ _ ?_
     refine Au M6 rfl rfl ?_
     refine wp_exit ?_
     repeat refine CA ?_
     refine x55 _ _ ?_
     refine k8 _ _ ?_
     refine AOQ fun K85 k85=>?_
     have gd86:=Cz w84
     replace AI:=AC gd86 (AC g84 AI)
     replace okk:=(okk.kn g84).kn gd86
     refine wp_region_noPanic ?_
     refine Gf (fun w'=>w'.heap[Bn]?=some (.cells ([[.int .i64 ad],[.slice ao od.length ac],[.int .i64 1],[.slice wo wd.length wc],[.slice bo body.length bc],bv tg].flatten).toArray 31 (0,0))∧True) [0,2,3,4] [1,5,6] (by kernel_rfl) (by kernel_rfl) (fun _ _ d _ _ h=>by cases d<;>exact h) rfl (by kernel_rfl) ⟨AI,AOW⟩ ?_
     simp only[List.filterMap_cons,List.filterMap_nil,List.getElem?_toArray,List.getElem?_cons_succ,List.getElem?_cons_zero]
     refine IP (v:=.slice ko i kc) w84.drew M6 rfl (by kernel_rfl) (F9 6 55 (.inl rfl) rfl rfl trivial (fun _ _ h=>h)) fun a87 TG=>?_
     refine IP (v:=pk Bn 2) w84.drew TG rfl (by kernel_rfl) (ABD rfl rfl trivial (oy rfl rfl) (fun _=>by kernel_rfl) (fun _=>rfl)) fun a88 ALs=>?_
     refine NV ALs rfl rfl rfl rfl ⟨rfl,rfl⟩ (fun w hS=>Ad (DE 1) (BB (L:=[[.int .i64 ad],[.slice ao od.length ac],[.int .i64 1],[.slice wo wd.length wc],[.slice bo body.length bc],bv tg]) (i:=2) hS.1 rfl rfl)) fun a89 PG=>?_
     refine IP (v:=.bool false) w84.drew PG rfl (by kernel_rfl) (ACz rfl rfl trivial (oy rfl rfl) rfl (fun _=>BM rfl) (fun _=>rfl)) fun a90 ABY=>?_
     change wpList _ _ _ _ _ _
     refine BA ABY Tryz.func45 (by kernel_rfl) r6 (Jb (Py hkll (Own.sb okk) (by omega) (.inl rfl) rfl)) fun a91 v91 w91 hR91 AKC=>?_
     obtain⟨rfl,g91⟩:=hR91
     replace AI:=AC g91 AI
     replace AL:=AC g91 (AC gd86 (AC g84 AL))
     refine AD ⟨⟨AI,AOW⟩,?_⟩
     change wpList _ _ _ _ _ _
     refine Aq AKC r7 (Bb ((Qx (decide ((0:Int)=1)) (kl.map DD.x))) (Hc _ _).1) AL (EM (Hc _ _)) fun w92 g92 h92=>?_
     replace AI:=Aa g92 AI (Ne.symm A7)
     replace okk:=(okk.kn g91).offR g92 (AP Bg)
     replace HG:=AE (AA (AA (AA HG g84) gd86) g91) g92 Bm
     replace AL:=h92
     refine AD ⟨⟨AI,AOW⟩,?_⟩
     change wpList _ _ _ _ _ _
     refine AS (v:=.bool false) AKC r6 fun a93 EQ=>?_
     refine AD ⟨⟨AI,AOW⟩,?_⟩
     refine NoPanic.normal ?_
     have AIO:Sv _ _ [_,_,_,_,_,_,_,_,_,_,_,_,_] _:=EQ.dl [56,59,58,57,55]
     refine k85 _ _ ?_
     refine AOT ?_
     repeat refine AM ?_
     refine Ap (fn:=Tryz.f63) AIO (Cb (p:=4) (q:=5) Tryz.results63 AIO rfl rfl rfl rfl (Bb ((Qx (decide ((0:Int)=1)) (kl.map DD.x))) (Hc _ _).1) AL) ?_
     exact RecR.none (show Ga P _=_ by unfold Ga;rw[if_pos rfl];exact hnone) (Hc _ _) HG
end Go.Proofs.YtbfjfnbcmojpiaaGreat
