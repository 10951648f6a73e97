import Derived.Test.YtbfjfnbcmojpiaaGreatOpRT
set_option linter.unusedSimpArgs false
set_option linter.unusedVariables false
set_option maxRecDepth 100000
set_option maxHeartbeats 4000000
namespace Go.Proofs.YtbfjfnbcmojpiaaGreat
open Go.RowKit Go.Shelf
theorem Wo {P:Program} {ops:Array Oper} {L:Nat→Sp} {n:Nat} {w0:World} {o:Oper} {ty:TypeId} {x:Operand} {k d:Nat} {p v:Value} (ho:o.op=.fieldAddr ty x k) (hd:o.dst=some d) (hg:GX ops L n o.guard) (hx:OpX L n x p) (hrun:∀w,(Instr.fieldAt ty p k).run P w=.ok v w) (h:∀w,(L d).on w v):PX P ops L n w0 o:=
 PE hg fun a w hw hl hsz=>⟨v,fun w'=>by
  have e1:=hx.eval (o:=o) (by simp[ho,Op.operands]) hl
  simp only[execOp,ho,e1,Sem.run_bind,Sem.run_pure,Result.andThen_ok,hrun w'],Cw hd (h w)⟩
def I4 (b:List Nat):V×Int:=match pV b with
 | .ok (x,[])=>(x,0)
 | _=>(V.nul,101)
theorem AAq {b:List Nat} {x:V} (h:pV b=.ok (x,[])):I4 b=(x,0):=by unfold I4;rw[h]
theorem AB8 {b r:List Nat} {x:V} (h:pV b=.ok (x,r)) (hr:0<r.length):I4 b=(V.nul,101):=by
 unfold I4
 rw[h]
 cases r with
 | nil=>simp at hr
 | cons c r=>rfl
theorem AD4 {b:List Nat} {e:Nat} (h:pV b=.error e):I4 b=(V.nul,101):=by unfold I4;rw[h]
def Zf (P:List VP) (a:Int):List (List Nat)→List (List Nat)→Option (List Nat)
 | [],_=>none
 | o::own,wr=>if (Cz P o a).2=0 then some (Nr (MF wr 0) (Cz P o a).1) else Zf P a own wr.tail
theorem NV {P:List VP} {a:Int}:∀{own wr:List (List Nat)},(∀j,j<own.length→(Cz P (MF own j) a).2≠0)→Zf P a own wr=none
 | [],_,_=>rfl
 | o::own,wr,h=>by
  have h0:(Cz P o a).2≠0:=h 0 (by simp)
  unfold Zf
  rw[if_neg h0]
  exact NV fun j hj=>h (j+1) (by simpa using hj)
theorem Py {P:List VP} {a:Int}:∀{own wr:List (List Nat)} {i:Nat},i<own.length→(∀j,j<i→(Cz P (MF own j) a).2≠0)→(Cz P (MF own i) a).2=0→Zf P a own wr=some (Nr (MF wr i) (Cz P (MF own i) a).1)
 | [],_,_,hi,_,_=>by simp at hi
 | o::own,wr,0,_,_,h=>by
  have h0:(Cz P o a).2=0:=h
  unfold Zf
  rw[if_pos h0]
  rfl
 | o::own,wr,i+1,hi,hj,h=>by
  have h0:(Cz P o a).2≠0:=hj 0 (by omega)
  have:=Py (own:=own) (wr:=wr.tail) (i:=i) (by simpa using hi) (fun j hjj=>hj (j+1) (by omega)) h
  unfold Zf
  rw[if_neg h0,this]
  cases wr<;>rfl
def FT (P:List VP) (s:Sd):Option (List Nat):=if s.joint=1 then Zf P s.addr s.own s.wr else if (DY P s.addr s.own).2=0 then some (PT (decide ((0:Int)=1)) (DY P s.addr s.own).1) else none
def Ei (P:List VP) (s:Sd):V×Int:=
 if EX s&&Cj P then
  (if s.own=[] then (if ML s.addr s.body=s.tag then I4 s.body else (V.nul,101))
  else match FT P s with
   | none=>(V.nul,10)
   | some c=>if LS c s.addr s.body=s.tag then I4 (IK s.body c) else (V.nul,101))
 else (V.nul,1)
theorem UE {s:Sd} (h:EX s=true):hd s.own s.joint s.addr=true:=by
 unfold EX at h
 simp only[Bool.and_eq_true] at h
 exact h.1.1
theorem AD5 {s:Sd} (h:EX s=true):s.body.length≤64:=by
 unfold EX at h
 simp only[Bool.and_eq_true,decide_eq_true_eq] at h
 exact h.1.2
theorem AD6 {s:Sd} (h:EX s=true) (hj:s.joint=1):s.wr.length=s.own.length:=by
 unfold EX at h
 rw[if_pos hj] at h
 simp only[Bool.and_eq_true,decide_eq_true_eq] at h
 exact h.2
def RecR (w w':World) (r:Option (List Nat)) (e:Ending):Prop:=∃c,e=.returned (.tuple #[AQ c,.bool r.isSome])∧Dg c∧(∀c',r=some c'→c'=c)∧w.grownBy w' none
theorem RecR.some {w w':World} {r:Option (List Nat)} {c:List Nat} (h:r=some c) (hc:Dg c) (g:w.grownBy w' none):RecR w w' r (.returned (.tuple #[AQ c,.bool true])):=by
 subst h
 exact⟨c,rfl,hc,fun c' h=>(Option.some.inj h).symm,g⟩
theorem RecR.none {w w':World} {r:Option (List Nat)} {c:List Nat} (h:r=none) (hc:Dg c) (g:w.grownBy w' none):RecR w w' r (.returned (.tuple #[AQ c,.bool false])):=by
 subst h
 exact⟨c,rfl,hc,fun c' h=>(by cases h),g⟩
theorem Zg (ks:List VK) (vo:Option Addr) (vc_:Nat) (sa po:List Nat) (hsa:Dg sa) (hpo:Dg po) (ad joint:Int) (od wd:List DD) (ao wo bo:Option Addr) (ac wc bc:Nat) (body tg:List Nat) (htg:Dg tg) (w:World) (hr:RdK w (.slice vo ks.length vc_) ks) (ho:RdD w (.slice ao od.length ac) od) (hw:RdD w (.slice wo wd.length wc) wd) (hb:SlB w 1 (.slice bo body.length bc) body.length (bv body)) (hvs:EX ⟨ad,od.map DD.x,joint,wd.map DD.x,body,tg⟩=true) :
   Calls Tryz.prog 62 #[A8 sa po (.slice vo ks.length vc_),BR ad (.slice ao od.length ac) joint (.slice wo wd.length wc) (.slice bo body.length bc) tg] w fun e w'=>RecR w w' (FT (ks.map VK.p) ⟨ad,od.map DD.x,joint,wd.map DD.x,body,tg⟩) e:=by
 obtain⟨P,hP⟩:∃P,ks.map VK.p=P:=⟨_,rfl⟩
 obtain⟨own,hown⟩:∃own,od.map DD.x=own:=⟨_,rfl⟩
 have hownl:own.length=od.length:=by rw[←hown,List.length_map]
 have hnok:=hr.noks2
 rw[hP] at hnok
 rw[hP,hown]
 obtain⟨haa,hjj,hol,_⟩:=Wa (UE hvs)
 have hol:own.length≤16:=by rw[←hown];exact hol
 have hwl:joint=1→wd.length=od.length:=fun h=>by have:=AD6 hvs h;simpa using this
 refine BV Tryz.func62 rfl Tryz.ntmps62 rfl fun a0 sv0=>?_
 have HG:=World.grownBy.refl w none
 replace sv0:Sv 64 [] [(0,A8 sa po (.slice vo ks.length vc_)),(1,BR ad (.slice ao od.length ac) joint (.slice wo wd.length wc) (.slice bo body.length bc) tg)] a0:=sv0
 refine AKQ fun K1 k1=>?_
 refine AKP ?_
 refine Be sv0 r6 (CX hsa hpo (.slice vo ks.length vc_) rfl) fun a2 w2 CP DG g2 z2 AH sv2=>?_
 refine Be sv2 r6 (Df _ _ htg (.slice ao od.length ac) (.slice wo wd.length wc) (.slice bo body.length bc) rfl rfl rfl) fun a3 w3 BO Dw g3 z3 AG sv3=>?_
 replace AH:=AC g3 AH
 replace hr:=(hr.kn g2).kn g3
 replace ho:=(ho.kn g2).kn g3
 replace hw:=(hw.kn g2).kn g3
 replace hb:=(hb.kn g2).kn g3
 replace HG:=AA (AA HG g2) g3
 refine BB (T:=23) (Z:=(bv AS)) sv3 rfl rfl rfl (fun a w=>by kernel_rfl) fun a4 w4 FS Bk g4 z4 AM sv4=>?_
 have A9:=As AH Bk
 have BA:=As AG Bk
 have Bn:=Bq HG Bk
 have Bm:=Ay (hr.lt) Bk
 have Br:=Ay (ho.lt) Bk
 have Bt:=Ay (hw.lt) Bk
 have Bo:=Ay (hb.lt) Bk
 replace AH:=AC g4 AH
 replace AG:=AC g4 AG
 replace hr:=hr.kn g4
 replace ho:=ho.kn g4
 replace hw:=hw.kn g4
 replace hb:=hb.kn g4
 replace HG:=AA HG g4
 refine AR (v:=.bool false) sv4 r6 fun a5 sv5=>?_
 refine AE ?_
 refine k1 _ _ ?_
 refine AKQ fun K6 k6=>?_
 refine AKP ?_
 refine AR (v:=.slice none 0 0) sv5 r6 fun a7 sv7=>?_
 refine AE ?_
 refine k6 _ _ ?_
 refine AKQ fun K8 k8=>?_
 refine AKQ fun K9 k9=>?_
 rcases hjj with rfl|rfl
 · refine AKP ?_
   refine AJ sv7 4 [(11,pk BO 1),(12,.slice ao od.length ac),(13,.int .i64 ((od.length:Nat))),(14,.int .i64 0)]
     ⟨yf r6 (fun _=>by kernel_rfl),yp (i:=1) r6 (D4 (.slice ao od.length ac) rfl) AG rfl rfl,Au (Tryz.underlying28) rfl rfl trivial (oy rfl rfl) (fun _=>rfl),En (.inl rfl) rfl trivial (fun _=>rfl),AKW⟩ fun a10 w10 g10 BF=>?_
   refine AE ?_
   refine k9 _ _ ?_
   refine BI fun Q11 x11 y11 rt11 o11=>?_
   replace AH:=AC g10 AH
   replace AG:=AC g10 AG
   replace AM:=AC g10 AM
   replace hr:=hr.kn g10
   replace ho:=ho.kn g10
   replace hw:=hw.kn g10
   replace hb:=hb.kn g10
   replace HG:=AA HG g10
   have okk:=Own.nil w10 23 32
   have CA:=Hm CP
   have CB:=Hm BO
   have BT:=Hm FS
   have ap_hr_okk:=Gk (TH (.slice vo ks.length vc_) ks)
   have ap_ho_okk:=Gk (Ba (.slice ao od.length ac))
   have ap_hw_okk:=Gk (Ba (.slice wo wd.length wc))
   have ap_hb_okk:=Gk (Ba (.slice bo body.length bc))
   have lo_okk:=Yt w
   refine wp_loop (fun a w'=>∃(i:Nat) (ko:Option Addr) (kc:Nat) (kl:List DD),(i≤od.length)∧(kl.map DD.x=(own.take i).map fun z=>(Cz P z ad).1)∧(∀j,j<i→(Cz P (MF own j) ad).2=0)∧Sv 64 [] [(14,.int .i64 ((i:Int))),(6,.slice ko i kc),(11,pk BO 1),(12,.slice ao od.length ac),(13,.int .i64 ((od.length:Nat))),(4,pt FS),(3,pt BO),(2,pt CP),(0,A8 sa po (.slice vo ks.length vc_)),(1,BR ad (.slice ao od.length ac) 0 (.slice wo wd.length wc) (.slice bo body.length bc) tg)] a∧w.grownBy w' none∧w'.heap[CP]?=some (.cells ([bv sa,bv po,[.slice vo ks.length vc_]].flatten).toArray 36 (0,0))∧w'.heap[BO]?=some (.cells ([[.int .i64 ad],[.slice ao od.length ac],[.int .i64 0],[.slice wo wd.length wc],[.slice bo body.length bc],bv tg].flatten).toArray 31 (0,0))∧w'.heap[FS]?=some (.cells ((bv AS)).toArray 23 (0,0))∧RdK w' (.slice vo ks.length vc_) ks∧RdD w' (.slice ao od.length ac) od∧RdD w' (.slice wo wd.length wc) wd∧SlB w' 1 (.slice bo body.length bc) body.length (bv body)∧Own w' 23 32 (.slice ko i kc) i (kl.flatMap J4)∧(∀k,Ba (.slice ko i kc) k→k≠CP)∧(∀k,Ba (.slice ko i kc) k→k≠BO)∧(∀k,Ba (.slice ko i kc) k→k≠FS)∧(∀k,TH (.slice vo ks.length vc_) ks k→¬Ba (.slice ko i kc) k)∧(∀k,Ba (.slice ao od.length ac) k→¬Ba (.slice ko i kc) k)∧(∀k,Ba (.slice wo wd.length wc) k→¬Ba (.slice ko i kc) k)∧(∀k,Ba (.slice bo body.length bc) k→¬Ba (.slice ko i kc) k)∧(∀k,Ba (.slice ko i kc) k→w.heap.size≤k)) (fun a _=>(od.length-intOf (a.tmps.getD 14 undef)).toNat) ⟨0,none,0,[],Nat.zero_le _,rfl,fun j hj=>by omega,⟨BF.1,BF.2.1,BF.2.2.2.2.2.1,BF.2.2.2.2.2.2.1,BF.2.2.1,BF.2.2.2.1,BF.2.2.2.2.1,(AL BF).1,(AL BF).2.1,(AL BF).2.2.1,(AL BF).2.2.2.1,(AL BF).2.2.2.2.1,AKW⟩,HG,AH,AG,AM,hr,ho,hw,hb,okk,CA,CB,BT,ap_hr_okk,ap_ho_okk,ap_hw_okk,ap_hb_okk,lo_okk⟩ fun a12 w12 hI12=>?_
   clear AH
   clear AG
   clear AM
   clear hr
   clear ho
   clear hw
   clear hb
   clear okk
   clear HG
   obtain⟨i,ko,kc,kl,hin,hkl,hok,Cq,HG,AH,AG,AM,hr,ho,hw,hb,okk,CA,CB,BT,ap_hr_okk,ap_ho_okk,ap_hw_okk,ap_hb_okk,lo_okk⟩:=hI12
   refine AKQ fun K13 k13=>?_
   by_cases hi:i<od.length
   · obtain⟨y,hx_y⟩:∃zx,od[i]'hi=zx:=⟨_,rfl⟩
     have hla:MF own i=y.x:=by rw[←hown,Hp hi,hx_y]
     obtain⟨kx,hkx⟩:∃q,Cz P y.x ad=q:=⟨_,rfl⟩
     have hkd:Dg kx.1:=hkx▸Kj hnok
     refine AKP ?_
     refine AJ Cq 1 [(15,.bool true)]
       ⟨FG r7 (fun _=>BJ (by simp;omega)),AKW⟩ fun a14 w14 g14 C6=>?_
     refine AE ?_
     refine k13 _ _ ?_
     refine AKQ fun K15 k15=>?_
     refine Ar C6 rfl rfl ?_
     refine AKU ?_
     refine k15 _ _ ?_
     refine AKQ fun K16 k16=>?_
     refine BI fun Q17 x17 y17 rt17 o17=>?_
     refine AKQ fun K18 k18=>?_
     refine AKP ?_
     replace ho:=ho.kn g14
     refine AJ C6 3 [(16,.int .i64 ((i:Int))),(17,pk ((bO ao)) (oO ao+i*32)),(18,AQ y.x)]
       ⟨ym r5,BH rq8 (fun w=>CU Tryz.underlying28 (by kernel_rfl) (ho.1) (by omega) (rfl) w),Bg r6 (fun _ g=>AY (Bb y.x y.h.1) (by have:=Cb (ho.kn g).1 DV hi (by decide);rw[hx_y] at this;exact this)),AKW⟩ fun a19 w19 g19 Cs=>?_
     replace AH:=AC g19 (AC g14 AH)
     replace AG:=AC g19 (AC g14 AG)
     replace AM:=AC g19 (AC g14 AM)
     replace hr:=(hr.kn g14).kn g19
     replace ho:=ho.kn g19
     replace hw:=(hw.kn g14).kn g19
     replace hb:=(hb.kn g14).kn g19
     replace okk:=(okk.kn g14).kn g19
     replace HG:=AA (AA HG g14) g19
     refine BB (T:=23) (Z:=(bv AS)) Cs rfl rfl rfl (fun a w=>by kernel_rfl) fun a20 w20 AJw Ft g20 z20 Zh DH=>?_
     have Qz:=As AH Ft
     have Q2:=As AG Ft
     have Q3:=As AM Ft
     have AD7:=Bq HG Ft
     have Wp:=Ay (hr.lt) Ft
     have Wq:=Ay (ho.lt) Ft
     have Wr:=Ay (hw.lt) Ft
     have Ws:=Ay (hb.lt) Ft
     have UF:=Ay (Own.ltS okk) Ft
     refine AR (v:=.int .i64 ((i:Int))) DH r6 fun a21 CK=>?_
     refine Av CK r7 (Bb y.x y.h.1) Zh (Dk y.h) fun w22 g22 h22=>?_
     replace AH:=AZ g22 (AC g20 AH) (Ne.symm Qz)
     replace AG:=AZ g22 (AC g20 AG) (Ne.symm Q2)
     replace hr:=(hr.kn g20).offR g22 (AP Wp)
     replace Zh:=h22
     refine AE ?_
     refine k18 _ _ ?_
     refine AKQ fun K23 k23=>?_
     refine AKP ?_
     refine AJ CK 8 [(20,A8 sa po (.slice vo ks.length vc_)),(21,AQ y.x),(22,pt BO),(23,.int .i64 ad),(24,.tuple #[AQ kx.1,.int .i64 kx.2]),(19,.tuple #[AQ kx.1,.int .i64 kx.2]),(25,AQ kx.1),(26,.int .i64 kx.2)]
       ⟨yl r6 (CX hsa hpo (.slice vo ks.length vc_) rfl) AH,yl r6 (Bb y.x y.h.1) Zh,yf r6 (fun _=>by kernel_rfl),yp (i:=0) r6 (Dr ad) AG rfl rfl,Al [A8 sa po (.slice vo ks.length vc_),AQ y.x,.int .i64 ad] Tryz.func32 (by kernel_rfl) rq4 ⟨(oy rfl rfl),(oy rfl rfl),(oy rfl rfl),AKW⟩ (A7 fun W g=>ADy hsa hpo y.h (hr.kn g) hP hkx),ym r5,BZ rq4 (fun _ _ h=>⟨_,_,h,rfl,rfl⟩),BZ rq4 (fun _ _ h=>⟨_,_,h,rfl,rfl⟩),AKW⟩ fun a24 w24 g24 Du=>?_
     replace AH:=AC g24 AH
     replace AG:=AC g24 AG
     replace AM:=AC g24 (AZ g22 (AC g20 AM) (Ne.symm Q3))
     replace hr:=hr.kn g24
     replace ho:=((ho.kn g20).offR g22 (AP Wq)).kn g24
     replace hw:=((hw.kn g20).offR g22 (AP Wr)).kn g24
     replace hb:=((hb.kn g20).offR g22 (AP Ws)).kn g24
     replace okk:=((okk.kn g20).offR g22 (AP UF)).kn g24
     replace HG:=AA (AD (AA HG g20) g22 AD7) g24
     refine BB (T:=23) (Z:=(bv AS)) Du rfl rfl rfl (fun a w=>by kernel_rfl) fun a25 w25 AJx Fu g25 z25 Zi Bz=>?_
     have Q4:=As AH Fu
     have Q7:=As AG Fu
     have RA:=As AM Fu
     have AD8:=Bq HG Fu
     have Wt:=Ay (hr.lt) Fu
     have Wu:=Ay (ho.lt) Fu
     have Wv:=Ay (hw.lt) Fu
     have Ww:=Ay (hb.lt) Fu
     have UG:=Ay (Own.ltS okk) Fu
     refine Av Bz r7 (Bb kx.1 hkd.1) Zi (Dk hkd) fun w26 g26 h26=>?_
     replace AH:=AZ g26 (AC g25 AH) (Ne.symm Q4)
     replace AG:=AZ g26 (AC g25 AG) (Ne.symm Q7)
     replace AM:=AZ g26 (AC g25 AM) (Ne.symm RA)
     replace hr:=(hr.kn g25).offR g26 (AP Wt)
     replace ho:=(ho.kn g25).offR g26 (AP Wu)
     replace hw:=(hw.kn g25).offR g26 (AP Wv)
     replace hb:=(hb.kn g25).offR g26 (AP Ww)
     replace okk:=(okk.kn g25).offR g26 (AP UG)
     replace HG:=AD (AA HG g25) g26 AD8
     replace Zi:=h26
     refine AR (v:=.int .i64 kx.2) Bz r6 fun a27 F6=>?_
     have GI:Sv _ _ [_,_,_,_,_,_,_,_,_,_,_,_,_,_,_,_,_,_] _:=F6.dl [20,21,22,23,24,19,25,26]
     refine AE ?_
     refine k23 _ _ ?_
     refine AKQ fun K29 k29=>?_
     refine BI fun Q30 x30 y30 rt30 o30=>?_
     refine AKQ fun K31 k31=>?_
     by_cases he:kx.2=0
     · have hkl1:=NO hkl (by omega) hla hkx (hkd:=hkd)
       have hok1:∀j,j<i+1→(Cz P (MF own j) ad).2=0:=fun j hj=>if e:j=i then (by rw[e,hla,hkx];exact he) else hok j (by omega)
       refine AKP ?_
       refine AJ GI 7 [(28,pk BO 2),(29,.int .i64 0),(30,.bool false),(31,.bool false),(32,undef),(33,undef),(34,.bool false)]
        ⟨yf r6 (fun _=>by kernel_rfl),yp (i:=2) r6 (DE 0) AG rfl rfl,Cp r6 (fun _=>BU rfl),ym r5,AN r6,AN r6,A1 r7,AKW⟩ fun a32 w32 g32 Dm=>?_
       refine AR (v:=.bool false) Dm r6 fun a33 Eu=>?_
       have FI:Sv _ _ [_,_,_,_,_,_,_,_,_,_,_,_,_,_,_,_,_,_,_] _:=Eu.dl [28,29,30,31,32,33,34]
       refine AE ?_
       refine k31 _ _ ?_
       refine A2 FI rfl rfl ?_
       refine AKQ fun K35 k35=>?_
       refine AKP ?_
       refine AJ FI 7 [(43,pk BO 2),(44,.int .i64 0),(45,.bool true),(46,.bool true),(47,.int .i64 kx.2),(48,.bool false),(49,.bool false)]
        ⟨yf r6 (fun _=>by kernel_rfl),yp (i:=2) r6 (DE 0) (AC g32 AG) rfl rfl,Cp r6 (fun _=>BU rfl),ym r5,Ad rq8,Af rq9 (fun _=>Db (by simpa using he)),Aa rq9,AKW⟩ fun a36 w36 g36 Ep=>?_
       have Mc:=AA g32 g36
       refine AR (v:=.bool false) Ep r6 fun a37 IE=>?_
       have N6:Sv _ _ [_,_,_,_,_,_,_,_,_,_,_,_,_,_,_,_,_,_,_,_] _:=IE.dl [43,44,45,46,47,48,49]
       refine AE ?_
       refine k35 _ _ ?_
       refine A2 N6 rfl rfl ?_
       refine AKU ?_
       refine y30 _ _ ?_
       refine k29 _ _ ?_
       refine AKP ?_
       refine AJ N6 2 [(51,.slice ko i kc),(52,AQ kx.1)]
        ⟨ym r5,yl r6 (Bb kx.1 hkd.1) (AC Mc Zi),AKW⟩ fun a39 w39 g39 LP=>?_
       have UH:=AA Mc g39
       refine Jn (cs:=bv kx.1) (e:=23) LP rfl rfl rfl rfl rfl rfl (Zb hkd) fun a40 w40 AJi AIF g40 z40 AGA IG=>?_
       replace AH:=AC g40 (AC UH AH)
       replace AG:=AC g40 (AC UH AG)
       replace AM:=AC g40 (AC UH AM)
       replace hr:=(hr.kn UH).kn g40
       replace ho:=(ho.kn UH).kn g40
       replace hw:=(hw.kn UH).kn g40
       replace hb:=(hb.kn UH).kn g40
       replace okk:=(okk.kn UH).kn g40
       replace HG:=AA (AA HG UH) g40
       refine IC dsT IG rfl rfl rfl rfl rfl rfl rfl rfl okk (Js AGA hkd) (Dx _) (by omega) fun a41 ao41 cap41 w41 owx41 CG Qb=>?_
       have RB:=Ha CG.2 CA AH
       have RC:=Ha CG.2 CB AG
       have RD:=Ha CG.2 BT AM
       have Wx:=Fl CG.2 ap_hr_okk (hr.lt)
       have Wy:=Fl CG.2 ap_ho_okk (ho.lt)
       have Wz:=Fl CG.2 ap_hw_okk (hw.lt)
       have W0:=Fl CG.2 ap_hb_okk (hb.lt)
       have AD9:=TB CG.2 lo_okk HG
       replace AH:=AF CG.1 AH (fun e=>CA _ e.symm rfl)
       replace AG:=AF CG.1 AG (fun e=>CB _ e.symm rfl)
       replace AM:=AF CG.1 AM (fun e=>BT _ e.symm rfl)
       replace hr:=hr.offR CG.1 (fun k hk e=>ap_hr_okk k hk (e))
       replace ho:=ho.offR CG.1 (fun k hk e=>ap_ho_okk k hk (e))
       replace hw:=hw.offR CG.1 (fun k hk e=>ap_hw_okk k hk (e))
       replace hb:=hb.offR CG.1 (fun k hk e=>ap_hb_okk k hk (e))
       replace HG:=Ca HG CG.1 fun k e=>lo_okk k (e)
       rw[Pf kl ⟨kx.1,hkd⟩] at owx41
       refine AR (v:=.slice ao41 (i+1) cap41) Qb r6 fun a42 Gp=>?_
       have Hn:Sv _ _ [_,_,_,_,_,_,_,_,_,_,_,_,_,_,_,_,_,_,_,_] _:=Gp.dl [54,53,51,52]
       refine AE ?_
       refine y17 _ _ ?_
       refine k16 _ _ ?_
       refine AKP ?_
       refine AJ Hn 1 [(55,.int .i64 (((i+1:Nat):Int)))]
        ⟨Cp r6 (fun _=>DL (by rw[Bc (by omega) (by omega)];omega)),AKW⟩ fun a44 w44 g44 N8=>?_
       refine AJ (N8.dl [14]) 1 [(14,.int .i64 (((i+1:Nat):Int)))]
        ⟨ym r5,AKW⟩ fun a45 w45 g45 E8=>?_
       have PU:=AA g44 g45
       refine AE ?_
       replace AH:=AC PU AH
       replace AG:=AC PU AG
       replace AM:=AC PU AM
       replace hr:=hr.kn PU
       replace ho:=ho.kn PU
       replace hw:=hw.kn PU
       replace hb:=hb.kn PU
       replace owx41:=owx41.kn PU
       replace HG:=AA HG PU
       exact⟨⟨i+1,ao41,cap41,(kl++[⟨kx.1,hkd⟩]),by omega,hkl1,hok1,⟨E8.1,E8.2.1,E8.2.2.1,E8.2.2.2.2.1,(AL E8).2.2.2.2.2.2.2.1,(AL (AL E8)).1,(AL (AL E8)).2.1,(AL (AL E8)).2.2.1,(AL (AL E8)).2.2.2.1,(AL (AL E8)).2.2.2.2.1,(AL (AL E8)).2.2.2.2.2.1,(AL (AL E8)).2.2.2.2.2.2.1,AKW⟩,HG,AH,AG,AM,hr,ho,hw,hb,owx41,RB,RC,RD,Wx,Wy,Wz,W0,AD9⟩,by rw[show _=_ from E8.2.2.1,show _=_ from Cq.2.2.1];simp[intOf];omega⟩
     · have hke:=LK (P:=P) (a:=ad) (own:=own) (i:=i) (by omega) hok (by rw[hla,hkx];exact he)
       rw[hla,hkx] at hke
       refine AKP ?_
       refine AJ GI 7 [(28,pk BO 2),(29,.int .i64 0),(30,.bool false),(31,.bool false),(32,undef),(33,undef),(34,.bool false)]
        ⟨yf r6 (fun _=>by kernel_rfl),yp (i:=2) r6 (DE 0) AG rfl rfl,Cp r6 (fun _=>BU rfl),ym r5,AN r6,AN r6,A1 r7,AKW⟩ fun a46 w46 g46 I0=>?_
       refine AR (v:=.bool false) I0 r6 fun a47 NH=>?_
       have UI:Sv _ _ [_,_,_,_,_,_,_,_,_,_,_,_,_,_,_,_,_,_,_] _:=NH.dl [28,29,30,31,32,33,34]
       refine AE ?_
       refine k31 _ _ ?_
       refine A2 UI rfl rfl ?_
       refine AKQ fun K49 k49=>?_
       refine AKP ?_
       refine AJ UI 7 [(43,pk BO 2),(44,.int .i64 0),(45,.bool true),(46,.bool true),(47,.int .i64 kx.2),(48,.bool true),(49,.bool true)]
        ⟨yf r6 (fun _=>by kernel_rfl),yp (i:=2) r6 (DE 0) (AC g46 AG) rfl rfl,Cp r6 (fun _=>BU rfl),ym r5,Ad rq8,Af rq9 (fun _=>Db (by simpa using he)),Aa rq9,AKW⟩ fun a50 w50 g50 NI=>?_
       have UJ:=AA g46 g50
       refine AR (v:=.bool true) NI r6 fun a51 AB1=>?_
       have PQ:Sv _ _ [_,_,_,_,_,_,_,_,_,_,_,_,_,_,_,_,_,_,_,_] _:=AB1.dl [43,44,45,46,47,48,49]
       refine AE ?_
       refine k49 _ _ ?_
       refine Ar PQ rfl rfl ?_
       refine AKQ fun K53 k53=>?_
       refine AKP ?_
       replace AM:=AC UJ AM
       refine AJ PQ 1 [(50,AQ AS)]
        ⟨BM (vs:=[]) rfl rfl trivial trivial (fun _=>Ur _) (fun _=>rfl),AKW⟩ fun a54 w54 g54 KV=>?_
       refine Av KV r7 (Bb AS Ab.1) (AC g54 AM) (Dk Ab) fun w55 g55 h55=>?_
       replace AH:=Ag g54 g55 (AC UJ AH) (Ne.symm A9)
       replace AG:=Ag g54 g55 (AC UJ AG) (Ne.symm BA)
       replace hr:=((hr.kn UJ).kn g54).offR g55 (AP Bm)
       replace ho:=((ho.kn UJ).kn g54).offR g55 (AP Br)
       replace hw:=((hw.kn UJ).kn g54).offR g55 (AP Bt)
       replace hb:=((hb.kn UJ).kn g54).offR g55 (AP Bo)
       replace okk:=((okk.kn UJ).kn g54).offR g55 (AP BT)
       replace HG:=AD (AA (AA HG UJ) g54) g55 Bn
       replace AM:=h55
       refine AR (v:=.bool false) KV r6 fun a56 Pg=>?_
       refine AE ?_
       refine k53 _ _ ?_
       refine AKT ?_
       repeat refine AK ?_
       refine rt30 _ _ ?_
       repeat refine AK ?_
       refine rt17 _ _ ?_
       repeat refine AK ?_
       refine rt11 _ _ ?_
       repeat refine AK ?_
       refine Aw (fn:=Tryz.f62) Pg (C4 (p:=4) (q:=5) Tryz.results62 Pg rfl rfl rfl rfl (Bb AS Ab.1) AM) ?_
       exact RecR.none (show FT P _=_ by unfold FT;rw[if_neg (show ¬(0:Int)=1 by decide),if_neg (by rw[hke];exact he)]) Ab HG
   · obtain⟨hK1,hK2⟩:=Mr (P:=P) (a:=ad) (own:=own) fun j hj=>hok j (by omega)
     have hkm:kl.map DD.x=(DY P ad own).1:=by rw[hK1,hkl,List.take_of_length_le (by omega)]
     refine AKP ?_
     refine AJ Cq 1 [(15,.bool false)]
       ⟨FG r7 (fun _=>BJ (by simp;omega)),AKW⟩ fun a57 w57 g57 AEA=>?_
     refine AE ?_
     refine k13 _ _ ?_
     refine AKQ fun K58 k58=>?_
     refine A2 AEA rfl rfl ?_
     refine wp_exit ?_
     repeat refine CT ?_
     refine x11 _ _ ?_
     refine k8 _ _ ?_
     refine AKQ fun K59 k59=>?_
     refine AKQ fun K60 k60=>?_
     refine AKP ?_
     refine AJ AEA 3 [(56,pk BO 2),(57,.int .i64 0),(58,.bool false)]
       ⟨yf r6 (fun _=>by kernel_rfl),yp (i:=2) r6 (DE 0) (AC g57 AG) rfl rfl,Cp r6 (fun _=>BU rfl),AKW⟩ fun a61 w61 g61 Wb=>?_
     have AI6:=AA g57 g61
     refine AE ?_
     refine k60 _ _ ?_
     refine A2 Wb rfl rfl ?_
     refine AKU ?_
     refine k59 _ _ ?_
     refine AKQ fun K62 k62=>?_
     refine AKP ?_
     refine AJ Wb 3 [(60,pk BO 2),(61,.int .i64 0),(62,.slice ko i kc)]
       ⟨yf r6 (fun _=>by kernel_rfl),yp (i:=2) r6 (DE 0) (AC AI6 AG) rfl rfl,ym r5,AKW⟩ fun a63 w63 g63 OD=>?_
     have UK:=AA AI6 g63
     replace okk:=okk.kn UK
     refine BD OD Tryz.func55 (by kernel_rfl) r6 (I1 (ADx (by have:=congrArg List.length hkl;simpa using this.trans (by rw[List.length_map,List.length_take];omega)) (Own.sb okk) (by omega) rfl)) fun a64 v64 w64 hR64 AEB=>?_
     obtain⟨rfl,g64⟩:=hR64
     replace AM:=AC g64 (AC UK AM)
     refine Av AEB r7 (Bb ((PT (decide ((0:Int)=1)) (kl.map DD.x))) (GJ _ _).1) AM (Dk (GJ _ _)) fun w65 g65 h65=>?_
     replace AH:=AZ g65 (AC g64 (AC UK AH)) (Ne.symm A9)
     replace AG:=AZ g65 (AC g64 (AC UK AG)) (Ne.symm BA)
     replace hr:=((hr.kn UK).kn g64).offR g65 (AP Bm)
     replace ho:=((ho.kn UK).kn g64).offR g65 (AP Br)
     replace hw:=((hw.kn UK).kn g64).offR g65 (AP Bt)
     replace hb:=((hb.kn UK).kn g64).offR g65 (AP Bo)
     replace okk:=(okk.kn g64).offR g65 (AP BT)
     replace HG:=AD (AA (AA HG UK) g64) g65 Bn
     replace AM:=h65
     refine AR (v:=.bool true) AEB r6 fun a66 AHw=>?_
     have Zj:Sv _ _ [_,_,_,_,_,_,_,_,_,_,_,_,_,_,_] _:=AHw.dl [63,60,61,62]
     refine AE ?_
     refine k62 _ _ ?_
     refine AKT ?_
     repeat refine AK ?_
     refine Aw (fn:=Tryz.f62) Zj (C4 (p:=4) (q:=5) Tryz.results62 Zj rfl rfl rfl rfl (Bb ((PT (decide ((0:Int)=1)) (kl.map DD.x))) (GJ _ _).1) AM) ?_
     exact RecR.some (show FT P _=_ by unfold FT;rw[if_neg (show ¬(0:Int)=1 by decide),if_pos hK2,←hkm]) (GJ _ _) HG
 · refine AKP ?_
   refine AJ sv7 4 [(11,pk BO 1),(12,.slice ao od.length ac),(13,.int .i64 ((od.length:Nat))),(14,.int .i64 0)]
     ⟨yf r6 (fun _=>by kernel_rfl),yp (i:=1) r6 (D4 (.slice ao od.length ac) rfl) AG rfl rfl,Au (Tryz.underlying28) rfl rfl trivial (oy rfl rfl) (fun _=>rfl),En (.inl rfl) rfl trivial (fun _=>rfl),AKW⟩ fun a68 w68 g68 I3=>?_
   refine AE ?_
   refine k9 _ _ ?_
   refine BI fun Q69 x69 y69 rt69 o69=>?_
   replace AH:=AC g68 AH
   replace AG:=AC g68 AG
   replace AM:=AC g68 AM
   replace hr:=hr.kn g68
   replace ho:=ho.kn g68
   replace hw:=hw.kn g68
   replace hb:=hb.kn g68
   replace HG:=AA HG g68
   have okk:=Own.nil w68 23 32
   have CA:=Hm CP
   have CB:=Hm BO
   have BT:=Hm FS
   have ap_hr_okk:=Gk (TH (.slice vo ks.length vc_) ks)
   have ap_ho_okk:=Gk (Ba (.slice ao od.length ac))
   have ap_hw_okk:=Gk (Ba (.slice wo wd.length wc))
   have ap_hb_okk:=Gk (Ba (.slice bo body.length bc))
   have lo_okk:=Yt w
   refine wp_loop (fun a w'=>∃(i:Nat) (ko:Option Addr) (kc:Nat) (kl:List DD),(i≤od.length)∧(kl.length=i)∧(∀j,j<i→(Cz P (MF own j) ad).2≠0)∧Sv 64 [] [(14,.int .i64 ((i:Int))),(6,.slice ko i kc),(11,pk BO 1),(12,.slice ao od.length ac),(13,.int .i64 ((od.length:Nat))),(4,pt FS),(3,pt BO),(2,pt CP),(0,A8 sa po (.slice vo ks.length vc_)),(1,BR ad (.slice ao od.length ac) 1 (.slice wo wd.length wc) (.slice bo body.length bc) tg)] a∧w.grownBy w' none∧w'.heap[CP]?=some (.cells ([bv sa,bv po,[.slice vo ks.length vc_]].flatten).toArray 36 (0,0))∧w'.heap[BO]?=some (.cells ([[.int .i64 ad],[.slice ao od.length ac],[.int .i64 1],[.slice wo wd.length wc],[.slice bo body.length bc],bv tg].flatten).toArray 31 (0,0))∧w'.heap[FS]?=some (.cells ((bv AS)).toArray 23 (0,0))∧RdK w' (.slice vo ks.length vc_) ks∧RdD w' (.slice ao od.length ac) od∧RdD w' (.slice wo wd.length wc) wd∧SlB w' 1 (.slice bo body.length bc) body.length (bv body)∧Own w' 23 32 (.slice ko i kc) i (kl.flatMap J4)∧(∀k,Ba (.slice ko i kc) k→k≠CP)∧(∀k,Ba (.slice ko i kc) k→k≠BO)∧(∀k,Ba (.slice ko i kc) k→k≠FS)∧(∀k,TH (.slice vo ks.length vc_) ks k→¬Ba (.slice ko i kc) k)∧(∀k,Ba (.slice ao od.length ac) k→¬Ba (.slice ko i kc) k)∧(∀k,Ba (.slice wo wd.length wc) k→¬Ba (.slice ko i kc) k)∧(∀k,Ba (.slice bo body.length bc) k→¬Ba (.slice ko i kc) k)∧(∀k,Ba (.slice ko i kc) k→w.heap.size≤k)) (fun a _=>(od.length-intOf (a.tmps.getD 14 undef)).toNat) ⟨0,none,0,[],Nat.zero_le _,rfl,fun j hj=>by omega,⟨I3.1,I3.2.1,I3.2.2.2.2.2.1,I3.2.2.2.2.2.2.1,I3.2.2.1,I3.2.2.2.1,I3.2.2.2.2.1,(AL I3).1,(AL I3).2.1,(AL I3).2.2.1,(AL I3).2.2.2.1,(AL I3).2.2.2.2.1,AKW⟩,HG,AH,AG,AM,hr,ho,hw,hb,okk,CA,CB,BT,ap_hr_okk,ap_ho_okk,ap_hw_okk,ap_hb_okk,lo_okk⟩ fun a70 w70 hI70=>?_
   clear AH
   clear AG
   clear AM
   clear hr
   clear ho
   clear hw
   clear hb
   clear okk
   clear HG
   obtain⟨i,ko,kc,kl,hin,hkll,hno,OO,HG,AH,AG,AM,hr,ho,hw,hb,okk,CA,CB,BT,ap_hr_okk,ap_ho_okk,ap_hw_okk,ap_hb_okk,lo_okk⟩:=hI70
   refine AKQ fun K71 k71=>?_
   by_cases hi:i<od.length
   · obtain⟨y,hx_y⟩:∃zx,od[i]'hi=zx:=⟨_,rfl⟩
     have hla:MF own i=y.x:=by rw[←hown,Hp hi,hx_y]
     obtain⟨kx,hkx⟩:∃q,Cz P y.x ad=q:=⟨_,rfl⟩
     have hkd:Dg kx.1:=hkx▸Kj hnok
     refine AKP ?_
     refine AJ OO 1 [(15,.bool true)]
       ⟨FG r7 (fun _=>BJ (by simp;omega)),AKW⟩ fun a72 w72 g72 Tw=>?_
     refine AE ?_
     refine k71 _ _ ?_
     refine AKQ fun K73 k73=>?_
     refine Ar Tw rfl rfl ?_
     refine AKU ?_
     refine k73 _ _ ?_
     refine AKQ fun K74 k74=>?_
     refine BI fun Q75 x75 y75 rt75 o75=>?_
     refine AKQ fun K76 k76=>?_
     refine AKP ?_
     replace ho:=ho.kn g72
     refine AJ Tw 3 [(16,.int .i64 ((i:Int))),(17,pk ((bO ao)) (oO ao+i*32)),(18,AQ y.x)]
       ⟨ym r5,BH rq8 (fun w=>CU Tryz.underlying28 (by kernel_rfl) (ho.1) (by omega) (rfl) w),Bg r6 (fun _ g=>AY (Bb y.x y.h.1) (by have:=Cb (ho.kn g).1 DV hi (by decide);rw[hx_y] at this;exact this)),AKW⟩ fun a77 w77 g77 AEC=>?_
     replace AH:=AC g77 (AC g72 AH)
     replace AG:=AC g77 (AC g72 AG)
     replace AM:=AC g77 (AC g72 AM)
     replace hr:=(hr.kn g72).kn g77
     replace ho:=ho.kn g77
     replace hw:=(hw.kn g72).kn g77
     replace hb:=(hb.kn g72).kn g77
     replace okk:=(okk.kn g72).kn g77
     replace HG:=AA (AA HG g72) g77
     refine BB (T:=23) (Z:=(bv AS)) AEC rfl rfl rfl (fun a w=>by kernel_rfl) fun a78 w78 AJy Fv g78 z78 Zk AED=>?_
     have RE:=As AH Fv
     have RF:=As AG Fv
     have RG:=As AM Fv
     have AEE:=Bq HG Fv
     have W7:=Ay (hr.lt) Fv
     have W8:=Ay (ho.lt) Fv
     have W9:=Ay (hw.lt) Fv
     have XA:=Ay (hb.lt) Fv
     have UL:=Ay (Own.ltS okk) Fv
     refine AR (v:=.int .i64 ((i:Int))) AED r6 fun a79 MH=>?_
     refine Av MH r7 (Bb y.x y.h.1) Zk (Dk y.h) fun w80 g80 h80=>?_
     replace AH:=AZ g80 (AC g78 AH) (Ne.symm RE)
     replace AG:=AZ g80 (AC g78 AG) (Ne.symm RF)
     replace hr:=(hr.kn g78).offR g80 (AP W7)
     replace Zk:=h80
     refine AE ?_
     refine k76 _ _ ?_
     refine AKQ fun K81 k81=>?_
     refine AKP ?_
     refine AJ MH 8 [(20,A8 sa po (.slice vo ks.length vc_)),(21,AQ y.x),(22,pt BO),(23,.int .i64 ad),(24,.tuple #[AQ kx.1,.int .i64 kx.2]),(19,.tuple #[AQ kx.1,.int .i64 kx.2]),(25,AQ kx.1),(26,.int .i64 kx.2)]
       ⟨yl r6 (CX hsa hpo (.slice vo ks.length vc_) rfl) AH,yl r6 (Bb y.x y.h.1) Zk,yf r6 (fun _=>by kernel_rfl),yp (i:=0) r6 (Dr ad) AG rfl rfl,Al [A8 sa po (.slice vo ks.length vc_),AQ y.x,.int .i64 ad] Tryz.func32 (by kernel_rfl) rq4 ⟨(oy rfl rfl),(oy rfl rfl),(oy rfl rfl),AKW⟩ (A7 fun W g=>ADy hsa hpo y.h (hr.kn g) hP hkx),ym r5,BZ rq4 (fun _ _ h=>⟨_,_,h,rfl,rfl⟩),BZ rq4 (fun _ _ h=>⟨_,_,h,rfl,rfl⟩),AKW⟩ fun a82 w82 g82 Wc=>?_
     replace AH:=AC g82 AH
     replace AG:=AC g82 AG
     replace AM:=AC g82 (AZ g80 (AC g78 AM) (Ne.symm RG))
     replace hr:=hr.kn g82
     replace ho:=((ho.kn g78).offR g80 (AP W8)).kn g82
     replace hw:=((hw.kn g78).offR g80 (AP W9)).kn g82
     replace hb:=((hb.kn g78).offR g80 (AP XA)).kn g82
     replace okk:=((okk.kn g78).offR g80 (AP UL)).kn g82
     replace HG:=AA (AD (AA HG g78) g80 AEE) g82
     refine BB (T:=23) (Z:=(bv AS)) Wc rfl rfl rfl (fun a w=>by kernel_rfl) fun a83 w83 AJz Fw g83 z83 Kl J8=>?_
     have RH:=As AH Fw
     have RI:=As AG Fw
     have Lf:=As AM Fw
     have AEF:=Bq HG Fw
     have XB:=Ay (hr.lt) Fw
     have XC:=Ay (ho.lt) Fw
     have XD:=Ay (hw.lt) Fw
     have XE:=Ay (hb.lt) Fw
     have UM:=Ay (Own.ltS okk) Fw
     refine Av J8 r7 (Bb kx.1 hkd.1) Kl (Dk hkd) fun w84 g84 h84=>?_
     replace AH:=AZ g84 (AC g83 AH) (Ne.symm RH)
     replace AG:=AZ g84 (AC g83 AG) (Ne.symm RI)
     replace AM:=AZ g84 (AC g83 AM) (Ne.symm Lf)
     replace hr:=(hr.kn g83).offR g84 (AP XB)
     replace ho:=(ho.kn g83).offR g84 (AP XC)
     replace hw:=(hw.kn g83).offR g84 (AP XD)
     replace hb:=(hb.kn g83).offR g84 (AP XE)
     replace okk:=(okk.kn g83).offR g84 (AP UM)
     replace HG:=AD (AA HG g83) g84 AEF
     replace Kl:=h84
     refine AR (v:=.int .i64 kx.2) J8 r6 fun a85 AD1=>?_
     have ER:Sv _ _ [_,_,_,_,_,_,_,_,_,_,_,_,_,_,_,_,_,_] _:=AD1.dl [20,21,22,23,24,19,25,26]
     refine AE ?_
     refine k81 _ _ ?_
     refine AKQ fun K87 k87=>?_
     refine BI fun Q88 x88 y88 rt88 o88=>?_
     refine AKQ fun K89 k89=>?_
     by_cases he:kx.2=0
     · have hiw:i<wd.length:=by have:=hwl rfl;omega
       obtain⟨wx,hx_wx⟩:∃zx,wd[i]'hiw=zx:=⟨_,rfl⟩
       have hhit:=Py (P:=P) (a:=ad) (own:=own) (wr:=wd.map DD.x) (i:=i) (by omega) hno (by rw[hla,hkx];exact he)
       rw[hla,hkx,Hp hiw,hx_wx] at hhit
       refine AKP ?_
       refine AJ ER 7 [(28,pk BO 2),(29,.int .i64 1),(30,.bool true),(31,.bool true),(32,.int .i64 kx.2),(33,.bool true),(34,.bool true)]
        ⟨yf r6 (fun _=>by kernel_rfl),yp (i:=2) r6 (DE 1) AG rfl rfl,Cp r6 (fun _=>BU rfl),ym r5,Ad rq8,Af rq9 (fun _=>BU (by simpa using he)),Aa rq9,AKW⟩ fun a90 w90 g90 AEG=>?_
       refine AR (v:=.bool true) AEG r6 fun a91 AGB=>?_
       have AD2:Sv _ _ [_,_,_,_,_,_,_,_,_,_,_,_,_,_,_,_,_,_,_] _:=AGB.dl [28,29,30,31,32,33,34]
       refine AE ?_
       refine k89 _ _ ?_
       refine Ar AD2 rfl rfl ?_
       refine AKQ fun K93 k93=>?_
       replace AG:=AC g90 AG
       replace AM:=AC g90 AM
       replace Kl:=AC g90 Kl
       replace hw:=hw.kn g90
       refine Eg (AD2.st w90) (by kernel_rfl) 7 [(35,Sp.is (pk BO 3)),(36,Sp.is (.slice wo wd.length wc)),(37,Sp.is (.int .i64 ((i:Int)))),(38,Sp.is (pk ((bO wo)) (oO wo+i*32))),(39,Sp.is (AQ wx.x)),(40,Sp.is (AQ kx.1)),(41,Sp.is (AQ ((Nr wx.x kx.1))))] rfl (by kernel_rfl) (by kernel_rfl) (by kernel_rfl) [] (by kernel_rfl)
        ⟨yf r6 (fun _=>by kernel_rfl),yp (i:=3) r6 (D4 (.slice wo wd.length wc) rfl) AG rfl rfl,ym r5,BH rq8 (fun w=>CU Tryz.underlying28 (by kernel_rfl) (hw.1) (by omega) (rfl) w),Bg r6 (fun _ g=>AY (Bb wx.x wx.h.1) (by have:=Cb (hw.kn g).1 DV hiw (by decide);rw[hx_wx] at this;exact this)),yl r6 (Bb kx.1 hkd.1) Kl,Al [AQ wx.x,AQ kx.1] Tryz.func56 (by kernel_rfl) rq4 ⟨(oy rfl rfl),(oy rfl rfl),AKW⟩ (A7 fun W g=>Mj wx.x kx.1 wx.h hkd W),AKW⟩ trivial
        [] (by kernel_rfl) trivial ⟨.inl rfl,.inl rfl,.inl rfl,.inl rfl,.inl rfl,.inl rfl,.inl rfl,AKW⟩ (by kernel_rfl) fun a94 w94 g94 st94 nd94=>?_
       obtain⟨hn94,hd94,e94_35,e94_36,e94_37,e94_38,e94_39,e94_40,e94_41,e94_27,e94_10,e94_9,e94_7,e94_8,e94_16,e94_17,e94_18,e94_15,e94_14,e94_6,e94_11,e94_12,e94_13,e94_4,e94_3,e94_2,e94_0,e94_1,-⟩:=st94
       have AEH:Sv 64 [] [(27,_),(10,_),(9,_),(7,_),(8,_),(16,_),(17,_),(18,_),(15,_),(14,_),(6,_),(11,_),(12,_),(13,_),(4,_),(3,_),(2,_),(0,_),(1,_),(41,_)] a94:=⟨hn94,hd94,e94_27,e94_10,e94_9,e94_7,e94_8,e94_16,e94_17,e94_18,e94_15,e94_14,e94_6,e94_11,e94_12,e94_13,e94_4,e94_3,e94_2,e94_0,e94_1,e94_41,AKW⟩
       refine Av AEH r7 (Bb ((Nr wx.x kx.1)) (IM wx.h hkd).1) (AC g94 AM) (Dk (IM wx.h hkd)) fun w95 g95 h95=>?_
       replace AH:=Ag g94 g95 (AC g90 AH) (Ne.symm A9)
       replace AG:=Ag g94 g95 AG (Ne.symm BA)
       replace Kl:=Ag g94 g95 Kl Lf
       replace hr:=((hr.kn g90).kn g94).offR g95 (AP Bm)
       replace ho:=((ho.kn g90).kn g94).offR g95 (AP Br)
       replace hw:=(hw.kn g94).offR g95 (AP Bt)
       replace hb:=((hb.kn g90).kn g94).offR g95 (AP Bo)
       replace okk:=((okk.kn g90).kn g94).offR g95 (AP BT)
       replace HG:=AD (AA (AA HG g90) g94) g95 Bn
       replace AM:=h95
       refine AR (v:=.bool true) AEH r6 fun a96 AB5=>?_
       refine AE ?_
       refine k93 _ _ ?_
       refine AKT ?_
       repeat refine AK ?_
       refine rt88 _ _ ?_
       repeat refine AK ?_
       refine rt75 _ _ ?_
       repeat refine AK ?_
       refine rt69 _ _ ?_
       repeat refine AK ?_
       refine Aw (fn:=Tryz.f62) AB5 (C4 (p:=4) (q:=5) Tryz.results62 AB5 rfl rfl rfl rfl (Bb ((Nr wx.x kx.1)) (IM wx.h hkd).1) AM) ?_
       exact RecR.some (show FT P _=_ by unfold FT;rw[if_pos rfl];exact hhit) (IM wx.h hkd) HG
     · have hno1:∀j,j<i+1→(Cz P (MF own j) ad).2≠0:=fun j hj=>if e:j=i then (by rw[e,hla,hkx];exact he) else hno j (by omega)
       refine AKP ?_
       refine AJ ER 7 [(28,pk BO 2),(29,.int .i64 1),(30,.bool true),(31,.bool true),(32,.int .i64 kx.2),(33,.bool false),(34,.bool false)]
        ⟨yf r6 (fun _=>by kernel_rfl),yp (i:=2) r6 (DE 1) AG rfl rfl,Cp r6 (fun _=>BU rfl),ym r5,Ad rq8,Af rq9 (fun _=>BU (by simpa using he)),Aa rq9,AKW⟩ fun a97 w97 g97 Zd=>?_
       refine AR (v:=.bool false) Zd r6 fun a98 AHx=>?_
       have AGC:Sv _ _ [_,_,_,_,_,_,_,_,_,_,_,_,_,_,_,_,_,_,_] _:=AHx.dl [28,29,30,31,32,33,34]
       refine AE ?_
       refine k89 _ _ ?_
       refine A2 AGC rfl rfl ?_
       refine AKQ fun K100 k100=>?_
       refine AKP ?_
       refine AJ AGC 7 [(43,pk BO 2),(44,.int .i64 1),(45,.bool false),(46,.bool false),(47,undef),(48,undef),(49,.bool false)]
        ⟨yf r6 (fun _=>by kernel_rfl),yp (i:=2) r6 (DE 1) (AC g97 AG) rfl rfl,Cp r6 (fun _=>BU rfl),ym r5,AN r6,AN r6,A1 r7,AKW⟩ fun a101 w101 g101 AAl=>?_
       have AGr:=AA g97 g101
       refine AR (v:=.bool false) AAl r6 fun a102 AEI=>?_
       have AAm:Sv _ _ [_,_,_,_,_,_,_,_,_,_,_,_,_,_,_,_,_,_,_,_] _:=AEI.dl [43,44,45,46,47,48,49]
       refine AE ?_
       refine k100 _ _ ?_
       refine A2 AAm rfl rfl ?_
       refine AKU ?_
       refine y88 _ _ ?_
       refine k87 _ _ ?_
       refine AKP ?_
       refine AJ AAm 2 [(51,.slice ko i kc),(52,AQ kx.1)]
        ⟨ym r5,yl r6 (Bb kx.1 hkd.1) (AC AGr Kl),AKW⟩ fun a104 w104 g104 Wh=>?_
       have My:=AA AGr g104
       refine Jn (cs:=bv kx.1) (e:=23) Wh rfl rfl rfl rfl rfl rfl (Zb hkd) fun a105 w105 DQ FU g105 z105 Co SY=>?_
       replace AH:=AC g105 (AC My AH)
       replace AG:=AC g105 (AC My AG)
       replace AM:=AC g105 (AC My AM)
       replace hr:=(hr.kn My).kn g105
       replace ho:=(ho.kn My).kn g105
       replace hw:=(hw.kn My).kn g105
       replace hb:=(hb.kn My).kn g105
       replace okk:=(okk.kn My).kn g105
       replace HG:=AA (AA HG My) g105
       refine IC dsT SY rfl rfl rfl rfl rfl rfl rfl rfl okk (Js Co hkd) (Dx _) (by omega) fun a106 ao106 cap106 w106 owx106 CG AEJ=>?_
       have Pz:=Ha CG.2 CA AH
       have P0:=Ha CG.2 CB AG
       have P1:=Ha CG.2 BT AM
       have UN:=Fl CG.2 ap_hr_okk (hr.lt)
       have UO:=Fl CG.2 ap_ho_okk (ho.lt)
       have UP:=Fl CG.2 ap_hw_okk (hw.lt)
       have UQ:=Fl CG.2 ap_hb_okk (hb.lt)
       have AB9:=TB CG.2 lo_okk HG
       replace AH:=AF CG.1 AH (fun e=>CA _ e.symm rfl)
       replace AG:=AF CG.1 AG (fun e=>CB _ e.symm rfl)
       replace AM:=AF CG.1 AM (fun e=>BT _ e.symm rfl)
       replace hr:=hr.offR CG.1 (fun k hk e=>ap_hr_okk k hk (e))
       replace ho:=ho.offR CG.1 (fun k hk e=>ap_ho_okk k hk (e))
       replace hw:=hw.offR CG.1 (fun k hk e=>ap_hw_okk k hk (e))
       replace hb:=hb.offR CG.1 (fun k hk e=>ap_hb_okk k hk (e))
       replace HG:=Ca HG CG.1 fun k e=>lo_okk k (e)
       rw[Pf kl ⟨kx.1,hkd⟩] at owx106
       refine AR (v:=.slice ao106 (i+1) cap106) AEJ r6 fun a107 Wi=>?_
       have AI7:Sv _ _ [_,_,_,_,_,_,_,_,_,_,_,_,_,_,_,_,_,_,_,_] _:=Wi.dl [54,53,51,52]
       refine AE ?_
       refine y75 _ _ ?_
       refine k74 _ _ ?_
       refine AKP ?_
       refine AJ AI7 1 [(55,.int .i64 (((i+1:Nat):Int)))]
        ⟨Cp r6 (fun _=>DL (by rw[Bc (by omega) (by omega)];omega)),AKW⟩ fun a109 w109 g109 Wj=>?_
       refine AJ (Wj.dl [14]) 1 [(14,.int .i64 (((i+1:Nat):Int)))]
        ⟨ym r5,AKW⟩ fun a110 w110 g110 Gr=>?_
       have Mz:=AA g109 g110
       refine AE ?_
       replace AH:=AC Mz AH
       replace AG:=AC Mz AG
       replace AM:=AC Mz AM
       replace hr:=hr.kn Mz
       replace ho:=ho.kn Mz
       replace hw:=hw.kn Mz
       replace hb:=hb.kn Mz
       replace owx106:=owx106.kn Mz
       replace HG:=AA HG Mz
       exact⟨⟨i+1,ao106,cap106,(kl++[⟨kx.1,hkd⟩]),by omega,by rw[List.length_append];simp;omega,hno1,⟨Gr.1,Gr.2.1,Gr.2.2.1,Gr.2.2.2.2.1,(AL Gr).2.2.2.2.2.2.2.1,(AL (AL Gr)).1,(AL (AL Gr)).2.1,(AL (AL Gr)).2.2.1,(AL (AL Gr)).2.2.2.1,(AL (AL Gr)).2.2.2.2.1,(AL (AL Gr)).2.2.2.2.2.1,(AL (AL Gr)).2.2.2.2.2.2.1,AKW⟩,HG,AH,AG,AM,hr,ho,hw,hb,owx106,Pz,P0,P1,UN,UO,UP,UQ,AB9⟩,by rw[show _=_ from Gr.2.2.1,show _=_ from OO.2.2.1];simp[intOf];omega⟩
   · have hnone:=NV (P:=P) (a:=ad) (own:=own) (wr:=wd.map DD.x) fun j hj=>hno j (by omega)
     refine AKP ?_
     refine AJ OO 1 [(15,.bool false)]
       ⟨FG r7 (fun _=>BJ (by simp;omega)),AKW⟩ fun a111 w111 g111 Lb=>?_
     refine AE ?_
     refine k71 _ _ ?_
     refine AKQ fun K112 k112=>?_
     refine A2 Lb rfl rfl ?_
     refine wp_exit ?_
     repeat refine CT ?_
     refine x69 _ _ ?_
     refine k8 _ _ ?_
     refine AKQ fun K113 k113=>?_
     refine AKQ fun K114 k114=>?_
     refine AKP ?_
     refine AJ Lb 3 [(56,pk BO 2),(57,.int .i64 1),(58,.bool true)]
       ⟨yf r6 (fun _=>by kernel_rfl),yp (i:=2) r6 (DE 1) (AC g111 AG) rfl rfl,Cp r6 (fun _=>BU rfl),AKW⟩ fun a115 w115 g115 Lc=>?_
     have AEK:=AA g111 g115
     refine AE ?_
     refine k114 _ _ ?_
     refine Ar Lc rfl rfl ?_
     refine AKQ fun K116 k116=>?_
     refine AKP ?_
     replace AM:=AC AEK AM
     refine AJ Lc 1 [(59,AQ AS)]
       ⟨BM (vs:=[]) rfl rfl trivial trivial (fun _=>Ur _) (fun _=>rfl),AKW⟩ fun a117 w117 g117 XF=>?_
     refine Av XF r7 (Bb AS Ab.1) (AC g117 AM) (Dk Ab) fun w118 g118 h118=>?_
     replace okk:=((okk.kn AEK).kn g117).offR g118 (AP BT)
     replace HG:=AD (AA (AA HG AEK) g117) g118 Bn
     replace AM:=h118
     refine AR (v:=.bool false) XF r6 fun a119 XG=>?_
     refine AE ?_
     refine k116 _ _ ?_
     refine AKT ?_
     repeat refine AK ?_
     refine Aw (fn:=Tryz.f62) XG (C4 (p:=4) (q:=5) Tryz.results62 XG rfl rfl rfl rfl (Bb AS Ab.1) AM) ?_
     exact RecR.none (show FT P _=_ by unfold FT;rw[if_pos rfl];exact hnone) Ab HG
theorem XH (ks:List VK) (vo:Option Addr) (vc_:Nat) (sa po:List Nat) (hsa:Dg sa) (hpo:Dg po) (ad joint:Int) (od wd:List DD) (ao wo bo:Option Addr) (ac wc bc:Nat) (body tg:List Nat) (htg:Dg tg) (w:World) (hr:RdK w (.slice vo ks.length vc_) ks) (ho:RdD w (.slice ao od.length ac) od) (hw:RdD w (.slice wo wd.length wc) wd) (hb:SlB w 1 (.slice bo body.length bc) body.length (bv body)) (hvs:EX ⟨ad,od.map DD.x,joint,wd.map DD.x,body,tg⟩=true) :
   Calls Tryz.prog 63 #[A8 sa po (.slice vo ks.length vc_),BR ad (.slice ao od.length ac) joint (.slice wo wd.length wc) (.slice bo body.length bc) tg] w fun e w'=>RecR w w' (FT (ks.map VK.p) ⟨ad,od.map DD.x,joint,wd.map DD.x,body,tg⟩) e:=by
 obtain⟨P,hP⟩:∃P,ks.map VK.p=P:=⟨_,rfl⟩
 obtain⟨own,hown⟩:∃own,od.map DD.x=own:=⟨_,rfl⟩
 have hownl:own.length=od.length:=by rw[←hown,List.length_map]
 have hnok:=hr.noks2
 rw[hP] at hnok
 rw[hP,hown]
 obtain⟨haa,hjj,hol,_⟩:=Wa (UE hvs)
 have hol:own.length≤16:=by rw[←hown];exact hol
 have hwl:joint=1→wd.length=od.length:=fun h=>by have:=AD6 hvs h;simpa using this
 refine BV Tryz.func63 rfl Tryz.ntmps63 rfl fun a0 sv0=>?_
 have HG:=World.grownBy.refl w none
 replace sv0:Sv 60 [] [(0,A8 sa po (.slice vo ks.length vc_)),(1,BR ad (.slice ao od.length ac) joint (.slice wo wd.length wc) (.slice bo body.length bc) tg)] a0:=sv0
 refine AKQ fun K1 k1=>?_
 refine AKP ?_
 refine Be sv0 r6 (CX hsa hpo (.slice vo ks.length vc_) rfl) fun a2 w2 CP DG g2 z2 AH sv2=>?_
 refine Be sv2 r6 (Df _ _ htg (.slice ao od.length ac) (.slice wo wd.length wc) (.slice bo body.length bc) rfl rfl rfl) fun a3 w3 BO Dw g3 z3 AG sv3=>?_
 replace AH:=AC g3 AH
 replace hr:=(hr.kn g2).kn g3
 replace ho:=(ho.kn g2).kn g3
 replace hw:=(hw.kn g2).kn g3
 replace hb:=(hb.kn g2).kn g3
 replace HG:=AA (AA HG g2) g3
 refine BB (T:=23) (Z:=(bv AS)) sv3 rfl rfl rfl (fun a w=>by kernel_rfl) fun a4 w4 FS Bk g4 z4 AM sv4=>?_
 have A9:=As AH Bk
 have BA:=As AG Bk
 have Bn:=Bq HG Bk
 have Bm:=Ay (hr.lt) Bk
 have Br:=Ay (ho.lt) Bk
 have Bt:=Ay (hw.lt) Bk
 have Bo:=Ay (hb.lt) Bk
 replace AH:=AC g4 AH
 replace AG:=AC g4 AG
 replace hr:=hr.kn g4
 replace ho:=ho.kn g4
 replace hw:=hw.kn g4
 replace hb:=hb.kn g4
 replace HG:=AA HG g4
 refine AR (v:=.bool false) sv4 r6 fun a5 sv5=>?_
 refine AE ?_
 refine k1 _ _ ?_
 refine AKQ fun K6 k6=>?_
 refine AKP ?_
 refine AR (v:=.slice none 0 0) sv5 r6 fun a7 sv7=>?_
 refine AE ?_
 refine k6 _ _ ?_
 refine AKQ fun K8 k8=>?_
 refine AKQ fun K9 k9=>?_
 rcases hjj with rfl|rfl
 · refine AKP ?_
   refine AR (v:=.int .i64 0) sv7 r6 fun a10 BF=>?_
   refine AE ?_
   refine k9 _ _ ?_
   refine BI fun Q11 x11 y11 rt11 o11=>?_
   have okk:=Own.nil w4 23 32
   have CA:=Hm CP
   have CB:=Hm BO
   have BT:=Hm FS
   have ap_hr_okk:=Gk (TH (.slice vo ks.length vc_) ks)
   have ap_ho_okk:=Gk (Ba (.slice ao od.length ac))
   have ap_hw_okk:=Gk (Ba (.slice wo wd.length wc))
   have ap_hb_okk:=Gk (Ba (.slice bo body.length bc))
   have lo_okk:=Yt w
   refine wp_loop (fun a w'=>∃(i:Nat) (ko:Option Addr) (kc:Nat) (kl:List DD),(i≤od.length)∧(kl.map DD.x=(own.take i).map fun z=>(Cz P z ad).1)∧(∀j,j<i→(Cz P (MF own j) ad).2=0)∧Sv 60 [] [(7,.int .i64 ((i:Int))),(6,.slice ko i kc),(4,pt FS),(3,pt BO),(2,pt CP),(0,A8 sa po (.slice vo ks.length vc_)),(1,BR ad (.slice ao od.length ac) 0 (.slice wo wd.length wc) (.slice bo body.length bc) tg)] a∧w.grownBy w' none∧w'.heap[CP]?=some (.cells ([bv sa,bv po,[.slice vo ks.length vc_]].flatten).toArray 36 (0,0))∧w'.heap[BO]?=some (.cells ([[.int .i64 ad],[.slice ao od.length ac],[.int .i64 0],[.slice wo wd.length wc],[.slice bo body.length bc],bv tg].flatten).toArray 31 (0,0))∧w'.heap[FS]?=some (.cells ((bv AS)).toArray 23 (0,0))∧RdK w' (.slice vo ks.length vc_) ks∧RdD w' (.slice ao od.length ac) od∧RdD w' (.slice wo wd.length wc) wd∧SlB w' 1 (.slice bo body.length bc) body.length (bv body)∧Own w' 23 32 (.slice ko i kc) i (kl.flatMap J4)∧(∀k,Ba (.slice ko i kc) k→k≠CP)∧(∀k,Ba (.slice ko i kc) k→k≠BO)∧(∀k,Ba (.slice ko i kc) k→k≠FS)∧(∀k,TH (.slice vo ks.length vc_) ks k→¬Ba (.slice ko i kc) k)∧(∀k,Ba (.slice ao od.length ac) k→¬Ba (.slice ko i kc) k)∧(∀k,Ba (.slice wo wd.length wc) k→¬Ba (.slice ko i kc) k)∧(∀k,Ba (.slice bo body.length bc) k→¬Ba (.slice ko i kc) k)∧(∀k,Ba (.slice ko i kc) k→w.heap.size≤k)) (fun a _=>(od.length-intOf (a.tmps.getD 7 undef)).toNat) ⟨0,none,0,[],Nat.zero_le _,rfl,fun j hj=>by omega,⟨BF.1,BF.2.1,BF.2.2.1,BF.2.2.2.1,BF.2.2.2.2.2.1,BF.2.2.2.2.2.2.1,BF.2.2.2.2.2.2.2.1,(AL BF).1,(AL BF).2.1,AKW⟩,HG,AH,AG,AM,hr,ho,hw,hb,okk,CA,CB,BT,ap_hr_okk,ap_ho_okk,ap_hw_okk,ap_hb_okk,lo_okk⟩ fun a12 w12 hI12=>?_
   clear AH
   clear AG
   clear AM
   clear hr
   clear ho
   clear hw
   clear hb
   clear okk
   clear HG
   obtain⟨i,ko,kc,kl,hin,hkl,hok,Cq,HG,AH,AG,AM,hr,ho,hw,hb,okk,CA,CB,BT,ap_hr_okk,ap_ho_okk,ap_hw_okk,ap_hb_okk,lo_okk⟩:=hI12
   refine AKQ fun K13 k13=>?_
   refine AKQ fun K14 k14=>?_
   by_cases hi:i<od.length
   · obtain⟨y,hx_y⟩:∃zx,od[i]'hi=zx:=⟨_,rfl⟩
     have hla:MF own i=y.x:=by rw[←hown,Hp hi,hx_y]
     obtain⟨kx,hkx⟩:∃q,Cz P y.x ad=q:=⟨_,rfl⟩
     have hkd:Dg kx.1:=hkx▸Kj hnok
     refine AKP ?_
     refine AJ Cq 5 [(10,.int .i64 ((i:Int))),(11,pk BO 1),(12,.slice ao od.length ac),(13,.int .i64 ((od.length:Nat))),(14,.bool true)]
       ⟨ym r5,yf r6 (fun _=>by kernel_rfl),yp (i:=1) r6 (D4 (.slice ao od.length ac) rfl) AG rfl rfl,Au (Tryz.underlying28) rfl rfl trivial (oy rfl rfl) (fun _=>rfl),FG r7 (fun _=>BJ (by simp;omega)),AKW⟩ fun a15 w15 g15 EE=>?_
     refine AE ?_
     refine k14 _ _ ?_
     refine Ar EE rfl rfl ?_
     refine AKU ?_
     refine k13 _ _ ?_
     refine AKQ fun K16 k16=>?_
     refine BI fun Q17 x17 y17 rt17 o17=>?_
     refine AKQ fun K18 k18=>?_
     replace AH:=AC g15 AH
     replace AG:=AC g15 AG
     replace AM:=AC g15 AM
     replace hr:=hr.kn g15
     replace ho:=ho.kn g15
     replace hw:=hw.kn g15
     replace hb:=hb.kn g15
     replace okk:=okk.kn g15
     replace HG:=AA HG g15
     refine Eg (EE.st w15) (by kernel_rfl) 13 [(18,Sp.is (A8 sa po (.slice vo ks.length vc_))),(19,Sp.is (pk BO 1)),(20,Sp.is (.slice ao od.length ac)),(21,Sp.is (.int .i64 ((i:Int)))),(22,Sp.is (pk ((bO ao)) (oO ao+i*32))),(23,Sp.is (AQ y.x)),(24,Sp.is (pt BO)),(25,Sp.is (.int .i64 ad)),(26,Sp.is (.tuple #[AQ kx.1,.int .i64 kx.2])),(17,Sp.is (.tuple #[AQ kx.1,.int .i64 kx.2])),(27,Sp.is (AQ kx.1)),(28,Sp.is (.int .i64 kx.2)),(8,Sp.new w15.heap.size ((bv AS)) 23)] rfl (by kernel_rfl) (by kernel_rfl) (by kernel_rfl) [11] (by kernel_rfl)
       ⟨yl r6 (CX hsa hpo (.slice vo ks.length vc_) rfl) AH,yf r6 (fun _=>by kernel_rfl),yp (i:=1) r6 (D4 (.slice ao od.length ac) rfl) AG rfl rfl,ym r5,BH rq8 (fun w=>CU Tryz.underlying28 (by kernel_rfl) (ho.1) (by omega) (rfl) w),Bg r6 (fun _ g=>AY (Bb y.x y.h.1) (by have:=Cb (ho.kn g).1 DV hi (by decide);rw[hx_y] at this;exact this)),yf r6 (fun _=>by kernel_rfl),yp (i:=0) r6 (Dr ad) AG rfl rfl,Al [A8 sa po (.slice vo ks.length vc_),AQ y.x,.int .i64 ad] Tryz.func42 (by kernel_rfl) rq4 ⟨(oy rfl rfl),(oy rfl rfl),(oy rfl rfl),AKW⟩ (A7 fun W g=>AD3 hsa hpo y.h (hr.kn g) hP hkx),ym r5,BZ rq4 (fun _ _ h=>⟨_,_,h,rfl,rfl⟩),BZ rq4 (fun _ _ h=>⟨_,_,h,rfl,rfl⟩),KO rfl trivial (Nat.le_refl _) (fun a w=>by kernel_rfl) (fun _ _ h=>h),AKW⟩ ⟨fun o ho=>by obtain rfl:=Option.some.inj ho;exact Ja rfl rfl rfl trivial (fun _ _ h=>⟨_,_,h,rfl,rfl⟩),AKW⟩
       [8] (by kernel_rfl) ⟨Sp.new_lt,AKW⟩ ⟨.inl rfl,.inl rfl,.inl rfl,.inl rfl,.inl rfl,.inl rfl,.inl rfl,.inl rfl,.inl rfl,.inl rfl,.inl rfl,.inl rfl,.inr ⟨rfl,((bv AS)).toArray,23,fun a w=>by kernel_rfl⟩,AKW⟩ (by kernel_rfl) fun a19 w19 g19 st19 nd19=>?_
     obtain⟨hn19,hd19,e19_18,e19_19,e19_20,e19_21,e19_22,e19_23,e19_24,e19_25,e19_26,e19_17,e19_27,e19_28,e19_8,e19_10,e19_11,e19_12,e19_13,e19_14,e19_7,e19_6,e19_4,e19_3,e19_2,e19_0,e19_1,-⟩:=st19
     obtain⟨AJ0,e19_8q,Fx,Zl⟩:=e19_8
     have RJ:=He AH Fx
     have RK:=He AG Fx
     have RL:=He AM Fx
     have AEL:=SC HG Fx
     have XI:=Gj (hr.lt) Fx
     have XJ:=Gj (ho.lt) Fx
     have XK:=Gj (hw.lt) Fx
     have XL:=Gj (hb.lt) Fx
     have UR:=Gj (Own.ltS okk) Fx
     have Cs:Sv 60 [] [(10,_),(11,_),(12,_),(13,_),(14,_),(7,_),(6,_),(4,_),(3,_),(2,_),(0,_),(1,_),(27,_),(28,_),(8,_)] a19:=⟨hn19,hd19,e19_10,e19_11,e19_12,e19_13,e19_14,e19_7,e19_6,e19_4,e19_3,e19_2,e19_0,e19_1,e19_27,e19_28,e19_8q,AKW⟩
     refine Av Cs r7 (Bb kx.1 hkd.1) Zl (Dk hkd) fun w20 g20 h20=>?_
     replace AH:=AZ g20 (AC g19 AH) (Ne.symm RJ)
     replace AG:=AZ g20 (AC g19 AG) (Ne.symm RK)
     replace AM:=AZ g20 (AC g19 AM) (Ne.symm RL)
     replace hr:=(hr.kn g19).offR g20 (AP XI)
     replace ho:=(ho.kn g19).offR g20 (AP XJ)
     replace hw:=(hw.kn g19).offR g20 (AP XK)
     replace hb:=(hb.kn g19).offR g20 (AP XL)
     replace okk:=(okk.kn g19).offR g20 (AP UR)
     replace HG:=AD (AA HG g19) g20 AEL
     replace Zl:=h20
     refine AR (v:=.int .i64 kx.2) Cs r6 fun a21 CK=>?_
     refine AE ?_
     refine k18 _ _ ?_
     refine AKQ fun K22 k22=>?_
     refine AKQ fun K23 k23=>?_
     by_cases he:kx.2=0
     · have hkl1:=NO hkl (by omega) hla hkx (hkd:=hkd)
       have hok1:∀j,j<i+1→(Cz P (MF own j) ad).2=0:=fun j hj=>if e:j=i then (by rw[e,hla,hkx];exact he) else hok j (by omega)
       refine AKP ?_
       refine AJ CK 7 [(29,.int .i64 kx.2),(30,.bool true),(31,.bool true),(32,pk BO 2),(33,.int .i64 0),(34,.bool false),(35,.bool false)]
        ⟨ym r5,Cp r6 (fun _=>BU (by simpa using he)),ym r5,Aq rq9 (fun _=>by kernel_rfl),Ai rq9 (fun _ g=>AY (DE 0) (Ak (L:=[[.int .i64 ad],[.slice ao od.length ac],[.int .i64 0],[.slice wo wd.length wc],[.slice bo body.length bc],bv tg]) (i:=2) (AF g AG (by simp)) rfl rfl)),Af rq9 (fun _=>BU rfl),Aa rq9,AKW⟩ fun a24 w24 g24 Du=>?_
       refine AE ?_
       refine k23 _ _ ?_
       refine A2 Du rfl rfl ?_
       refine AKU ?_
       refine k22 _ _ ?_
       refine AKQ fun K25 k25=>?_
       refine AKQ fun K26 k26=>?_
       refine AKP ?_
       refine AJ Du 7 [(43,.int .i64 kx.2),(44,.bool false),(45,.bool false),(46,undef),(47,undef),(48,undef),(49,.bool false)]
        ⟨ym r5,Cp r6 (fun _=>Db (by simpa using he)),ym r5,AN r6,AN r6,AN r6,A1 r7,AKW⟩ fun a27 w27 g27 F6=>?_
       have Qf:=AA g24 g27
       refine AE ?_
       refine k26 _ _ ?_
       refine A2 F6 rfl rfl ?_
       refine AKU ?_
       refine k25 _ _ ?_
       refine AKP ?_
       refine AJ F6 2 [(51,.slice ko i kc),(52,AQ kx.1)]
        ⟨ym r5,yl r6 (Bb kx.1 hkd.1) (AC Qf Zl),AKW⟩ fun a28 w28 g28 GI=>?_
       have EW:=AA Qf g28
       refine Jn (cs:=bv kx.1) (e:=23) GI rfl rfl rfl rfl rfl rfl (Zb hkd) fun a29 w29 AJj AIG g29 z29 AGD CY=>?_
       replace AH:=AC g29 (AC EW AH)
       replace AG:=AC g29 (AC EW AG)
       replace AM:=AC g29 (AC EW AM)
       replace hr:=(hr.kn EW).kn g29
       replace ho:=(ho.kn EW).kn g29
       replace hw:=(hw.kn EW).kn g29
       replace hb:=(hb.kn EW).kn g29
       replace okk:=(okk.kn EW).kn g29
       replace HG:=AA (AA HG EW) g29
       refine IC dsT CY rfl rfl rfl rfl rfl rfl rfl rfl okk (Js AGD hkd) (Dx _) (by omega) fun a30 ao30 cap30 w30 owx30 CG Dl=>?_
       have RM:=Ha CG.2 CA AH
       have RN:=Ha CG.2 CB AG
       have RO:=Ha CG.2 BT AM
       have XM:=Fl CG.2 ap_hr_okk (hr.lt)
       have XN:=Fl CG.2 ap_ho_okk (ho.lt)
       have XO:=Fl CG.2 ap_hw_okk (hw.lt)
       have XP:=Fl CG.2 ap_hb_okk (hb.lt)
       have AEM:=TB CG.2 lo_okk HG
       replace AH:=AF CG.1 AH (fun e=>CA _ e.symm rfl)
       replace AG:=AF CG.1 AG (fun e=>CB _ e.symm rfl)
       replace AM:=AF CG.1 AM (fun e=>BT _ e.symm rfl)
       replace hr:=hr.offR CG.1 (fun k hk e=>ap_hr_okk k hk (e))
       replace ho:=ho.offR CG.1 (fun k hk e=>ap_ho_okk k hk (e))
       replace hw:=hw.offR CG.1 (fun k hk e=>ap_hw_okk k hk (e))
       replace hb:=hb.offR CG.1 (fun k hk e=>ap_hb_okk k hk (e))
       replace HG:=Ca HG CG.1 fun k e=>lo_okk k (e)
       rw[Pf kl ⟨kx.1,hkd⟩] at owx30
       refine AR (v:=.slice ao30 (i+1) cap30) Dl r6 fun a31 Fp=>?_
       have Dm:Sv _ _ [_,_,_,_,_,_,_,_,_,_,_,_,_,_,_,_,_,_,_,_,_,_,_,_,_,_,_,_,_,_] _:=Fp.dl [54,53,51,52]
       refine AE ?_
       refine y17 _ _ ?_
       refine k16 _ _ ?_
       refine AKP ?_
       refine AJ Dm 2 [(15,.int .i64 ((i:Int))),(16,.int .i64 (((i+1:Nat):Int)))]
        ⟨ym r5,Cp r6 (fun _=>DL (by rw[Bc (by omega) (by omega)];omega)),AKW⟩ fun a33 w33 g33 Eu=>?_
       refine AR (v:=.int .i64 (((i+1:Nat):Int))) Eu r6 fun a34 FI=>?_
       refine AE ?_
       replace AH:=AC g33 AH
       replace AG:=AC g33 AG
       replace AM:=AC g33 AM
       replace hr:=hr.kn g33
       replace ho:=ho.kn g33
       replace hw:=hw.kn g33
       replace hb:=hb.kn g33
       replace owx30:=owx30.kn g33
       replace HG:=AA HG g33
       exact⟨⟨i+1,ao30,cap30,(kl++[⟨kx.1,hkd⟩]),by omega,hkl1,hok1,⟨FI.1,FI.2.1,FI.2.2.1,FI.2.2.2.2.2.1,(AL (AL (AL FI))).2.2.1,(AL (AL (AL FI))).2.2.2.1,(AL (AL (AL FI))).2.2.2.2.1,(AL (AL (AL FI))).2.2.2.2.2.1,(AL (AL (AL FI))).2.2.2.2.2.2.1,AKW⟩,HG,AH,AG,AM,hr,ho,hw,hb,owx30,RM,RN,RO,XM,XN,XO,XP,AEM⟩,by rw[show _=_ from FI.2.2.1,show _=_ from Cq.2.2.1];simp[intOf];omega⟩
     · have hke:=LK (P:=P) (a:=ad) (own:=own) (i:=i) (by omega) hok (by rw[hla,hkx];exact he)
       rw[hla,hkx] at hke
       refine AKP ?_
       refine AJ CK 7 [(29,.int .i64 kx.2),(30,.bool false),(31,.bool false),(32,undef),(33,undef),(34,undef),(35,.bool false)]
        ⟨ym r5,Cp r6 (fun _=>BU (by simpa using he)),ym r5,AN r6,AN r6,AN r6,A1 r7,AKW⟩ fun a35 w35 g35 Iz=>?_
       refine AE ?_
       refine k23 _ _ ?_
       refine A2 Iz rfl rfl ?_
       refine AKU ?_
       refine k22 _ _ ?_
       refine AKQ fun K36 k36=>?_
       refine AKQ fun K37 k37=>?_
       refine AKP ?_
       refine AJ Iz 7 [(43,.int .i64 kx.2),(44,.bool true),(45,.bool true),(46,pk BO 2),(47,.int .i64 0),(48,.bool true),(49,.bool true)]
        ⟨ym r5,Cp r6 (fun _=>Db (by simpa using he)),ym r5,Aq rq9 (fun _=>by kernel_rfl),Ai rq9 (fun _ g=>AY (DE 0) (Ak (L:=[[.int .i64 ad],[.slice ao od.length ac],[.int .i64 0],[.slice wo wd.length wc],[.slice bo body.length bc],bv tg]) (i:=2) (AF g (AC g35 AG) (by simp)) rfl rfl)),Af rq9 (fun _=>BU rfl),Aa rq9,AKW⟩ fun a38 w38 g38 N6=>?_
       have OA:=AA g35 g38
       refine AE ?_
       refine k37 _ _ ?_
       refine Ar N6 rfl rfl ?_
       refine AKQ fun K39 k39=>?_
       refine AKP ?_
       replace AM:=AC OA AM
       refine AJ N6 1 [(50,AQ AS)]
        ⟨BM (vs:=[]) rfl rfl trivial trivial (fun _=>Ur _) (fun _=>rfl),AKW⟩ fun a40 w40 g40 IG=>?_
       refine Av IG r7 (Bb AS Ab.1) (AC g40 AM) (Dk Ab) fun w41 g41 h41=>?_
       replace AH:=Ag g40 g41 (AC OA AH) (Ne.symm A9)
       replace AG:=Ag g40 g41 (AC OA AG) (Ne.symm BA)
       replace hr:=((hr.kn OA).kn g40).offR g41 (AP Bm)
       replace ho:=((ho.kn OA).kn g40).offR g41 (AP Br)
       replace hw:=((hw.kn OA).kn g40).offR g41 (AP Bt)
       replace hb:=((hb.kn OA).kn g40).offR g41 (AP Bo)
       replace okk:=((okk.kn OA).kn g40).offR g41 (AP BT)
       replace HG:=AD (AA (AA HG OA) g40) g41 Bn
       replace AM:=h41
       refine AR (v:=.bool false) IG r6 fun a42 Gp=>?_
       refine AE ?_
       refine k39 _ _ ?_
       refine AKT ?_
       repeat refine AK ?_
       refine rt17 _ _ ?_
       repeat refine AK ?_
       refine rt11 _ _ ?_
       repeat refine AK ?_
       refine Aw (fn:=Tryz.f63) Gp (C4 (p:=4) (q:=5) Tryz.results63 Gp rfl rfl rfl rfl (Bb AS Ab.1) AM) ?_
       exact RecR.none (show FT P _=_ by unfold FT;rw[if_neg (show ¬(0:Int)=1 by decide),if_neg (by rw[hke];exact he)]) Ab HG
   · obtain⟨hK1,hK2⟩:=Mr (P:=P) (a:=ad) (own:=own) fun j hj=>hok j (by omega)
     have hkm:kl.map DD.x=(DY P ad own).1:=by rw[hK1,hkl,List.take_of_length_le (by omega)]
     refine AKP ?_
     refine AJ Cq 5 [(10,.int .i64 ((i:Int))),(11,pk BO 1),(12,.slice ao od.length ac),(13,.int .i64 ((od.length:Nat))),(14,.bool false)]
       ⟨ym r5,yf r6 (fun _=>by kernel_rfl),yp (i:=1) r6 (D4 (.slice ao od.length ac) rfl) AG rfl rfl,Au (Tryz.underlying28) rfl rfl trivial (oy rfl rfl) (fun _=>rfl),FG r7 (fun _=>BJ (by simp;omega)),AKW⟩ fun a43 w43 g43 Hn=>?_
     refine AE ?_
     refine k14 _ _ ?_
     refine A2 Hn rfl rfl ?_
     refine wp_exit ?_
     repeat refine CT ?_
     refine x11 _ _ ?_
     refine k8 _ _ ?_
     refine AKQ fun K44 k44=>?_
     have gd45:=CZ w43
     replace AG:=AC gd45 (AC g43 AG)
     replace okk:=(okk.kn g43).kn gd45
     refine wp_region_noPanic ?_
     refine FB (fun w'=>w'.heap[BO]?=some (.cells ([[.int .i64 ad],[.slice ao od.length ac],[.int .i64 0],[.slice wo wd.length wc],[.slice bo body.length bc],bv tg].flatten).toArray 31 (0,0))∧True) [0,2,3,4] [1,5,6] (by kernel_rfl) (by kernel_rfl) (fun _ _ d _ _ h=>by cases d<;>exact h) rfl (by kernel_rfl) ⟨AG,AKW⟩ ?_
     simp only[List.filterMap_cons,List.filterMap_nil,List.getElem?_toArray,List.getElem?_cons_succ,List.getElem?_cons_zero]
     refine F7 (v:=.slice ko i kc) w43.drew Hn rfl (by kernel_rfl) (Fm 6 55 (.inl rfl) rfl rfl trivial (fun _ _ h=>h)) fun a46 I0=>?_
     refine F7 (v:=pk BO 2) w43.drew I0 rfl (by kernel_rfl) (Wo rfl rfl trivial (oy rfl rfl) (fun _=>by kernel_rfl) (fun _=>rfl)) fun a47 NH=>?_
     refine LD NH rfl rfl rfl rfl ⟨rfl,rfl⟩ (fun w hS=>AY (DE 0) (Ak (L:=[[.int .i64 ad],[.slice ao od.length ac],[.int .i64 0],[.slice wo wd.length wc],[.slice bo body.length bc],bv tg]) (i:=2) hS.1 rfl rfl)) fun a48 UI=>?_
     refine F7 (v:=.bool true) w43.drew UI rfl (by kernel_rfl) (Yv rfl rfl trivial (oy rfl rfl) rfl (fun _=>BU rfl) (fun _=>rfl)) fun a49 LQ=>?_
     change wpList _ _ _ _ _ _
     refine BD LQ Tryz.func45 (by kernel_rfl) r6 (I1 (SV (by have:=congrArg List.length hkl;simpa using this.trans (by rw[List.length_map,List.length_take];omega)) (Own.sb okk) (by omega) (.inl rfl) rfl)) fun a50 v50 w50 hR50 NI=>?_
     obtain⟨rfl,g50⟩:=hR50
     replace AG:=AC g50 AG
     replace AM:=AC g50 (AC gd45 (AC g43 AM))
     refine AE ⟨⟨AG,AKW⟩,?_⟩
     change wpList _ _ _ _ _ _
     refine Av NI r7 (Bb ((PT (decide ((0:Int)=1)) (kl.map DD.x))) (GJ _ _).1) AM (Dk (GJ _ _)) fun w51 g51 h51=>?_
     replace AH:=AZ g51 (AC g50 (AC gd45 (AC g43 AH))) (Ne.symm A9)
     replace AG:=AZ g51 AG (Ne.symm BA)
     replace hr:=(((hr.kn g43).kn gd45).kn g50).offR g51 (AP Bm)
     replace ho:=(((ho.kn g43).kn gd45).kn g50).offR g51 (AP Br)
     replace hw:=(((hw.kn g43).kn gd45).kn g50).offR g51 (AP Bt)
     replace hb:=(((hb.kn g43).kn gd45).kn g50).offR g51 (AP Bo)
     replace okk:=(okk.kn g50).offR g51 (AP BT)
     replace HG:=AD (AA (AA (AA HG g43) gd45) g50) g51 Bn
     replace AM:=h51
     refine AE ⟨⟨AG,AKW⟩,?_⟩
     change wpList _ _ _ _ _ _
     refine AR (v:=.bool true) NI r6 fun a52 PQ=>?_
     refine AE ⟨⟨AG,AKW⟩,?_⟩
     refine NoPanic.normal ?_
     have N9:Sv _ _ [_,_,_,_,_,_,_,_,_,_,_,_,_] _:=PQ.dl [56,59,58,57,55]
     refine k44 _ _ ?_
     refine AKT ?_
     repeat refine AK ?_
     refine Aw (fn:=Tryz.f63) N9 (C4 (p:=4) (q:=5) Tryz.results63 N9 rfl rfl rfl rfl (Bb ((PT (decide ((0:Int)=1)) (kl.map DD.x))) (GJ _ _).1) AM) ?_
     exact RecR.some (show FT P _=_ by unfold FT;rw[if_neg (show ¬(0:Int)=1 by decide),if_pos hK2,←hkm]) (GJ _ _) HG
 · refine AKP ?_
   refine AR (v:=.int .i64 0) sv7 r6 fun a54 KV=>?_
   refine AE ?_
   refine k9 _ _ ?_
   refine BI fun Q55 x55 y55 rt55 o55=>?_
   have okk:=Own.nil w4 23 32
   have CA:=Hm CP
   have CB:=Hm BO
   have BT:=Hm FS
   have ap_hr_okk:=Gk (TH (.slice vo ks.length vc_) ks)
   have ap_ho_okk:=Gk (Ba (.slice ao od.length ac))
   have ap_hw_okk:=Gk (Ba (.slice wo wd.length wc))
   have ap_hb_okk:=Gk (Ba (.slice bo body.length bc))
   have lo_okk:=Yt w
   refine wp_loop (fun a w'=>∃(i:Nat) (ko:Option Addr) (kc:Nat) (kl:List DD),(i≤od.length)∧(kl.length=i)∧(∀j,j<i→(Cz P (MF own j) ad).2≠0)∧Sv 60 [] [(7,.int .i64 ((i:Int))),(6,.slice ko i kc),(4,pt FS),(3,pt BO),(2,pt CP),(0,A8 sa po (.slice vo ks.length vc_)),(1,BR ad (.slice ao od.length ac) 1 (.slice wo wd.length wc) (.slice bo body.length bc) tg)] a∧w.grownBy w' none∧w'.heap[CP]?=some (.cells ([bv sa,bv po,[.slice vo ks.length vc_]].flatten).toArray 36 (0,0))∧w'.heap[BO]?=some (.cells ([[.int .i64 ad],[.slice ao od.length ac],[.int .i64 1],[.slice wo wd.length wc],[.slice bo body.length bc],bv tg].flatten).toArray 31 (0,0))∧w'.heap[FS]?=some (.cells ((bv AS)).toArray 23 (0,0))∧RdK w' (.slice vo ks.length vc_) ks∧RdD w' (.slice ao od.length ac) od∧RdD w' (.slice wo wd.length wc) wd∧SlB w' 1 (.slice bo body.length bc) body.length (bv body)∧Own w' 23 32 (.slice ko i kc) i (kl.flatMap J4)∧(∀k,Ba (.slice ko i kc) k→k≠CP)∧(∀k,Ba (.slice ko i kc) k→k≠BO)∧(∀k,Ba (.slice ko i kc) k→k≠FS)∧(∀k,TH (.slice vo ks.length vc_) ks k→¬Ba (.slice ko i kc) k)∧(∀k,Ba (.slice ao od.length ac) k→¬Ba (.slice ko i kc) k)∧(∀k,Ba (.slice wo wd.length wc) k→¬Ba (.slice ko i kc) k)∧(∀k,Ba (.slice bo body.length bc) k→¬Ba (.slice ko i kc) k)∧(∀k,Ba (.slice ko i kc) k→w.heap.size≤k)) (fun a _=>(od.length-intOf (a.tmps.getD 7 undef)).toNat) ⟨0,none,0,[],Nat.zero_le _,rfl,fun j hj=>by omega,⟨KV.1,KV.2.1,KV.2.2.1,KV.2.2.2.1,KV.2.2.2.2.2.1,KV.2.2.2.2.2.2.1,KV.2.2.2.2.2.2.2.1,(AL KV).1,(AL KV).2.1,AKW⟩,HG,AH,AG,AM,hr,ho,hw,hb,okk,CA,CB,BT,ap_hr_okk,ap_ho_okk,ap_hw_okk,ap_hb_okk,lo_okk⟩ fun a56 w56 hI56=>?_
   clear AH
   clear AG
   clear AM
   clear hr
   clear ho
   clear hw
   clear hb
   clear okk
   clear HG
   obtain⟨i,ko,kc,kl,hin,hkll,hno,Pg,HG,AH,AG,AM,hr,ho,hw,hb,okk,CA,CB,BT,ap_hr_okk,ap_ho_okk,ap_hw_okk,ap_hb_okk,lo_okk⟩:=hI56
   refine AKQ fun K57 k57=>?_
   refine AKQ fun K58 k58=>?_
   by_cases hi:i<od.length
   · obtain⟨y,hx_y⟩:∃zx,od[i]'hi=zx:=⟨_,rfl⟩
     have hla:MF own i=y.x:=by rw[←hown,Hp hi,hx_y]
     obtain⟨kx,hkx⟩:∃q,Cz P y.x ad=q:=⟨_,rfl⟩
     have hkd:Dg kx.1:=hkx▸Kj hnok
     refine AKP ?_
     refine AJ Pg 5 [(10,.int .i64 ((i:Int))),(11,pk BO 1),(12,.slice ao od.length ac),(13,.int .i64 ((od.length:Nat))),(14,.bool true)]
       ⟨ym r5,yf r6 (fun _=>by kernel_rfl),yp (i:=1) r6 (D4 (.slice ao od.length ac) rfl) AG rfl rfl,Au (Tryz.underlying28) rfl rfl trivial (oy rfl rfl) (fun _=>rfl),FG r7 (fun _=>BJ (by simp;omega)),AKW⟩ fun a59 w59 g59 Ej=>?_
     refine AE ?_
     refine k58 _ _ ?_
     refine Ar Ej rfl rfl ?_
     refine AKU ?_
     refine k57 _ _ ?_
     refine AKQ fun K60 k60=>?_
     refine BI fun Q61 x61 y61 rt61 o61=>?_
     refine AKQ fun K62 k62=>?_
     replace AH:=AC g59 AH
     replace AG:=AC g59 AG
     replace AM:=AC g59 AM
     replace hr:=hr.kn g59
     replace ho:=ho.kn g59
     replace hw:=hw.kn g59
     replace hb:=hb.kn g59
     replace okk:=okk.kn g59
     replace HG:=AA HG g59
     refine Eg (Ej.st w59) (by kernel_rfl) 13 [(18,Sp.is (A8 sa po (.slice vo ks.length vc_))),(19,Sp.is (pk BO 1)),(20,Sp.is (.slice ao od.length ac)),(21,Sp.is (.int .i64 ((i:Int)))),(22,Sp.is (pk ((bO ao)) (oO ao+i*32))),(23,Sp.is (AQ y.x)),(24,Sp.is (pt BO)),(25,Sp.is (.int .i64 ad)),(26,Sp.is (.tuple #[AQ kx.1,.int .i64 kx.2])),(17,Sp.is (.tuple #[AQ kx.1,.int .i64 kx.2])),(27,Sp.is (AQ kx.1)),(28,Sp.is (.int .i64 kx.2)),(8,Sp.new w59.heap.size ((bv AS)) 23)] rfl (by kernel_rfl) (by kernel_rfl) (by kernel_rfl) [11] (by kernel_rfl)
       ⟨yl r6 (CX hsa hpo (.slice vo ks.length vc_) rfl) AH,yf r6 (fun _=>by kernel_rfl),yp (i:=1) r6 (D4 (.slice ao od.length ac) rfl) AG rfl rfl,ym r5,BH rq8 (fun w=>CU Tryz.underlying28 (by kernel_rfl) (ho.1) (by omega) (rfl) w),Bg r6 (fun _ g=>AY (Bb y.x y.h.1) (by have:=Cb (ho.kn g).1 DV hi (by decide);rw[hx_y] at this;exact this)),yf r6 (fun _=>by kernel_rfl),yp (i:=0) r6 (Dr ad) AG rfl rfl,Al [A8 sa po (.slice vo ks.length vc_),AQ y.x,.int .i64 ad] Tryz.func42 (by kernel_rfl) rq4 ⟨(oy rfl rfl),(oy rfl rfl),(oy rfl rfl),AKW⟩ (A7 fun W g=>AD3 hsa hpo y.h (hr.kn g) hP hkx),ym r5,BZ rq4 (fun _ _ h=>⟨_,_,h,rfl,rfl⟩),BZ rq4 (fun _ _ h=>⟨_,_,h,rfl,rfl⟩),KO rfl trivial (Nat.le_refl _) (fun a w=>by kernel_rfl) (fun _ _ h=>h),AKW⟩ ⟨fun o ho=>by obtain rfl:=Option.some.inj ho;exact Ja rfl rfl rfl trivial (fun _ _ h=>⟨_,_,h,rfl,rfl⟩),AKW⟩
       [8] (by kernel_rfl) ⟨Sp.new_lt,AKW⟩ ⟨.inl rfl,.inl rfl,.inl rfl,.inl rfl,.inl rfl,.inl rfl,.inl rfl,.inl rfl,.inl rfl,.inl rfl,.inl rfl,.inl rfl,.inr ⟨rfl,((bv AS)).toArray,23,fun a w=>by kernel_rfl⟩,AKW⟩ (by kernel_rfl) fun a63 w63 g63 st63 nd63=>?_
     obtain⟨hn63,hd63,e63_18,e63_19,e63_20,e63_21,e63_22,e63_23,e63_24,e63_25,e63_26,e63_17,e63_27,e63_28,e63_8,e63_10,e63_11,e63_12,e63_13,e63_14,e63_7,e63_6,e63_4,e63_3,e63_2,e63_0,e63_1,-⟩:=st63
     obtain⟨AJ1,e63_8q,Fy,Km⟩:=e63_8
     have RP:=He AH Fy
     have RQ:=He AG Fy
     have Lg:=He AM Fy
     have AEN:=SC HG Fy
     have XQ:=Gj (hr.lt) Fy
     have XR:=Gj (ho.lt) Fy
     have XS:=Gj (hw.lt) Fy
     have XT:=Gj (hb.lt) Fy
     have US:=Gj (Own.ltS okk) Fy
     have OD:Sv 60 [] [(10,_),(11,_),(12,_),(13,_),(14,_),(7,_),(6,_),(4,_),(3,_),(2,_),(0,_),(1,_),(27,_),(28,_),(8,_)] a63:=⟨hn63,hd63,e63_10,e63_11,e63_12,e63_13,e63_14,e63_7,e63_6,e63_4,e63_3,e63_2,e63_0,e63_1,e63_27,e63_28,e63_8q,AKW⟩
     refine Av OD r7 (Bb kx.1 hkd.1) Km (Dk hkd) fun w64 g64 h64=>?_
     replace AH:=AZ g64 (AC g63 AH) (Ne.symm RP)
     replace AG:=AZ g64 (AC g63 AG) (Ne.symm RQ)
     replace AM:=AZ g64 (AC g63 AM) (Ne.symm Lg)
     replace hr:=(hr.kn g63).offR g64 (AP XQ)
     replace ho:=(ho.kn g63).offR g64 (AP XR)
     replace hw:=(hw.kn g63).offR g64 (AP XS)
     replace hb:=(hb.kn g63).offR g64 (AP XT)
     replace okk:=(okk.kn g63).offR g64 (AP US)
     replace HG:=AD (AA HG g63) g64 AEN
     replace Km:=h64
     refine AR (v:=.int .i64 kx.2) OD r6 fun a65 AEO=>?_
     refine AE ?_
     refine k62 _ _ ?_
     refine AKQ fun K66 k66=>?_
     refine AKQ fun K67 k67=>?_
     by_cases he:kx.2=0
     · have hiw:i<wd.length:=by have:=hwl rfl;omega
       obtain⟨wx,hx_wx⟩:∃zx,wd[i]'hiw=zx:=⟨_,rfl⟩
       have hhit:=Py (P:=P) (a:=ad) (own:=own) (wr:=wd.map DD.x) (i:=i) (by omega) hno (by rw[hla,hkx];exact he)
       rw[hla,hkx,Hp hiw,hx_wx] at hhit
       refine AKP ?_
       refine AJ AEO 7 [(29,.int .i64 kx.2),(30,.bool true),(31,.bool true),(32,pk BO 2),(33,.int .i64 1),(34,.bool true),(35,.bool true)]
        ⟨ym r5,Cp r6 (fun _=>BU (by simpa using he)),ym r5,Aq rq9 (fun _=>by kernel_rfl),Ai rq9 (fun _ g=>AY (DE 1) (Ak (L:=[[.int .i64 ad],[.slice ao od.length ac],[.int .i64 1],[.slice wo wd.length wc],[.slice bo body.length bc],bv tg]) (i:=2) (AF g AG (by simp)) rfl rfl)),Af rq9 (fun _=>BU rfl),Aa rq9,AKW⟩ fun a68 w68 g68 I3=>?_
       refine AE ?_
       refine k67 _ _ ?_
       refine Ar I3 rfl rfl ?_
       refine AKQ fun K69 k69=>?_
       replace AG:=AC g68 AG
       replace AM:=AC g68 AM
       replace Km:=AC g68 Km
       replace hw:=hw.kn g68
       refine Eg (I3.st w68) (by kernel_rfl) 7 [(36,Sp.is (pk BO 3)),(37,Sp.is (.slice wo wd.length wc)),(38,Sp.is (.int .i64 ((i:Int)))),(39,Sp.is (pk ((bO wo)) (oO wo+i*32))),(40,Sp.is (AQ wx.x)),(41,Sp.is (AQ kx.1)),(42,Sp.is (AQ ((Nr wx.x kx.1))))] rfl (by kernel_rfl) (by kernel_rfl) (by kernel_rfl) [] (by kernel_rfl)
        ⟨yf r6 (fun _=>by kernel_rfl),yp (i:=3) r6 (D4 (.slice wo wd.length wc) rfl) AG rfl rfl,ym r5,BH rq8 (fun w=>CU Tryz.underlying28 (by kernel_rfl) (hw.1) (by omega) (rfl) w),Bg r6 (fun _ g=>AY (Bb wx.x wx.h.1) (by have:=Cb (hw.kn g).1 DV hiw (by decide);rw[hx_wx] at this;exact this)),yl r6 (Bb kx.1 hkd.1) Km,Al [AQ wx.x,AQ kx.1] Tryz.func46 (by kernel_rfl) rq4 ⟨(oy rfl rfl),(oy rfl rfl),AKW⟩ (A7 fun W g=>ABp wx.x kx.1 wx.h hkd W),AKW⟩ trivial
        [] (by kernel_rfl) trivial ⟨.inl rfl,.inl rfl,.inl rfl,.inl rfl,.inl rfl,.inl rfl,.inl rfl,AKW⟩ (by kernel_rfl) fun a70 w70 g70 st70 nd70=>?_
       obtain⟨hn70,hd70,e70_36,e70_37,e70_38,e70_39,e70_40,e70_41,e70_42,e70_29,e70_30,e70_31,e70_32,e70_33,e70_34,e70_35,e70_9,e70_10,e70_11,e70_12,e70_13,e70_14,e70_7,e70_6,e70_4,e70_3,e70_2,e70_0,e70_1,e70_27,e70_28,e70_8,-⟩:=st70
       have OO:Sv 60 [] [(29,_),(30,_),(31,_),(32,_),(33,_),(34,_),(35,_),(9,_),(10,_),(11,_),(12,_),(13,_),(14,_),(7,_),(6,_),(4,_),(3,_),(2,_),(0,_),(1,_),(27,_),(28,_),(8,_),(42,_)] a70:=⟨hn70,hd70,e70_29,e70_30,e70_31,e70_32,e70_33,e70_34,e70_35,e70_9,e70_10,e70_11,e70_12,e70_13,e70_14,e70_7,e70_6,e70_4,e70_3,e70_2,e70_0,e70_1,e70_27,e70_28,e70_8,e70_42,AKW⟩
       refine Av OO r7 (Bb ((Nr wx.x kx.1)) (IM wx.h hkd).1) (AC g70 AM) (Dk (IM wx.h hkd)) fun w71 g71 h71=>?_
       replace AH:=Ag g70 g71 (AC g68 AH) (Ne.symm A9)
       replace AG:=Ag g70 g71 AG (Ne.symm BA)
       replace Km:=Ag g70 g71 Km Lg
       replace hr:=((hr.kn g68).kn g70).offR g71 (AP Bm)
       replace ho:=((ho.kn g68).kn g70).offR g71 (AP Br)
       replace hw:=(hw.kn g70).offR g71 (AP Bt)
       replace hb:=((hb.kn g68).kn g70).offR g71 (AP Bo)
       replace okk:=((okk.kn g68).kn g70).offR g71 (AP BT)
       replace HG:=AD (AA (AA HG g68) g70) g71 Bn
       replace AM:=h71
       refine AR (v:=.bool true) OO r6 fun a72 Tw=>?_
       refine AE ?_
       refine k69 _ _ ?_
       refine AKT ?_
       repeat refine AK ?_
       refine rt61 _ _ ?_
       repeat refine AK ?_
       refine rt55 _ _ ?_
       repeat refine AK ?_
       refine Aw (fn:=Tryz.f63) Tw (C4 (p:=4) (q:=5) Tryz.results63 Tw rfl rfl rfl rfl (Bb ((Nr wx.x kx.1)) (IM wx.h hkd).1) AM) ?_
       exact RecR.some (show FT P _=_ by unfold FT;rw[if_pos rfl];exact hhit) (IM wx.h hkd) HG
     · have hno1:∀j,j<i+1→(Cz P (MF own j) ad).2≠0:=fun j hj=>if e:j=i then (by rw[e,hla,hkx];exact he) else hno j (by omega)
       refine AKP ?_
       refine AJ AEO 7 [(29,.int .i64 kx.2),(30,.bool false),(31,.bool false),(32,undef),(33,undef),(34,undef),(35,.bool false)]
        ⟨ym r5,Cp r6 (fun _=>BU (by simpa using he)),ym r5,AN r6,AN r6,AN r6,A1 r7,AKW⟩ fun a73 w73 g73 Pj=>?_
       refine AE ?_
       refine k67 _ _ ?_
       refine A2 Pj rfl rfl ?_
       refine AKU ?_
       refine k66 _ _ ?_
       refine AKQ fun K74 k74=>?_
       refine AKQ fun K75 k75=>?_
       refine AKP ?_
       refine AJ Pj 7 [(43,.int .i64 kx.2),(44,.bool true),(45,.bool true),(46,pk BO 2),(47,.int .i64 1),(48,.bool false),(49,.bool false)]
        ⟨ym r5,Cp r6 (fun _=>Db (by simpa using he)),ym r5,Aq rq9 (fun _=>by kernel_rfl),Ai rq9 (fun _ g=>AY (DE 1) (Ak (L:=[[.int .i64 ad],[.slice ao od.length ac],[.int .i64 1],[.slice wo wd.length wc],[.slice bo body.length bc],bv tg]) (i:=2) (AF g (AC g73 AG) (by simp)) rfl rfl)),Af rq9 (fun _=>BU rfl),Aa rq9,AKW⟩ fun a76 w76 g76 T7=>?_
       have AI8:=AA g73 g76
       refine AE ?_
       refine k75 _ _ ?_
       refine A2 T7 rfl rfl ?_
       refine AKU ?_
       refine k74 _ _ ?_
       refine AKP ?_
       refine AJ T7 2 [(51,.slice ko i kc),(52,AQ kx.1)]
        ⟨ym r5,yl r6 (Bb kx.1 hkd.1) (AC AI8 Km),AKW⟩ fun a77 w77 g77 AEC=>?_
       have UT:=AA AI8 g77
       refine Jn (cs:=bv kx.1) (e:=23) AEC rfl rfl rfl rfl rfl rfl (Zb hkd) fun a78 w78 AJk AIH g78 z78 AGE AED=>?_
       replace AH:=AC g78 (AC UT AH)
       replace AG:=AC g78 (AC UT AG)
       replace AM:=AC g78 (AC UT AM)
       replace hr:=(hr.kn UT).kn g78
       replace ho:=(ho.kn UT).kn g78
       replace hw:=(hw.kn UT).kn g78
       replace hb:=(hb.kn UT).kn g78
       replace okk:=(okk.kn UT).kn g78
       replace HG:=AA (AA HG UT) g78
       refine IC dsT AED rfl rfl rfl rfl rfl rfl rfl rfl okk (Js AGE hkd) (Dx _) (by omega) fun a79 ao79 cap79 w79 owx79 CG MH=>?_
       have RU:=Ha CG.2 CA AH
       have RV:=Ha CG.2 CB AG
       have RX:=Ha CG.2 BT AM
       have XU:=Fl CG.2 ap_hr_okk (hr.lt)
       have XV:=Fl CG.2 ap_ho_okk (ho.lt)
       have XW:=Fl CG.2 ap_hw_okk (hw.lt)
       have XX:=Fl CG.2 ap_hb_okk (hb.lt)
       have AEP:=TB CG.2 lo_okk HG
       replace AH:=AF CG.1 AH (fun e=>CA _ e.symm rfl)
       replace AG:=AF CG.1 AG (fun e=>CB _ e.symm rfl)
       replace AM:=AF CG.1 AM (fun e=>BT _ e.symm rfl)
       replace hr:=hr.offR CG.1 (fun k hk e=>ap_hr_okk k hk (e))
       replace ho:=ho.offR CG.1 (fun k hk e=>ap_ho_okk k hk (e))
       replace hw:=hw.offR CG.1 (fun k hk e=>ap_hw_okk k hk (e))
       replace hb:=hb.offR CG.1 (fun k hk e=>ap_hb_okk k hk (e))
       replace HG:=Ca HG CG.1 fun k e=>lo_okk k (e)
       rw[Pf kl ⟨kx.1,hkd⟩] at owx79
       refine AR (v:=.slice ao79 (i+1) cap79) MH r6 fun a80 AHs=>?_
       have AB4:Sv _ _ [_,_,_,_,_,_,_,_,_,_,_,_,_,_,_,_,_,_,_,_,_,_,_,_,_,_,_,_,_,_] _:=AHs.dl [54,53,51,52]
       refine AE ?_
       refine y61 _ _ ?_
       refine k60 _ _ ?_
       refine AKP ?_
       refine AJ AB4 2 [(15,.int .i64 ((i:Int))),(16,.int .i64 (((i+1:Nat):Int)))]
        ⟨ym r5,Cp r6 (fun _=>DL (by rw[Bc (by omega) (by omega)];omega)),AKW⟩ fun a82 w82 g82 Wc=>?_
       refine AR (v:=.int .i64 (((i+1:Nat):Int))) Wc r6 fun a83 J8=>?_
       refine AE ?_
       replace AH:=AC g82 AH
       replace AG:=AC g82 AG
       replace AM:=AC g82 AM
       replace hr:=hr.kn g82
       replace ho:=ho.kn g82
       replace hw:=hw.kn g82
       replace hb:=hb.kn g82
       replace owx79:=owx79.kn g82
       replace HG:=AA HG g82
       exact⟨⟨i+1,ao79,cap79,(kl++[⟨kx.1,hkd⟩]),by omega,by rw[List.length_append];simp;omega,hno1,⟨J8.1,J8.2.1,J8.2.2.1,J8.2.2.2.2.2.1,(AL (AL (AL J8))).2.2.1,(AL (AL (AL J8))).2.2.2.1,(AL (AL (AL J8))).2.2.2.2.1,(AL (AL (AL J8))).2.2.2.2.2.1,(AL (AL (AL J8))).2.2.2.2.2.2.1,AKW⟩,HG,AH,AG,AM,hr,ho,hw,hb,owx79,RU,RV,RX,XU,XV,XW,XX,AEP⟩,by rw[show _=_ from J8.2.2.1,show _=_ from Pg.2.2.1];simp[intOf];omega⟩
   · have hnone:=NV (P:=P) (a:=ad) (own:=own) (wr:=wd.map DD.x) fun j hj=>hno j (by omega)
     refine AKP ?_
     refine AJ Pg 5 [(10,.int .i64 ((i:Int))),(11,pk BO 1),(12,.slice ao od.length ac),(13,.int .i64 ((od.length:Nat))),(14,.bool false)]
       ⟨ym r5,yf r6 (fun _=>by kernel_rfl),yp (i:=1) r6 (D4 (.slice ao od.length ac) rfl) AG rfl rfl,Au (Tryz.underlying28) rfl rfl trivial (oy rfl rfl) (fun _=>rfl),FG r7 (fun _=>BJ (by simp;omega)),AKW⟩ fun a84 w84 g84 Pq=>?_
     refine AE ?_
     refine k58 _ _ ?_
     refine A2 Pq rfl rfl ?_
     refine wp_exit ?_
     repeat refine CT ?_
     refine x55 _ _ ?_
     refine k8 _ _ ?_
     refine AKQ fun K85 k85=>?_
     have gd86:=CZ w84
     replace AG:=AC gd86 (AC g84 AG)
     replace okk:=(okk.kn g84).kn gd86
     refine wp_region_noPanic ?_
     refine FB (fun w'=>w'.heap[BO]?=some (.cells ([[.int .i64 ad],[.slice ao od.length ac],[.int .i64 1],[.slice wo wd.length wc],[.slice bo body.length bc],bv tg].flatten).toArray 31 (0,0))∧True) [0,2,3,4] [1,5,6] (by kernel_rfl) (by kernel_rfl) (fun _ _ d _ _ h=>by cases d<;>exact h) rfl (by kernel_rfl) ⟨AG,AKW⟩ ?_
     simp only[List.filterMap_cons,List.filterMap_nil,List.getElem?_toArray,List.getElem?_cons_succ,List.getElem?_cons_zero]
     refine F7 (v:=.slice ko i kc) w84.drew Pq rfl (by kernel_rfl) (Fm 6 55 (.inl rfl) rfl rfl trivial (fun _ _ h=>h)) fun a87 Zc=>?_
     refine F7 (v:=pk BO 2) w84.drew Zc rfl (by kernel_rfl) (Wo rfl rfl trivial (oy rfl rfl) (fun _=>by kernel_rfl) (fun _=>rfl)) fun a88 AJl=>?_
     refine LD AJl rfl rfl rfl rfl ⟨rfl,rfl⟩ (fun w hS=>AY (DE 1) (Ak (L:=[[.int .i64 ad],[.slice ao od.length ac],[.int .i64 1],[.slice wo wd.length wc],[.slice bo body.length bc],bv tg]) (i:=2) hS.1 rfl rfl)) fun a89 Wg=>?_
     refine F7 (v:=.bool false) w84.drew Wg rfl (by kernel_rfl) (Yv rfl rfl trivial (oy rfl rfl) rfl (fun _=>BU rfl) (fun _=>rfl)) fun a90 AEG=>?_
     change wpList _ _ _ _ _ _
     refine BD AEG Tryz.func45 (by kernel_rfl) r6 (I1 (SV hkll (Own.sb okk) (by omega) (.inl rfl) rfl)) fun a91 v91 w91 hR91 AGB=>?_
     obtain⟨rfl,g91⟩:=hR91
     replace AG:=AC g91 AG
     replace AM:=AC g91 (AC gd86 (AC g84 AM))
     refine AE ⟨⟨AG,AKW⟩,?_⟩
     change wpList _ _ _ _ _ _
     refine Av AGB r7 (Bb ((PT (decide ((0:Int)=1)) (kl.map DD.x))) (GJ _ _).1) AM (Dk (GJ _ _)) fun w92 g92 h92=>?_
     replace AG:=AZ g92 AG (Ne.symm BA)
     replace okk:=(okk.kn g91).offR g92 (AP BT)
     replace HG:=AD (AA (AA (AA HG g84) gd86) g91) g92 Bn
     replace AM:=h92
     refine AE ⟨⟨AG,AKW⟩,?_⟩
     change wpList _ _ _ _ _ _
     refine AR (v:=.bool false) AGB r6 fun a93 AGF=>?_
     refine AE ⟨⟨AG,AKW⟩,?_⟩
     refine NoPanic.normal ?_
     have AEH:Sv _ _ [_,_,_,_,_,_,_,_,_,_,_,_,_] _:=AGF.dl [56,59,58,57,55]
     refine k85 _ _ ?_
     refine AKT ?_
     repeat refine AK ?_
     refine Aw (fn:=Tryz.f63) AEH (C4 (p:=4) (q:=5) Tryz.results63 AEH rfl rfl rfl rfl (Bb ((PT (decide ((0:Int)=1)) (kl.map DD.x))) (GJ _ _).1) AM) ?_
     exact RecR.none (show FT P _=_ by unfold FT;rw[if_pos rfl];exact hnone) (GJ _ _) HG
end Go.Proofs.YtbfjfnbcmojpiaaGreat
