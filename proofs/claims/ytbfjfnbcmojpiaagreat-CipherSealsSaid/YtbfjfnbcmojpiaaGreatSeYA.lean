import Derived.Test.YtbfjfnbcmojpiaaGreatSeR1
import Derived.Test.YtbfjfnbcmojpiaaGreatSeY9
set_option linter.unusedSimpArgs false
set_option linter.unusedVariables false
set_option maxRecDepth 100000
set_option maxHeartbeats 4000000
namespace Go.Proofs.YtbfjfnbcmojpiaaGreat
open Go.RowKit
attribute [local go_sem] Oper.semAt_some
attribute [local go_sem] Oper.semAt_some
attribute [local go_sem] Oper.semAt_some
end Go.Proofs.YtbfjfnbcmojpiaaGreat
namespace Go.Proofs.YtbfjfnbcmojpiaaGreat
open Go.RowKit Go.Shelf
def KZ (b:List Nat):V×Int:=match pV b with
 | .ok (x,[])=>(x,0)
 | _=>(V.nul,101)
theorem ABp {b:List Nat} {x:V} (h:pV b=.ok (x,[])):KZ b=(x,0):=by unfold KZ;rw[h]
theorem ADM {b r:List Nat} {x:V} (h:pV b=.ok (x,r)) (hr:0<r.length):KZ b=(V.nul,101):=by
 unfold KZ
 rw[h]
 cases r with
 | nil=>simp at hr
 | cons c r=>rfl
theorem AFN {b:List Nat} {e:Nat} (h:pV b=.error e):KZ b=(V.nul,101):=by unfold KZ;rw[h]
def AAk (P:List VP) (a:Int):List (List Nat)→List (List Nat)→Option (List Nat)
 | [],_=>none
 | o::own,wr=>if (DI P o a).2=0 then some (OD (No wr 0) (DI P o a).1) else AAk P a own wr.tail
theorem UC {P:List VP} {a:Int}:∀{own wr:List (List Nat)},(∀j,j<own.length→(DI P (No own j) a).2≠0)→AAk P a own wr=none
 | [],_,_=>rfl
 | o::own,wr,h=>by
  have h0:(DI P o a).2≠0:=h 0 (by simp)
  unfold AAk
  rw[if_neg h0]
  exact UC fun j hj=>h (j+1) (by simpa using hj)
theorem Yh {P:List VP} {a:Int}:∀{own wr:List (List Nat)} {i:Nat},i<own.length→(∀j,j<i→(DI P (No own j) a).2≠0)→(DI P (No own i) a).2=0→AAk P a own wr=some (OD (No wr i) (DI P (No own i) a).1)
 | [],_,_,hi,_,_=>by simp at hi
 | o::own,wr,0,_,_,h=>by
  have h0:(DI P o a).2=0:=h
  unfold AAk
  rw[if_pos h0]
  rfl
 | o::own,wr,i+1,hi,hj,h=>by
  have h0:(DI P o a).2≠0:=hj 0 (by omega)
  have:=Yh (own:=own) (wr:=wr.tail) (i:=i) (by simpa using hi) (fun j hjj=>hj (j+1) (by omega)) h
  unfold AAk
  rw[if_neg h0,this]
  cases wr<;>rfl
def Kr (P:List VP) (s:Sd):Option (List Nat):=if s.joint=1 then AAk P s.addr s.own s.wr else if (Df P s.addr s.own).2=0 then some (Tx (decide ((0:Int)=1)) (Df P s.addr s.own).1) else none
def I0 (P:List VP) (s:Sd):V×Int:=
 if Gi s&&CZ P then
  (if s.own=[] then (if Wf s.addr s.body=s.tag then KZ s.body else (V.nul,101))
  else match Kr P s with
   | none=>(V.nul,10)
   | some c=>if QZ c s.addr s.body=s.tag then KZ (Fv s.body c) else (V.nul,101))
 else (V.nul,1)
theorem AFO {s:Sd} (h:Gi s=true):hd s.own s.joint s.addr=true:=by
 unfold Gi at h
 simp only[Bool.and_eq_true] at h
 exact h.1.1
theorem AI6 {s:Sd} (h:Gi s=true):s.body.length≤64:=by
 unfold Gi at h
 simp only[Bool.and_eq_true,decide_eq_true_eq] at h
 exact h.1.2
theorem AI7 {s:Sd} (h:Gi s=true) (hj:s.joint=1):s.wr.length=s.own.length:=by
 unfold Gi at h
 rw[if_pos hj] at h
 simp only[Bool.and_eq_true,decide_eq_true_eq] at h
 exact h.2
def RecR (w w':World) (r:Option (List Nat)) (e:Ending):Prop:=∃c,e=.returned (.tuple #[AO c,.bool r.isSome])∧Dg c∧(∀c',r=some c'→c'=c)∧w.grownBy w' none
theorem RecR.some {w w':World} {r:Option (List Nat)} {c:List Nat} (h:r=some c) (hc:Dg c) (g:w.grownBy w' none):RecR w w' r (.returned (.tuple #[AO c,.bool true])):=by
 subst h
 exact⟨c,rfl,hc,fun c' h=>(Option.some.inj h).symm,g⟩
theorem RecR.none {w w':World} {r:Option (List Nat)} {c:List Nat} (h:r=none) (hc:Dg c) (g:w.grownBy w' none):RecR w w' r (.returned (.tuple #[AO c,.bool false])):=by
 subst h
 exact⟨c,rfl,hc,fun c' h=>(by cases h),g⟩
theorem AAl (ks:List VK) (vo:Option Addr) (vc_:Nat) (sa po:List Nat) (hsa:Dg sa) (hpo:Dg po) (ad joint:Int) (od wd:List DD) (ao wo bo:Option Addr) (ac wc bc:Nat) (body tg:List Nat) (htg:Dg tg) (w:World) (hr:RdK w (.slice vo ks.length vc_) ks) (ho:RdD w (.slice ao od.length ac) od) (hw:RdD w (.slice wo wd.length wc) wd) (hb:SlB w 1 (.slice bo body.length bc) body.length (bv body)) (hvs:Gi ⟨ad,od.map DD.x,joint,wd.map DD.x,body,tg⟩=true) :
   Calls Tryz.prog 62 #[Aw sa po (.slice vo ks.length vc_),Bm ad (.slice ao od.length ac) joint (.slice wo wd.length wc) (.slice bo body.length bc) tg] w fun e w'=>RecR w w' (Kr (ks.map VK.p) ⟨ad,od.map DD.x,joint,wd.map DD.x,body,tg⟩) e:=by
 obtain⟨P,hP⟩:∃P,ks.map VK.p=P:=⟨_,rfl⟩
 obtain⟨own,hown⟩:∃own,od.map DD.x=own:=⟨_,rfl⟩
 have hownl:own.length=od.length:=by rw[←hown,List.length_map]
 have hnok:=hr.noks2
 rw[hP] at hnok
 rw[hP,hown]
 obtain⟨haa,hjj,hol,_⟩:=ABc (AFO hvs)
 have hol:own.length≤16:=by rw[←hown];exact hol
 have hwl:joint=1→wd.length=od.length:=fun h=>by have:=AI7 hvs h;simpa using this
 refine BF Tryz.func62 rfl Tryz.ntmps62 rfl fun a0 sv0=>?_
 have HG:=World.grownBy.refl w none
 replace sv0:Sv 64 [] [(0,Aw sa po (.slice vo ks.length vc_)),(1,Bm ad (.slice ao od.length ac) joint (.slice wo wd.length wc) (.slice bo body.length bc) tg)] a0:=sv0
 refine ALa fun K1 k1=>?_
 refine ALZ ?_
 refine BZ sv0 r6 (Bq hsa hpo (.slice vo ks.length vc_) rfl) fun a2 w2 CO DP g2 z2 AK sv2=>?_
 refine BZ sv2 r6 (Cy _ _ htg (.slice ao od.length ac) (.slice wo wd.length wc) (.slice bo body.length bc) rfl rfl rfl) fun a3 w3 CG E2 g3 z3 AN sv3=>?_
 replace AK:=AC g3 AK
 replace hr:=(hr.kn g2).kn g3
 replace ho:=(ho.kn g2).kn g3
 replace hw:=(hw.kn g2).kn g3
 replace hb:=(hb.kn g2).kn g3
 replace HG:=AA (AA HG g2) g3
 refine Az (T:=23) (Z:=(bv AM)) sv3 rfl rfl rfl (fun a w=>by kernel_rfl) fun a4 w4 Fp CB g4 z4 AU sv4=>?_
 have BT:=Ax AK CB
 have Bf:=Ax AN CB
 have CL:=Bk HG CB
 have CI:=Ay (hr.lt) CB
 have EA:=Ay (ho.lt) CB
 have EB:=Ay (hw.lt) CB
 have Dn:=Ay (hb.lt) CB
 replace AK:=AC g4 AK
 replace AN:=AC g4 AN
 replace hr:=hr.kn g4
 replace ho:=ho.kn g4
 replace hw:=hw.kn g4
 replace hb:=hb.kn g4
 replace HG:=AA HG g4
 refine AX (v:=.bool false) sv4 r6 fun a5 sv5=>?_
 refine AE ?_
 refine k1 _ _ ?_
 refine ALa fun K6 k6=>?_
 refine ALZ ?_
 refine AX (v:=.slice none 0 0) sv5 r6 fun a7 sv7=>?_
 refine AE ?_
 refine k6 _ _ ?_
 refine ALa fun K8 k8=>?_
 refine ALa fun K9 k9=>?_
 rcases hjj with rfl|rfl
 · refine ALZ ?_
   refine AH sv7 4 [(11,pk CG 1),(12,.slice ao od.length ac),(13,.int .i64 ((od.length:Nat))),(14,.int .i64 0)]
     ⟨yf r6 (fun _=>by kernel_rfl),yp (i:=1) r6 (Hz (.slice ao od.length ac) rfl) AN rfl rfl,BI (Tryz.underlying28) rfl rfl trivial (oy rfl rfl) (fun _=>rfl),FA (.inl rfl) rfl trivial (fun _=>rfl),ALg⟩ fun a10 w10 g10 Bj=>?_
   refine AE ?_
   refine k9 _ _ ?_
   refine A8 fun Q11 x11 y11 rt11 o11=>?_
   replace AK:=AC g10 AK
   replace AN:=AC g10 AN
   replace AU:=AC g10 AU
   replace hr:=hr.kn g10
   replace ho:=ho.kn g10
   replace hw:=hw.kn g10
   replace hb:=hb.kn g10
   replace HG:=AA HG g10
   have okk:=Own.nil w10 23 32
   have D0:=Hr CO
   have D1:=Hr CG
   have Cw:=Hr Fp
   have ap_hr_okk:=IC (Kv (.slice vo ks.length vc_) ks)
   have ap_ho_okk:=IC (BM (.slice ao od.length ac))
   have ap_hw_okk:=IC (BM (.slice wo wd.length wc))
   have ap_hb_okk:=IC (BM (.slice bo body.length bc))
   have lo_okk:=XT w
   refine wp_loop (fun a w'=>∃(i:Nat) (ko:Option Addr) (kc:Nat) (kl:List DD),(i≤od.length)∧(kl.map DD.x=(own.take i).map fun z=>(DI P z ad).1)∧(∀j,j<i→(DI P (No own j) ad).2=0)∧Sv 64 [] [(14,.int .i64 ((i:Int))),(6,.slice ko i kc),(11,pk CG 1),(12,.slice ao od.length ac),(13,.int .i64 ((od.length:Nat))),(4,pt Fp),(3,pt CG),(2,pt CO),(0,Aw sa po (.slice vo ks.length vc_)),(1,Bm ad (.slice ao od.length ac) 0 (.slice wo wd.length wc) (.slice bo body.length bc) tg)] a∧w.grownBy w' none∧w'.heap[CO]?=some (.cells ([bv sa,bv po,[.slice vo ks.length vc_]].flatten).toArray 36 (0,0))∧w'.heap[CG]?=some (.cells ([[.int .i64 ad],[.slice ao od.length ac],[.int .i64 0],[.slice wo wd.length wc],[.slice bo body.length bc],bv tg].flatten).toArray 31 (0,0))∧w'.heap[Fp]?=some (.cells ((bv AM)).toArray 23 (0,0))∧RdK w' (.slice vo ks.length vc_) ks∧RdD w' (.slice ao od.length ac) od∧RdD w' (.slice wo wd.length wc) wd∧SlB w' 1 (.slice bo body.length bc) body.length (bv body)∧Own w' 23 32 (.slice ko i kc) i (kl.flatMap Ic)∧(∀k,BM (.slice ko i kc) k→k≠CO)∧(∀k,BM (.slice ko i kc) k→k≠CG)∧(∀k,BM (.slice ko i kc) k→k≠Fp)∧(∀k,Kv (.slice vo ks.length vc_) ks k→¬BM (.slice ko i kc) k)∧(∀k,BM (.slice ao od.length ac) k→¬BM (.slice ko i kc) k)∧(∀k,BM (.slice wo wd.length wc) k→¬BM (.slice ko i kc) k)∧(∀k,BM (.slice bo body.length bc) k→¬BM (.slice ko i kc) k)∧(∀k,BM (.slice ko i kc) k→w.heap.size≤k)) (fun a _=>(od.length-intOf (a.tmps.getD 14 undef)).toNat) ⟨0,none,0,[],Nat.zero_le _,rfl,fun j hj=>by omega,⟨Bj.1,Bj.2.1,Bj.2.2.2.2.2.1,Bj.2.2.2.2.2.2.1,Bj.2.2.1,Bj.2.2.2.1,Bj.2.2.2.2.1,(AG Bj).1,(AG Bj).2.1,(AG Bj).2.2.1,(AG Bj).2.2.2.1,(AG Bj).2.2.2.2.1,ALg⟩,HG,AK,AN,AU,hr,ho,hw,hb,okk,D0,D1,Cw,ap_hr_okk,ap_ho_okk,ap_hw_okk,ap_hb_okk,lo_okk⟩ fun a12 w12 hI12=>?_
   clear AK
   clear AN
   clear AU
   clear hr
   clear ho
   clear hw
   clear hb
   clear okk
   clear HG
   obtain⟨i,ko,kc,kl,hin,hkl,hok,Cx,HG,AK,AN,AU,hr,ho,hw,hb,okk,D0,D1,Cw,ap_hr_okk,ap_ho_okk,ap_hw_okk,ap_hb_okk,lo_okk⟩:=hI12
   refine ALa fun K13 k13=>?_
   by_cases hi:i<od.length
   · obtain⟨y,hx_y⟩:∃zx,od[i]'hi=zx:=⟨_,rfl⟩
     have hla:No own i=y.x:=by rw[←hown,IT hi,hx_y]
     obtain⟨kx,hkx⟩:∃q,DI P y.x ad=q:=⟨_,rfl⟩
     have hkd:Dg kx.1:=hkx▸NV hnok
     refine ALZ ?_
     refine AH Cx 1 [(15,.bool true)]
       ⟨GC r7 (fun _=>BE (by simp;omega)),ALg⟩ fun a14 w14 g14 DQ=>?_
     refine AE ?_
     refine k13 _ _ ?_
     refine ALa fun K15 k15=>?_
     refine Av DQ rfl rfl ?_
     refine ALe ?_
     refine k15 _ _ ?_
     refine ALa fun K16 k16=>?_
     refine A8 fun Q17 x17 y17 rt17 o17=>?_
     refine ALa fun K18 k18=>?_
     refine ALZ ?_
     replace ho:=ho.kn g14
     refine AH DQ 3 [(16,.int .i64 ((i:Int))),(17,pk ((bO ao)) (oO ao+i*32)),(18,AO y.x)]
       ⟨ym r5,BA rq8 (fun w=>B8 Tryz.underlying28 (by kernel_rfl) (ho.1) (by omega) (rfl) w),Bc r6 (fun _ g=>Ab (BV y.x y.h.1) (by have:=CT (ho.kn g).1 DW hi (by decide);rw[hx_y] at this;exact this)),ALg⟩ fun a19 w19 g19 Cs=>?_
     replace AK:=AC g19 (AC g14 AK)
     replace AN:=AC g19 (AC g14 AN)
     replace AU:=AC g19 (AC g14 AU)
     replace hr:=(hr.kn g14).kn g19
     replace ho:=ho.kn g19
     replace hw:=(hw.kn g14).kn g19
     replace hb:=(hb.kn g14).kn g19
     replace okk:=(okk.kn g14).kn g19
     replace HG:=AA (AA HG g14) g19
     refine Az (T:=23) (Z:=(bv AM)) Cs rfl rfl rfl (fun a w=>by kernel_rfl) fun a20 w20 ALF Gb g20 z20 AAm DR=>?_
     have Sh:=Ax AK Gb
     have Si:=Ax AN Gb
     have Sj:=Ax AU Gb
     have AFP:=Bk HG Gb
     have Yi:=Ay (hr.lt) Gb
     have Yj:=Ay (ho.lt) Gb
     have Yk:=Ay (hw.lt) Gb
     have Yl:=Ay (hb.lt) Gb
     have Vx:=Ay (Own.ltS okk) Gb
     refine AX (v:=.int .i64 ((i:Int))) DR r6 fun a21 Di=>?_
     refine As Di r7 (BV y.x y.h.1) AAm (En y.h) fun w22 g22 h22=>?_
     replace AK:=Ac g22 (AC g20 AK) (Ne.symm Sh)
     replace AN:=Ac g22 (AC g20 AN) (Ne.symm Si)
     replace hr:=(hr.kn g20).offR g22 (AR Yi)
     replace AAm:=h22
     refine AE ?_
     refine k18 _ _ ?_
     refine ALa fun K23 k23=>?_
     refine ALZ ?_
     refine AH Di 8 [(20,Aw sa po (.slice vo ks.length vc_)),(21,AO y.x),(22,pt CG),(23,.int .i64 ad),(24,.tuple #[AO kx.1,.int .i64 kx.2]),(19,.tuple #[AO kx.1,.int .i64 kx.2]),(25,AO kx.1),(26,.int .i64 kx.2)]
       ⟨yl r6 (Bq hsa hpo (.slice vo ks.length vc_) rfl) AK,yl r6 (BV y.x y.h.1) AAm,yf r6 (fun _=>by kernel_rfl),yp (i:=0) r6 (E4 ad) AN rfl rfl,Ae [Aw sa po (.slice vo ks.length vc_),AO y.x,.int .i64 ad] Tryz.func32 (by kernel_rfl) rq4 ⟨(oy rfl rfl),(oy rfl rfl),(oy rfl rfl),ALg⟩ (Au fun W g=>AE9 hsa hpo y.h (hr.kn g) hP hkx),ym r5,BX rq4 (fun _ _ h=>⟨_,_,h,rfl,rfl⟩),BX rq4 (fun _ _ h=>⟨_,_,h,rfl,rfl⟩),ALg⟩ fun a24 w24 g24 ER=>?_
     replace AK:=AC g24 AK
     replace AN:=AC g24 AN
     replace AU:=AC g24 (Ac g22 (AC g20 AU) (Ne.symm Sj))
     replace hr:=hr.kn g24
     replace ho:=((ho.kn g20).offR g22 (AR Yj)).kn g24
     replace hw:=((hw.kn g20).offR g22 (AR Yk)).kn g24
     replace hb:=((hb.kn g20).offR g22 (AR Yl)).kn g24
     replace okk:=((okk.kn g20).offR g22 (AR Vx)).kn g24
     replace HG:=AA (AD (AA HG g20) g22 AFP) g24
     refine Az (T:=23) (Z:=(bv AM)) ER rfl rfl rfl (fun a w=>by kernel_rfl) fun a25 w25 ALG Gc g25 z25 AAn Co=>?_
     have Sk:=Ax AK Gc
     have Sm:=Ax AN Gc
     have Sn:=Ax AU Gc
     have AFQ:=Bk HG Gc
     have Ym:=Ay (hr.lt) Gc
     have Yn:=Ay (ho.lt) Gc
     have Yo:=Ay (hw.lt) Gc
     have Yp:=Ay (hb.lt) Gc
     have Vy:=Ay (Own.ltS okk) Gc
     refine As Co r7 (BV kx.1 hkd.1) AAn (En hkd) fun w26 g26 h26=>?_
     replace AK:=Ac g26 (AC g25 AK) (Ne.symm Sk)
     replace AN:=Ac g26 (AC g25 AN) (Ne.symm Sm)
     replace AU:=Ac g26 (AC g25 AU) (Ne.symm Sn)
     replace hr:=(hr.kn g25).offR g26 (AR Ym)
     replace ho:=(ho.kn g25).offR g26 (AR Yn)
     replace hw:=(hw.kn g25).offR g26 (AR Yo)
     replace hb:=(hb.kn g25).offR g26 (AR Yp)
     replace okk:=(okk.kn g25).offR g26 (AR Vy)
     replace HG:=AD (AA HG g25) g26 AFQ
     replace AAn:=h26
     refine AX (v:=.int .i64 kx.2) Co r6 fun a27 GF=>?_
     have Dp:Sv _ _ [_,_,_,_,_,_,_,_,_,_,_,_,_,_,_,_,_,_] _:=GF.dl [20,21,22,23,24,19,25,26]
     refine AE ?_
     refine k23 _ _ ?_
     refine ALa fun K29 k29=>?_
     refine A8 fun Q30 x30 y30 rt30 o30=>?_
     refine ALa fun K31 k31=>?_
     by_cases he:kx.2=0
     · have hkl1:=OH hkl (by omega) hla hkx (hkd:=hkd)
       have hok1:∀j,j<i+1→(DI P (No own j) ad).2=0:=fun j hj=>if e:j=i then (by rw[e,hla,hkx];exact he) else hok j (by omega)
       refine ALZ ?_
       refine AH Dp 7 [(28,pk CG 2),(29,.int .i64 0),(30,.bool false),(31,.bool false),(32,undef),(33,undef),(34,.bool false)]
        ⟨yf r6 (fun _=>by kernel_rfl),yp (i:=2) r6 (D9 0) AN rfl rfl,Cm r6 (fun _=>Bd rfl),ym r5,AS r6,AS r6,BQ r7,ALg⟩ fun a32 w32 g32 Ci=>?_
       refine AX (v:=.bool false) Ci r6 fun a33 Fb=>?_
       have Hw:Sv _ _ [_,_,_,_,_,_,_,_,_,_,_,_,_,_,_,_,_,_,_] _:=Fb.dl [28,29,30,31,32,33,34]
       refine AE ?_
       refine k31 _ _ ?_
       refine A1 Hw rfl rfl ?_
       refine ALa fun K35 k35=>?_
       refine ALZ ?_
       refine AH Hw 7 [(43,pk CG 2),(44,.int .i64 0),(45,.bool true),(46,.bool true),(47,.int .i64 kx.2),(48,.bool false),(49,.bool false)]
        ⟨yf r6 (fun _=>by kernel_rfl),yp (i:=2) r6 (D9 0) (AC g32 AN) rfl rfl,Cm r6 (fun _=>Bd rfl),ym r5,Aa rq8,Ap rq9 (fun _=>FB (by simpa using he)),Ag rq9,ALg⟩ fun a36 w36 g36 FG=>?_
       have NE:=AA g32 g36
       refine AX (v:=.bool false) FG r6 fun a37 Gx=>?_
       have Uw:Sv _ _ [_,_,_,_,_,_,_,_,_,_,_,_,_,_,_,_,_,_,_,_] _:=Gx.dl [43,44,45,46,47,48,49]
       refine AE ?_
       refine k35 _ _ ?_
       refine A1 Uw rfl rfl ?_
       refine ALe ?_
       refine y30 _ _ ?_
       refine k29 _ _ ?_
       refine ALZ ?_
       refine AH Uw 2 [(51,.slice ko i kc),(52,AO kx.1)]
        ⟨ym r5,yl r6 (BV kx.1 hkd.1) (AC NE AAn),ALg⟩ fun a39 w39 g39 Jl=>?_
       have Vz:=AA NE g39
       refine KQ (cs:=bv kx.1) (e:=23) Jl rfl rfl rfl rfl rfl rfl (YR hkd) fun a40 w40 AKv AJP g40 z40 AHM Jm=>?_
       replace AK:=AC g40 (AC Vz AK)
       replace AN:=AC g40 (AC Vz AN)
       replace AU:=AC g40 (AC Vz AU)
       replace hr:=(hr.kn Vz).kn g40
       replace ho:=(ho.kn Vz).kn g40
       replace hw:=(hw.kn Vz).kn g40
       replace hb:=(hb.kn Vz).kn g40
       replace okk:=(okk.kn Vz).kn g40
       replace HG:=AA (AA HG Vz) g40
       refine GV dsT Jm rfl rfl rfl rfl rfl rfl rfl rfl okk (JK AHM hkd) (Dj _) (by omega) fun a41 ao41 cap41 w41 owx41 Bh N2=>?_
       have So:=GD Bh.2 D0 AK
       have Sq:=GD Bh.2 D1 AN
       have Sr:=GD Bh.2 Cw AU
       have Yq:=Fo Bh.2 ap_hr_okk (hr.lt)
       have Yr:=Fo Bh.2 ap_ho_okk (ho.lt)
       have Ys:=Fo Bh.2 ap_hw_okk (hw.lt)
       have Yt:=Fo Bh.2 ap_hb_okk (hb.lt)
       have AFR:=Oz Bh.2 lo_okk HG
       replace AK:=AF Bh.1 AK (fun e=>D0 _ e.symm rfl)
       replace AN:=AF Bh.1 AN (fun e=>D1 _ e.symm rfl)
       replace AU:=AF Bh.1 AU (fun e=>Cw _ e.symm rfl)
       replace hr:=hr.offR Bh.1 (fun k hk e=>ap_hr_okk k hk (e))
       replace ho:=ho.offR Bh.1 (fun k hk e=>ap_ho_okk k hk (e))
       replace hw:=hw.offR Bh.1 (fun k hk e=>ap_hw_okk k hk (e))
       replace hb:=hb.offR Bh.1 (fun k hk e=>ap_hb_okk k hk (e))
       replace HG:=Br HG Bh.1 fun k e=>lo_okk k (e)
       rw[Ql kl ⟨kx.1,hkd⟩] at owx41
       refine AX (v:=.slice ao41 (i+1) cap41) N2 r6 fun a42 GH=>?_
       have JX:Sv _ _ [_,_,_,_,_,_,_,_,_,_,_,_,_,_,_,_,_,_,_,_] _:=GH.dl [54,53,51,52]
       refine AE ?_
       refine y17 _ _ ?_
       refine k16 _ _ ?_
       refine ALZ ?_
       refine AH JX 1 [(55,.int .i64 (((i+1:Nat):Int)))]
        ⟨Cm r6 (fun _=>DB (by rw[BG (by omega) (by omega)];omega)),ALg⟩ fun a44 w44 g44 R3=>?_
       refine AH (R3.dl [14]) 1 [(14,.int .i64 (((i+1:Nat):Int)))]
        ⟨ym r5,ALg⟩ fun a45 w45 g45 Ep=>?_
       have Qa:=AA g44 g45
       refine AE ?_
       replace AK:=AC Qa AK
       replace AN:=AC Qa AN
       replace AU:=AC Qa AU
       replace hr:=hr.kn Qa
       replace ho:=ho.kn Qa
       replace hw:=hw.kn Qa
       replace hb:=hb.kn Qa
       replace owx41:=owx41.kn Qa
       replace HG:=AA HG Qa
       exact⟨⟨i+1,ao41,cap41,(kl++[⟨kx.1,hkd⟩]),by omega,hkl1,hok1,⟨Ep.1,Ep.2.1,Ep.2.2.1,Ep.2.2.2.2.1,(AG Ep).2.2.2.2.2.2.2.1,(AG (AG Ep)).1,(AG (AG Ep)).2.1,(AG (AG Ep)).2.2.1,(AG (AG Ep)).2.2.2.1,(AG (AG Ep)).2.2.2.2.1,(AG (AG Ep)).2.2.2.2.2.1,(AG (AG Ep)).2.2.2.2.2.2.1,ALg⟩,HG,AK,AN,AU,hr,ho,hw,hb,owx41,So,Sq,Sr,Yq,Yr,Ys,Yt,AFR⟩,by rw[show _=_ from Ep.2.2.1,show _=_ from Cx.2.2.1];simp[intOf];omega⟩
     · have hke:=L5 (P:=P) (a:=ad) (own:=own) (i:=i) (by omega) hok (by rw[hla,hkx];exact he)
       rw[hla,hkx] at hke
       refine ALZ ?_
       refine AH Dp 7 [(28,pk CG 2),(29,.int .i64 0),(30,.bool false),(31,.bool false),(32,undef),(33,undef),(34,.bool false)]
        ⟨yf r6 (fun _=>by kernel_rfl),yp (i:=2) r6 (D9 0) AN rfl rfl,Cm r6 (fun _=>Bd rfl),ym r5,AS r6,AS r6,BQ r7,ALg⟩ fun a46 w46 g46 Iq=>?_
       refine AX (v:=.bool false) Iq r6 fun a47 Kq=>?_
       have Vn:Sv _ _ [_,_,_,_,_,_,_,_,_,_,_,_,_,_,_,_,_,_,_] _:=Kq.dl [28,29,30,31,32,33,34]
       refine AE ?_
       refine k31 _ _ ?_
       refine A1 Vn rfl rfl ?_
       refine ALa fun K49 k49=>?_
       refine ALZ ?_
       refine AH Vn 7 [(43,pk CG 2),(44,.int .i64 0),(45,.bool true),(46,.bool true),(47,.int .i64 kx.2),(48,.bool true),(49,.bool true)]
        ⟨yf r6 (fun _=>by kernel_rfl),yp (i:=2) r6 (D9 0) (AC g46 AN) rfl rfl,Cm r6 (fun _=>Bd rfl),ym r5,Aa rq8,Ap rq9 (fun _=>FB (by simpa using he)),Ag rq9,ALg⟩ fun a50 w50 g50 PA=>?_
       have WA:=AA g46 g50
       refine AX (v:=.bool true) PA r6 fun a51 FJ=>?_
       have O9:Sv _ _ [_,_,_,_,_,_,_,_,_,_,_,_,_,_,_,_,_,_,_,_] _:=FJ.dl [43,44,45,46,47,48,49]
       refine AE ?_
       refine k49 _ _ ?_
       refine Av O9 rfl rfl ?_
       refine ALa fun K53 k53=>?_
       refine ALZ ?_
       replace AU:=AC WA AU
       refine AH O9 1 [(50,AO AM)]
        ⟨BR (vs:=[]) rfl rfl trivial trivial (fun _=>XC _) (fun _=>rfl),ALg⟩ fun a54 w54 g54 N9=>?_
       refine As N9 r7 (BV AM AP.1) (AC g54 AU) (En AP) fun w55 g55 h55=>?_
       replace AK:=Af g54 g55 (AC WA AK) (Ne.symm BT)
       replace AN:=Af g54 g55 (AC WA AN) (Ne.symm Bf)
       replace hr:=((hr.kn WA).kn g54).offR g55 (AR CI)
       replace ho:=((ho.kn WA).kn g54).offR g55 (AR EA)
       replace hw:=((hw.kn WA).kn g54).offR g55 (AR EB)
       replace hb:=((hb.kn WA).kn g54).offR g55 (AR Dn)
       replace okk:=((okk.kn WA).kn g54).offR g55 (AR Cw)
       replace HG:=AD (AA (AA HG WA) g54) g55 CL
       replace AU:=h55
       refine AX (v:=.bool false) N9 r6 fun a56 SC=>?_
       refine AE ?_
       refine k53 _ _ ?_
       refine ALd ?_
       repeat refine AJ ?_
       refine rt30 _ _ ?_
       repeat refine AJ ?_
       refine rt17 _ _ ?_
       repeat refine AJ ?_
       refine rt11 _ _ ?_
       repeat refine AJ ?_
       refine Ar (fn:=Tryz.f62) SC (DY (p:=4) (q:=5) Tryz.results62 SC rfl rfl rfl rfl (BV AM AP.1) AU) ?_
       exact RecR.none (show Kr P _=_ by unfold Kr;rw[if_neg (show ¬(0:Int)=1 by decide),if_neg (by rw[hke];exact he)]) AP HG
   · obtain⟨hK1,hK2⟩:=NU (P:=P) (a:=ad) (own:=own) fun j hj=>hok j (by omega)
     have hkm:kl.map DD.x=(Df P ad own).1:=by rw[hK1,hkl,List.take_of_length_le (by omega)]
     refine ALZ ?_
     refine AH Cx 1 [(15,.bool false)]
       ⟨GC r7 (fun _=>BE (by simp;omega)),ALg⟩ fun a57 w57 g57 AAP=>?_
     refine AE ?_
     refine k13 _ _ ?_
     refine ALa fun K58 k58=>?_
     refine A1 AAP rfl rfl ?_
     refine wp_exit ?_
     repeat refine Bo ?_
     refine x11 _ _ ?_
     refine k8 _ _ ?_
     refine ALa fun K59 k59=>?_
     refine ALa fun K60 k60=>?_
     refine ALZ ?_
     refine AH AAP 3 [(56,pk CG 2),(57,.int .i64 0),(58,.bool false)]
       ⟨yf r6 (fun _=>by kernel_rfl),yp (i:=2) r6 (D9 0) (AC g57 AN) rfl rfl,Cm r6 (fun _=>Bd rfl),ALg⟩ fun a61 w61 g61 OA=>?_
     have AKI:=AA g57 g61
     refine AE ?_
     refine k60 _ _ ?_
     refine A1 OA rfl rfl ?_
     refine ALe ?_
     refine k59 _ _ ?_
     refine ALa fun K62 k62=>?_
     refine ALZ ?_
     refine AH OA 3 [(60,pk CG 2),(61,.int .i64 0),(62,.slice ko i kc)]
       ⟨yf r6 (fun _=>by kernel_rfl),yp (i:=2) r6 (D9 0) (AC AKI AN) rfl rfl,ym r5,ALg⟩ fun a63 w63 g63 AC7=>?_
     have WC:=AA AKI g63
     replace okk:=okk.kn WC
     refine BB AC7 Tryz.func55 (by kernel_rfl) r6 (Jq (AE8 (by have:=congrArg List.length hkl;simpa using this.trans (by rw[List.length_map,List.length_take];omega)) (Own.sb okk) (by omega) rfl)) fun a64 v64 w64 hR64 AAj=>?_
     obtain⟨rfl,g64⟩:=hR64
     replace AU:=AC g64 (AC WC AU)
     refine As AAj r7 (BV ((Tx (decide ((0:Int)=1)) (kl.map DD.x))) (OE _ _).1) AU (En (OE _ _)) fun w65 g65 h65=>?_
     replace AK:=Ac g65 (AC g64 (AC WC AK)) (Ne.symm BT)
     replace AN:=Ac g65 (AC g64 (AC WC AN)) (Ne.symm Bf)
     replace hr:=((hr.kn WC).kn g64).offR g65 (AR CI)
     replace ho:=((ho.kn WC).kn g64).offR g65 (AR EA)
     replace hw:=((hw.kn WC).kn g64).offR g65 (AR EB)
     replace hb:=((hb.kn WC).kn g64).offR g65 (AR Dn)
     replace okk:=(okk.kn g64).offR g65 (AR Cw)
     replace HG:=AD (AA (AA HG WC) g64) g65 CL
     replace AU:=h65
     refine AX (v:=.bool true) AAj r6 fun a66 AFJ=>?_
     have ADI:Sv _ _ [_,_,_,_,_,_,_,_,_,_,_,_,_,_,_] _:=AFJ.dl [63,60,61,62]
     refine AE ?_
     refine k62 _ _ ?_
     refine ALd ?_
     repeat refine AJ ?_
     refine Ar (fn:=Tryz.f62) ADI (DY (p:=4) (q:=5) Tryz.results62 ADI rfl rfl rfl rfl (BV ((Tx (decide ((0:Int)=1)) (kl.map DD.x))) (OE _ _).1) AU) ?_
     exact RecR.some (show Kr P _=_ by unfold Kr;rw[if_neg (show ¬(0:Int)=1 by decide),if_pos hK2,←hkm]) (OE _ _) HG
 · refine ALZ ?_
   refine AH sv7 4 [(11,pk CG 1),(12,.slice ao od.length ac),(13,.int .i64 ((od.length:Nat))),(14,.int .i64 0)]
     ⟨yf r6 (fun _=>by kernel_rfl),yp (i:=1) r6 (Hz (.slice ao od.length ac) rfl) AN rfl rfl,BI (Tryz.underlying28) rfl rfl trivial (oy rfl rfl) (fun _=>rfl),FA (.inl rfl) rfl trivial (fun _=>rfl),ALg⟩ fun a68 w68 g68 La=>?_
   refine AE ?_
   refine k9 _ _ ?_
   refine A8 fun Q69 x69 y69 rt69 o69=>?_
   replace AK:=AC g68 AK
   replace AN:=AC g68 AN
   replace AU:=AC g68 AU
   replace hr:=hr.kn g68
   replace ho:=ho.kn g68
   replace hw:=hw.kn g68
   replace hb:=hb.kn g68
   replace HG:=AA HG g68
   have okk:=Own.nil w68 23 32
   have D0:=Hr CO
   have D1:=Hr CG
   have Cw:=Hr Fp
   have ap_hr_okk:=IC (Kv (.slice vo ks.length vc_) ks)
   have ap_ho_okk:=IC (BM (.slice ao od.length ac))
   have ap_hw_okk:=IC (BM (.slice wo wd.length wc))
   have ap_hb_okk:=IC (BM (.slice bo body.length bc))
   have lo_okk:=XT w
   refine wp_loop (fun a w'=>∃(i:Nat) (ko:Option Addr) (kc:Nat) (kl:List DD),(i≤od.length)∧(kl.length=i)∧(∀j,j<i→(DI P (No own j) ad).2≠0)∧Sv 64 [] [(14,.int .i64 ((i:Int))),(6,.slice ko i kc),(11,pk CG 1),(12,.slice ao od.length ac),(13,.int .i64 ((od.length:Nat))),(4,pt Fp),(3,pt CG),(2,pt CO),(0,Aw sa po (.slice vo ks.length vc_)),(1,Bm ad (.slice ao od.length ac) 1 (.slice wo wd.length wc) (.slice bo body.length bc) tg)] a∧w.grownBy w' none∧w'.heap[CO]?=some (.cells ([bv sa,bv po,[.slice vo ks.length vc_]].flatten).toArray 36 (0,0))∧w'.heap[CG]?=some (.cells ([[.int .i64 ad],[.slice ao od.length ac],[.int .i64 1],[.slice wo wd.length wc],[.slice bo body.length bc],bv tg].flatten).toArray 31 (0,0))∧w'.heap[Fp]?=some (.cells ((bv AM)).toArray 23 (0,0))∧RdK w' (.slice vo ks.length vc_) ks∧RdD w' (.slice ao od.length ac) od∧RdD w' (.slice wo wd.length wc) wd∧SlB w' 1 (.slice bo body.length bc) body.length (bv body)∧Own w' 23 32 (.slice ko i kc) i (kl.flatMap Ic)∧(∀k,BM (.slice ko i kc) k→k≠CO)∧(∀k,BM (.slice ko i kc) k→k≠CG)∧(∀k,BM (.slice ko i kc) k→k≠Fp)∧(∀k,Kv (.slice vo ks.length vc_) ks k→¬BM (.slice ko i kc) k)∧(∀k,BM (.slice ao od.length ac) k→¬BM (.slice ko i kc) k)∧(∀k,BM (.slice wo wd.length wc) k→¬BM (.slice ko i kc) k)∧(∀k,BM (.slice bo body.length bc) k→¬BM (.slice ko i kc) k)∧(∀k,BM (.slice ko i kc) k→w.heap.size≤k)) (fun a _=>(od.length-intOf (a.tmps.getD 14 undef)).toNat) ⟨0,none,0,[],Nat.zero_le _,rfl,fun j hj=>by omega,⟨La.1,La.2.1,La.2.2.2.2.2.1,La.2.2.2.2.2.2.1,La.2.2.1,La.2.2.2.1,La.2.2.2.2.1,(AG La).1,(AG La).2.1,(AG La).2.2.1,(AG La).2.2.2.1,(AG La).2.2.2.2.1,ALg⟩,HG,AK,AN,AU,hr,ho,hw,hb,okk,D0,D1,Cw,ap_hr_okk,ap_ho_okk,ap_hw_okk,ap_hb_okk,lo_okk⟩ fun a70 w70 hI70=>?_
   clear AK
   clear AN
   clear AU
   clear hr
   clear ho
   clear hw
   clear hb
   clear okk
   clear HG
   obtain⟨i,ko,kc,kl,hin,hkll,hno,AAo,HG,AK,AN,AU,hr,ho,hw,hb,okk,D0,D1,Cw,ap_hr_okk,ap_ho_okk,ap_hw_okk,ap_hb_okk,lo_okk⟩:=hI70
   refine ALa fun K71 k71=>?_
   by_cases hi:i<od.length
   · obtain⟨y,hx_y⟩:∃zx,od[i]'hi=zx:=⟨_,rfl⟩
     have hla:No own i=y.x:=by rw[←hown,IT hi,hx_y]
     obtain⟨kx,hkx⟩:∃q,DI P y.x ad=q:=⟨_,rfl⟩
     have hkd:Dg kx.1:=hkx▸NV hnok
     refine ALZ ?_
     refine AH AAo 1 [(15,.bool true)]
       ⟨GC r7 (fun _=>BE (by simp;omega)),ALg⟩ fun a72 w72 g72 AHC=>?_
     refine AE ?_
     refine k71 _ _ ?_
     refine ALa fun K73 k73=>?_
     refine Av AHC rfl rfl ?_
     refine ALe ?_
     refine k73 _ _ ?_
     refine ALa fun K74 k74=>?_
     refine A8 fun Q75 x75 y75 rt75 o75=>?_
     refine ALa fun K76 k76=>?_
     refine ALZ ?_
     replace ho:=ho.kn g72
     refine AH AHC 3 [(16,.int .i64 ((i:Int))),(17,pk ((bO ao)) (oO ao+i*32)),(18,AO y.x)]
       ⟨ym r5,BA rq8 (fun w=>B8 Tryz.underlying28 (by kernel_rfl) (ho.1) (by omega) (rfl) w),Bc r6 (fun _ g=>Ab (BV y.x y.h.1) (by have:=CT (ho.kn g).1 DW hi (by decide);rw[hx_y] at this;exact this)),ALg⟩ fun a77 w77 g77 AFK=>?_
     replace AK:=AC g77 (AC g72 AK)
     replace AN:=AC g77 (AC g72 AN)
     replace AU:=AC g77 (AC g72 AU)
     replace hr:=(hr.kn g72).kn g77
     replace ho:=ho.kn g77
     replace hw:=(hw.kn g72).kn g77
     replace hb:=(hb.kn g72).kn g77
     replace okk:=(okk.kn g72).kn g77
     replace HG:=AA (AA HG g72) g77
     refine Az (T:=23) (Z:=(bv AM)) AFK rfl rfl rfl (fun a w=>by kernel_rfl) fun a78 w78 ALH Gd g78 z78 AAp ADJ=>?_
     have Ss:=Ax AK Gd
     have Su:=Ax AN Gd
     have Sw:=Ax AU Gd
     have AFS:=Bk HG Gd
     have Yu:=Ay (hr.lt) Gd
     have Yv:=Ay (ho.lt) Gd
     have Yw:=Ay (hw.lt) Gd
     have Yx:=Ay (hb.lt) Gd
     have WD:=Ay (Own.ltS okk) Gd
     refine AX (v:=.int .i64 ((i:Int))) ADJ r6 fun a79 SO=>?_
     refine As SO r7 (BV y.x y.h.1) AAp (En y.h) fun w80 g80 h80=>?_
     replace AK:=Ac g80 (AC g78 AK) (Ne.symm Ss)
     replace AN:=Ac g80 (AC g78 AN) (Ne.symm Su)
     replace hr:=(hr.kn g78).offR g80 (AR Yu)
     replace AAp:=h80
     refine AE ?_
     refine k76 _ _ ?_
     refine ALa fun K81 k81=>?_
     refine ALZ ?_
     refine AH SO 8 [(20,Aw sa po (.slice vo ks.length vc_)),(21,AO y.x),(22,pt CG),(23,.int .i64 ad),(24,.tuple #[AO kx.1,.int .i64 kx.2]),(19,.tuple #[AO kx.1,.int .i64 kx.2]),(25,AO kx.1),(26,.int .i64 kx.2)]
       ⟨yl r6 (Bq hsa hpo (.slice vo ks.length vc_) rfl) AK,yl r6 (BV y.x y.h.1) AAp,yf r6 (fun _=>by kernel_rfl),yp (i:=0) r6 (E4 ad) AN rfl rfl,Ae [Aw sa po (.slice vo ks.length vc_),AO y.x,.int .i64 ad] Tryz.func32 (by kernel_rfl) rq4 ⟨(oy rfl rfl),(oy rfl rfl),(oy rfl rfl),ALg⟩ (Au fun W g=>AE9 hsa hpo y.h (hr.kn g) hP hkx),ym r5,BX rq4 (fun _ _ h=>⟨_,_,h,rfl,rfl⟩),BX rq4 (fun _ _ h=>⟨_,_,h,rfl,rfl⟩),ALg⟩ fun a82 w82 g82 Vc=>?_
     replace AK:=AC g82 AK
     replace AN:=AC g82 AN
     replace AU:=AC g82 (Ac g80 (AC g78 AU) (Ne.symm Sw))
     replace hr:=hr.kn g82
     replace ho:=((ho.kn g78).offR g80 (AR Yv)).kn g82
     replace hw:=((hw.kn g78).offR g80 (AR Yw)).kn g82
     replace hb:=((hb.kn g78).offR g80 (AR Yx)).kn g82
     replace okk:=((okk.kn g78).offR g80 (AR WD)).kn g82
     replace HG:=AA (AD (AA HG g78) g80 AFS) g82
     refine Az (T:=23) (Z:=(bv AM)) Vc rfl rfl rfl (fun a w=>by kernel_rfl) fun a83 w83 ALI Gf g83 z83 Ld AHE=>?_
     have Sy:=Ax AK Gf
     have Sz:=Ax AN Gf
     have MR:=Ax AU Gf
     have AFT:=Bk HG Gf
     have Yy:=Ay (hr.lt) Gf
     have Yz:=Ay (ho.lt) Gf
     have Y0:=Ay (hw.lt) Gf
     have ZA:=Ay (hb.lt) Gf
     have WE:=Ay (Own.ltS okk) Gf
     refine As AHE r7 (BV kx.1 hkd.1) Ld (En hkd) fun w84 g84 h84=>?_
     replace AK:=Ac g84 (AC g83 AK) (Ne.symm Sy)
     replace AN:=Ac g84 (AC g83 AN) (Ne.symm Sz)
     replace AU:=Ac g84 (AC g83 AU) (Ne.symm MR)
     replace hr:=(hr.kn g83).offR g84 (AR Yy)
     replace ho:=(ho.kn g83).offR g84 (AR Yz)
     replace hw:=(hw.kn g83).offR g84 (AR Y0)
     replace hb:=(hb.kn g83).offR g84 (AR ZA)
     replace okk:=(okk.kn g83).offR g84 (AR WE)
     replace HG:=AD (AA HG g83) g84 AFT
     replace Ld:=h84
     refine AX (v:=.int .i64 kx.2) AHE r6 fun a85 ADB=>?_
     have Ez:Sv _ _ [_,_,_,_,_,_,_,_,_,_,_,_,_,_,_,_,_,_] _:=ADB.dl [20,21,22,23,24,19,25,26]
     refine AE ?_
     refine k81 _ _ ?_
     refine ALa fun K87 k87=>?_
     refine A8 fun Q88 x88 y88 rt88 o88=>?_
     refine ALa fun K89 k89=>?_
     by_cases he:kx.2=0
     · have hiw:i<wd.length:=by have:=hwl rfl;omega
       obtain⟨wx,hx_wx⟩:∃zx,wd[i]'hiw=zx:=⟨_,rfl⟩
       have hhit:=Yh (P:=P) (a:=ad) (own:=own) (wr:=wd.map DD.x) (i:=i) (by omega) hno (by rw[hla,hkx];exact he)
       rw[hla,hkx,IT hiw,hx_wx] at hhit
       refine ALZ ?_
       refine AH Ez 7 [(28,pk CG 2),(29,.int .i64 1),(30,.bool true),(31,.bool true),(32,.int .i64 kx.2),(33,.bool true),(34,.bool true)]
        ⟨yf r6 (fun _=>by kernel_rfl),yp (i:=2) r6 (D9 1) AN rfl rfl,Cm r6 (fun _=>Bd rfl),ym r5,Aa rq8,Ap rq9 (fun _=>Bd (by simpa using he)),Ag rq9,ALg⟩ fun a90 w90 g90 AKw=>?_
       refine AX (v:=.bool true) AKw r6 fun a91 AKx=>?_
       have AFB:Sv _ _ [_,_,_,_,_,_,_,_,_,_,_,_,_,_,_,_,_,_,_] _:=AKx.dl [28,29,30,31,32,33,34]
       refine AE ?_
       refine k89 _ _ ?_
       refine Av AFB rfl rfl ?_
       refine ALa fun K93 k93=>?_
       replace AN:=AC g90 AN
       replace AU:=AC g90 AU
       replace Ld:=AC g90 Ld
       replace hw:=hw.kn g90
       refine DM (AFB.st w90) (by kernel_rfl) 7 [(35,Sp.is (pk CG 3)),(36,Sp.is (.slice wo wd.length wc)),(37,Sp.is (.int .i64 ((i:Int)))),(38,Sp.is (pk ((bO wo)) (oO wo+i*32))),(39,Sp.is (AO wx.x)),(40,Sp.is (AO kx.1)),(41,Sp.is (AO ((OD wx.x kx.1))))] rfl (by kernel_rfl) (by kernel_rfl) (by kernel_rfl) [] (by kernel_rfl)
        ⟨yf r6 (fun _=>by kernel_rfl),yp (i:=3) r6 (Hz (.slice wo wd.length wc) rfl) AN rfl rfl,ym r5,BA rq8 (fun w=>B8 Tryz.underlying28 (by kernel_rfl) (hw.1) (by omega) (rfl) w),Bc r6 (fun _ g=>Ab (BV wx.x wx.h.1) (by have:=CT (hw.kn g).1 DW hiw (by decide);rw[hx_wx] at this;exact this)),yl r6 (BV kx.1 hkd.1) Ld,Ae [AO wx.x,AO kx.1] Tryz.func56 (by kernel_rfl) rq4 ⟨(oy rfl rfl),(oy rfl rfl),ALg⟩ (Au fun W g=>NM wx.x kx.1 wx.h hkd W),ALg⟩ trivial
        [] (by kernel_rfl) trivial ⟨.inl rfl,.inl rfl,.inl rfl,.inl rfl,.inl rfl,.inl rfl,.inl rfl,ALg⟩ (by kernel_rfl) fun a94 w94 g94 st94 nd94=>?_
       obtain⟨hn94,hd94,e94_35,e94_36,e94_37,e94_38,e94_39,e94_40,e94_41,e94_27,e94_10,e94_9,e94_7,e94_8,e94_16,e94_17,e94_18,e94_15,e94_14,e94_6,e94_11,e94_12,e94_13,e94_4,e94_3,e94_2,e94_0,e94_1,-⟩:=st94
       have AKJ:Sv 64 [] [(27,_),(10,_),(9,_),(7,_),(8,_),(16,_),(17,_),(18,_),(15,_),(14,_),(6,_),(11,_),(12,_),(13,_),(4,_),(3,_),(2,_),(0,_),(1,_),(41,_)] a94:=⟨hn94,hd94,e94_27,e94_10,e94_9,e94_7,e94_8,e94_16,e94_17,e94_18,e94_15,e94_14,e94_6,e94_11,e94_12,e94_13,e94_4,e94_3,e94_2,e94_0,e94_1,e94_41,ALg⟩
       refine As AKJ r7 (BV ((OD wx.x kx.1)) (KX wx.h hkd).1) (AC g94 AU) (En (KX wx.h hkd)) fun w95 g95 h95=>?_
       replace AK:=Af g94 g95 (AC g90 AK) (Ne.symm BT)
       replace AN:=Af g94 g95 AN (Ne.symm Bf)
       replace Ld:=Af g94 g95 Ld MR
       replace hr:=((hr.kn g90).kn g94).offR g95 (AR CI)
       replace ho:=((ho.kn g90).kn g94).offR g95 (AR EA)
       replace hw:=(hw.kn g94).offR g95 (AR EB)
       replace hb:=((hb.kn g90).kn g94).offR g95 (AR Dn)
       replace okk:=((okk.kn g90).kn g94).offR g95 (AR Cw)
       replace HG:=AD (AA (AA HG g90) g94) g95 CL
       replace AU:=h95
       refine AX (v:=.bool true) AKJ r6 fun a96 AHG=>?_
       refine AE ?_
       refine k93 _ _ ?_
       refine ALd ?_
       repeat refine AJ ?_
       refine rt88 _ _ ?_
       repeat refine AJ ?_
       refine rt75 _ _ ?_
       repeat refine AJ ?_
       refine rt69 _ _ ?_
       repeat refine AJ ?_
       refine Ar (fn:=Tryz.f62) AHG (DY (p:=4) (q:=5) Tryz.results62 AHG rfl rfl rfl rfl (BV ((OD wx.x kx.1)) (KX wx.h hkd).1) AU) ?_
       exact RecR.some (show Kr P _=_ by unfold Kr;rw[if_pos rfl];exact hhit) (KX wx.h hkd) HG
     · have hno1:∀j,j<i+1→(DI P (No own j) ad).2≠0:=fun j hj=>if e:j=i then (by rw[e,hla,hkx];exact he) else hno j (by omega)
       refine ALZ ?_
       refine AH Ez 7 [(28,pk CG 2),(29,.int .i64 1),(30,.bool true),(31,.bool true),(32,.int .i64 kx.2),(33,.bool false),(34,.bool false)]
        ⟨yf r6 (fun _=>by kernel_rfl),yp (i:=2) r6 (D9 1) AN rfl rfl,Cm r6 (fun _=>Bd rfl),ym r5,Aa rq8,Ap rq9 (fun _=>Bd (by simpa using he)),Ag rq9,ALg⟩ fun a97 w97 g97 AFC=>?_
       refine AX (v:=.bool false) AFC r6 fun a98 AHL=>?_
       have AKK:Sv _ _ [_,_,_,_,_,_,_,_,_,_,_,_,_,_,_,_,_,_,_] _:=AHL.dl [28,29,30,31,32,33,34]
       refine AE ?_
       refine k89 _ _ ?_
       refine A1 AKK rfl rfl ?_
       refine ALa fun K100 k100=>?_
       refine ALZ ?_
       refine AH AKK 7 [(43,pk CG 2),(44,.int .i64 1),(45,.bool false),(46,.bool false),(47,undef),(48,undef),(49,.bool false)]
        ⟨yf r6 (fun _=>by kernel_rfl),yp (i:=2) r6 (D9 1) (AC g97 AN) rfl rfl,Cm r6 (fun _=>Bd rfl),ym r5,AS r6,AS r6,BQ r7,ALg⟩ fun a101 w101 g101 T7=>?_
       have AH2:=AA g97 g101
       refine AX (v:=.bool false) T7 r6 fun a102 ABo=>?_
       have ABg:Sv _ _ [_,_,_,_,_,_,_,_,_,_,_,_,_,_,_,_,_,_,_,_] _:=ABo.dl [43,44,45,46,47,48,49]
       refine AE ?_
       refine k100 _ _ ?_
       refine A1 ABg rfl rfl ?_
       refine ALe ?_
       refine y88 _ _ ?_
       refine k87 _ _ ?_
       refine ALZ ?_
       refine AH ABg 2 [(51,.slice ko i kc),(52,AO kx.1)]
        ⟨ym r5,yl r6 (BV kx.1 hkd.1) (AC AH2 Ld),ALg⟩ fun a104 w104 g104 YX=>?_
       have Ng:=AA AH2 g104
       refine KQ (cs:=bv kx.1) (e:=23) YX rfl rfl rfl rfl rfl rfl (YR hkd) fun a105 w105 AKZ AI8 g105 z105 AFU ABh=>?_
       replace AK:=AC g105 (AC Ng AK)
       replace AN:=AC g105 (AC Ng AN)
       replace AU:=AC g105 (AC Ng AU)
       replace hr:=(hr.kn Ng).kn g105
       replace ho:=(ho.kn Ng).kn g105
       replace hw:=(hw.kn Ng).kn g105
       replace hb:=(hb.kn Ng).kn g105
       replace okk:=(okk.kn Ng).kn g105
       replace HG:=AA (AA HG Ng) g105
       refine GV dsT ABh rfl rfl rfl rfl rfl rfl rfl rfl okk (JK AFU hkd) (Dj _) (by omega) fun a106 ao106 cap106 w106 owx106 Bh AFL=>?_
       have RJ:=GD Bh.2 D0 AK
       have RK:=GD Bh.2 D1 AN
       have RL:=GD Bh.2 Cw AU
       have WF:=Fo Bh.2 ap_hr_okk (hr.lt)
       have WG:=Fo Bh.2 ap_ho_okk (ho.lt)
       have WH:=Fo Bh.2 ap_hw_okk (hw.lt)
       have WI:=Fo Bh.2 ap_hb_okk (hb.lt)
       have ADN:=Oz Bh.2 lo_okk HG
       replace AK:=AF Bh.1 AK (fun e=>D0 _ e.symm rfl)
       replace AN:=AF Bh.1 AN (fun e=>D1 _ e.symm rfl)
       replace AU:=AF Bh.1 AU (fun e=>Cw _ e.symm rfl)
       replace hr:=hr.offR Bh.1 (fun k hk e=>ap_hr_okk k hk (e))
       replace ho:=ho.offR Bh.1 (fun k hk e=>ap_ho_okk k hk (e))
       replace hw:=hw.offR Bh.1 (fun k hk e=>ap_hw_okk k hk (e))
       replace hb:=hb.offR Bh.1 (fun k hk e=>ap_hb_okk k hk (e))
       replace HG:=Br HG Bh.1 fun k e=>lo_okk k (e)
       rw[Ql kl ⟨kx.1,hkd⟩] at owx106
       refine AX (v:=.slice ao106 (i+1) cap106) AFL r6 fun a107 YY=>?_
       have AFM:Sv _ _ [_,_,_,_,_,_,_,_,_,_,_,_,_,_,_,_,_,_,_,_] _:=YY.dl [54,53,51,52]
       refine AE ?_
       refine y75 _ _ ?_
       refine k74 _ _ ?_
       refine ALZ ?_
       refine AH AFM 1 [(55,.int .i64 (((i+1:Nat):Int)))]
        ⟨Cm r6 (fun _=>DB (by rw[BG (by omega) (by omega)];omega)),ALg⟩ fun a109 w109 g109 T8=>?_
       refine AH (T8.dl [14]) 1 [(14,.int .i64 (((i+1:Nat):Int)))]
        ⟨ym r5,ALg⟩ fun a110 w110 g110 Iz=>?_
       have Nh:=AA g109 g110
       refine AE ?_
       replace AK:=AC Nh AK
       replace AN:=AC Nh AN
       replace AU:=AC Nh AU
       replace hr:=hr.kn Nh
       replace ho:=ho.kn Nh
       replace hw:=hw.kn Nh
       replace hb:=hb.kn Nh
       replace owx106:=owx106.kn Nh
       replace HG:=AA HG Nh
       exact⟨⟨i+1,ao106,cap106,(kl++[⟨kx.1,hkd⟩]),by omega,by rw[List.length_append];simp;omega,hno1,⟨Iz.1,Iz.2.1,Iz.2.2.1,Iz.2.2.2.2.1,(AG Iz).2.2.2.2.2.2.2.1,(AG (AG Iz)).1,(AG (AG Iz)).2.1,(AG (AG Iz)).2.2.1,(AG (AG Iz)).2.2.2.1,(AG (AG Iz)).2.2.2.2.1,(AG (AG Iz)).2.2.2.2.2.1,(AG (AG Iz)).2.2.2.2.2.2.1,ALg⟩,HG,AK,AN,AU,hr,ho,hw,hb,owx106,RJ,RK,RL,WF,WG,WH,WI,ADN⟩,by rw[show _=_ from Iz.2.2.1,show _=_ from AAo.2.2.1];simp[intOf];omega⟩
   · have hnone:=UC (P:=P) (a:=ad) (own:=own) (wr:=wd.map DD.x) fun j hj=>hno j (by omega)
     refine ALZ ?_
     refine AH AAo 1 [(15,.bool false)]
       ⟨GC r7 (fun _=>BE (by simp;omega)),ALg⟩ fun a111 w111 g111 ABi=>?_
     refine AE ?_
     refine k71 _ _ ?_
     refine ALa fun K112 k112=>?_
     refine A1 ABi rfl rfl ?_
     refine wp_exit ?_
     repeat refine Bo ?_
     refine x69 _ _ ?_
     refine k8 _ _ ?_
     refine ALa fun K113 k113=>?_
     refine ALa fun K114 k114=>?_
     refine ALZ ?_
     refine AH ABi 3 [(56,pk CG 2),(57,.int .i64 1),(58,.bool true)]
       ⟨yf r6 (fun _=>by kernel_rfl),yp (i:=2) r6 (D9 1) (AC g111 AN) rfl rfl,Cm r6 (fun _=>Bd rfl),ALg⟩ fun a115 w115 g115 Cb=>?_
     have AFV:=AA g111 g115
     refine AE ?_
     refine k114 _ _ ?_
     refine Av Cb rfl rfl ?_
     refine ALa fun K116 k116=>?_
     refine ALZ ?_
     replace AU:=AC AFV AU
     refine AH Cb 1 [(59,AO AM)]
       ⟨BR (vs:=[]) rfl rfl trivial trivial (fun _=>XC _) (fun _=>rfl),ALg⟩ fun a117 w117 g117 UB=>?_
     refine As UB r7 (BV AM AP.1) (AC g117 AU) (En AP) fun w118 g118 h118=>?_
     replace okk:=((okk.kn AFV).kn g117).offR g118 (AR Cw)
     replace HG:=AD (AA (AA HG AFV) g117) g118 CL
     replace AU:=h118
     refine AX (v:=.bool false) UB r6 fun a119 AH3=>?_
     refine AE ?_
     refine k116 _ _ ?_
     refine ALd ?_
     repeat refine AJ ?_
     refine Ar (fn:=Tryz.f62) AH3 (DY (p:=4) (q:=5) Tryz.results62 AH3 rfl rfl rfl rfl (BV AM AP.1) AU) ?_
     exact RecR.none (show Kr P _=_ by unfold Kr;rw[if_pos rfl];exact hnone) AP HG
end Go.Proofs.YtbfjfnbcmojpiaaGreat
