import Derived.Test.YtbfjfnbcmojpiaaGreatSeFD
set_option linter.unusedSimpArgs false
set_option linter.unusedVariables false
set_option maxRecDepth 100000
set_option maxHeartbeats 4000000
namespace Go.Proofs.YtbfjfnbcmojpiaaGreat
open Go.RowKit Go.Shelf
theorem ZM (x:V):KZ (BD x)=(x.clean,0):=by
 have h:=(AKe x).rt []
 rw[List.append_nil] at h
 exact ABp h
theorem ABy (x:V):(BD x).length≤64:=Nat.le_trans (Em x) (by decide)
theorem AFd (b c:List Nat):Fv (Fv b c) c=b:=by
 unfold Fv
 rw[LS (by rw[MZ];exact Nat.le_refl _)]
 exact Tw (by rw[MZ];exact Nat.le_refl _)
theorem AJC {P P':List VP} {joint a:Int} {x:V} (h:hd [] joint a=true) (hv:CZ P=true) (hv':CZ P'=true):I0 P' (Fg P [] joint a x).1=(x.clean,0):=by
 rw[L3 h hv]
 rw[Ou (by unfold Gi;simp[h,ABy]) hv' rfl,if_pos rfl,ZM]
theorem AFe {P:List VP} {own:List (List Nat)} {a:Int} {x:V} (h:hd own 0 a=true) (hv:CZ P=true) (hne:own≠[]) (hk:(Df P a own).2=0):I0 P (Fg P own 0 a x).1=(x.clean,0):=by
 rw[Jr h hv hne hk rfl rfl]
 have hr:Kr P ⟨a,own,0,if (0:Int)=1 then (Df P a own).1.map (OD (Tx (decide ((0:Int)=1)) (Df P a own).1)) else [],Fv (BD x) (Tx (decide ((0:Int)=1)) (Df P a own).1),QZ (Tx (decide ((0:Int)=1)) (Df P a own).1) a (Fv (BD x) (Tx (decide ((0:Int)=1)) (Df P a own).1))⟩=some (Tx (decide ((0:Int)=1)) (Df P a own).1):=by
  unfold Kr
  rw[if_neg (show ¬(0:Int)=1 by decide),if_pos hk]
 rw[UD (by unfold Gi;simp[h,KR,ABy]) hv hne hr,if_pos rfl,AFd,ZM]
theorem AAy:Tryz.prog.cellsOf 25=3:=by kernel_rfl
theorem AJD:Tryz.prog.cellsOf 9=1:=by kernel_rfl
theorem AHV (d:Nat) (x:Int) (h:-9223372036854775808≤x∧x≤9223372036854775807):Tryz.prog.keyLits (d+1) 3 [.int .i64 x]=some [.int .i64 x]:=by
 unfold Program.keyLits
 rw[Tryz.underlying3]
 simp[Lit.wf,IntKind.min,IntKind.max,IntKind.signed,IntKind.bits]
 omega
theorem AFf (d:Nat) (x:Int) (h:-9223372036854775808≤x∧x≤9223372036854775807):Tryz.prog.keyLits (d+1) 2 [.int .i64 x]=some [.int .i64 x]:=by
 unfold Program.keyLits
 rw[Tryz.underlying2]
 simp[Lit.wf,IntKind.min,IntKind.max,IntKind.signed,IntKind.bits]
 omega
theorem AJE (d:Nat) (s:ByteArray) (h:s.size≤1000000):Tryz.prog.keyLits (d+1) 9 [.string s]=some [.string s.data.toList]:=by
 unfold Program.keyLits
 rw[Tryz.underlying9]
 simp only
 rw[if_pos (Nat.le_trans h (by decide))]
theorem AFg (d:Nat) (x:V) (hk:Mw x.kind) (hi:Mw x.int) (ht:x.text.size≤1000000):Tryz.prog.keyLits (d+2) 25 (vc x)=some [.int .i64 x.kind,.int .i64 x.int,.string x.text.data.toList]:=by
 unfold Program.keyLits
 rw[Tryz.underlying25]
 simp only
 rw[if_pos ⟨by rw[AAy];rfl,by kernel_rfl⟩]
 have e0:((vc x).drop 0).take 1=[.int .i64 x.kind]:=rfl
 have e1:((vc x).drop 1).take 1=[.int .i64 x.int]:=rfl
 have e2:((vc x).drop 2).take 1=[.string x.text]:=rfl
 simp only[List.mapM_cons,List.mapM_nil,AIL,AGF,AJD,e0,e1,e2,AHV d x.kind ⟨by have:=hk.1;omega,by have:=hk.2;omega⟩,AFf d x.int ⟨by have:=hi.1;omega,by have:=hi.2;omega⟩,AJE d x.text ht]
 simp
theorem AHW {x:V} (h:x.ok) {px py:Operand} {w:World}:(do eqGuard .eql 25 px py (Bp x) (Bp x);binOp .eql 25 (Bp x) (Bp x):Sem Value).run Tryz.prog w=.ok (.bool true) w:=
 (AD2 25 6 (by decide) (by kernel_rfl) (by kernel_rfl) (xs:=vc x) (ys:=vc x) (by simp[Value.formed,Tryz.underlying25,AAy,vc]) (by simp[Value.formed,Tryz.underlying25,AAy,vc]) (AFg 0 x (V.ok_kind h).1 (V.ok_kind h).2 (Nat.le_trans (V.ok_text h) (by decide))) (AFg 0 x (V.ok_kind h).1 (V.ok_kind h).2 (Nat.le_trans (V.ok_text h) (by decide))) (r:=true) (by simp) px py w).1
theorem ABz {P:Program} {t:TypeId} {x y:Operand} {w:World} {a b:ByteArray} {r:Bool} (h:(a.toList == b.toList)=r):(do eqGuard .eql t x y (.string a) (.string b);binOp .eql t (.string a) (.string b):Sem Value).run P w=.ok (.bool r) w:=by
 subst h
 simp[eqGuard,binOp_string_eql]
theorem b22:((bs [2,2]).toList == (⟨#[2,2]⟩:ByteArray).toList)=true:=by
 rw[show(⟨#[2,2]⟩:ByteArray)=bs [2,2] from rfl]
 simp
theorem RU {P:Program} {ops:Array Oper} {L:Nat→Sp} {n:Nat} {w0:World} {o:Oper} {x:Operand} {src dst e d:Nat} {v:Value} {l:List Nat} (hs:P.underlying src=some (.slice e)) (he:P.underlying e=some (.int .u8)) (hd:P.underlying dst=some .string) (ho:o.op=.convert src dst x) (hd':o.dst=some d) (hg:GX ops L n o.guard) (hx:OpX L n x v) (hr:∀w,w0.grownBy w none→Sl w 1 v l.length (bv l)) (h:∀w,(L d).on w (.string (bs l))):OX P ops L n w0 o:=
 FZ hg fun a w hw hl hsz=>⟨.string (bs l),by
  have e1:=hx.eval (o:=o) (a:=a) (w:=w) (by simp[ho,Op.operands]) hl
  simp only[execOp,ho,e1,Sem.run_bind,Sem.run_pure,Result.andThen_ok,XO src dst e hs he hd (hr w hw)],DA hd' (h w)⟩
theorem AJF {w0:World} {ks:List VK} {vo:Option Addr} {vc_:Nat} {sa po:List Nat} {P:List VP} {joint ad:Int} {x:V} {r:Sd×Int} (hsa:Dg sa) (hpo:Dg po) (hr:RdK w0 (.slice vo ks.length vc_) ks) (hP:ks.map VK.p=P) (hres:Fg P [] joint ad x=r) :
  ∀W,w0.grownBy W none→Calls Tryz.prog 20 #[Aw sa po (.slice vo ks.length vc_),.slice none 0 0,.int .i64 joint,.int .i64 ad,Bp x] W fun e w'=>∃v,e=.returned v∧W.grownBy w' none∧(Sp.sr w0.heap.size r).on w' v:=fun W g =>
 WK hsa hpo (hr.kn g) hP (ds:=[]) (RdD.nil W) (by decide) g.size hres
theorem AKO {W:World} {B:Nat} {d:List Nat} {v:Value} (hd:Dg d) (h:(Sp.lit1 B 23 (bv d)).on W v):RdD W v [⟨d,hd⟩]:=by
 obtain⟨A,rfl,h1,h2⟩:=h
 refine⟨?_,fun k hk=>?_⟩
 · have:=JK h2 hd
   simpa [Ic] using this
 · obtain rfl:=Option.some.inj hk
   exact(Array.getElem?_eq_some_iff.1 h2).1
section
variable {W:World} {ks:List VK} {vo:Option Addr} {vc_:Nat} {sa po:List Nat} {P:List VP} {s:Sd} {own wr:List DD} {ao wo bo:Option Addr} {ac wc bc:Nat} {q:V×Int}
theorem AJG (hsa:Dg sa) (hpo:Dg po) (hr:RdK W (.slice vo ks.length vc_) ks) (hP:ks.map VK.p=P) (h:SdF W s own wr ao wo bo ac wc bc) (hq:I0 P s=q) :
  Calls Tryz.prog 22 #[Aw sa po (.slice vo ks.length vc_),Bm s.addr (.slice ao (List.length own) ac) s.joint (.slice wo (List.length wr) wc) (.slice bo s.body.length bc) s.tag] W fun e w'=>e=.returned (.tuple #[Bp q.1,.int .i64 q.2])∧W.grownBy w' none:=
 AJA hsa hpo h.tg h.by hr h.ro h.rw h.rb (by rw[hP,h.sd];exact hq)
end
theorem AKP {k:List Nat} {l:List Nd} {a:Int} (hk:Dg k) (hl:tree k []=l) (ha:Cg a=true):∃K,Dg K∧CF l a=(K,0):=by
 refine⟨(Kp a 34 (Md k)).k,M3 _ _ _ hk,?_⟩
 rw[←hl,ACR k [] a (J8 k) ha,if_neg (by simp)]
def Ku (k:Nat):List Nat:=k::zs 31
theorem WO {k:Nat} (h:k<256):Dg (Ku k):=⟨rfl,fun x hx=>by simp[Ku,zs] at hx;omega⟩
theorem AJH (k:Nat) (w:World):(Instr.build 23 #[(0,.int .u8 (k:Int))]).run Tryz.prog w=.ok (AO (Ku k)) w:=by kernel_rfl
theorem AB0 (n:Int):(I8 n).ok:=V.clean_ok _
theorem AAz (n:Int):(I8 n).clean=I8 n:=V.clean_of (AB0 n)
theorem Mu  (w:World) :
  Calls Tryz.prog 13 #[] w fun e w'=>e=.returned (.bool true)∧w.grownBy w' none:=by
 obtain⟨T,hT⟩:∃T,tree (kd 275 (kd 274 (Ku 7))) []=T:=⟨_,rfl⟩
 have hTv:Ho T=true:=hT▸J8 _
 obtain⟨P,hP⟩:∃P,Me [] (Ku 1) T=P:=⟨_,rfl⟩
 have hv:CZ P=true:=hP▸Xu rfl rfl (by decide) hTv
 have hm:(Ku 1,T)∈P:=by rw[←hP];exact ABJ.2 (.inl rfl)
 obtain⟨K,hKd,hK⟩:=AKP (Be 275 (kd 274 (Ku 7))) hT (a:=5) rfl
 have hk:=AGq (a:=5) rfl hv (AGL (Srt.of hv) hm) hK
 obtain⟨r1,hr1⟩:∃r,Fg P [] 0 0 (I8 1)=r:=⟨_,rfl⟩
 have hn:=L3 (P:=P) (joint:=0) (a:=0) (x:=I8 1) rfl hv
 have hz1:r1.2=0:=by rw[←hr1,hn]
 have hb1:r1.1.body=[2,2]:=by rw[←hr1,hn];decide +kernel
 have hk5:(Df P 5 [Ku 1]).2=0:=by unfold Df;rw[hk,if_pos rfl];rfl
 obtain⟨r2,hr2⟩:∃r,Fg P [Ku 1] 0 5 (I8 9)=r:=⟨_,rfl⟩
 have hz2:r2.2=0:=by rw[←hr2,Jr (K:=_) rfl hv (by simp) hk5 rfl rfl]
 have hq:I0 P r2.1=(I8 9,0):=by rw[←hr2,AFe rfl hv (by simp) hk5,AAz]
 refine BF Tryz.func13 rfl Tryz.ntmps13 rfl fun a0 sv0=>?_
 have HG:=World.grownBy.refl w none
 replace sv0:Sv 61 [] [] a0:=sv0
 refine ALa fun K1 k1=>?_
 refine ALZ ?_
 refine AX (v:=.bool false) sv0 r6 fun a2 sv2=>?_
 refine AE ?_
 refine k1 _ _ ?_
 refine ALa fun K3 k3=>?_
 refine ALZ ?_
 refine Fl (sv2.st w) 7 [(10,Sp.is (AO ((Ku 7)))),(11,Sp.is (Aw ((kd 273 (Ku 7))) ((kd 274 (Ku 7))) (.slice none 0 0))),(12,Sp.is (AO ((Ku 1)))),(13,Sp.vt ((P,(kd 273 (Ku 7)),(kd 276 (kd 274 (Ku 7)))),(0:Int)) ((fun _=>False))),(9,Sp.vt ((P,(kd 273 (Ku 7)),(kd 276 (kd 274 (Ku 7)))),(0:Int)) ((fun _=>False))),(14,Sp.vv (P,(kd 273 (Ku 7)),(kd 276 (kd 274 (Ku 7)))) ((fun _=>False))),(15,Sp.is (.int .i64 0))] rfl (by kernel_rfl) (by kernel_rfl) (by kernel_rfl)
  ⟨BR (vs:=[.int .u8 7]) rfl rfl trivial ⟨rfl,ALg⟩ (fun _=>AJH 7 _) (fun _=>rfl),Ae [AO ((Ku 7))] Tryz.func24 (by kernel_rfl) rq4 ⟨(oy rfl rfl),ALg⟩ (Au fun W g=>ACg (Ku 7) (WO (by decide)) W),BR (vs:=[.int .u8 1]) rfl rfl trivial ⟨rfl,ALg⟩ (fun _=>AJH 1 _) (fun _=>rfl),Ae [Aw ((kd 273 (Ku 7))) ((kd 274 (Ku 7))) (.slice none 0 0),AO ((Ku 1))] Tryz.func36 (by kernel_rfl) rq4 ⟨(oy rfl rfl),(oy rfl rfl),ALg⟩ (AIl (ks:=[]) (Be _ _) (Be _ _) (WO (by decide)) (RdK.nil _) rfl hT ((XN rfl rfl (by decide)).trans (by rw[←hP];rfl))),ym r5,BX rq4 (fun w u h=>ZL w u h),BX rq4 (fun w u h=>AAu w u h),ALg⟩ fun a4 w4 g4 st4=>?_
 obtain⟨hn4,hd4,e4_10,e4_11,e4_12,e4_13,e4_9,e4_14,e4_15,e4_0,-⟩:=st4
 obtain⟨ao5,cap5,ks5,e4_14q,hp5,hk5,hf5⟩:=e4_14
 replace HG:=AA HG g4
 have sv4:Sv 61 [] [(0,_),(14,_),(15,_)] a4:=⟨hn4,hd4,e4_0,e4_14q,e4_15,ALg⟩
 refine Az (T:=36) (Z:=([bv AM,bv AM,[.slice none 0 0]].flatten)) sv4 rfl rfl rfl (fun a w=>by kernel_rfl) fun a6 w6 ALX AB1 g6 z6 Lg sv6=>?_
 have AHX:=Bk HG AB1
 have ZN:=Ay (hk5.lt) AB1
 refine As sv6 r7 (Bq (Be _ _) (Be _ _) (.slice ao5 ks5.length cap5) rfl) Lg (by first|rfl|simp[Ak,AL,AZ,(Be _ _).1,(Be _ _).1]) fun w7 g7 h7=>?_
 replace hk5:=(hk5.kn g6).offR g7 (AR ZN)
 replace HG:=AD (AA HG g6) g7 AHX
 replace Lg:=h7
 refine AX (v:=.int .i64 0) sv6 r6 fun a8 sv8=>?_
 refine AE ?_
 refine k3 _ _ ?_
 refine ALa fun K9 k9=>?_
 refine DM (sv8.st w7) (by kernel_rfl) 7 [(17,Sp.is (Aw ((kd 273 (Ku 7))) ((kd 276 (kd 274 (Ku 7)))) (.slice ao5 ks5.length cap5))),(18,Sp.is (Bp ((I8 1)))),(19,Sp.sr w7.heap.size r1),(16,Sp.sr w7.heap.size r1),(20,Sp.sl w7.heap.size r1.1),(21,Sp.is (.int .i64 r1.2)),(3,Sp.new w7.heap.size (([[.int .i64 0],[.slice none 0 0],[.int .i64 0],[.slice none 0 0],[.slice none 0 0],bv AM].flatten)) 31)] rfl (by kernel_rfl) (by kernel_rfl) (by kernel_rfl) [5] (by kernel_rfl)
  ⟨yl r6 (Bq (Be _ _) (Be _ _) (.slice ao5 ks5.length cap5) rfl) Lg,Ae [.int .i64 1] Tryz.func37 (by kernel_rfl) rq4 ⟨rfl,ALg⟩ (Au fun W g=>OP 1 W),Ae [Aw ((kd 273 (Ku 7))) ((kd 276 (kd 274 (Ku 7)))) (.slice ao5 ks5.length cap5),.slice none 0 0,.int .i64 0,.int .i64 0,Bp ((I8 1))] Tryz.func20 (by kernel_rfl) rq4 ⟨(oy rfl rfl),rfl,rfl,rfl,(oy rfl rfl),ALg⟩ (AJF (Be _ _) (Be _ _) hk5 hp5 hr1),ym r5,BX rq4 (fun w u h=>RQ w u h),BX rq4 (fun w u h=>JZ w u h),LJ rfl trivial (Nat.le_refl _) (fun a w=>by kernel_rfl) (fun _ _ h=>h),ALg⟩ ⟨fun o ho=>by obtain rfl:=Option.some.inj ho;exact Il rfl rfl rfl trivial (fun w u h=>JZ w u h),ALg⟩
  [3] (by kernel_rfl) ⟨Sp.new_lt,ALg⟩ ⟨.inl rfl,.inl rfl,.inl rfl,.inl rfl,.inl rfl,.inl rfl,.inr ⟨rfl,(([[.int .i64 0],[.slice none 0 0],[.int .i64 0],[.slice none 0 0],[.slice none 0 0],bv AM].flatten)).toArray,31,fun a w=>by kernel_rfl⟩,ALg⟩ (by kernel_rfl) fun a10 w10 g10 st10 nd10=>?_
 obtain⟨hn10,hd10,e10_17,e10_18,e10_19,e10_16,e10_20,e10_21,e10_3,e10_2,e10_1,e10_0,e10_14,e10_15,-⟩:=st10
 obtain⟨own11,wr11,ao11,wo11,bo11,ac11,wc11,bc11,e10_20q,hF1,fr11⟩:=e10_20
 obtain⟨AKQ,e10_3q,RV,Ja⟩:=e10_3
 have TC:=Hp Lg RV
 have AFh:=To HG RV
 have WP:=JC (hk5.lt) RV
 have WQ:=SdF.ap hF1 Ja (by decide)
 have Bj:Sv 61 [] [(2,_),(1,_),(0,_),(14,_),(15,_),(20,_),(21,_),(3,_)] a10:=⟨hn10,hd10,e10_2,e10_1,e10_0,e10_14,e10_15,e10_20q,e10_21,e10_3q,ALg⟩
 refine As Bj r7 (Cy _ _ hF1.tg (.slice ao11 (List.length own11) ac11) (.slice wo11 (List.length wr11) wc11) (.slice bo11 r1.1.body.length bc11) rfl rfl rfl) Ja (C7 AP hF1.tg) fun w12 g12 h12=>?_
 replace Lg:=Ac g12 (AC g10 Lg) (Ne.symm TC)
 replace hk5:=(hk5.kn g10).offR g12 (AR WP)
 replace hF1:=hF1.offR g12 (AR WQ)
 replace HG:=AD (AA HG g10) g12 AFh
 replace Ja:=h12
 refine AX (v:=.int .i64 r1.2) Bj r6 fun a13 Cl=>?_
 refine AE ?_
 refine k9 _ _ ?_
 refine ALa fun K14 k14=>?_
 refine DM (Cl.st w12) (by kernel_rfl) 9 [(23,Sp.is (Aw ((kd 273 (Ku 7))) ((kd 276 (kd 274 (Ku 7)))) (.slice ao5 ks5.length cap5))),(24,Sp.is (AO ((Ku 1)))),(25,Sp.lit1 w12.heap.size 23 (bv (Ku 1))),(26,Sp.is (Bp ((I8 9)))),(27,Sp.sr w12.heap.size r2),(22,Sp.sr w12.heap.size r2),(28,Sp.sl w12.heap.size r2.1),(29,Sp.is (.int .i64 r2.2)),(5,Sp.new w12.heap.size (([[.int .i64 0],[.slice none 0 0],[.int .i64 0],[.slice none 0 0],[.slice none 0 0],bv AM].flatten)) 31)] rfl (by kernel_rfl) (by kernel_rfl) (by kernel_rfl) [7] (by kernel_rfl)
  ⟨yl r6 (Bq (Be _ _) (Be _ _) (.slice ao5 ks5.length cap5) rfl) Lg,BR (vs:=[.int .u8 1]) rfl rfl trivial ⟨rfl,ALg⟩ (fun _=>AJH 1 _) (fun _=>rfl),NB rfl rfl trivial (Nat.le_refl _) rfl (fun W hw v h=>match v,h with|_,⟨rfl,_⟩=>⟨bv (Ku 1),YR (WO (by decide)) W,fun w' _ hh=>⟨_,rfl,hw.size,hh⟩⟩),Ae [.int .i64 9] Tryz.func37 (by kernel_rfl) rq4 ⟨rfl,ALg⟩ (Au fun W g=>OP 9 W),QJ (Sp.sr w12.heap.size r2) rfl rfl trivial rfl (fun W g av h=>match av,h with|[_,_,_,_,_],⟨rfl,hv,rfl,rfl,rfl,_⟩=>WK (Be _ _) (Be _ _) (hk5.kn g) hp5 (AKO (WO (by decide)) hv) (by decide) g.size hr2) (fun _ _ h=>h) (Fd Tryz.func20 (by kernel_rfl) rfl),ym r5,BX rq4 (fun w u h=>RQ w u h),BX rq4 (fun w u h=>JZ w u h),LJ rfl trivial (Nat.le_refl _) (fun a w=>by kernel_rfl) (fun _ _ h=>h),ALg⟩ ⟨fun o ho=>by obtain rfl:=Option.some.inj ho;exact Il rfl rfl rfl trivial (fun w u h=>JZ w u h),ALg⟩
  [5] (by kernel_rfl) ⟨Sp.new_lt,ALg⟩ ⟨.inl rfl,.inl rfl,.inl rfl,.inl rfl,.inl rfl,.inl rfl,.inl rfl,.inl rfl,.inr ⟨rfl,(([[.int .i64 0],[.slice none 0 0],[.int .i64 0],[.slice none 0 0],[.slice none 0 0],bv AM].flatten)).toArray,31,fun a w=>by kernel_rfl⟩,ALg⟩ (by kernel_rfl) fun a15 w15 g15 st15 nd15=>?_
 obtain⟨hn15,hd15,e15_23,e15_24,e15_25,e15_26,e15_27,e15_22,e15_28,e15_29,e15_5,e15_4,e15_2,e15_1,e15_0,e15_14,e15_15,e15_20,e15_21,e15_3,-⟩:=st15
 obtain⟨own16,wr16,ao16,wo16,bo16,ac16,wc16,bc16,e15_28q,hF2,fr16⟩:=e15_28
 obtain⟨ALL,e15_5q,Lh,WR⟩:=e15_5
 have TE:=Hp Lg Lh
 have RX:=Hp Ja Lh
 have AFi:=To HG Lh
 have WS:=JC (hk5.lt) Lh
 have WT:=JC (hF1.lt) Lh
 have WU:=SdF.ap hF2 WR (by decide)
 have Gh:Sv 61 [] [(4,_),(2,_),(1,_),(0,_),(14,_),(15,_),(20,_),(21,_),(3,_),(28,_),(29,_),(5,_)] a15:=⟨hn15,hd15,e15_4,e15_2,e15_1,e15_0,e15_14,e15_15,e15_20,e15_21,e15_3,e15_28q,e15_29,e15_5q,ALg⟩
 refine As Gh r7 (Cy _ _ hF2.tg (.slice ao16 (List.length own16) ac16) (.slice wo16 (List.length wr16) wc16) (.slice bo16 r2.1.body.length bc16) rfl rfl rfl) WR (C7 AP hF2.tg) fun w17 g17 h17=>?_
 replace Lg:=Ac g17 (AC g15 Lg) (Ne.symm TE)
 replace hk5:=(hk5.kn g15).offR g17 (AR WS)
 replace hF2:=hF2.offR g17 (AR WU)
 replace WR:=h17
 refine AX (v:=.int .i64 r2.2) Gh r6 fun a18 CD=>?_
 refine AE ?_
 refine k14 _ _ ?_
 refine ALa fun K19 k19=>?_
 refine ALZ ?_
 refine AH CD 6 [(31,Aw ((kd 273 (Ku 7))) ((kd 276 (kd 274 (Ku 7)))) (.slice ao5 ks5.length cap5)),(32,Bm r2.1.addr (.slice ao16 (List.length own16) ac16) r2.1.joint (.slice wo16 (List.length wr16) wc16) (.slice bo16 r2.1.body.length bc16) r2.1.tag),(33,.tuple #[Bp ((I8 9)),.int .i64 0]),(30,.tuple #[Bp ((I8 9)),.int .i64 0]),(34,Bp ((I8 9))),(35,.int .i64 0)]
  ⟨yl r6 (Bq (Be _ _) (Be _ _) (.slice ao5 ks5.length cap5) rfl) Lg,yl r6 (Cy _ _ hF2.tg (.slice ao16 (List.length own16) ac16) (.slice wo16 (List.length wr16) wc16) (.slice bo16 r2.1.body.length bc16) rfl rfl rfl) WR,Ae [Aw ((kd 273 (Ku 7))) ((kd 276 (kd 274 (Ku 7)))) (.slice ao5 ks5.length cap5),Bm r2.1.addr (.slice ao16 (List.length own16) ac16) r2.1.joint (.slice wo16 (List.length wr16) wc16) (.slice bo16 r2.1.body.length bc16) r2.1.tag] Tryz.func22 (by kernel_rfl) rq4 ⟨(oy rfl rfl),(oy rfl rfl),ALg⟩ (Au fun W g=>AJG (q:=(I8 9,0)) (Be _ _) (Be _ _) (hk5.kn g) hp5 (hF2.kn g) hq),ym r5,BX rq4 (fun _ _ h=>⟨_,_,h,rfl,rfl⟩),BX rq4 (fun _ _ h=>⟨_,_,h,rfl,rfl⟩),ALg⟩ fun a20 w20 g20 DR=>?_
 replace Ja:=AC g20 (Ac g17 (AC g15 Ja) (Ne.symm RX))
 replace hF1:=((hF1.kn g15).offR g17 (AR WT)).kn g20
 replace hF2:=hF2.kn g20
 replace HG:=AA (AD (AA HG g15) g17 AFi) g20
 refine Az (T:=25) (Z:=[.int .i64 0,.int .i64 0,.string ⟨#[]⟩]) DR rfl rfl rfl (fun a w=>by kernel_rfl) fun a21 w21 ALM Nm g21 z21 AA0 Di=>?_
 have RY:=Ax Ja Nm
 have AFj:=Bk HG Nm
 have WV:=Ay (hF1.lt) Nm
 have WW:=Ay (hF2.lt) Nm
 refine As Di r7 (ED ((I8 9))) AA0 rfl fun w22 g22 h22=>?_
 replace Ja:=Ac g22 (AC g21 Ja) (Ne.symm RY)
 replace hF1:=(hF1.kn g21).offR g22 (AR WV)
 replace AA0:=h22
 refine AX (v:=.int .i64 0) Di r6 fun a23 CS=>?_
 have ER:Sv _ _ [_,_,_,_,_,_,_,_,_,_,_,_,_,_,_] _:=CS.dl [31,32,33,30,34,35]
 refine AE ?_
 refine k19 _ _ ?_
 refine ALa fun K25 k25=>?_
 refine DK (ER.dl [0]) [(36,.int .i64 0),(37,.bool true),(38,.bool true),(39,.int .i64 r1.2),(40,.bool true),(41,.bool true),(42,.bool true),(43,pk AKQ 4),(44,.slice bo11 r1.1.body.length bc11),(45,.string (bs r1.1.body)),(46,.bool true),(47,.bool true),(48,.bool true),(49,.int .i64 r2.2),(50,.bool true),(51,.bool true),(52,.bool true),(53,.int .i64 0),(54,.bool true),(55,.bool true),(56,.bool true),(57,Bp ((I8 9))),(58,Bp ((I8 9))),(59,.bool true),(60,.bool true),(0,.bool true)]
  ⟨ym r5,Cm r6 (fun _=>Bd rfl),ym r5,Aa rq8,Ap rq9 (fun _=>Bd (by rw[hz1];rfl)),Ag rq9,ym r5,BH rq9 (fun _=>by kernel_rfl),A2 rq9 (fun _ g=>Ab (E8 (.slice bo11 r1.1.body.length bc11) rfl) (BK (L:=[[.int .i64 r1.1.addr],[.slice ao11 (List.length own11) ac11],[.int .i64 r1.1.joint],[.slice wo11 (List.length wr11) wc11],[.slice bo11 r1.1.body.length bc11],bv r1.1.tag]) (i:=4) (AF g Ja (by simp)) rfl rfl)),RU (l:=r1.1.body) Tryz.underlying29 Tryz.underlying5 Tryz.underlying9 rfl rfl (gy rfl rfl rfl) (oy rfl rfl) (fun W g=>(hF1.kn g).rb.1) (fun _=>rfl),Ap rq9 (fun _=>ABz (by rw[hb1];exact b22)),Ag rq9,ym r5,Aa rq8,Ap rq9 (fun _=>Bd (by rw[hz2];rfl)),Ag rq9,ym r5,Aa rq8,Ap rq9 (fun _=>Bd rfl),Ag rq9,ym r5,A2 rq9 (fun _ g=>Ab (ED ((I8 9))) (Am (AF g AA0 (by simp)))),Bn [.int .i64 9] Tryz.func37 (by kernel_rfl) r7 ⟨rfl,ALg⟩ (Au fun W g=>OP 9 W),JT rfl rfl (gy rfl rfl rfl) (oy rfl rfl) (oy rfl rfl) (fun _=>AHW (AB0 9)) (fun _=>rfl),Ag rq9,IR 60 0 (.inr rfl) rfl rfl trivial (fun _ _ h=>h),ALg⟩ fun a26 w26 g26 Cp=>?_
 refine k25 _ _ ?_
 replace hF1:=hF1.kn g26
 replace hF2:=((hF2.kn g21).offR g22 (AR WW)).kn g26
 replace HG:=AA (AD (AA HG g21) g22 AFj) g26
 refine ALd ?_
 repeat refine AJ ?_
 refine Ar (fn:=Tryz.f13) Cp (A7 (p:=0) Tryz.results13 Cp rfl rfl) ?_
 exact⟨rfl,HG⟩
theorem RZ (ds es:List DD) (ao bo:Option Addr) (ac bc:Nat) (he:ds.map DD.x=es.map DD.x) (w:World) (ha:RdD w (.slice ao ds.length ac) ds) (hb:RdD w (.slice bo es.length bc) es) :
   Calls Tryz.prog 59 #[.slice ao ds.length ac,.slice bo es.length bc] w fun e w'=>e=.returned (.bool true)∧w.grownBy w' none:=by
 have hl:ds.length=es.length:=by have:=congrArg List.length he;simpa using this
 have hlen:=ha.len
 refine BF Tryz.func59 rfl Tryz.ntmps59 rfl fun a0 sv0=>?_
 have HG:=World.grownBy.refl w none
 replace sv0:Sv 26 [] [(0,.slice ao ds.length ac),(1,.slice bo es.length bc)] a0:=sv0
 refine ALa fun K1 k1=>?_
 refine ALZ ?_
 refine AX (v:=.bool false) sv0 r6 fun a2 sv2=>?_
 refine AE ?_
 refine k1 _ _ ?_
 refine ALa fun K3 k3=>?_
 refine ALa fun K4 k4=>?_
 refine ALZ ?_
 refine AH sv2 5 [(6,.slice ao ds.length ac),(7,.int .i64 ((ds.length:Nat))),(8,.slice bo es.length bc),(9,.int .i64 ((es.length:Nat))),(10,.bool false)]
   ⟨ym r5,BI (Tryz.underlying28) rfl rfl trivial (oy rfl rfl) (fun _=>rfl),ym r5,BI (Tryz.underlying28) rfl rfl trivial (oy rfl rfl) (fun _=>rfl),GC r7 (fun _=>FB (by rw[hl];simp)),ALg⟩ fun a5 w5 g5 sv5=>?_
 refine AE ?_
 refine k4 _ _ ?_
 refine A1 sv5 rfl rfl ?_
 refine ALe ?_
 refine k3 _ _ ?_
 refine ALa fun K6 k6=>?_
 refine ALa fun K7 k7=>?_
 refine ALZ ?_
 refine AX (v:=.int .i64 0) sv5 r6 fun a8 sv8=>?_
 refine AE ?_
 refine k7 _ _ ?_
 refine A8 fun Q9 x9 y9 rt9 o9=>?_
 replace ha:=ha.kn g5
 replace hb:=hb.kn g5
 replace HG:=AA HG g5
 refine wp_loop (fun a w'=>∃(i:Nat),(i≤ds.length)∧Sv 26 [] [(5,.int .i64 ((i:Int))),(6,.slice ao ds.length ac),(7,.int .i64 ((ds.length:Nat))),(8,.slice bo es.length bc),(9,.int .i64 ((es.length:Nat))),(10,.bool false),(0,.slice ao ds.length ac),(1,.slice bo es.length bc)] a∧w.grownBy w' none∧RdD w' (.slice ao ds.length ac) ds∧RdD w' (.slice bo es.length bc) es) (fun a _=>(ds.length-intOf (a.tmps.getD 5 undef)).toNat) ⟨0,Nat.zero_le _,⟨sv8.1,sv8.2.1,sv8.2.2.1,sv8.2.2.2.1,sv8.2.2.2.2.1,sv8.2.2.2.2.2.1,sv8.2.2.2.2.2.2.1,sv8.2.2.2.2.2.2.2.1,(AG sv8).2.1,(AG sv8).2.2.1,ALg⟩,HG,ha,hb⟩ fun a10 w10 hI10=>?_
 clear ha
 clear hb
 clear HG
 obtain⟨i,hin,Bj,HG,ha,hb⟩:=hI10
 refine ALa fun K11 k11=>?_
 refine ALa fun K12 k12=>?_
 by_cases hi:i<ds.length
 · have hj:i<es.length:=by omega
   obtain⟨x1,AH7⟩:∃zx,ds[i]'hi=zx:=⟨_,rfl⟩
   obtain⟨x2,AH8⟩:∃zx,es[i]'hj=zx:=⟨_,rfl⟩
   have hxx:x1.x=x2.x:=by rw[←AH7,←AH8,←IT hi,←IT hj,he]
   refine ALZ ?_
   refine AH Bj 4 [(11,.int .i64 ((i:Int))),(12,.slice ao ds.length ac),(13,.int .i64 ((ds.length:Nat))),(14,.bool true)]
    ⟨ym r5,ym r5,BI (Tryz.underlying28) rfl rfl trivial (oy rfl rfl) (fun _=>rfl),GC r7 (fun _=>BE (decide_eq_true (by omega))),ALg⟩ fun a13 w13 g13 Cl=>?_
   refine AE ?_
   refine k12 _ _ ?_
   refine Av Cl rfl rfl ?_
   refine ALe ?_
   refine k11 _ _ ?_
   refine ALa fun K14 k14=>?_
   refine A8 fun Q15 x15 y15 rt15 o15=>?_
   refine ALa fun K16 k16=>?_
   replace ha:=ha.kn g13
   replace hb:=hb.kn g13
   refine DK Cl [(17,.slice ao ds.length ac),(18,.int .i64 ((i:Int))),(19,pk ((bO ao)) (oO ao+i*32)),(20,AO x1.x),(21,.slice bo es.length bc),(22,.int .i64 ((i:Int))),(23,pk ((bO bo)) (oO bo+i*32)),(24,AO x2.x),(25,.bool false)]
    ⟨ym r5,ym r5,BA rq8 (fun w=>B8 Tryz.underlying28 (by kernel_rfl) (ha.1) (by omega) (rfl) w),Bc r6 (fun _ g=>Ab (BV x1.x x1.h.1) (by have:=CT (ha.kn g).1 DW hi (by decide);rw[AH7] at this;exact this)),ym r5,ym r5,BA rq8 (fun w=>B8 Tryz.underlying28 (by kernel_rfl) (hb.1) (by omega) (rfl) w),Bc r6 (fun _ g=>Ab (BV x2.x x2.h.1) (by have:=CT (hb.kn g).1 DW hj (by decide);rw[AH8] at this;exact this)),GC r7 (fun _=>(JB x1.h x2.h _ _ _).2.trans (by rw[decide_eq_true (hxx)];rfl)),ALg⟩ fun a17 w17 g17 Dq=>?_
   refine k16 _ _ ?_
   refine A1 Dq rfl rfl ?_
   refine ALe ?_
   refine y15 _ _ ?_
   refine k14 _ _ ?_
   refine ALZ ?_
   refine AH Dq 2 [(15,.int .i64 ((i:Int))),(16,.int .i64 (((i+1:Nat):Int)))]
    ⟨ym r5,Cm r6 (fun _=>DB (by rw[BG (by omega) (by omega)];omega)),ALg⟩ fun a18 w18 g18 CD=>?_
   have QN:=AA g17 g18
   refine AX (v:=.int .i64 (((i+1:Nat):Int))) CD r6 fun a19 Cs=>?_
   refine AE ?_
   replace ha:=ha.kn QN
   replace hb:=hb.kn QN
   replace HG:=AA (AA HG g13) QN
   exact⟨⟨i+1,by omega,⟨Cs.1,Cs.2.1,Cs.2.2.1,(AG (AG Cs)).2.2.1,(AG (AG Cs)).2.2.2.1,(AG (AG Cs)).2.2.2.2.1,(AG (AG Cs)).2.2.2.2.2.1,(AG (AG Cs)).2.2.2.2.2.2.1,(AG (AG Cs)).2.2.2.2.2.2.2.1,(AG (AG (AG Cs))).1,ALg⟩,HG,ha,hb⟩,by rw[show _=_ from Cs.2.2.1,show _=_ from Bj.2.2.1];simp[intOf];omega⟩
 · refine ALZ ?_
   refine AH Bj 4 [(11,.int .i64 ((i:Int))),(12,.slice ao ds.length ac),(13,.int .i64 ((ds.length:Nat))),(14,.bool false)]
    ⟨ym r5,ym r5,BI (Tryz.underlying28) rfl rfl trivial (oy rfl rfl) (fun _=>rfl),GC r7 (fun _=>BE (decide_eq_false (by omega))),ALg⟩ fun a20 w20 g20 DR=>?_
   refine AE ?_
   refine k12 _ _ ?_
   refine A1 DR rfl rfl ?_
   refine wp_exit ?_
   repeat refine Bo ?_
   refine x9 _ _ ?_
   refine k6 _ _ ?_
   refine ALa fun K21 k21=>?_
   refine ALZ ?_
   refine AX (v:=.bool true) DR r6 fun a22 Bl=>?_
   refine AE ?_
   refine k21 _ _ ?_
   replace HG:=AA HG g20
   refine ALd ?_
   repeat refine AJ ?_
   refine Ar (fn:=Tryz.f59) Bl (A7 (p:=4) Tryz.results59 Bl rfl rfl) ?_
   exact⟨rfl,HG⟩
theorem Ra (S:Sd) (own1 wr1 own2 wr2:List DD) (ao1 wo1 bo1 ao2 wo2 bo2:Option Addr) (ac1 wc1 bc1 ac2 wc2 bc2:Nat) (w:World) (h1:SdF w S own1 wr1 ao1 wo1 bo1 ac1 wc1 bc1) (h2:SdF w S own2 wr2 ao2 wo2 bo2 ac2 wc2 bc2) :
  Calls Tryz.prog 21 #[Bm S.addr (.slice ao1 (List.length own1) ac1) S.joint (.slice wo1 (List.length wr1) wc1) (.slice bo1 S.body.length bc1) S.tag,Bm S.addr (.slice ao2 (List.length own2) ac2) S.joint (.slice wo2 (List.length wr2) wc2) (.slice bo2 S.body.length bc2) S.tag] w fun e w'=>e=.returned (.bool true)∧w.grownBy w' none:=by
 refine BF Tryz.func21 rfl Tryz.ntmps21 rfl fun a0 sv0=>?_
 have HG:=World.grownBy.refl w none
 replace sv0:Sv 47 [] [(0,Bm S.addr (.slice ao1 (List.length own1) ac1) S.joint (.slice wo1 (List.length wr1) wc1) (.slice bo1 S.body.length bc1) S.tag),(1,Bm S.addr (.slice ao2 (List.length own2) ac2) S.joint (.slice wo2 (List.length wr2) wc2) (.slice bo2 S.body.length bc2) S.tag)] a0:=sv0
 refine ALa fun K1 k1=>?_
 refine ALZ ?_
 refine BZ sv0 r6 (Cy _ _ h1.tg (.slice ao1 (List.length own1) ac1) (.slice wo1 (List.length wr1) wc1) (.slice bo1 S.body.length bc1) rfl rfl rfl) fun a2 w2 CO DP g2 z2 AK sv2=>?_
 replace h2:=h2.kn g2
 refine BZ sv2 r6 (Cy _ _ h2.tg (.slice ao2 (List.length own2) ac2) (.slice wo2 (List.length wr2) wc2) (.slice bo2 S.body.length bc2) rfl rfl rfl) fun a3 w3 CG E2 g3 z3 AN sv3=>?_
 replace AK:=AC g3 AK
 replace h1:=(h1.kn g2).kn g3
 replace h2:=h2.kn g3
 refine AX (v:=.bool false) sv3 r6 fun a4 sv4=>?_
 refine AE ?_
 refine k1 _ _ ?_
 refine ALa fun K5 k5=>?_
 refine ALZ ?_
 refine AH sv4 42 [(5,pt CO),(6,Value.int .i64 S.addr),(7,pt CG),(8,Value.int .i64 S.addr),(9,Value.bool true),(10,Value.bool true),(11,pk CO 2),(12,Value.int .i64 S.joint),(13,pk CG 2),(14,Value.int .i64 S.joint),(15,Value.bool true),(16,Value.bool true),(17,Value.bool true),(18,pk CO 1),(19,Value.slice ao1 (List.length own1) ac1),(20,pk CG 1),(21,Value.slice ao2 (List.length own2) ac2),(22,Value.bool true),(23,Value.bool true),(24,Value.bool true),(25,pk CO 3),(26,Value.slice wo1 (List.length wr1) wc1),(27,pk CG 3),(28,Value.slice wo2 (List.length wr2) wc2),(29,Value.bool true),(30,Value.bool true),(31,Value.bool true),(32,pk CO 4),(33,Value.slice bo1 S.body.length bc1),(34,Value.string (bs S.body)),(35,pk CG 4),(36,Value.slice bo2 S.body.length bc2),(37,Value.string (bs S.body)),(38,Value.bool true),(39,Value.bool true),(40,Value.bool true),(41,pk CO 5),(42,AO S.tag),(43,pk CG 5),(44,AO S.tag),(45,Value.bool true),(46,Value.bool true)]
  ⟨yf r6 (fun _=>by kernel_rfl),yp (i:=0) r6 (E4 S.addr) AK rfl rfl,yf r6 (fun _=>by kernel_rfl),yp (i:=0) r6 (E4 S.addr) AN rfl rfl,GC r7 (fun _=>Bd (by simp)),ym r5,BH rq9 (fun _=>by kernel_rfl),A2 rq9 (fun _ g=>Ab (D9 S.joint) (BK (L:=[[.int .i64 S.addr],[.slice ao1 (List.length own1) ac1],[.int .i64 S.joint],[.slice wo1 (List.length wr1) wc1],[.slice bo1 S.body.length bc1],bv S.tag]) (i:=2) (AF g AK (by simp)) rfl rfl)),BH rq9 (fun _=>by kernel_rfl),A2 rq9 (fun _ g=>Ab (D9 S.joint) (BK (L:=[[.int .i64 S.addr],[.slice ao2 (List.length own2) ac2],[.int .i64 S.joint],[.slice wo2 (List.length wr2) wc2],[.slice bo2 S.body.length bc2],bv S.tag]) (i:=2) (AF g AN (by simp)) rfl rfl)),JT rfl rfl (gy rfl rfl rfl) (oy rfl rfl) (oy rfl rfl) (fun _=>Bd (by simp)) (fun _=>rfl),Ag rq9,ym r5,BH rq9 (fun _=>by kernel_rfl),A2 rq9 (fun _ g=>Ab (Hz (.slice ao1 (List.length own1) ac1) rfl) (BK (L:=[[.int .i64 S.addr],[.slice ao1 (List.length own1) ac1],[.int .i64 S.joint],[.slice wo1 (List.length wr1) wc1],[.slice bo1 S.body.length bc1],bv S.tag]) (i:=1) (AF g AK (by simp)) rfl rfl)),BH rq9 (fun _=>by kernel_rfl),A2 rq9 (fun _ g=>Ab (Hz (.slice ao2 (List.length own2) ac2) rfl) (BK (L:=[[.int .i64 S.addr],[.slice ao2 (List.length own2) ac2],[.int .i64 S.joint],[.slice wo2 (List.length wr2) wc2],[.slice bo2 S.body.length bc2],bv S.tag]) (i:=1) (AF g AN (by simp)) rfl rfl)),Bn [.slice ao1 (List.length own1) ac1,.slice ao2 (List.length own2) ac2] Tryz.func59 (by kernel_rfl) r7 ⟨(oy rfl rfl),(oy rfl rfl),ALg⟩ (Au fun W g=>RZ own1 own2 _ _ _ _ (h1.1.trans h2.1.symm) W (h1.kn g).ro (h2.kn g).ro),Ag rq9,ym r5,BH rq9 (fun _=>by kernel_rfl),A2 rq9 (fun _ g=>Ab (Hz (.slice wo1 (List.length wr1) wc1) rfl) (BK (L:=[[.int .i64 S.addr],[.slice ao1 (List.length own1) ac1],[.int .i64 S.joint],[.slice wo1 (List.length wr1) wc1],[.slice bo1 S.body.length bc1],bv S.tag]) (i:=3) (AF g AK (by simp)) rfl rfl)),BH rq9 (fun _=>by kernel_rfl),A2 rq9 (fun _ g=>Ab (Hz (.slice wo2 (List.length wr2) wc2) rfl) (BK (L:=[[.int .i64 S.addr],[.slice ao2 (List.length own2) ac2],[.int .i64 S.joint],[.slice wo2 (List.length wr2) wc2],[.slice bo2 S.body.length bc2],bv S.tag]) (i:=3) (AF g AN (by simp)) rfl rfl)),Bn [.slice wo1 (List.length wr1) wc1,.slice wo2 (List.length wr2) wc2] Tryz.func59 (by kernel_rfl) r7 ⟨(oy rfl rfl),(oy rfl rfl),ALg⟩ (Au fun W g=>RZ wr1 wr2 _ _ _ _ (h1.2.1.trans h2.2.1.symm) W (h1.kn g).rw (h2.kn g).rw),Ag rq9,ym r5,BH rq9 (fun _=>by kernel_rfl),A2 rq9 (fun _ g=>Ab (E8 (.slice bo1 S.body.length bc1) rfl) (BK (L:=[[.int .i64 S.addr],[.slice ao1 (List.length own1) ac1],[.int .i64 S.joint],[.slice wo1 (List.length wr1) wc1],[.slice bo1 S.body.length bc1],bv S.tag]) (i:=4) (AF g AK (by simp)) rfl rfl)),RU (l:=S.body) Tryz.underlying29 Tryz.underlying5 Tryz.underlying9 rfl rfl (gy rfl rfl rfl) (oy rfl rfl) (fun W g=>(h1.kn g).rb.1) (fun _=>rfl),BH rq9 (fun _=>by kernel_rfl),A2 rq9 (fun _ g=>Ab (E8 (.slice bo2 S.body.length bc2) rfl) (BK (L:=[[.int .i64 S.addr],[.slice ao2 (List.length own2) ac2],[.int .i64 S.joint],[.slice wo2 (List.length wr2) wc2],[.slice bo2 S.body.length bc2],bv S.tag]) (i:=4) (AF g AN (by simp)) rfl rfl)),RU (l:=S.body) Tryz.underlying29 Tryz.underlying5 Tryz.underlying9 rfl rfl (gy rfl rfl rfl) (oy rfl rfl) (fun W g=>(h2.kn g).rb.1) (fun _=>rfl),JT rfl rfl (gy rfl rfl rfl) (oy rfl rfl) (oy rfl rfl) (fun _=>ABz (by simp)) (fun _=>rfl),Ag rq9,ym r5,BH rq9 (fun _=>by kernel_rfl),A2 rq9 (fun _ g=>Ab (BV S.tag h1.tg.1) (BK (L:=[[.int .i64 S.addr],[.slice ao1 (List.length own1) ac1],[.int .i64 S.joint],[.slice wo1 (List.length wr1) wc1],[.slice bo1 S.body.length bc1],bv S.tag]) (i:=5) (AF g AK (by simp)) rfl rfl)),BH rq9 (fun _=>by kernel_rfl),A2 rq9 (fun _ g=>Ab (BV S.tag h2.tg.1) (BK (L:=[[.int .i64 S.addr],[.slice ao2 (List.length own2) ac2],[.int .i64 S.joint],[.slice wo2 (List.length wr2) wc2],[.slice bo2 S.body.length bc2],bv S.tag]) (i:=5) (AF g AN (by simp)) rfl rfl)),JT rfl rfl (gy rfl rfl rfl) (oy rfl rfl) (oy rfl rfl) (fun _=>by simpa using(JB h1.tg h2.tg _ _ _).1) (fun _=>rfl),Ag rq9,ALg⟩ fun a6 w6 g6 sv6=>?_
 refine AX (v:=.bool true) sv6 r6 fun a7 sv7=>?_
 have sv8:Sv _ _ [_,_,_] _:=sv7.dl [5,6,7,8,9,10,11,12,13,14,15,16,17,18,19,20,21,22,23,24,25,26,27,28,29,30,31,32,33,34,35,36,37,38,39,40,41,42,43,44,45,46,3,2]
 refine AE ?_
 refine k5 _ _ ?_
 replace h1:=h1.kn g6
 replace h2:=h2.kn g6
 replace HG:=AA (AA (AA HG g2) g3) g6
 refine ALd ?_
 repeat refine AJ ?_
 refine Ar (fn:=Tryz.f21) sv8 (A7 (p:=4) Tryz.results21 sv8 rfl rfl) ?_
 exact⟨rfl,HG⟩
theorem AJI (seed:List Nat):CZ (V6 seed).1=true:=(RP seed 6 (by decide)).1
theorem AKR (seed:List Nat):Dg (V6 seed).2.1∧Dg (V6 seed).2.2:=⟨Be _ _,IH _ _⟩
theorem AFl {w0:World} {seed:List Nat} (hse:Dg seed):∀W,w0.grownBy W none→Calls Tryz.prog 14 #[AO seed] W fun e w'=>∃v,e=.returned v∧W.grownBy w' none∧(Sp.vv (V6 seed) (fun _=>False)).on w' v:=fun W _=>AAv seed hse W
theorem WX (x:V) (w:World):Calls Tryz.prog 12 #[Bp x] w fun e w'=>e=.returned (.bool (decide (x.text.size≤100)))∧w.grownBy w' none:=AAr x _ rfl w
theorem AFk {w0:World} {ks:List VK} {vo:Option Addr} {vc_:Nat} {sa po:List Nat} {P:List VP} {x:V} {n:Int} {b:Bool} {a:Int} {r:Sd×Int} (hsa:Dg sa) (hpo:Dg po) (hr:RdK w0 (.slice vo ks.length vc_) ks) (hP:ks.map VK.p=P) (hres:AFb P x n b a=r) :
  ∀W,w0.grownBy W none→Calls Tryz.prog 15 #[E0 x n b a,Aw sa po (.slice vo ks.length vc_)] W fun e w'=>∃v,e=.returned v∧W.grownBy w' none∧(Sp.sr w0.heap.size r).on w' v:=fun W g=>by
 refine(AAw ks vo vc_ sa po hsa hpo P hP x n b a r hres W (hr.kn g)).mono ?_
 rintro e w' ⟨v,h1,h2,own,wr,ao,wo,bo,ac,wc,bc,h3,h4,h5⟩
 exact⟨v,h1,h2,own,wr,ao,wo,bo,ac,wc,bc,h3,h4,fun k hk=>Nat.le_trans g.size (h5 k hk)⟩
theorem AJJ {w0:World} {ks:List VK} {vo:Option Addr} {vc_:Nat} {sa po:List Nat} {P:List VP} {ds:List DD} {v:Value} {joint ad:Int} {x:V} {r:Sd×Int} (hsa:Dg sa) (hpo:Dg po) (hr:RdK w0 (.slice vo ks.length vc_) ks) (hP:ks.map VK.p=P) (ho:RdD w0 v ds) (hl:ds.length≤1000) (hres:Fg P (ds.map DD.x) joint ad x=r) :
  ∀W,w0.grownBy W none→Calls Tryz.prog 20 #[Aw sa po (.slice vo ks.length vc_),v,.int .i64 joint,.int .i64 ad,Bp x] W fun e w'=>∃v,e=.returned v∧W.grownBy w' none∧(Sp.sr w0.heap.size r).on w' v:=fun W g =>
 WK hsa hpo (hr.kn g) hP (ho.kn g) hl g.size hres
theorem AHY {w0:World} {ks:List VK} {vo:Option Addr} {vc_:Nat} {sa po:List Nat} {P:List VP} {ds:List DD} {v:Value} {joint ad:Int} {x:V} {r:Sd×Int} (hsa:Dg sa) (hpo:Dg po) (hr:RdK w0 (.slice vo ks.length vc_) ks) (hP:ks.map VK.p=P) (ho:RdD w0 v ds) (hl:ds.length≤1000) (hres:Fg P (ds.map DD.x) joint ad x=r) :
  ∀W,w0.grownBy W none→Calls Tryz.prog 16 #[Aw sa po (.slice vo ks.length vc_),v,.int .i64 joint,.int .i64 ad,Bp x] W fun e w'=>∃v,e=.returned v∧W.grownBy w' none∧(Sp.sr w0.heap.size r).on w' v:=fun W g =>
 ABw hsa hpo (hr.kn g) hP (ho.kn g) hl g.size hres
theorem AB3 (seed:List Nat) (hse:Dg seed) (x:V) (n:Int) (b:Bool) (a:Int) (ad joint:Int) (od:List DD) (ao wo bo:Option Addr) (ac wl wc bl bc:Nat) (tg:List Nat) (htg:Dg tg) (w:World) (ho:RdD w (.slice ao od.length ac) od) :
   Calls Tryz.prog 3 #[AO seed,E0 x n b a,Bm ad (.slice ao od.length ac) joint (.slice wo wl wc) (.slice bo bl bc) tg] w fun e w'=>e=.returned (.bool true)∧w.grownBy w' none:=by
 obtain⟨vx,hvx⟩:∃v,V6 seed=v:=⟨_,rfl⟩
 have hvd:Dg vx.2.1∧Dg vx.2.2:=hvx▸AKR seed
 have hvv:CZ vx.1=true:=hvx▸AJI seed
 obtain⟨r,hres⟩:∃r,AFb vx.1 x n b a=r:=⟨_,rfl⟩
 obtain⟨q,hqq⟩:∃q,Fg vx.1 (od.map DD.x) joint ad x=q:=⟨_,rfl⟩
 refine BF Tryz.func3 rfl Tryz.ntmps3 rfl fun a0 sv0=>?_
 have HG:=World.grownBy.refl w none
 replace sv0:Sv 96 [] [(0,AO seed),(1,E0 x n b a),(2,Bm ad (.slice ao od.length ac) joint (.slice wo wl wc) (.slice bo bl bc) tg)] a0:=sv0
 refine ALa fun K1 k1=>?_
 refine ALZ ?_
 refine BZ sv0 r6 (BV seed hse.1) fun a2 w2 Ml JH g2 z2 Aq sv2=>?_
 refine BZ sv2 r6 (TA x n b a) fun a3 w3 N7 Pa g3 z3 BU sv3=>?_
 refine BZ sv3 r6 (Cy _ _ htg (.slice ao od.length ac) (.slice wo wl wc) (.slice bo bl bc) rfl rfl rfl) fun a4 w4 PC ABV g4 z4 Cz sv4=>?_
 replace Aq:=AC g4 (AC g3 Aq)
 replace BU:=AC g4 BU
 replace ho:=((ho.kn g2).kn g3).kn g4
 replace HG:=AA (AA (AA HG g2) g3) g4
 refine AX (v:=.bool false) sv4 r6 fun a5 sv5=>?_
 refine AE ?_
 refine k1 _ _ ?_
 refine ALa fun K6 k6=>?_
 refine ALa fun K7 k7=>?_
 rcases(show ¬x.text.size≤100∨(x.text.size≤100∧20<od.length)∨(x.text.size≤100∧od.length≤20) by omega) with hsm|⟨hsm,hol⟩|⟨hsm,hol⟩
 · refine ALZ ?_
   refine AH sv5 10 [(16,pt N7),(17,Bp x),(18,.bool false),(19,.bool true),(20,.bool true),(21,undef),(22,undef),(23,undef),(24,undef),(25,.bool true)]
    ⟨yf r6 (fun _=>by kernel_rfl),yp (i:=0) r6 (ED x) BU rfl rfl,Ae [Bp x] Tryz.func12 (by kernel_rfl) rq4 ⟨(oy rfl rfl),ALg⟩ (Au fun W g=>(WX x W).mono fun e w' ⟨h1,h2⟩=>⟨by rw[h1,decide_eq_false hsm],h2⟩),Cr r6 (fun _=>Ba),ym r5,AS r6,AS r6,AS r6,AS r6,BQ r7,ALg⟩ fun a8 w8 g8 sv8=>?_
   refine AE ?_
   refine k7 _ _ ?_
   refine Av sv8 rfl rfl ?_
   refine ALa fun K9 k9=>?_
   refine ALZ ?_
   refine AH sv8 1 [(26,.bool true)]
    ⟨Ae [] Tryz.func13 (by kernel_rfl) rq4 trivial (Au fun W g=>Mu W),ALg⟩ fun a10 w10 g10 Bj=>?_
   refine AX (v:=.bool true) Bj r6 fun a11 B7=>?_
   refine AE ?_
   refine k9 _ _ ?_
   replace Aq:=AC g10 (AC g8 Aq)
   replace BU:=AC g10 (AC g8 BU)
   replace Cz:=AC g10 (AC g8 Cz)
   replace ho:=(ho.kn g8).kn g10
   replace HG:=AA (AA HG g8) g10
   refine ALd ?_
   repeat refine AJ ?_
   refine Ar (fn:=Tryz.f3) B7 (A7 (p:=6) Tryz.results3 B7 rfl rfl) ?_
   exact⟨rfl,HG⟩
 · refine ALZ ?_
   refine AH sv5 10 [(16,pt N7),(17,Bp x),(18,.bool true),(19,.bool false),(20,.bool false),(21,pk PC 1),(22,.slice ao od.length ac),(23,.int .i64 ((od.length:Nat))),(24,.bool true),(25,.bool true)]
    ⟨yf r6 (fun _=>by kernel_rfl),yp (i:=0) r6 (ED x) BU rfl rfl,Ae [Bp x] Tryz.func12 (by kernel_rfl) rq4 ⟨(oy rfl rfl),ALg⟩ (Au fun W g=>(WX x W).mono fun e w' ⟨h1,h2⟩=>⟨by rw[h1,decide_eq_true hsm],h2⟩),Cr r6 (fun _=>Ba),ym r5,BH rq9 (fun _=>by kernel_rfl),A2 rq9 (fun _ g=>Ab (Hz (.slice ao od.length ac) rfl) (BK (L:=[[.int .i64 ad],[.slice ao od.length ac],[.int .i64 joint],[.slice wo wl wc],[.slice bo bl bc],bv tg]) (i:=1) (AF g Cz (by simp)) rfl rfl)),BI (Tryz.underlying28) rfl rfl (gy rfl rfl rfl) (oy rfl rfl) (fun _=>rfl),Ap rq9 (fun _=>C4 (decide_eq_true (by omega))),Ag rq9,ALg⟩ fun a12 w12 g12 Cx=>?_
   refine AE ?_
   refine k7 _ _ ?_
   refine Av Cx rfl rfl ?_
   refine ALa fun K13 k13=>?_
   refine ALZ ?_
   refine AH Cx 1 [(26,.bool true)]
    ⟨Ae [] Tryz.func13 (by kernel_rfl) rq4 trivial (Au fun W g=>Mu W),ALg⟩ fun a14 w14 g14 DQ=>?_
   refine AX (v:=.bool true) DQ r6 fun a15 Gh=>?_
   refine AE ?_
   refine k13 _ _ ?_
   replace Aq:=AC g14 (AC g12 Aq)
   replace BU:=AC g14 (AC g12 BU)
   replace Cz:=AC g14 (AC g12 Cz)
   replace ho:=(ho.kn g12).kn g14
   replace HG:=AA (AA HG g12) g14
   refine ALd ?_
   repeat refine AJ ?_
   refine Ar (fn:=Tryz.f3) Gh (A7 (p:=6) Tryz.results3 Gh rfl rfl) ?_
   exact⟨rfl,HG⟩
 · refine ALZ ?_
   refine AH sv5 10 [(16,pt N7),(17,Bp x),(18,.bool true),(19,.bool false),(20,.bool false),(21,pk PC 1),(22,.slice ao od.length ac),(23,.int .i64 ((od.length:Nat))),(24,.bool false),(25,.bool false)]
    ⟨yf r6 (fun _=>by kernel_rfl),yp (i:=0) r6 (ED x) BU rfl rfl,Ae [Bp x] Tryz.func12 (by kernel_rfl) rq4 ⟨(oy rfl rfl),ALg⟩ (Au fun W g=>(WX x W).mono fun e w' ⟨h1,h2⟩=>⟨by rw[h1,decide_eq_true hsm],h2⟩),Cr r6 (fun _=>Ba),ym r5,BH rq9 (fun _=>by kernel_rfl),A2 rq9 (fun _ g=>Ab (Hz (.slice ao od.length ac) rfl) (BK (L:=[[.int .i64 ad],[.slice ao od.length ac],[.int .i64 joint],[.slice wo wl wc],[.slice bo bl bc],bv tg]) (i:=1) (AF g Cz (by simp)) rfl rfl)),BI (Tryz.underlying28) rfl rfl (gy rfl rfl rfl) (oy rfl rfl) (fun _=>rfl),Ap rq9 (fun _=>C4 (decide_eq_false (by omega))),Ag rq9,ALg⟩ fun a16 w16 g16 Ch=>?_
   refine AE ?_
   refine k7 _ _ ?_
   refine A1 Ch rfl rfl ?_
   refine ALe ?_
   refine k6 _ _ ?_
   refine ALa fun K17 k17=>?_
   refine ALZ ?_
   replace Aq:=AC g16 Aq
   refine Fl (Ch.st w16) 2 [(27,Sp.is (AO seed)),(28,Sp.vv vx (fun _=>False))] rfl (by kernel_rfl) (by kernel_rfl) (by kernel_rfl)
    ⟨yl r6 (BV seed hse.1) Aq,Ae [AO seed] Tryz.func14 (by kernel_rfl) rq4 ⟨(oy rfl rfl),ALg⟩ (hvx▸AFl hse),ALg⟩ fun a18 w18 g18 st18=>?_
   obtain⟨hn18,hd18,e18_27,e18_28,e18_16,e18_17,e18_18,e18_19,e18_20,e18_21,e18_22,e18_23,e18_24,e18_25,e18_6,e18_5,e18_4,e18_3,e18_0,e18_1,e18_2,-⟩:=st18
   obtain⟨ao19,cap19,ks19,e18_28q,hp19,hk19,hf19⟩:=e18_28
   replace BU:=AC g18 (AC g16 BU)
   replace Cz:=AC g18 (AC g16 Cz)
   replace ho:=(ho.kn g16).kn g18
   replace HG:=AA (AA HG g16) g18
   have CD:Sv 96 [] [(16,_),(17,_),(18,_),(19,_),(20,_),(21,_),(22,_),(23,_),(24,_),(25,_),(6,_),(5,_),(4,_),(3,_),(0,_),(1,_),(2,_),(28,_)] a18:=⟨hn18,hd18,e18_16,e18_17,e18_18,e18_19,e18_20,e18_21,e18_22,e18_23,e18_24,e18_25,e18_6,e18_5,e18_4,e18_3,e18_0,e18_1,e18_2,e18_28q,ALg⟩
   refine Az (T:=36) (Z:=([bv AM,bv AM,[.slice none 0 0]].flatten)) CD rfl rfl rfl (fun a w=>by kernel_rfl) fun a20 w20 ALN Li g20 z20 Ek DR=>?_
   have TF:=Ax BU Li
   have TG:=Ax Cz Li
   have AFm:=Bk HG Li
   have ZO:=Ay (ho.lt) Li
   have TH:=Ay (hk19.lt) Li
   refine As DR r7 (Bq hvd.1 hvd.2 (.slice ao19 ks19.length cap19) rfl) Ek (by first|rfl|simp[Ak,AL,AZ,hvd.1.1,hvd.2.1]) fun w21 g21 h21=>?_
   replace BU:=Ac g21 (AC g20 BU) (Ne.symm TF)
   replace hk19:=(hk19.kn g20).offR g21 (AR TH)
   replace Ek:=h21
   refine AE ?_
   refine k17 _ _ ?_
   refine ALa fun K22 k22=>?_
   refine ALZ ?_
   refine Fl (DR.st w21) 6 [(30,Sp.is (E0 x n b a)),(31,Sp.is (Aw vx.2.1 vx.2.2 (.slice ao19 ks19.length cap19))),(32,Sp.sr w21.heap.size r),(29,Sp.sr w21.heap.size r),(33,Sp.sl w21.heap.size r.1),(34,Sp.is (.int .i64 r.2))] rfl (by kernel_rfl) (by kernel_rfl) (by kernel_rfl)
    ⟨yl r6 (TA x n b a) BU,yl r6 (Bq hvd.1 hvd.2 (.slice ao19 ks19.length cap19) rfl) Ek,Ae [E0 x n b a,Aw vx.2.1 vx.2.2 (.slice ao19 ks19.length cap19)] Tryz.func15 (by kernel_rfl) rq4 ⟨(oy rfl rfl),(oy rfl rfl),ALg⟩ (AFk hvd.1 hvd.2 hk19 hp19 hres),ym r5,BX rq4 (fun w u h=>RQ w u h),BX rq4 (fun w u h=>JZ w u h),ALg⟩ fun a23 w23 g23 st23=>?_
   obtain⟨hn23,hd23,e23_30,e23_31,e23_32,e23_29,e23_33,e23_34,e23_7,e23_16,e23_17,e23_18,e23_19,e23_20,e23_21,e23_22,e23_23,e23_24,e23_25,e23_6,e23_5,e23_4,e23_3,e23_0,e23_1,e23_2,e23_28,-⟩:=st23
   obtain⟨own24,wr24,ao24,wo24,bo24,ac24,wc24,bc24,e23_33q,hF1,fr24⟩:=e23_33
   replace BU:=AC g23 BU
   replace Cz:=AC g23 (Ac g21 (AC g20 Cz) (Ne.symm TG))
   replace Ek:=AC g23 Ek
   replace ho:=((ho.kn g20).offR g21 (AR ZO)).kn g23
   replace hk19:=hk19.kn g23
   replace HG:=AA (AD (AA HG g20) g21 AFm) g23
   have CS:Sv 96 [] [(7,_),(16,_),(17,_),(18,_),(19,_),(20,_),(21,_),(22,_),(23,_),(24,_),(25,_),(6,_),(5,_),(4,_),(3,_),(0,_),(1,_),(2,_),(28,_),(33,_),(34,_)] a23:=⟨hn23,hd23,e23_7,e23_16,e23_17,e23_18,e23_19,e23_20,e23_21,e23_22,e23_23,e23_24,e23_25,e23_6,e23_5,e23_4,e23_3,e23_0,e23_1,e23_2,e23_28,e23_33q,e23_34,ALg⟩
   refine Az (T:=31) (Z:=([[.int .i64 0],[.slice none 0 0],[.int .i64 0],[.slice none 0 0],[.slice none 0 0],bv AM].flatten)) CS rfl rfl rfl (fun a w=>by kernel_rfl) fun a25 w25 ALO I4 g25 z25 II Co=>?_
   have TI:=Ax BU I4
   have TJ:=Ax Cz I4
   have Rb:=Ax Ek I4
   have AFn:=Bk HG I4
   have ZP:=Ay (ho.lt) I4
   have TK:=Ay (hk19.lt) I4
   have WY:=Ay (hF1.lt) I4
   replace hF1:=hF1.kn g25
   refine As Co r7 (Cy _ _ hF1.tg (.slice ao24 (List.length own24) ac24) (.slice wo24 (List.length wr24) wc24) (.slice bo24 r.1.body.length bc24) rfl rfl rfl) II (C7 AP hF1.tg) fun w26 g26 h26=>?_
   replace BU:=Ac g26 (AC g25 BU) (Ne.symm TI)
   replace Cz:=Ac g26 (AC g25 Cz) (Ne.symm TJ)
   replace Ek:=Ac g26 (AC g25 Ek) (Ne.symm Rb)
   replace ho:=(ho.kn g25).offR g26 (AR ZP)
   replace hk19:=(hk19.kn g25).offR g26 (AR TK)
   replace hF1:=hF1.offR g26 (AR WY)
   replace HG:=AD (AA HG g25) g26 AFn
   replace II:=h26
   refine AX (v:=.int .i64 r.2) Co r6 fun a27 GF=>?_
   refine AE ?_
   refine k22 _ _ ?_
   refine ALa fun K28 k28=>?_
   refine DM (GF.st w26) (by kernel_rfl) 15 [(36,Sp.is (Aw vx.2.1 vx.2.2 (.slice ao19 ks19.length cap19))),(37,Sp.is (pk N7 3)),(38,Sp.is (.int .i64 n)),(39,Sp.row w26.heap.size 23 32 (Jv n 6).length ((Jv n 6).flatMap Ic)),(40,Sp.is (E0 x n b a)),(41,Sp.is (.int .i64 ((jt b)))),(42,Sp.is (E0 x n b a)),(43,Sp.is (.int .i64 ((ADQ a)))),(44,Sp.is (pt N7)),(45,Sp.is (Bp x)),(46,Sp.sr w26.heap.size r),(35,Sp.sr w26.heap.size r),(47,Sp.sl w26.heap.size r.1),(48,Sp.is (.int .i64 r.2)),(10,Sp.new w26.heap.size (([[.int .i64 0],[.slice none 0 0],[.int .i64 0],[.slice none 0 0],[.slice none 0 0],bv AM].flatten)) 31)] rfl (by kernel_rfl) (by kernel_rfl) (by kernel_rfl) [13] (by kernel_rfl)
    ⟨yl r6 (Bq hvd.1 hvd.2 (.slice ao19 ks19.length cap19) rfl) Ek,yf r6 (fun _=>by kernel_rfl),yp (i:=1) r6 (D9 n) BU rfl rfl,Ae [.int .i64 n] Tryz.func17 (by kernel_rfl) rq4 ⟨(oy rfl rfl),ALg⟩ (fun W g=>AFc n g),yl r6 (TA x n b a) BU,Ae [E0 x n b a] Tryz.func18 (by kernel_rfl) rq4 ⟨(oy rfl rfl),ALg⟩ (Au fun W g=>RO x n b a W),yl r6 (TA x n b a) BU,Ae [E0 x n b a] Tryz.func19 (by kernel_rfl) rq4 ⟨(oy rfl rfl),ALg⟩ (Au fun W g=>UF x n b a W),yf r6 (fun _=>by kernel_rfl),yp (i:=0) r6 (ED x) BU rfl rfl,QJ (Sp.sr w26.heap.size r) rfl rfl trivial rfl (fun W g av h=>match av,h with|[_,_,_,_,_],⟨rfl,hv,rfl,rfl,rfl,_⟩=>ABw hvd.1 hvd.2 (hk19.kn g) hp19 (AH6 hv) (Nat.le_trans (Po n 6) (by decide)) g.size hres) (fun _ _ h=>h) (Fd Tryz.func16 (by kernel_rfl) rfl),ym r5,BX rq4 (fun w u h=>RQ w u h),BX rq4 (fun w u h=>JZ w u h),LJ rfl trivial (Nat.le_refl _) (fun a w=>by kernel_rfl) (fun _ _ h=>h),ALg⟩ ⟨fun o ho=>by obtain rfl:=Option.some.inj ho;exact Il rfl rfl rfl trivial (fun w u h=>JZ w u h),ALg⟩
    [10] (by kernel_rfl) ⟨Sp.new_lt,ALg⟩ ⟨.inl rfl,.inl rfl,.inl rfl,.inl rfl,.inl rfl,.inl rfl,.inl rfl,.inl rfl,.inl rfl,.inl rfl,.inl rfl,.inl rfl,.inl rfl,.inl rfl,.inr ⟨rfl,(([[.int .i64 0],[.slice none 0 0],[.int .i64 0],[.slice none 0 0],[.slice none 0 0],bv AM].flatten)).toArray,31,fun a w=>by kernel_rfl⟩,ALg⟩ (by kernel_rfl) fun a29 w29 g29 st29 nd29=>?_
   obtain⟨hn29,hd29,e29_36,e29_37,e29_38,e29_39,e29_40,e29_41,e29_42,e29_43,e29_44,e29_45,e29_46,e29_35,e29_47,e29_48,e29_10,e29_9,e29_8,e29_7,e29_16,e29_17,e29_18,e29_19,e29_20,e29_21,e29_22,e29_23,e29_24,e29_25,e29_6,e29_5,e29_4,e29_3,e29_0,e29_1,e29_2,e29_28,e29_33,e29_34,-⟩:=st29
   obtain⟨own30,wr30,ao30,wo30,bo30,ac30,wc30,bc30,e29_47q,hF2,fr30⟩:=e29_47
   obtain⟨AK0,e29_10q,F8,Hj⟩:=e29_10
   have Rc:=Hp BU F8
   have Rd:=Hp Cz F8
   have PQ:=Hp Ek F8
   have PR:=Hp II F8
   have ADR:=To HG F8
   have WZ:=JC (ho.lt) F8
   have Re:=JC (hk19.lt) F8
   have TL:=JC (hF1.lt) F8
   have TM:=SdF.ap hF2 Hj (by decide)
   have CU:Sv 96 [] [(9,_),(8,_),(7,_),(16,_),(17,_),(18,_),(19,_),(20,_),(21,_),(22,_),(23,_),(24,_),(25,_),(6,_),(5,_),(4,_),(3,_),(0,_),(1,_),(2,_),(28,_),(33,_),(34,_),(47,_),(48,_),(10,_)] a29:=⟨hn29,hd29,e29_9,e29_8,e29_7,e29_16,e29_17,e29_18,e29_19,e29_20,e29_21,e29_22,e29_23,e29_24,e29_25,e29_6,e29_5,e29_4,e29_3,e29_0,e29_1,e29_2,e29_28,e29_33,e29_34,e29_47q,e29_48,e29_10q,ALg⟩
   refine As CU r7 (Cy _ _ hF2.tg (.slice ao30 (List.length own30) ac30) (.slice wo30 (List.length wr30) wc30) (.slice bo30 r.1.body.length bc30) rfl rfl rfl) Hj (C7 AP hF2.tg) fun w31 g31 h31=>?_
   replace BU:=Ac g31 (AC g29 BU) (Ne.symm Rc)
   replace Cz:=Ac g31 (AC g29 Cz) (Ne.symm Rd)
   replace Ek:=Ac g31 (AC g29 Ek) (Ne.symm PQ)
   replace ho:=(ho.kn g29).offR g31 (AR WZ)
   replace hk19:=(hk19.kn g29).offR g31 (AR Re)
   refine AX (v:=.int .i64 r.2) CU r6 fun a32 Ci=>?_
   refine AE ?_
   refine k28 _ _ ?_
   refine ALa fun K33 k33=>?_
   refine ALZ ?_
   refine Fl (Ci.st w31) 13 [(50,Sp.is (Aw vx.2.1 vx.2.2 (.slice ao19 ks19.length cap19))),(51,Sp.is (pk PC 1)),(52,Sp.is (.slice ao od.length ac)),(53,Sp.is (pk PC 2)),(54,Sp.is (.int .i64 joint)),(55,Sp.is (pt PC)),(56,Sp.is (.int .i64 ad)),(57,Sp.is (pt N7)),(58,Sp.is (Bp x)),(59,Sp.sr w31.heap.size q),(49,Sp.sr w31.heap.size q),(60,Sp.sl w31.heap.size q.1),(61,Sp.is (.int .i64 q.2))] rfl (by kernel_rfl) (by kernel_rfl) (by kernel_rfl)
    ⟨yl r6 (Bq hvd.1 hvd.2 (.slice ao19 ks19.length cap19) rfl) Ek,yf r6 (fun _=>by kernel_rfl),yp (i:=1) r6 (Hz (.slice ao od.length ac) rfl) Cz rfl rfl,yf r6 (fun _=>by kernel_rfl),yp (i:=2) r6 (D9 joint) Cz rfl rfl,yf r6 (fun _=>by kernel_rfl),yp (i:=0) r6 (E4 ad) Cz rfl rfl,yf r6 (fun _=>by kernel_rfl),yp (i:=0) r6 (ED x) BU rfl rfl,Ae [Aw vx.2.1 vx.2.2 (.slice ao19 ks19.length cap19),.slice ao od.length ac,.int .i64 joint,.int .i64 ad,Bp x] Tryz.func20 (by kernel_rfl) rq4 ⟨(oy rfl rfl),(oy rfl rfl),(oy rfl rfl),(oy rfl rfl),(oy rfl rfl),ALg⟩ (AJJ hvd.1 hvd.2 hk19 hp19 ho (by omega) hqq),ym r5,BX rq4 (fun w u h=>RQ w u h),BX rq4 (fun w u h=>JZ w u h),ALg⟩ fun a34 w34 g34 st34=>?_
   obtain⟨hn34,hd34,e34_50,e34_51,e34_52,e34_53,e34_54,e34_55,e34_56,e34_57,e34_58,e34_59,e34_49,e34_60,e34_61,e34_11,e34_9,e34_8,e34_7,e34_16,e34_17,e34_18,e34_19,e34_20,e34_21,e34_22,e34_23,e34_24,e34_25,e34_6,e34_5,e34_4,e34_3,e34_0,e34_1,e34_2,e34_28,e34_33,e34_34,e34_47,e34_48,e34_10,-⟩:=st34
   obtain⟨own35,wr35,ao35,wo35,bo35,ac35,wc35,bc35,e34_60q,hF3,fr35⟩:=e34_60
   replace BU:=AC g34 BU
   replace Cz:=AC g34 Cz
   replace Ek:=AC g34 Ek
   replace II:=AC g34 (Ac g31 (AC g29 II) (Ne.symm PR))
   replace Hj:=AC g34 h31
   replace ho:=ho.kn g34
   replace hk19:=hk19.kn g34
   replace hF1:=((hF1.kn g29).offR g31 (AR TL)).kn g34
   replace hF2:=(hF2.offR g31 (AR TM)).kn g34
   replace HG:=AA (AD (AA HG g29) g31 ADR) g34
   have Hw:Sv 96 [] [(11,_),(9,_),(8,_),(7,_),(16,_),(17,_),(18,_),(19,_),(20,_),(21,_),(22,_),(23,_),(24,_),(25,_),(6,_),(5,_),(4,_),(3,_),(0,_),(1,_),(2,_),(28,_),(33,_),(34,_),(47,_),(48,_),(10,_),(60,_),(61,_)] a34:=⟨hn34,hd34,e34_11,e34_9,e34_8,e34_7,e34_16,e34_17,e34_18,e34_19,e34_20,e34_21,e34_22,e34_23,e34_24,e34_25,e34_6,e34_5,e34_4,e34_3,e34_0,e34_1,e34_2,e34_28,e34_33,e34_34,e34_47,e34_48,e34_10,e34_60q,e34_61,ALg⟩
   refine Az (T:=31) (Z:=([[.int .i64 0],[.slice none 0 0],[.int .i64 0],[.slice none 0 0],[.slice none 0 0],bv AM].flatten)) Hw rfl rfl rfl (fun a w=>by kernel_rfl) fun a36 w36 AK1 EQ g36 z36 L8 FG=>?_
   have Rf:=Ax BU EQ
   have Rg:=Ax Cz EQ
   have PS:=Ax Ek EQ
   have PT:=Ax II EQ
   have OQ:=Ax Hj EQ
   have ADS:=Bk HG EQ
   have Wa:=Ay (ho.lt) EQ
   have Rh:=Ay (hk19.lt) EQ
   have TO:=Ay (hF1.lt) EQ
   have TP:=Ay (hF2.lt) EQ
   have TQ:=Ay (hF3.lt) EQ
   replace hF3:=hF3.kn g36
   refine As FG r7 (Cy _ _ hF3.tg (.slice ao35 (List.length own35) ac35) (.slice wo35 (List.length wr35) wc35) (.slice bo35 q.1.body.length bc35) rfl rfl rfl) L8 (C7 AP hF3.tg) fun w37 g37 h37=>?_
   replace BU:=Ac g37 (AC g36 BU) (Ne.symm Rf)
   replace Cz:=Ac g37 (AC g36 Cz) (Ne.symm Rg)
   replace Ek:=Ac g37 (AC g36 Ek) (Ne.symm PS)
   replace ho:=(ho.kn g36).offR g37 (AR Wa)
   replace hk19:=(hk19.kn g36).offR g37 (AR Rh)
   refine AX (v:=.int .i64 q.2) FG r6 fun a38 Uw=>?_
   refine AE ?_
   refine k33 _ _ ?_
   refine ALa fun K39 k39=>?_
   refine ALZ ?_
   refine Fl (Uw.st w37) 13 [(63,Sp.is (Aw vx.2.1 vx.2.2 (.slice ao19 ks19.length cap19))),(64,Sp.is (pk PC 1)),(65,Sp.is (.slice ao od.length ac)),(66,Sp.is (pk PC 2)),(67,Sp.is (.int .i64 joint)),(68,Sp.is (pt PC)),(69,Sp.is (.int .i64 ad)),(70,Sp.is (pt N7)),(71,Sp.is (Bp x)),(72,Sp.sr w37.heap.size q),(62,Sp.sr w37.heap.size q),(73,Sp.sl w37.heap.size q.1),(74,Sp.is (.int .i64 q.2))] rfl (by kernel_rfl) (by kernel_rfl) (by kernel_rfl)
    ⟨yl r6 (Bq hvd.1 hvd.2 (.slice ao19 ks19.length cap19) rfl) Ek,yf r6 (fun _=>by kernel_rfl),yp (i:=1) r6 (Hz (.slice ao od.length ac) rfl) Cz rfl rfl,yf r6 (fun _=>by kernel_rfl),yp (i:=2) r6 (D9 joint) Cz rfl rfl,yf r6 (fun _=>by kernel_rfl),yp (i:=0) r6 (E4 ad) Cz rfl rfl,yf r6 (fun _=>by kernel_rfl),yp (i:=0) r6 (ED x) BU rfl rfl,Ae [Aw vx.2.1 vx.2.2 (.slice ao19 ks19.length cap19),.slice ao od.length ac,.int .i64 joint,.int .i64 ad,Bp x] Tryz.func16 (by kernel_rfl) rq4 ⟨(oy rfl rfl),(oy rfl rfl),(oy rfl rfl),(oy rfl rfl),(oy rfl rfl),ALg⟩ (AHY hvd.1 hvd.2 hk19 hp19 ho (by omega) hqq),ym r5,BX rq4 (fun w u h=>RQ w u h),BX rq4 (fun w u h=>JZ w u h),ALg⟩ fun a40 w40 g40 st40=>?_
   obtain⟨hn40,hd40,e40_63,e40_64,e40_65,e40_66,e40_67,e40_68,e40_69,e40_70,e40_71,e40_72,e40_62,e40_73,e40_74,e40_13,e40_12,e40_11,e40_9,e40_8,e40_7,e40_16,e40_17,e40_18,e40_19,e40_20,e40_21,e40_22,e40_23,e40_24,e40_25,e40_6,e40_5,e40_4,e40_3,e40_0,e40_1,e40_2,e40_28,e40_33,e40_34,e40_47,e40_48,e40_10,e40_60,e40_61,-⟩:=st40
   obtain⟨own41,wr41,ao41,wo41,bo41,ac41,wc41,bc41,e40_73q,hF4,fr41⟩:=e40_73
   replace II:=AC g40 (Ac g37 (AC g36 II) (Ne.symm PT))
   replace Hj:=AC g40 (Ac g37 (AC g36 Hj) (Ne.symm OQ))
   replace L8:=AC g40 h37
   replace hF1:=((hF1.kn g36).offR g37 (AR TO)).kn g40
   replace hF2:=((hF2.kn g36).offR g37 (AR TP)).kn g40
   replace hF3:=(hF3.offR g37 (AR TQ)).kn g40
   replace HG:=AA (AD (AA HG g36) g37 ADS) g40
   have Jm:Sv 96 [] [(13,_),(12,_),(11,_),(9,_),(8,_),(7,_),(16,_),(17,_),(18,_),(19,_),(20,_),(21,_),(22,_),(23,_),(24,_),(25,_),(6,_),(5,_),(4,_),(3,_),(0,_),(1,_),(2,_),(28,_),(33,_),(34,_),(47,_),(48,_),(10,_),(60,_),(61,_),(73,_),(74,_)] a40:=⟨hn40,hd40,e40_13,e40_12,e40_11,e40_9,e40_8,e40_7,e40_16,e40_17,e40_18,e40_19,e40_20,e40_21,e40_22,e40_23,e40_24,e40_25,e40_6,e40_5,e40_4,e40_3,e40_0,e40_1,e40_2,e40_28,e40_33,e40_34,e40_47,e40_48,e40_10,e40_60,e40_61,e40_73q,e40_74,ALg⟩
   refine Az (T:=31) (Z:=([[.int .i64 0],[.slice none 0 0],[.int .i64 0],[.slice none 0 0],[.slice none 0 0],bv AM].flatten)) Jm rfl rfl rfl (fun a w=>by kernel_rfl) fun a42 w42 AK2 F9 g42 z42 Wb GH=>?_
   have PU:=Ax II F9
   have OS:=Ax Hj F9
   have OT:=Ax L8 F9
   have ADT:=Bk HG F9
   have TR:=Ay (hF1.lt) F9
   have TS:=Ay (hF2.lt) F9
   have TU:=Ay (hF3.lt) F9
   have TV:=Ay (hF4.lt) F9
   replace hF4:=hF4.kn g42
   refine As GH r7 (Cy _ _ hF4.tg (.slice ao41 (List.length own41) ac41) (.slice wo41 (List.length wr41) wc41) (.slice bo41 q.1.body.length bc41) rfl rfl rfl) Wb (C7 AP hF4.tg) fun w43 g43 h43=>?_
   replace II:=Ac g43 (AC g42 II) (Ne.symm PU)
   replace Hj:=Ac g43 (AC g42 Hj) (Ne.symm OS)
   replace L8:=Ac g43 (AC g42 L8) (Ne.symm OT)
   replace hF1:=(hF1.kn g42).offR g43 (AR TR)
   replace hF2:=(hF2.kn g42).offR g43 (AR TS)
   replace hF3:=(hF3.kn g42).offR g43 (AR TU)
   replace hF4:=hF4.offR g43 (AR TV)
   replace Wb:=h43
   refine AX (v:=.int .i64 q.2) GH r6 fun a44 R3=>?_
   refine AE ?_
   refine k39 _ _ ?_
   refine ALa fun K45 k45=>?_
   refine ALZ ?_
   refine AH R3 21 [(75,Bm r.1.addr (.slice ao24 (List.length own24) ac24) r.1.joint (.slice wo24 (List.length wr24) wc24) (.slice bo24 r.1.body.length bc24) r.1.tag),(76,Bm r.1.addr (.slice ao30 (List.length own30) ac30) r.1.joint (.slice wo30 (List.length wr30) wc30) (.slice bo30 r.1.body.length bc30) r.1.tag),(77,.bool true),(78,.bool true),(79,.int .i64 r.2),(80,.int .i64 r.2),(81,.bool true),(82,.bool true),(83,.bool true),(84,Bm q.1.addr (.slice ao35 (List.length own35) ac35) q.1.joint (.slice wo35 (List.length wr35) wc35) (.slice bo35 q.1.body.length bc35) q.1.tag),(85,Bm q.1.addr (.slice ao41 (List.length own41) ac41) q.1.joint (.slice wo41 (List.length wr41) wc41) (.slice bo41 q.1.body.length bc41) q.1.tag),(86,.bool true),(87,.bool true),(88,.bool true),(89,.int .i64 q.2),(90,.int .i64 q.2),(91,.bool true),(92,.bool true),(93,.bool true),(94,.bool true),(95,.bool true)]
    ⟨yl r6 (Cy _ _ hF1.tg (.slice ao24 (List.length own24) ac24) (.slice wo24 (List.length wr24) wc24) (.slice bo24 r.1.body.length bc24) rfl rfl rfl) II,yl r6 (Cy _ _ hF2.tg (.slice ao30 (List.length own30) ac30) (.slice wo30 (List.length wr30) wc30) (.slice bo30 r.1.body.length bc30) rfl rfl rfl) Hj,Ae [Bm r.1.addr (.slice ao24 (List.length own24) ac24) r.1.joint (.slice wo24 (List.length wr24) wc24) (.slice bo24 r.1.body.length bc24) r.1.tag,Bm r.1.addr (.slice ao30 (List.length own30) ac30) r.1.joint (.slice wo30 (List.length wr30) wc30) (.slice bo30 r.1.body.length bc30) r.1.tag] Tryz.func21 (by kernel_rfl) rq4 ⟨(oy rfl rfl),(oy rfl rfl),ALg⟩ (Au fun W g=>Ra _ _ _ _ _ _ _ _ _ _ _ _ _ _ _ _ _ W (hF1.kn g) (hF2.kn g)),ym r5,Aa rq8,Aa rq8,JT rfl rfl (gy rfl rfl rfl) (oy rfl rfl) (oy rfl rfl) (fun _=>Bd (by simp)) (fun _=>rfl),Ag rq9,ym r5,A2 rq9 (fun _ g=>Ab (Cy _ _ hF3.tg (.slice ao35 (List.length own35) ac35) (.slice wo35 (List.length wr35) wc35) (.slice bo35 q.1.body.length bc35) rfl rfl rfl) (Am (AF g L8 (by simp)))),A2 rq9 (fun _ g=>Ab (Cy _ _ hF4.tg (.slice ao41 (List.length own41) ac41) (.slice wo41 (List.length wr41) wc41) (.slice bo41 q.1.body.length bc41) rfl rfl rfl) (Am (AF g Wb (by simp)))),Bn [Bm q.1.addr (.slice ao35 (List.length own35) ac35) q.1.joint (.slice wo35 (List.length wr35) wc35) (.slice bo35 q.1.body.length bc35) q.1.tag,Bm q.1.addr (.slice ao41 (List.length own41) ac41) q.1.joint (.slice wo41 (List.length wr41) wc41) (.slice bo41 q.1.body.length bc41) q.1.tag] Tryz.func21 (by kernel_rfl) r7 ⟨(oy rfl rfl),(oy rfl rfl),ALg⟩ (Au fun W g=>Ra _ _ _ _ _ _ _ _ _ _ _ _ _ _ _ _ _ W (hF3.kn g) (hF4.kn g)),Ag rq9,ym r5,Aa rq8,Aa rq8,JT rfl rfl (gy rfl rfl rfl) (oy rfl rfl) (oy rfl rfl) (fun _=>Bd (by simp)) (fun _=>rfl),Ag rq9,ym r5,Bn [] Tryz.func13 (by kernel_rfl) r7 trivial (Au fun W g=>Mu W),Ag rq9,ALg⟩ fun a46 w46 g46 Iq=>?_
   refine AX (v:=.bool true) Iq r6 fun a47 Kq=>?_
   have Vn:Sv _ _ [_,_,_,_,_,_,_,_,_,_,_,_,_,_,_,_,_,_,_,_,_,_,_,_,_,_,_,_,_,_,_] _:=Kq.dl [75,76,77,78,79,80,81,82,83,84,85,86,87,88,89,90,91,92,93,94,95,15,13,11,9]
   refine AE ?_
   refine k45 _ _ ?_
   replace hF1:=hF1.kn g46
   replace hF2:=hF2.kn g46
   replace hF3:=hF3.kn g46
   replace hF4:=hF4.kn g46
   replace HG:=AA (AD (AA HG g42) g43 ADT) g46
   refine ALd ?_
   repeat refine AJ ?_
   refine Ar (fn:=Tryz.f3) Vn (A7 (p:=6) Tryz.results3 Vn rfl rfl) ?_
   exact⟨rfl,HG⟩
end Go.Proofs.YtbfjfnbcmojpiaaGreat
