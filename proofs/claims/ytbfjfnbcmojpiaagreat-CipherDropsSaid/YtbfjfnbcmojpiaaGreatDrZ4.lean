import Derived.Test.YtbfjfnbcmojpiaaGreatDrYE
set_option linter.unusedSimpArgs false
set_option linter.unusedVariables false
set_option maxRecDepth 100000
set_option maxHeartbeats 4000000
namespace Go.Proofs.YtbfjfnbcmojpiaaGreat
open Go.RowKit Go.Shelf
theorem Pf (x:V):I9 (Be x)=(x.clean,0):=by
 have h:=(AHm x).rt []
 rw[List.append_nil] at h
 exact YX h
theorem MZ (x:V):(Be x).length≤64:=Nat.le_trans (Ga x) (by decide)
theorem Vg (b c:List Nat):IX (IX b c) c=b:=by
 unfold IX
 rw[MB (by rw[LB];exact Nat.le_refl _)]
 exact M1 (by rw[LB];exact Nat.le_refl _)
theorem XP {P P':List VP} {joint a:Int} {x:V} (h:hd [] joint a=true) (hv:CE P=true) (hv':CE P'=true):E2 P' (Et P [] joint a x).1=(x.clean,0):=by
 rw[IY h hv]
 rw[NV (by unfold ES;simp[h,MZ]) hv' rfl,if_pos rfl,Pf]
theorem Vh {P:List VP} {own:List (List Nat)} {a:Int} {x:V} (h:hd own 0 a=true) (hv:CE P=true) (hne:own≠[]) (hk:(Cb P a own).2=0):E2 P (Et P own 0 a x).1=(x.clean,0):=by
 rw[Fu h hv hne hk rfl rfl]
 have hr:IG P ⟨a,own,0,if (0:Int)=1 then (Cb P a own).1.map (Me (Ta (decide ((0:Int)=1)) (Cb P a own).1)) else [],IX (Be x) (Ta (decide ((0:Int)=1)) (Cb P a own).1),Tc (Ta (decide ((0:Int)=1)) (Cb P a own).1) a (IX (Be x) (Ta (decide ((0:Int)=1)) (Cb P a own).1))⟩=some (Ta (decide ((0:Int)=1)) (Cb P a own).1):=by
  unfold IG
  rw[if_neg (show ¬(0:Int)=1 by decide),if_pos hk]
 rw[NC (by unfold ES;simp[h,I3,MZ]) hv hne hr,if_pos rfl,Vg,Pf]
theorem XQ:Tryz.prog.cellsOf 25=3:=by kernel_rfl
theorem AGD:Tryz.prog.cellsOf 9=1:=by kernel_rfl
theorem AEK (d:Nat) (x:Int) (h:-9223372036854775808≤x∧x≤9223372036854775807):Tryz.prog.keyLits (d+1) 3 [.int .i64 x]=some [.int .i64 x]:=by
 unfold Program.keyLits
 rw[Tryz.underlying3]
 simp[Lit.wf,IntKind.min,IntKind.max,IntKind.signed,IntKind.bits]
 omega
theorem ACK (d:Nat) (x:Int) (h:-9223372036854775808≤x∧x≤9223372036854775807):Tryz.prog.keyLits (d+1) 2 [.int .i64 x]=some [.int .i64 x]:=by
 unfold Program.keyLits
 rw[Tryz.underlying2]
 simp[Lit.wf,IntKind.min,IntKind.max,IntKind.signed,IntKind.bits]
 omega
theorem AGE (d:Nat) (s:ByteArray) (h:s.size≤1000000):Tryz.prog.keyLits (d+1) 9 [.string s]=some [.string s.data.toList]:=by
 unfold Program.keyLits
 rw[Tryz.underlying9]
 simp only
 rw[if_pos (Nat.le_trans h (by decide))]
theorem ACL (d:Nat) (x:V) (hk:OL x.kind) (hi:OL x.int) (ht:x.text.size≤1000000):Tryz.prog.keyLits (d+2) 25 (vc x)=some [.int .i64 x.kind,.int .i64 x.int,.string x.text.data.toList]:=by
 unfold Program.keyLits
 rw[Tryz.underlying25]
 simp only
 rw[if_pos ⟨by rw[XQ];rfl,by kernel_rfl⟩]
 have e0:((vc x).drop 0).take 1=[.int .i64 x.kind]:=rfl
 have e1:((vc x).drop 1).take 1=[.int .i64 x.int]:=rfl
 have e2:((vc x).drop 2).take 1=[.string x.text]:=rfl
 simp only[List.mapM_cons,List.mapM_nil,AFH,AC2,AGD,e0,e1,e2,AEK d x.kind ⟨by have:=hk.1;omega,by have:=hk.2;omega⟩,ACK d x.int ⟨by have:=hi.1;omega,by have:=hi.2;omega⟩,AGE d x.text ht]
 simp
theorem Yh {x:V} (h:x.ok) {px py:Operand} {w:World}:(do eqGuard .eql 25 px py (Bu x) (Bu x);binOp .eql 25 (Bu x) (Bu x):Sem Value).run Tryz.prog w=.ok (.bool true) w:=
 (AAo 25 6 (by decide) (by kernel_rfl) (by kernel_rfl) (xs:=vc x) (ys:=vc x) (by simp[Value.formed,Tryz.underlying25,XQ,vc]) (by simp[Value.formed,Tryz.underlying25,XQ,vc]) (ACL 0 x (V.ok_kind h).1 (V.ok_kind h).2 (Nat.le_trans (V.ok_text h) (by decide))) (ACL 0 x (V.ok_kind h).1 (V.ok_kind h).2 (Nat.le_trans (V.ok_text h) (by decide))) (r:=true) (by simp) px py w).1
theorem AEL {P:Program} {t:TypeId} {x y:Operand} {w:World} {a b:ByteArray} {r:Bool} (h:(a.toList == b.toList)=r):(do eqGuard .eql t x y (.string a) (.string b);binOp .eql t (.string a) (.string b):Sem Value).run P w=.ok (.bool r) w:=by
 subst h
 simp[eqGuard,binOp_string_eql]
theorem b22:((bs [2,2]).toList == (⟨#[2,2]⟩:ByteArray).toList)=true:=by
 rw[show(⟨#[2,2]⟩:ByteArray)=bs [2,2] from rfl]
 simp
theorem ACM {P:Program} {ops:Array Oper} {L:Nat→Sp} {n:Nat} {w0:World} {o:Oper} {x:Operand} {src dst e d:Nat} {v:Value} {l:List Nat} (hs:P.underlying src=some (.slice e)) (he:P.underlying e=some (.int .u8)) (hd:P.underlying dst=some .string) (ho:o.op=.convert src dst x) (hd':o.dst=some d) (hg:GX ops L n o.guard) (hx:OpX L n x v) (hr:∀w,w0.grownBy w none→Sl w 1 v l.length (bv l)) (h:∀w,(L d).on w (.string (bs l))):OX P ops L n w0 o:=
 EZ hg fun a w hw hl hsz=>⟨.string (bs l),by
  have e1:=hx.eval (o:=o) (a:=a) (w:=w) (by simp[ho,Op.operands]) hl
  simp only[execOp,ho,e1,Sem.run_bind,Sem.run_pure,Result.andThen_ok,UI src dst e hs he hd (hr w hw)],Co hd' (h w)⟩
theorem AGF {w0:World} {ks:List VK} {vo:Option Addr} {vc_:Nat} {sa po:List Nat} {P:List VP} {joint ad:Int} {x:V} {r:Sd×Int} (hsa:Dg sa) (hpo:Dg po) (hr:RdK w0 (.slice vo ks.length vc_) ks) (hP:ks.map VK.p=P) (hres:Et P [] joint ad x=r) :
  ∀W,w0.grownBy W none→Calls Tryz.prog 20 #[Ao sa po (.slice vo ks.length vc_),.slice none 0 0,.int .i64 joint,.int .i64 ad,Bu x] W fun e w'=>∃v,e=.returned v∧W.grownBy w' none∧(Sp.sr w0.heap.size r).on w' v:=fun W g =>
 XL hsa hpo (hr.kn g) hP (ds:=[]) (RdD.nil W) (by decide) g.size hres
theorem AHX {W:World} {B:Nat} {d:List Nat} {v:Value} (hd:Dg d) (h:(Sp.lit1 B 23 (bv d)).on W v):RdD W v [⟨d,hd⟩]:=by
 obtain⟨A,rfl,h1,h2⟩:=h
 refine⟨?_,fun k hk=>?_⟩
 · have:=KU h2 hd
   simpa [Jo] using this
 · obtain rfl:=Option.some.inj hk
   exact(Array.getElem?_eq_some_iff.1 h2).1
section
variable {W:World} {ks:List VK} {vo:Option Addr} {vc_:Nat} {sa po:List Nat} {P:List VP} {s:Sd} {own wr:List DD} {ao wo bo:Option Addr} {ac wc bc:Nat} {q:V×Int}
theorem ACN (hsa:Dg sa) (hpo:Dg po) (hr:RdK W (.slice vo ks.length vc_) ks) (hP:ks.map VK.p=P) (h:SdF W s own wr ao wo bo ac wc bc) (hq:E2 P s=q) :
  Calls Tryz.prog 22 #[Ao sa po (.slice vo ks.length vc_),CP s.addr (.slice ao (List.length own) ac) s.joint (.slice wo (List.length wr) wc) (.slice bo s.body.length bc) s.tag] W fun e w'=>e=.returned (.tuple #[Bu q.1,.int .i64 q.2])∧W.grownBy w' none:=
 AGA hsa hpo h.tg h.by hr h.ro h.rw h.rb (by rw[hP,h.sd];exact hq)
end
theorem AE2 {k:List Nat} {l:List Nd} {a:Int} (hk:Dg k) (hl:tree k []=l) (ha:CV a=true):∃K,Dg K∧Cs l a=(K,0):=by
 refine⟨(Mm a 34 (LF k)).k,Ny _ _ _ hk,?_⟩
 rw[←hl,ZL k [] a (Ij k) ha,if_neg (by simp)]
def JQ (k:Nat):List Nat:=k::zs 31
theorem TH {k:Nat} (h:k<256):Dg (JQ k):=⟨rfl,fun x hx=>by simp[JQ,zs] at hx;omega⟩
theorem AGG (k:Nat) (w:World):(Instr.build 23 #[(0,.int .u8 (k:Int))]).run Tryz.prog w=.ok (AO (JQ k)) w:=by kernel_rfl
theorem Yi (n:Int):(Hg n).ok:=V.clean_ok _
theorem XR (n:Int):(Hg n).clean=Hg n:=V.clean_of (Yi n)
theorem Lb  (w:World) :
  Calls Tryz.prog 13 #[] w fun e w'=>e=.returned (.bool true)∧w.grownBy w' none:=by
 obtain⟨T,hT⟩:∃T,tree (kd 275 (kd 274 (JQ 7))) []=T:=⟨_,rfl⟩
 have hTv:GB T=true:=hT▸Ij _
 obtain⟨P,hP⟩:∃P,LG [] (JQ 1) T=P:=⟨_,rfl⟩
 have hv:CE P=true:=hP▸Uq rfl rfl (by decide) hTv
 have hm:(JQ 1,T)∈P:=by rw[←hP];exact Xm.2 (.inl rfl)
 obtain⟨K,hKd,hK⟩:=AE2 (BF 275 (kd 274 (JQ 7))) hT (a:=5) rfl
 have hk:=Xv (a:=5) rfl hv (Rp (Srt.of hv) hm) hK
 obtain⟨r1,hr1⟩:∃r,Et P [] 0 0 (Hg 1)=r:=⟨_,rfl⟩
 have hn:=IY (P:=P) (joint:=0) (a:=0) (x:=Hg 1) rfl hv
 have hz1:r1.2=0:=by rw[←hr1,hn]
 have hb1:r1.1.body=[2,2]:=by rw[←hr1,hn];decide +kernel
 have hk5:(Cb P 5 [JQ 1]).2=0:=by unfold Cb;rw[hk,if_pos rfl];rfl
 obtain⟨r2,hr2⟩:∃r,Et P [JQ 1] 0 5 (Hg 9)=r:=⟨_,rfl⟩
 have hz2:r2.2=0:=by rw[←hr2,Fu (K:=_) rfl hv (by simp) hk5 rfl rfl]
 have hq:E2 P r2.1=(Hg 9,0):=by rw[←hr2,Vh rfl hv (by simp) hk5,XR]
 refine BM Tryz.func13 rfl Tryz.ntmps13 rfl fun a0 sv0=>?_
 have HG:=World.grownBy.refl w none
 replace sv0:Sv 61 [] [] a0:=sv0
 refine AIi fun K1 k1=>?_
 refine AIh ?_
 refine Aa (v:=.bool false) sv0 r6 fun a2 sv2=>?_
 refine AE ?_
 refine k1 _ _ ?_
 refine AIi fun K3 k3=>?_
 refine AIh ?_
 refine FE (sv2.st w) 7 [(10,Sp.is (AO ((JQ 7)))),(11,Sp.is (Ao ((kd 273 (JQ 7))) ((kd 274 (JQ 7))) (.slice none 0 0))),(12,Sp.is (AO ((JQ 1)))),(13,Sp.vt ((P,(kd 273 (JQ 7)),(kd 276 (kd 274 (JQ 7)))),(0:Int)) ((fun _=>False))),(9,Sp.vt ((P,(kd 273 (JQ 7)),(kd 276 (kd 274 (JQ 7)))),(0:Int)) ((fun _=>False))),(14,Sp.vv (P,(kd 273 (JQ 7)),(kd 276 (kd 274 (JQ 7)))) ((fun _=>False))),(15,Sp.is (.int .i64 0))] rfl (by kernel_rfl) (by kernel_rfl) (by kernel_rfl)
  ⟨BI (vs:=[.int .u8 7]) rfl rfl trivial ⟨rfl,AIo⟩ (fun _=>AGG 7 _) (fun _=>rfl),Ad [AO ((JQ 7))] Tryz.func24 (by kernel_rfl) rq4 ⟨(oy rfl rfl),AIo⟩ (Aq fun W g=>Zb (JQ 7) (TH (by decide)) W),BI (vs:=[.int .u8 1]) rfl rfl trivial ⟨rfl,AIo⟩ (fun _=>AGG 1 _) (fun _=>rfl),Ad [Ao ((kd 273 (JQ 7))) ((kd 274 (JQ 7))) (.slice none 0 0),AO ((JQ 1))] Tryz.func36 (by kernel_rfl) rq4 ⟨(oy rfl rfl),(oy rfl rfl),AIo⟩ (AFi (ks:=[]) (BF _ _) (BF _ _) (TH (by decide)) (RdK.nil _) rfl hT ((UH rfl rfl (by decide)).trans (by rw[←hP];rfl))),ym r5,BH rq4 (fun w u h=>Pb w u h),BH rq4 (fun w u h=>Pc w u h),AIo⟩ fun a4 w4 g4 st4=>?_
 obtain⟨hn4,hd4,e4_10,e4_11,e4_12,e4_13,e4_9,e4_14,e4_15,e4_0,-⟩:=st4
 obtain⟨ao5,cap5,ks5,e4_14q,hp5,hk5,hf5⟩:=e4_14
 replace HG:=AA HG g4
 have sv4:Sv 61 [] [(0,_),(14,_),(15,_)] a4:=⟨hn4,hd4,e4_0,e4_14q,e4_15,AIo⟩
 refine As (T:=36) (Z:=([bv AS,bv AS,[.slice none 0 0]].flatten)) sv4 rfl rfl rfl (fun a w=>by kernel_rfl) fun a6 w6 AIf Yj g6 z6 J0 sv6=>?_
 have AEM:=Bq HG Yj
 have Vi:=Ax (hk5.lt) Yj
 refine An sv6 r7 (BX (BF _ _) (BF _ _) (.slice ao5 ks5.length cap5) rfl) J0 (by first|rfl|simp[AZ,AI,AQ,(BF _ _).1,(BF _ _).1]) fun w7 g7 h7=>?_
 replace hk5:=(hk5.kn g6).offR g7 (AU Vi)
 replace HG:=AD (AA HG g6) g7 AEM
 replace J0:=h7
 refine Aa (v:=.int .i64 0) sv6 r6 fun a8 sv8=>?_
 refine AE ?_
 refine k3 _ _ ?_
 refine AIi fun K9 k9=>?_
 refine DB (sv8.st w7) (by kernel_rfl) 7 [(17,Sp.is (Ao ((kd 273 (JQ 7))) ((kd 276 (kd 274 (JQ 7)))) (.slice ao5 ks5.length cap5))),(18,Sp.is (Bu ((Hg 1)))),(19,Sp.sr w7.heap.size r1),(16,Sp.sr w7.heap.size r1),(20,Sp.sl w7.heap.size r1.1),(21,Sp.is (.int .i64 r1.2)),(3,Sp.new w7.heap.size (([[.int .i64 0],[.slice none 0 0],[.int .i64 0],[.slice none 0 0],[.slice none 0 0],bv AS].flatten)) 31)] rfl (by kernel_rfl) (by kernel_rfl) (by kernel_rfl) [5] (by kernel_rfl)
  ⟨yl r6 (BX (BF _ _) (BF _ _) (.slice ao5 ks5.length cap5) rfl) J0,Ad [.int .i64 1] Tryz.func37 (by kernel_rfl) rq4 ⟨rfl,AIo⟩ (Aq fun W g=>ND 1 W),Ad [Ao ((kd 273 (JQ 7))) ((kd 276 (kd 274 (JQ 7)))) (.slice ao5 ks5.length cap5),.slice none 0 0,.int .i64 0,.int .i64 0,Bu ((Hg 1))] Tryz.func20 (by kernel_rfl) rq4 ⟨(oy rfl rfl),rfl,rfl,rfl,(oy rfl rfl),AIo⟩ (AGF (BF _ _) (BF _ _) hk5 hp5 hr1),ym r5,BH rq4 (fun w u h=>Yf w u h),BH rq4 (fun w u h=>NE w u h),Lv rfl trivial (Nat.le_refl _) (fun a w=>by kernel_rfl) (fun _ _ h=>h),AIo⟩ ⟨fun o ho=>by obtain rfl:=Option.some.inj ho;exact Im rfl rfl rfl trivial (fun w u h=>NE w u h),AIo⟩
  [3] (by kernel_rfl) ⟨Sp.new_lt,AIo⟩ ⟨.inl rfl,.inl rfl,.inl rfl,.inl rfl,.inl rfl,.inl rfl,.inr ⟨rfl,(([[.int .i64 0],[.slice none 0 0],[.int .i64 0],[.slice none 0 0],[.slice none 0 0],bv AS].flatten)).toArray,31,fun a w=>by kernel_rfl⟩,AIo⟩ (by kernel_rfl) fun a10 w10 g10 st10 nd10=>?_
 obtain⟨hn10,hd10,e10_17,e10_18,e10_19,e10_16,e10_20,e10_21,e10_3,e10_2,e10_1,e10_0,e10_14,e10_15,-⟩:=st10
 obtain⟨own11,wr11,ao11,wo11,bo11,ac11,wc11,bc11,e10_20q,hF1,fr11⟩:=e10_20
 obtain⟨AHY,e10_3q,Pg,IH⟩:=e10_3
 have Qn:=Hk J0 Pg
 have ACO:=UL HG Pg
 have TI:=Lu (hk5.lt) Pg
 have TJ:=SdF.ap hF1 IH (by decide)
 have CK:Sv 61 [] [(2,_),(1,_),(0,_),(14,_),(15,_),(20,_),(21,_),(3,_)] a10:=⟨hn10,hd10,e10_2,e10_1,e10_0,e10_14,e10_15,e10_20q,e10_21,e10_3q,AIo⟩
 refine An CK r7 (EU _ _ hF1.tg (.slice ao11 (List.length own11) ac11) (.slice wo11 (List.length wr11) wc11) (.slice bo11 r1.1.body.length bc11) rfl rfl rfl) IH (Ek AR hF1.tg) fun w12 g12 h12=>?_
 replace J0:=Ab g12 (AC g10 J0) (Ne.symm Qn)
 replace hk5:=(hk5.kn g10).offR g12 (AU TI)
 replace hF1:=hF1.offR g12 (AU TJ)
 replace HG:=AD (AA HG g10) g12 ACO
 replace IH:=h12
 refine Aa (v:=.int .i64 r1.2) CK r6 fun a13 DI=>?_
 refine AE ?_
 refine k9 _ _ ?_
 refine AIi fun K14 k14=>?_
 refine DB (DI.st w12) (by kernel_rfl) 9 [(23,Sp.is (Ao ((kd 273 (JQ 7))) ((kd 276 (kd 274 (JQ 7)))) (.slice ao5 ks5.length cap5))),(24,Sp.is (AO ((JQ 1)))),(25,Sp.lit1 w12.heap.size 23 (bv (JQ 1))),(26,Sp.is (Bu ((Hg 9)))),(27,Sp.sr w12.heap.size r2),(22,Sp.sr w12.heap.size r2),(28,Sp.sl w12.heap.size r2.1),(29,Sp.is (.int .i64 r2.2)),(5,Sp.new w12.heap.size (([[.int .i64 0],[.slice none 0 0],[.int .i64 0],[.slice none 0 0],[.slice none 0 0],bv AS].flatten)) 31)] rfl (by kernel_rfl) (by kernel_rfl) (by kernel_rfl) [7] (by kernel_rfl)
  ⟨yl r6 (BX (BF _ _) (BF _ _) (.slice ao5 ks5.length cap5) rfl) J0,BI (vs:=[.int .u8 1]) rfl rfl trivial ⟨rfl,AIo⟩ (fun _=>AGG 1 _) (fun _=>rfl),N1 rfl rfl trivial (Nat.le_refl _) rfl (fun W hw v h=>match v,h with|_,⟨rfl,_⟩=>⟨bv (JQ 1),Zy (TH (by decide)) W,fun w' _ hh=>⟨_,rfl,hw.size,hh⟩⟩),Ad [.int .i64 9] Tryz.func37 (by kernel_rfl) rq4 ⟨rfl,AIo⟩ (Aq fun W g=>ND 9 W),UP (Sp.sr w12.heap.size r2) rfl rfl trivial rfl (fun W g av h=>match av,h with|[_,_,_,_,_],⟨rfl,hv,rfl,rfl,rfl,_⟩=>XL (BF _ _) (BF _ _) (hk5.kn g) hp5 (AHX (TH (by decide)) hv) (by decide) g.size hr2) (fun _ _ h=>h) (E5 Tryz.func20 (by kernel_rfl) rfl),ym r5,BH rq4 (fun w u h=>Yf w u h),BH rq4 (fun w u h=>NE w u h),Lv rfl trivial (Nat.le_refl _) (fun a w=>by kernel_rfl) (fun _ _ h=>h),AIo⟩ ⟨fun o ho=>by obtain rfl:=Option.some.inj ho;exact Im rfl rfl rfl trivial (fun w u h=>NE w u h),AIo⟩
  [5] (by kernel_rfl) ⟨Sp.new_lt,AIo⟩ ⟨.inl rfl,.inl rfl,.inl rfl,.inl rfl,.inl rfl,.inl rfl,.inl rfl,.inl rfl,.inr ⟨rfl,(([[.int .i64 0],[.slice none 0 0],[.int .i64 0],[.slice none 0 0],[.slice none 0 0],bv AS].flatten)).toArray,31,fun a w=>by kernel_rfl⟩,AIo⟩ (by kernel_rfl) fun a15 w15 g15 st15 nd15=>?_
 obtain⟨hn15,hd15,e15_23,e15_24,e15_25,e15_26,e15_27,e15_22,e15_28,e15_29,e15_5,e15_4,e15_2,e15_1,e15_0,e15_14,e15_15,e15_20,e15_21,e15_3,-⟩:=st15
 obtain⟨own16,wr16,ao16,wo16,bo16,ac16,wc16,bc16,e15_28q,hF2,fr16⟩:=e15_28
 obtain⟨AIU,e15_5q,J1,TK⟩:=e15_5
 have Qo:=Hk J0 J1
 have Ph:=Hk IH J1
 have ACP:=UL HG J1
 have TL:=Lu (hk5.lt) J1
 have TM:=Lu (hF1.lt) J1
 have TO:=SdF.ap hF2 TK (by decide)
 have LS:Sv 61 [] [(4,_),(2,_),(1,_),(0,_),(14,_),(15,_),(20,_),(21,_),(3,_),(28,_),(29,_),(5,_)] a15:=⟨hn15,hd15,e15_4,e15_2,e15_1,e15_0,e15_14,e15_15,e15_20,e15_21,e15_3,e15_28q,e15_29,e15_5q,AIo⟩
 refine An LS r7 (EU _ _ hF2.tg (.slice ao16 (List.length own16) ac16) (.slice wo16 (List.length wr16) wc16) (.slice bo16 r2.1.body.length bc16) rfl rfl rfl) TK (Ek AR hF2.tg) fun w17 g17 h17=>?_
 replace J0:=Ab g17 (AC g15 J0) (Ne.symm Qo)
 replace hk5:=(hk5.kn g15).offR g17 (AU TL)
 replace hF2:=hF2.offR g17 (AU TO)
 replace TK:=h17
 refine Aa (v:=.int .i64 r2.2) LS r6 fun a18 CS=>?_
 refine AE ?_
 refine k14 _ _ ?_
 refine AIi fun K19 k19=>?_
 refine AIh ?_
 refine AL CS 6 [(31,Ao ((kd 273 (JQ 7))) ((kd 276 (kd 274 (JQ 7)))) (.slice ao5 ks5.length cap5)),(32,CP r2.1.addr (.slice ao16 (List.length own16) ac16) r2.1.joint (.slice wo16 (List.length wr16) wc16) (.slice bo16 r2.1.body.length bc16) r2.1.tag),(33,.tuple #[Bu ((Hg 9)),.int .i64 0]),(30,.tuple #[Bu ((Hg 9)),.int .i64 0]),(34,Bu ((Hg 9))),(35,.int .i64 0)]
  ⟨yl r6 (BX (BF _ _) (BF _ _) (.slice ao5 ks5.length cap5) rfl) J0,yl r6 (EU _ _ hF2.tg (.slice ao16 (List.length own16) ac16) (.slice wo16 (List.length wr16) wc16) (.slice bo16 r2.1.body.length bc16) rfl rfl rfl) TK,Ad [Ao ((kd 273 (JQ 7))) ((kd 276 (kd 274 (JQ 7)))) (.slice ao5 ks5.length cap5),CP r2.1.addr (.slice ao16 (List.length own16) ac16) r2.1.joint (.slice wo16 (List.length wr16) wc16) (.slice bo16 r2.1.body.length bc16) r2.1.tag] Tryz.func22 (by kernel_rfl) rq4 ⟨(oy rfl rfl),(oy rfl rfl),AIo⟩ (Aq fun W g=>ACN (q:=(Hg 9,0)) (BF _ _) (BF _ _) (hk5.kn g) hp5 (hF2.kn g) hq),ym r5,BH rq4 (fun _ _ h=>⟨_,_,h,rfl,rfl⟩),BH rq4 (fun _ _ h=>⟨_,_,h,rfl,rfl⟩),AIo⟩ fun a20 w20 g20 EL=>?_
 replace IH:=AC g20 (Ab g17 (AC g15 IH) (Ne.symm Ph))
 replace hF1:=((hF1.kn g15).offR g17 (AU TM)).kn g20
 replace hF2:=hF2.kn g20
 replace HG:=AA (AD (AA HG g15) g17 ACP) g20
 refine As (T:=25) (Z:=[.int .i64 0,.int .i64 0,.string ⟨#[]⟩]) EL rfl rfl rfl (fun a w=>by kernel_rfl) fun a21 w21 AIV Ma g21 z21 XS DY=>?_
 have Pi:=Ar IH Ma
 have ACQ:=Bq HG Ma
 have TP:=Ax (hF1.lt) Ma
 have TQ:=Ax (hF2.lt) Ma
 refine An DY r7 (Dm ((Hg 9))) XS rfl fun w22 g22 h22=>?_
 replace IH:=Ab g22 (AC g21 IH) (Ne.symm Pi)
 replace hF1:=(hF1.kn g21).offR g22 (AU TP)
 replace XS:=h22
 refine Aa (v:=.int .i64 0) DY r6 fun a23 Cg=>?_
 have DZ:Sv _ _ [_,_,_,_,_,_,_,_,_,_,_,_,_,_,_] _:=Cg.dl [31,32,33,30,34,35]
 refine AE ?_
 refine k19 _ _ ?_
 refine AIi fun K25 k25=>?_
 refine Cv (DZ.dl [0]) [(36,.int .i64 0),(37,.bool true),(38,.bool true),(39,.int .i64 r1.2),(40,.bool true),(41,.bool true),(42,.bool true),(43,pk AHY 4),(44,.slice bo11 r1.1.body.length bc11),(45,.string (bs r1.1.body)),(46,.bool true),(47,.bool true),(48,.bool true),(49,.int .i64 r2.2),(50,.bool true),(51,.bool true),(52,.bool true),(53,.int .i64 0),(54,.bool true),(55,.bool true),(56,.bool true),(57,Bu ((Hg 9))),(58,Bu ((Hg 9))),(59,.bool true),(60,.bool true),(0,.bool true)]
  ⟨ym r5,Cm r6 (fun _=>CB rfl),ym r5,Av rq8,BA rq9 (fun _=>CB (by rw[hz1];rfl)),A3 rq9,ym r5,BL rq9 (fun _=>by kernel_rfl),Az rq9 (fun _ g=>Ae (F9 (.slice bo11 r1.1.body.length bc11) rfl) (BR (L:=[[.int .i64 r1.1.addr],[.slice ao11 (List.length own11) ac11],[.int .i64 r1.1.joint],[.slice wo11 (List.length wr11) wc11],[.slice bo11 r1.1.body.length bc11],bv r1.1.tag]) (i:=4) (AF g IH (by simp)) rfl rfl)),ACM (l:=r1.1.body) Tryz.underlying29 Tryz.underlying5 Tryz.underlying9 rfl rfl (gy rfl rfl rfl) (oy rfl rfl) (fun W g=>(hF1.kn g).rb.1) (fun _=>rfl),BA rq9 (fun _=>AEL (by rw[hb1];exact b22)),A3 rq9,ym r5,Av rq8,BA rq9 (fun _=>CB (by rw[hz2];rfl)),A3 rq9,ym r5,Av rq8,BA rq9 (fun _=>CB rfl),A3 rq9,ym r5,Az rq9 (fun _ g=>Ae (Dm ((Hg 9))) (Al (AF g XS (by simp)))),CG [.int .i64 9] Tryz.func37 (by kernel_rfl) r7 ⟨rfl,AIo⟩ (Aq fun W g=>ND 9 W),Mr rfl rfl (gy rfl rfl rfl) (oy rfl rfl) (oy rfl rfl) (fun _=>Yh (Yi 9)) (fun _=>rfl),A3 rq9,GK 60 0 (.inr rfl) rfl rfl trivial (fun _ _ h=>h),AIo⟩ fun a26 w26 g26 CW=>?_
 refine k25 _ _ ?_
 replace hF1:=hF1.kn g26
 replace hF2:=((hF2.kn g21).offR g22 (AU TQ)).kn g26
 replace HG:=AA (AD (AA HG g21) g22 ACQ) g26
 refine AIl ?_
 repeat refine AM ?_
 refine A8 (fn:=Tryz.f13) CW (A7 (p:=0) Tryz.results13 CW rfl rfl) ?_
 exact⟨rfl,HG⟩
theorem XT (seed:List Nat):CE (V6 seed).1=true:=(Jz seed 6 (by decide)).1
theorem AHZ (seed:List Nat):Dg (V6 seed).2.1∧Dg (V6 seed).2.2:=⟨BF _ _,F8 _ _⟩
theorem ACW {w0:World} {seed:List Nat} (hse:Dg seed):∀W,w0.grownBy W none→Calls Tryz.prog 14 #[AO seed] W fun e w'=>∃v,e=.returned v∧W.grownBy w' none∧(Sp.vv (V6 seed) (fun _=>False)).on w' v:=fun W _=>XM seed hse W
theorem TR (x:V) (w:World):Calls Tryz.prog 12 #[Bu x] w fun e w'=>e=.returned (.bool (decide (x.text.size≤100)))∧w.grownBy w' none:=XH x _ rfl w
theorem ACR {c k:List Nat} (hc:Dg c):Me (Me c k) k=c:=by
 unfold Me
 exact M1 (by rw[hc.1,show(msk k).length=32 from(BF 283 k).1];exact Nat.le_refl _)
theorem ACS {K:List (List Nat)} {f:List Nat→List Nat} (h:0<K.length):KQ (K.map f) 0=f (KQ K 0):=by
 cases K with
 | nil=>simp at h
 | cons a K=>rfl
theorem NW {P:List VP} {own:List (List Nat)} {joint a:Int} {x:V} (h:hd own joint a=true) (hv:CE P=true) (hk:∀j,j<own.length→(Ck P (KQ own j) a).2=0) :
   E2 P (Et P own joint a x).1=(x.clean,0)∧(Et P own joint a x).2=0∧ES (Et P own joint a x).1=true:=by
 obtain⟨K1,K2⟩:=Jt hk
 obtain⟨haa,hjj,hol,hasc⟩:=YR h
 by_cases hne:own=[]
 · subst hne
   refine⟨XP h hv hv,?_,?_⟩
   · rw[IY h hv]
   · rw[IY h hv];unfold ES;simp[h,MZ]
 · have hpos:0<own.length:=List.length_pos_iff.2 hne
   rcases hjj with rfl|rfl
   · refine⟨Vh h hv hne K2,?_,?_⟩
     · rw[Fu h hv hne K2 rfl rfl]
     · rw[Fu h hv hne K2 rfl rfl];unfold ES;simp[h,I3,MZ]
   · obtain⟨c,hc⟩:∃c,Ta (decide ((1:Int)=1)) (Cb P a own).1=c:=⟨_,rfl⟩
     have hcd:Dg c:=hc▸M2 _ _
     rw[Fu h hv hne K2 rfl hc]
     have hw:(Cb P a own).1.length=own.length:=by rw[K1,List.length_map]
     have hv2:ES ⟨a,own,1,if (1:Int)=1 then (Cb P a own).1.map (Me c) else [],IX (Be x) c,Tc c a (IX (Be x) c)⟩=true:=by
       unfold ES;simp[h,I3,MZ,hw]
     refine⟨?_,rfl,hv2⟩
     have hr:IG P ⟨a,own,1,if (1:Int)=1 then (Cb P a own).1.map (Me c) else [],IX (Be x) c,Tc c a (IX (Be x) c)⟩=some c:=by
       unfold IG
       rw[if_pos rfl]
       have:=PS (P:=P) (a:=a) (own:=own) (wr:=(Cb P a own).1.map (Me c)) (i:=0) hpos (fun j hj=>absurd hj (by omega)) (hk 0 hpos)
       rw[if_pos rfl,this,ACS (by omega)]
       congr 1
       have e:KQ (Cb P a own).1 0=(Ck P (KQ own 0) a).1:=by
        rw[K1]
        cases own with
        | nil=>simp at hpos
        | cons o l=>rfl
       rw[e]
       exact ACR hcd
     rw[NC hv2 hv hne hr,if_pos rfl,Vg,Pf]
theorem Mb {n:Int}:∀{i:Nat} {d:DD},d∈EF n i→∃j,j<i∧Pa n j=1∧d=Kr j
 | 0,d,h=>by simp[EF] at h
 | i+1,d,h=>by
  unfold EF at h
  by_cases hb:Pa n i=1
  · rw[if_pos hb,List.mem_append,List.mem_singleton] at h
    rcases h with h|h
    · obtain⟨j,h1,h2,h3⟩:=Mb h
      exact⟨j,by omega,h2,h3⟩
    · exact⟨i,by omega,hb,h⟩
  · rw[if_neg hb] at h
    obtain⟨j,h1,h2,h3⟩:=Mb h
    exact⟨j,by omega,h2,h3⟩
theorem Vj {n:Int}:∀{i j:Nat},j<i→Pa n j=1→Kr j∈EF n i
 | 0,j,h,_=>by omega
 | i+1,j,h,hb=>by
  unfold EF
  by_cases e:j=i
  · subst e;rw[if_pos hb];simp
  · have:=Vj (n:=n) (i:=i) (j:=j) (by omega) hb
    split
    · exact List.mem_append_left _ this
    · exact this
def NX (b:Bool) (i:Nat):List (List Nat):=if b then [E4 i] else []
theorem GQ (n:Int) (i:Nat):(EF n (i+1)).map DD.x=(EF n i).map DD.x++NX (decide (Pa n i=1)) i:=by
 unfold NX
 by_cases hb:Pa n i=1
 · rw[show EF n (i+1)=EF n i++[Kr i] from if_pos hb,List.map_append,decide_eq_true hb];rfl
 · rw[show EF n (i+1)=EF n i from if_neg hb,decide_eq_false hb];simp
theorem AH9:∀b0 b1 b2 b3 b4 b5:Bool,asc ([]++NX b0 0++NX b1 1++NX b2 2++NX b3 3++NX b4 4++NX b5 5)=true:=by decide +kernel
theorem AEN (n:Int):asc ((EF n 6).map DD.x)=true:=by
 rw[GQ,GQ,GQ,GQ,GQ,GQ]
 exact AH9 _ _ _ _ _ _
theorem ACT (n:Int) (b:Bool) (a:Int):hd ((EF n 6).map DD.x) (jt b) (TC a)=true:=by
 have hl:=OH n 6
 unfold hd
 rw[Jy,AEN,List.length_map,decide_eq_true (show(EF n 6).length≤16 by omega)]
 cases b<;>rfl
theorem AIA {T:Nat→List Nd} {P:List VP} {i j:Nat} (h:OV T P i) (hj:j<i) {a:Int} (ha:CV a=true):Ck P (E4 j) a=Cs (T j) a:=
 Xv ha h.1 (Rp (Srt.of h.1) ((h.2.2 _).2 ⟨j,hj,rfl⟩)) rfl
theorem ACU {seed:List Nat} {j:Nat} (hj:j<6) {a:Int} (ha:CV a=true):(Ck (V6 seed).1 (E4 j) a).2=0:=by
 rw[show(V6 seed).1=Pd seed 6 from rfl,AIA (Jz seed 6 (by decide)) hj ha]
 obtain⟨K,_,hK⟩:=AE2 (l:=Tsd seed j) (BF 275 (Vf seed j)) rfl ha
 rw[hK]
theorem Yk {l:List (List Nat)} {j:Nat} (h:j<l.length):KQ l j∈l:=by rw[Wv h];exact List.getElem_mem _
theorem AE3 (seed:List Nat) (n a:Int):∀j,j<((EF n 6).map DD.x).length→(Ck (V6 seed).1 (KQ ((EF n 6).map DD.x) j) (TC a)).2=0:=fun j hj=>by
 obtain⟨d,hd,e⟩:=List.mem_map.1 (Yk hj)
 obtain⟨k,hk,_,rfl⟩:=Mb hd
 rw[←e]
 exact ACU hk (Jy a)
theorem AAI (seed:List Nat) (x:V) (n:Int) (b:Bool) (a:Int):E2 (V6 seed).1 (Pe (V6 seed).1 x n b a).1=(x.clean,0)∧(Pe (V6 seed).1 x n b a).2=0∧ES (Pe (V6 seed).1 x n b a).1=true:=
 NW (ACT n b a) (XT seed) (AE3 seed n a)
theorem ACV {w0:World} {ks:List VK} {vo:Option Addr} {vc_:Nat} {sa po:List Nat} {P:List VP} {x:V} {n:Int} {b:Bool} {a:Int} {r:Sd×Int} (hsa:Dg sa) (hpo:Dg po) (hr:RdK w0 (.slice vo ks.length vc_) ks) (hP:ks.map VK.p=P) (hres:Pe P x n b a=r) :
  ∀W,w0.grownBy W none→Calls Tryz.prog 15 #[Ef x n b a,Ao sa po (.slice vo ks.length vc_)] W fun e w'=>∃v,e=.returned v∧W.grownBy w' none∧(Sp.sr w0.heap.size r).on w' v:=fun W g=>by
 refine(XN ks vo vc_ sa po hsa hpo P hP x n b a r hres W (hr.kn g)).mono ?_
 rintro e w' ⟨v,h1,h2,own,wr,ao,wo,bo,ac,wc,bc,h3,h4,h5⟩
 exact⟨v,h1,h2,own,wr,ao,wo,bo,ac,wc,bc,h3,h4,fun k hk=>Nat.le_trans g.size (h5 k hk)⟩
section
variable {W:World} {ks:List VK} {vo:Option Addr} {vc_:Nat} {sa po:List Nat} {P:List VP} {s:Sd} {own wr:List DD} {ao wo bo:Option Addr} {ac wc bc:Nat} {q:V×Int} {b:Bool}
end
theorem Yl (m:Nat) (hm:(BitVec.ofInt 64 (m:Int)).toNat=m) (hm2:m<9223372036854775808) (n:Int):bits .and .i64 n (m:Int)=(((n%18446744073709551616).toNat &&& m:Nat):Int):=by
 have h:bits .and .i64 n (m:Int)=IntKind.i64.wrap (((BitVec.ofInt 64 n) &&& (BitVec.ofInt 64 (m:Int))).toNat:Int):=rfl
 rw[h,BitVec.toNat_and,hm,BitVec.toNat_ofInt]
 have hle:(n%((2^64:Nat):Int)).toNat &&& m≤m:=Nat.and_le_right
 exact A1 (by omega) (by omega)
theorem AGH (n:Int):bits .and .i64 n 63=n%64:=by
 rw[show(63:Int)=((63:Nat):Int) from rfl,Yl 63 (by decide) (by decide) n,show(63:Nat)=2^6-1 from rfl,Nat.and_two_pow_sub_one_eq_mod]
 omega
theorem AGI (n:Int):bits .and .i64 n 1=n%2:=by
 rw[show(1:Int)=((1:Nat):Int) from rfl,Yl 1 (by decide) (by decide) n,show(1:Nat)=2^1-1 from rfl,Nat.and_two_pow_sub_one_eq_mod]
 omega
theorem AEO (n:Int) (i:Nat):Pa n i=n/2^i%2:=AGI _
theorem AGJ {n:Int} (h:¬bits .and .i64 n 63=0):(EF n 6).map DD.x≠[]:=by
 intro he
 have h0:EF n 6=[]:=List.map_eq_nil_iff.1 he
 have hb:∀j,j<6→¬Pa n j=1:=fun j hj hs=>by
  have:=Vj hj hs
  rw[h0] at this
  exact(List.not_mem_nil this)
 rw[AGH] at h
 have b0:=hb 0 (by omega)
 have b1:=hb 1 (by omega)
 have b2:=hb 2 (by omega)
 have b3:=hb 3 (by omega)
 have b4:=hb 4 (by omega)
 have b5:=hb 5 (by omega)
 rw[AEO] at b0 b1 b2 b3 b4 b5
 simp only[Int.pow_succ,Int.pow_zero] at b0 b1 b2 b3 b4 b5
 omega
theorem AAJ {P P':List VP} {own:List (List Nat)} {joint a:Int} {x:V} (h:hd own joint a=true) (hv:CE P=true) (hk:∀j,j<own.length→(Ck P (KQ own j) a).2=0) (hv':CE P'=true) (hne:own≠[]) (hl:∀j,j<own.length→(Ck P' (KQ own j) a).2≠0) :
   E2 P' (Et P own joint a x).1=(V.nul,10):=by
 have hvs:=(NW (x:=x) h hv hk).2.2
 obtain⟨K1,K2⟩:=Jt hk
 rw[Fu h hv hne K2 rfl rfl] at hvs ⊢
 refine PZ hvs hv' hne ?_
 unfold IG
 by_cases hj:joint=1
 · subst hj
   rw[if_pos rfl]
   exact NA hl
 · have hpos:0<own.length:=List.length_pos_iff.2 hne
   have he:=KT (P:=P') (a:=a) (own:=own) (i:=0) hpos (fun j hj=>absurd hj (by omega)) (hl 0 hpos)
   show(if joint=1 then _ else if (Cb P' a own).2=0 then _ else _)=_
   rw[if_neg hj,if_neg (by rw[he];exact hl 0 hpos)]
def OD (T:Nat→List Nd) (P:List VP) (i:Nat):Prop:=CE P=true∧∀x,x∈P↔∃j,i≤j∧j<6∧x=(E4 j,T j)
theorem OD.of {T:Nat→List Nd} {P:List VP} (h:OV T P 6):OD T P 0:=⟨h.1,fun x=>by
 rw[h.2.2 x]
 exact⟨fun⟨j,h1,h2⟩=>⟨j,by omega,h1,h2⟩,fun⟨j,_,h1,h2⟩=>⟨j,h1,h2⟩⟩⟩
theorem OD.has {T:Nat→List Nd} {P:List VP} {i j:Nat} (h:OD T P i) (hi:i≤j) (hj:j<6):Hd P (E4 j)=true:=(Rp (Srt.of h.1) ((h.2 _).2 ⟨j,hi,hj,rfl⟩)).1
theorem OD.succ {T:Nat→List Nd} {P:List VP} {i:Nat} (h:OD T P i) (hi:i<6):OD T (Gf P (E4 i)) (i+1):=by
 have hf:=h.has (Nat.le_refl i) hi
 refine⟨Zm h.1 hf,fun x=>?_⟩
 rw[UG (Srt.of h.1) hf,h.2 x]
 constructor
 · rintro ⟨⟨j,h1,h2,rfl⟩,hne⟩
   refine⟨j,?_,h2,rfl⟩
   have:j≠i:=fun e=>hne (by rw[e])
   omega
 · rintro ⟨j,h1,h2,rfl⟩
   refine⟨⟨j,by omega,h2,rfl⟩,fun e=>?_⟩
   have:=Ye h2 hi e
   omega
theorem OD.gone {T:Nat→List Nd} {P:List VP} {j:Nat} (h:OD T P 6):Hd P (E4 j)=false:=Xl (Srt.of h.1) fun hm=>by
 obtain⟨x,hx,e⟩:=List.mem_map.1 hm
 obtain⟨k,h1,h2,_⟩:=(h.2 x).1 hx
 omega
theorem AAK {seed:List Nat} {T:Nat→List Nd} {P:List VP} (h:OD T P 6) {x:V} {n:Int} {b:Bool} {a:Int} (hn:¬bits .and .i64 n 63=0):E2 P (Pe (V6 seed).1 x n b a).1=(V.nul,10):=
 AAJ (ACT n b a) (XT seed) (AE3 seed n a) h.1 (AGJ hn) fun j hj=>by
  obtain⟨d,hd,e⟩:=List.mem_map.1 (Yk hj)
  obtain⟨k,hk,_,rfl⟩:=Mb hd
  rw[←e,RK (Jy a) h.1 (show Hd P (Kr k).x=false from h.gone)]
  decide
theorem Yn (seed:List Nat) (hse:Dg seed) (x:V) (n:Int) (b:Bool) (ca:Int) (w:World) :
   Calls Tryz.prog 8 #[AO seed,Ef x n b ca] w fun e w'=>e=.returned (.bool true)∧w.grownBy w' none:=by
 obtain⟨vx,hvx⟩:∃v,V6 seed=v:=⟨_,rfl⟩
 have hvd:Dg vx.2.1∧Dg vx.2.2:=hvx▸AHZ seed
 have hvv:CE vx.1=true:=hvx▸XT seed
 obtain⟨r,hres⟩:∃r,Pe vx.1 x n b ca=r:=⟨_,rfl⟩
 have hz:=(AAI seed x n b ca).2.1
 rw[hvx,hres] at hz
 have hO0:OD (Tsd seed) vx.1 0:=hvx▸OD.of (Jz seed 6 (Nat.le_refl _))
 refine BM Tryz.func8 rfl Tryz.ntmps8 rfl fun a0 sv0=>?_
 have HG:=World.grownBy.refl w none
 replace sv0:Sv 64 [] [(0,AO seed),(1,Ef x n b ca)] a0:=sv0
 refine AIi fun K1 k1=>?_
 refine AIh ?_
 refine BT sv0 r6 (Bn seed hse.1) fun a2 w2 CC Cq g2 z2 AG sv2=>?_
 refine BT sv2 r6 (Vd x n b ca) fun a3 w3 Bo EC g3 z3 AJ sv3=>?_
 replace AG:=AC g3 AG
 replace HG:=AA (AA HG g2) g3
 refine Aa (v:=.bool false) sv3 r6 fun a4 sv4=>?_
 refine AE ?_
 refine k1 _ _ ?_
 refine AIi fun K5 k5=>?_
 refine AIi fun K6 k6=>?_
 rcases(show ¬x.text.size≤100∨(x.text.size≤100∧bits .and .i64 n 63=0)∨(x.text.size≤100∧¬bits .and .i64 n 63=0) by by_cases h:x.text.size≤100<;>by_cases h2:bits .and .i64 n 63=0<;>simp[h,h2]) with hsm|⟨hsm,hn⟩|⟨hsm,hn⟩
 · refine AIh ?_
   refine AL sv4 10 [(13,pt Bo),(14,Bu x),(15,.bool false),(16,.bool true),(17,.bool true),(18,undef),(19,undef),(20,undef),(21,undef),(22,.bool true)]
     ⟨yf r6 (fun _=>by kernel_rfl),yp (i:=0) r6 (Dm x) AJ rfl rfl,Ad [Bu x] Tryz.func12 (by kernel_rfl) rq4 ⟨(oy rfl rfl),AIo⟩ (Aq fun W g=>(TR x W).mono fun e w' ⟨h1,h2⟩=>⟨by rw[h1,decide_eq_false hsm],h2⟩),Cn r6 (fun _=>BV),ym r5,AX r6,AX r6,AX r6,AX r6,B6 r7,AIo⟩ fun a7 w7 g7 sv7=>?_
   refine AE ?_
   refine k6 _ _ ?_
   refine Ap sv7 rfl rfl ?_
   refine AIi fun K8 k8=>?_
   refine AIh ?_
   refine AL sv7 1 [(23,.bool true)]
     ⟨Ad [] Tryz.func13 (by kernel_rfl) rq4 trivial (Aq fun W g=>Lb W),AIo⟩ fun a9 w9 g9 sv9=>?_
   refine Aa (v:=.bool true) sv9 r6 fun a10 CK=>?_
   refine AE ?_
   refine k8 _ _ ?_
   replace AG:=AC g9 (AC g7 AG)
   replace AJ:=AC g9 (AC g7 AJ)
   replace HG:=AA (AA HG g7) g9
   refine AIl ?_
   repeat refine AM ?_
   refine A8 (fn:=Tryz.f8) CK (A7 (p:=4) Tryz.results8 CK rfl rfl) ?_
   exact⟨rfl,HG⟩
 · refine AIh ?_
   refine AL sv4 10 [(13,pt Bo),(14,Bu x),(15,.bool true),(16,.bool false),(17,.bool false),(18,pk Bo 3),(19,.int .i64 n),(20,.int .i64 ((bits .and .i64 n 63))),(21,.bool true),(22,.bool true)]
     ⟨yf r6 (fun _=>by kernel_rfl),yp (i:=0) r6 (Dm x) AJ rfl rfl,Ad [Bu x] Tryz.func12 (by kernel_rfl) rq4 ⟨(oy rfl rfl),AIo⟩ (Aq fun W g=>(TR x W).mono fun e w' ⟨h1,h2⟩=>⟨by rw[h1,decide_eq_true hsm],h2⟩),Cn r6 (fun _=>BV),ym r5,BL rq9 (fun _=>by kernel_rfl),Az rq9 (fun _ g=>Ae (EA n) (BR (L:=[vc x,[.int .i64 n],[.bool b],[.int .i64 ca]]) (i:=1) (AF g AJ (by simp)) rfl rfl)),BA rq9 (fun _=>Oc rfl),BA rq9 (fun _=>CB (by rw[hn];rfl)),A3 rq9,AIo⟩ fun a11 w11 g11 CH=>?_
   refine AE ?_
   refine k6 _ _ ?_
   refine Ap CH rfl rfl ?_
   refine AIi fun K12 k12=>?_
   refine AIh ?_
   refine AL CH 1 [(23,.bool true)]
     ⟨Ad [] Tryz.func13 (by kernel_rfl) rq4 trivial (Aq fun W g=>Lb W),AIo⟩ fun a13 w13 g13 DI=>?_
   refine Aa (v:=.bool true) DI r6 fun a14 DE=>?_
   refine AE ?_
   refine k12 _ _ ?_
   replace AG:=AC g13 (AC g11 AG)
   replace AJ:=AC g13 (AC g11 AJ)
   replace HG:=AA (AA HG g11) g13
   refine AIl ?_
   repeat refine AM ?_
   refine A8 (fn:=Tryz.f8) DE (A7 (p:=4) Tryz.results8 DE rfl rfl) ?_
   exact⟨rfl,HG⟩
 · refine AIh ?_
   refine AL sv4 10 [(13,pt Bo),(14,Bu x),(15,.bool true),(16,.bool false),(17,.bool false),(18,pk Bo 3),(19,.int .i64 n),(20,.int .i64 ((bits .and .i64 n 63))),(21,.bool false),(22,.bool false)]
     ⟨yf r6 (fun _=>by kernel_rfl),yp (i:=0) r6 (Dm x) AJ rfl rfl,Ad [Bu x] Tryz.func12 (by kernel_rfl) rq4 ⟨(oy rfl rfl),AIo⟩ (Aq fun W g=>(TR x W).mono fun e w' ⟨h1,h2⟩=>⟨by rw[h1,decide_eq_true hsm],h2⟩),Cn r6 (fun _=>BV),ym r5,BL rq9 (fun _=>by kernel_rfl),Az rq9 (fun _ g=>Ae (EA n) (BR (L:=[vc x,[.int .i64 n],[.bool b],[.int .i64 ca]]) (i:=1) (AF g AJ (by simp)) rfl rfl)),BA rq9 (fun _=>Oc rfl),BA rq9 (fun _=>CB (by simpa using hn)),A3 rq9,AIo⟩ fun a15 w15 g15 LS=>?_
   refine AE ?_
   refine k6 _ _ ?_
   refine Au LS rfl rfl ?_
   refine AIm ?_
   refine k5 _ _ ?_
   refine AIi fun K16 k16=>?_
   refine AIh ?_
   replace AG:=AC g15 AG
   refine FE (LS.st w15) 2 [(24,Sp.is (AO seed)),(25,Sp.vv vx (fun _=>False))] rfl (by kernel_rfl) (by kernel_rfl) (by kernel_rfl)
     ⟨yl r6 (Bn seed hse.1) AG,Ad [AO seed] Tryz.func14 (by kernel_rfl) rq4 ⟨(oy rfl rfl),AIo⟩ (hvx▸ACW hse),AIo⟩ fun a17 w17 g17 st17=>?_
   obtain⟨hn17,hd17,e17_24,e17_25,e17_13,e17_14,e17_15,e17_16,e17_17,e17_18,e17_19,e17_20,e17_21,e17_22,e17_4,e17_3,e17_2,e17_0,e17_1,-⟩:=st17
   obtain⟨ao18,cap18,ks18,e17_25q,hp18,hk18,hf18⟩:=e17_25
   replace AG:=AC g17 AG
   replace AJ:=AC g17 (AC g15 AJ)
   replace HG:=AA (AA HG g15) g17
   have Mc:=LZ hf18 AG (by decide)
   have Md:=LZ hf18 AJ (by decide)
   have FH:Sv 64 [] [(13,_),(14,_),(15,_),(16,_),(17,_),(18,_),(19,_),(20,_),(21,_),(22,_),(4,_),(3,_),(2,_),(0,_),(1,_),(25,_)] a17:=⟨hn17,hd17,e17_13,e17_14,e17_15,e17_16,e17_17,e17_18,e17_19,e17_20,e17_21,e17_22,e17_4,e17_3,e17_2,e17_0,e17_1,e17_25q,AIo⟩
   refine As (T:=36) (Z:=([bv AS,bv AS,[.slice none 0 0]].flatten)) FH rfl rfl rfl (fun a w=>by kernel_rfl) fun a19 w19 NP EM g19 z19 CL Dj=>?_
   have Ks:=Ar AG EM
   have Ku:=Ar AJ EM
   have L5:=Bq HG EM
   have Fh:=Ax (hk18.lt) EM
   refine An Dj r7 (BX hvd.1 hvd.2 (.slice ao18 ks18.length cap18) rfl) CL (by first|rfl|simp[AZ,AI,AQ,hvd.1.1,hvd.2.1]) fun w20 g20 h20=>?_
   replace AJ:=Ab g20 (AC g19 AJ) (Ne.symm Ku)
   replace hk18:=(hk18.kn g19).offR g20 (AU Fh)
   replace CL:=h20
   refine AE ?_
   refine k16 _ _ ?_
   refine AIi fun K21 k21=>?_
   refine AIh ?_
   refine FE (Dj.st w20) 6 [(27,Sp.is (Ef x n b ca)),(28,Sp.is (Ao vx.2.1 vx.2.2 (.slice ao18 ks18.length cap18))),(29,Sp.sr w20.heap.size r),(26,Sp.sr w20.heap.size r),(30,Sp.sl w20.heap.size r.1),(31,Sp.is (.int .i64 r.2))] rfl (by kernel_rfl) (by kernel_rfl) (by kernel_rfl)
     ⟨yl r6 (Vd x n b ca) AJ,yl r6 (BX hvd.1 hvd.2 (.slice ao18 ks18.length cap18) rfl) CL,Ad [Ef x n b ca,Ao vx.2.1 vx.2.2 (.slice ao18 ks18.length cap18)] Tryz.func15 (by kernel_rfl) rq4 ⟨(oy rfl rfl),(oy rfl rfl),AIo⟩ (ACV hvd.1 hvd.2 hk18 hp18 hres),ym r5,BH rq4 (fun w u h=>Yf w u h),BH rq4 (fun w u h=>NE w u h),AIo⟩ fun a22 w22 g22 st22=>?_
   obtain⟨hn22,hd22,e22_27,e22_28,e22_29,e22_26,e22_30,e22_31,e22_5,e22_13,e22_14,e22_15,e22_16,e22_17,e22_18,e22_19,e22_20,e22_21,e22_22,e22_4,e22_3,e22_2,e22_0,e22_1,e22_25,-⟩:=st22
   obtain⟨own23,wr23,ao23,wo23,bo23,ac23,wc23,bc23,e22_30q,hF,fr23⟩:=e22_30
   have Vk:=CF fr23 CL
   replace AG:=AC g22 (Ab g20 (AC g19 AG) (Ne.symm Ks))
   replace AJ:=AC g22 AJ
   replace CL:=AC g22 CL
   replace hk18:=hk18.kn g22
   replace HG:=AA (AD (AA HG g19) g20 L5) g22
   have CX:Sv 64 [] [(5,_),(13,_),(14,_),(15,_),(16,_),(17,_),(18,_),(19,_),(20,_),(21,_),(22,_),(4,_),(3,_),(2,_),(0,_),(1,_),(25,_),(30,_),(31,_)] a22:=⟨hn22,hd22,e22_5,e22_13,e22_14,e22_15,e22_16,e22_17,e22_18,e22_19,e22_20,e22_21,e22_22,e22_4,e22_3,e22_2,e22_0,e22_1,e22_25,e22_30q,e22_31,AIo⟩
   refine As (T:=31) (Z:=([[.int .i64 0],[.slice none 0 0],[.int .i64 0],[.slice none 0 0],[.slice none 0 0],bv AS].flatten)) CX rfl rfl rfl (fun a w=>by kernel_rfl) fun a24 w24 ACX Ib g24 z24 EN DZ=>?_
   have Qp:=Ar AG Ib
   have Qq:=Ar AJ Ib
   have J2:=Ar CL Ib
   have ACY:=Bq HG Ib
   have II:=Ax (hk18.lt) Ib
   have Vl:=Ax (hF.lt) Ib
   replace hF:=hF.kn g24
   refine An DZ r7 (EU _ _ hF.tg (.slice ao23 (List.length own23) ac23) (.slice wo23 (List.length wr23) wc23) (.slice bo23 r.1.body.length bc23) rfl rfl rfl) EN (Ek AR hF.tg) fun w25 g25 h25=>?_
   refine Aa (v:=.int .i64 r.2) DZ r6 fun a26 CW=>?_
   refine AE ?_
   refine k21 _ _ ?_
   refine AIi fun K27 k27=>?_
   refine AIi fun K28 k28=>?_
   refine AIh ?_
   refine AL CW 2 [(32,.int .i64 r.2),(33,.bool false)]
     ⟨ym r5,Cm r6 (fun _=>Eb (by rw[hz];rfl)),AIo⟩ fun a29 w29 g29 CI=>?_
   refine AE ?_
   refine k28 _ _ ?_
   refine Au CI rfl rfl ?_
   refine AIm ?_
   refine k27 _ _ ?_
   refine AIi fun K30 k30=>?_
   refine AIi fun K31 k31=>?_
   refine AIh ?_
   refine Aa (v:=.int .i64 0) CI r6 fun a32 Bc=>?_
   refine AE ?_
   refine k31 _ _ ?_
   refine BB fun Q33 x33 y33 rt33 o33=>?_
   replace AG:=AC g29 (Ab g25 (AC g24 AG) (Ne.symm Qp))
   replace AJ:=AC g29 (Ab g25 (AC g24 AJ) (Ne.symm Qq))
   replace CL:=AC g29 (Ab g25 (AC g24 CL) (Ne.symm J2))
   replace EN:=AC g29 h25
   replace hk18:=((hk18.kn g24).offR g25 (AU II)).kn g29
   replace hF:=(hF.offR g25 (AU Vl)).kn g29
   replace HG:=AA (AD (AA HG g24) g25 ACY) g29
   refine wp_loop (fun a w'=>∃(i:Nat) (ks:List VK) (ao:Option Addr) (cap:Nat),(i≤6)∧(OD (Tsd seed) (ks.map VK.p) i)∧Sv 64 [] [(8,.int .i64 ((i:Int))),(32,.int .i64 r.2),(33,.bool false),(7,.int .i64 r.2),(6,pt ACX),(5,pt NP),(13,pt Bo),(14,Bu x),(15,.bool true),(16,.bool false),(17,.bool false),(18,pk Bo 3),(19,.int .i64 n),(20,.int .i64 ((bits .and .i64 n 63))),(21,.bool false),(22,.bool false),(3,pt Bo),(2,pt CC),(0,AO seed),(1,Ef x n b ca),(25,Ao vx.2.1 vx.2.2 (.slice ao18 ks18.length cap18)),(30,CP r.1.addr (.slice ao23 (List.length own23) ac23) r.1.joint (.slice wo23 (List.length wr23) wc23) (.slice bo23 r.1.body.length bc23) r.1.tag),(31,.int .i64 r.2)] a∧w.grownBy w' none∧w'.heap[CC]?=some (.cells (bv seed).toArray 23 (0,0))∧w'.heap[Bo]?=some (.cells ([vc x,[.int .i64 n],[.bool b],[.int .i64 ca]].flatten).toArray 27 (0,0))∧w'.heap[NP]?=some (.cells ([bv vx.2.1,bv vx.2.2,[.slice ao ks.length cap]].flatten).toArray 36 (0,0))∧w'.heap[ACX]?=some (.cells ([[.int .i64 r.1.addr],[.slice ao23 (List.length own23) ac23],[.int .i64 r.1.joint],[.slice wo23 (List.length wr23) wc23],[.slice bo23 r.1.body.length bc23],bv r.1.tag].flatten).toArray 31 (0,0))∧RdK w' (.slice ao ks.length cap) ks∧SdF w' r.1 own23 wr23 ao23 wo23 bo23 ac23 wc23 bc23∧(∀k,Je (.slice ao ks.length cap) ks k→k≠CC)∧(∀k,Je (.slice ao ks.length cap) ks k→k≠Bo)∧(∀k,Je (.slice ao ks.length cap) ks k→k≠NP)∧(∀k,Je (.slice ao ks.length cap) ks k→k≠ACX)) (fun a _=>(6-intOf (a.tmps.getD 8 undef)).toNat) ⟨0,ks18,ao18,cap18,by omega,by rw[hp18];exact hO0,⟨Bc.1,Bc.2.1,Bc.2.2.1,Bc.2.2.2.1,Bc.2.2.2.2.1,Bc.2.2.2.2.2.1,Bc.2.2.2.2.2.2.1,Bc.2.2.2.2.2.2.2.1,(AK Bc).1,(AK Bc).2.1,(AK Bc).2.2.1,(AK Bc).2.2.2.1,(AK Bc).2.2.2.2.1,(AK Bc).2.2.2.2.2.1,(AK Bc).2.2.2.2.2.2.1,(AK Bc).2.2.2.2.2.2.2.1,(AK (AK Bc)).1,(AK (AK Bc)).2.1,(AK (AK Bc)).2.2.2.1,(AK (AK Bc)).2.2.2.2.1,(AK (AK Bc)).2.2.2.2.2.1,(AK (AK Bc)).2.2.2.2.2.2.1,(AK (AK Bc)).2.2.2.2.2.2.2.1,(AK (AK (AK Bc))).1,(AK (AK (AK Bc))).2.1,AIo⟩,HG,AG,AJ,CL,EN,hk18,hF,Mc,Md,Fh,II⟩ fun a34 w34 hI34=>?_
   clear AG
   clear AJ
   clear CL
   clear EN
   clear hk18
   clear hF
   clear HG
   obtain⟨i,ks,ao,cap,hi6,hO,JO,HG,AG,AJ,CL,EN,hk18,hF,Mc,Md,Fh,II⟩:=hI34
   refine AIi fun K35 k35=>?_
   refine AIi fun K36 k36=>?_
   by_cases hi:i<6
   · refine AIh ?_
     refine AL JO 2 [(34,.int .i64 ((i:Int))),(35,.bool true)]
      ⟨ym r5,Cm r6 (fun _=>Ba (decide_eq_true (by omega))),AIo⟩ fun a37 w37 g37 F6=>?_
     refine AE ?_
     refine k36 _ _ ?_
     refine Ap F6 rfl rfl ?_
     refine AIm ?_
     refine k35 _ _ ?_
     refine AIi fun K38 k38=>?_
     refine BB fun Q39 x39 y39 rt39 o39=>?_
     refine AIi fun K40 k40=>?_
     replace AG:=AC g37 AG
     replace AJ:=AC g37 AJ
     replace CL:=AC g37 CL
     replace EN:=AC g37 EN
     replace hk18:=hk18.kn g37
     replace hF:=hF.kn g37
     replace HG:=AA HG g37
     refine DB (F6.st w37) (by kernel_rfl) 8 [(39,Sp.is (Ao vx.2.1 vx.2.2 (.slice ao ks.length cap))),(40,Sp.is (.int .i64 ((i:Int)))),(41,Sp.is (AO ((E4 i)))),(42,Sp.vt ((Gf (ks.map VK.p) (E4 i),vx.2.1,vx.2.2),(0:Int)) ((fun _=>False))),(38,Sp.vt ((Gf (ks.map VK.p) (E4 i),vx.2.1,vx.2.2),(0:Int)) ((fun _=>False))),(43,Sp.vv (Gf (ks.map VK.p) (E4 i),vx.2.1,vx.2.2) ((fun _=>False))),(44,Sp.is (.int .i64 0)),(9,Sp.new w37.heap.size (([bv AS,bv AS,[.slice none 0 0]].flatten)) 36)] rfl (by kernel_rfl) (by kernel_rfl) (by kernel_rfl) [6] (by kernel_rfl)
      ⟨yl r6 (BX hvd.1 hvd.2 (.slice ao ks.length cap) rfl) CL,ym r5,Ad [.int .i64 ((i:Int))] Tryz.func30 (by kernel_rfl) rq4 ⟨(oy rfl rfl),AIo⟩ (Aq fun W g=>LY i hi W),Ad [Ao vx.2.1 vx.2.2 (.slice ao ks.length cap),AO ((E4 i))] Tryz.func29 (by kernel_rfl) rq4 ⟨(oy rfl rfl),(oy rfl rfl),AIo⟩ (AFj hvd.1 hvd.2 (KV i) hk18 rfl (AAz hO.1 (hO.has (Nat.le_refl i) hi))),ym r5,BH rq4 (fun w u h=>Pb w u h),BH rq4 (fun w u h=>Pc w u h),Lv rfl trivial (Nat.le_refl _) (fun a w=>by kernel_rfl) (fun _ _ h=>h),AIo⟩ ⟨fun o ho=>by obtain rfl:=Option.some.inj ho;exact Im rfl rfl rfl trivial (fun w u h=>Pc w u h),AIo⟩
      [9] (by kernel_rfl) ⟨Sp.new_lt,AIo⟩ ⟨.inl rfl,.inl rfl,.inl rfl,.inl rfl,.inl rfl,.inl rfl,.inl rfl,.inr ⟨rfl,(([bv AS,bv AS,[.slice none 0 0]].flatten)).toArray,36,fun a w=>by kernel_rfl⟩,AIo⟩ (by kernel_rfl) fun a41 w41 g41 st41 nd41=>?_
     obtain⟨hn41,hd41,e41_39,e41_40,e41_41,e41_42,e41_38,e41_43,e41_44,e41_9,e41_34,e41_35,e41_8,e41_32,e41_33,e41_7,e41_6,e41_5,e41_13,e41_14,e41_15,e41_16,e41_17,e41_18,e41_19,e41_20,e41_21,e41_22,e41_3,e41_2,e41_0,e41_1,e41_25,e41_30,e41_31,-⟩:=st41
     obtain⟨ao42,cap42,ks42,e41_43q,hp42,hk42,hf42⟩:=e41_43
     obtain⟨AIW,e41_9q,Hc,TS⟩:=e41_9
     have Qr:=Hk AG Hc
     have Qs:=Hk AJ Hc
     have Pj:=Hk CL Hc
     have Pk:=Hk EN Hc
     have ACZ:=UL HG Hc
     have Qt:=Lu (hk18.lt) Hc
     have Vm:=Lu (hF.lt) Hc
     replace AG:=AC g41 AG
     replace AJ:=AC g41 AJ
     replace CL:=AC g41 CL
     replace EN:=AC g41 EN
     have TU:=LZ hf42 AG (by decide)
     have TV:=LZ hf42 AJ (by decide)
     have Kv:=LZ hf42 CL (by decide)
     have Qu:=LZ hf42 EN (by decide)
     have Qv:=LZ hf42 TS (by decide)
     have JP:Sv 64 [] [(34,_),(35,_),(8,_),(32,_),(33,_),(7,_),(6,_),(5,_),(13,_),(14,_),(15,_),(16,_),(17,_),(18,_),(19,_),(20,_),(21,_),(22,_),(3,_),(2,_),(0,_),(1,_),(25,_),(30,_),(31,_),(43,_),(44,_),(9,_)] a41:=⟨hn41,hd41,e41_34,e41_35,e41_8,e41_32,e41_33,e41_7,e41_6,e41_5,e41_13,e41_14,e41_15,e41_16,e41_17,e41_18,e41_19,e41_20,e41_21,e41_22,e41_3,e41_2,e41_0,e41_1,e41_25,e41_30,e41_31,e41_43q,e41_44,e41_9q,AIo⟩
     refine An JP r7 (BX hvd.1 hvd.2 (.slice ao42 ks42.length cap42) rfl) TS (by first|rfl|simp[AZ,AI,AQ,hvd.1.1,hvd.2.1]) fun w43 g43 h43=>?_
     replace CL:=Ab g43 CL (Ne.symm Pj)
     replace TS:=h43
     refine Aa (v:=.int .i64 0) JP r6 fun a44 Zo=>?_
     refine AE ?_
     refine k40 _ _ ?_
     refine AIi fun K45 k45=>?_
     refine AIi fun K46 k46=>?_
     refine AIh ?_
     refine AL Zo 2 [(45,.int .i64 0),(46,.bool false)]
      ⟨ym r5,Cm r6 (fun _=>Eb rfl),AIo⟩ fun a47 w47 g47 Jl=>?_
     refine AE ?_
     refine k46 _ _ ?_
     refine Au Jl rfl rfl ?_
     refine AIm ?_
     refine k45 _ _ ?_
     refine AIh ?_
     refine AL Jl 1 [(47,Ao vx.2.1 vx.2.2 (.slice ao42 ks42.length cap42))]
      ⟨yl r6 (BX hvd.1 hvd.2 (.slice ao42 ks42.length cap42) rfl) (AC g47 TS),AIo⟩ fun a48 w48 g48 XE=>?_
     have Vn:=AA g47 g48
     refine An XE r7 (BX hvd.1 hvd.2 (.slice ao42 ks42.length cap42) rfl) (AC Vn CL) (by first|rfl|simp[AZ,AI,AQ,hvd.1.1,hvd.2.1,hvd.1.1,hvd.2.1]) fun w49 g49 h49=>?_
     refine AE ?_
     refine y39 _ _ ?_
     refine k38 _ _ ?_
     refine AIh ?_
     refine AL XE 2 [(36,.int .i64 ((i:Int))),(37,.int .i64 (((i+1:Nat):Int)))]
      ⟨ym r5,Cm r6 (fun _=>C4 (by rw[A1 (by omega) (by omega)];omega)),AIo⟩ fun a50 w50 g50 Ox=>?_
     refine Aa (v:=.int .i64 (((i+1:Nat):Int))) Ox r6 fun a51 CT=>?_
     refine AE ?_
     replace AG:=AC g50 (Ak Vn g49 (Ab g43 AG (Ne.symm Qr)) (Ne.symm Ks))
     replace AJ:=AC g50 (Ak Vn g49 (Ab g43 AJ (Ne.symm Qs)) (Ne.symm Ku))
     replace CL:=AC g50 h49
     replace EN:=AC g50 (Ak Vn g49 (Ab g43 EN (Ne.symm Pk)) J2)
     replace hk18:=((((hk18.kn g41).offR g43 (AU Qt)).kn Vn).offR g49 (AU Fh)).kn g50
     replace hF:=((((hF.kn g41).offR g43 (AU Vm)).kn Vn).offR g49 (AU Vk)).kn g50
     replace hk42:=(((hk42.offR g43 (AU Qv)).kn Vn).offR g49 (AU Kv)).kn g50
     replace HG:=AA (AD (AA (AD (AA HG g41) g43 ACZ) Vn) g49 L5) g50
     exact⟨⟨i+1,ks42,ao42,cap42,by omega,by rw[hp42];exact hO.succ hi,⟨CT.1,CT.2.1,CT.2.2.1,(AK CT).2.2.2.1,(AK CT).2.2.2.2.1,(AK CT).2.2.2.2.2.1,(AK CT).2.2.2.2.2.2.1,(AK CT).2.2.2.2.2.2.2.1,(AK (AK CT)).1,(AK (AK CT)).2.1,(AK (AK CT)).2.2.1,(AK (AK CT)).2.2.2.1,(AK (AK CT)).2.2.2.2.1,(AK (AK CT)).2.2.2.2.2.1,(AK (AK CT)).2.2.2.2.2.2.1,(AK (AK CT)).2.2.2.2.2.2.2.1,(AK (AK (AK CT))).1,(AK (AK (AK CT))).2.1,(AK (AK (AK CT))).2.2.1,(AK (AK (AK CT))).2.2.2.1,(AK (AK (AK CT))).2.2.2.2.1,(AK (AK (AK CT))).2.2.2.2.2.1,(AK (AK (AK CT))).2.2.2.2.2.2.1,(AK (AK (AK CT))).2.2.2.2.2.2.2.1,(AK (AK (AK (AK CT)))).1,AIo⟩,HG,AG,AJ,CL,EN,hk42,hF,TU,TV,Kv,Qu⟩,by rw[show _=_ from CT.2.2.1,show _=_ from JO.2.2.1];simp[intOf];omega⟩
   · obtain rfl:i=6:=by omega
     have hq:E2 (ks.map VK.p) r.1=(V.nul,10):=by rw[←hres,←hvx];exact AAK hO hn
     refine AIh ?_
     refine AL JO 2 [(34,.int .i64 (((6:Nat):Int))),(35,.bool false)]
      ⟨ym r5,Cm r6 (fun _=>Ba (by simp)),AIo⟩ fun a52 w52 g52 Nk=>?_
     refine AE ?_
     refine k36 _ _ ?_
     refine Au Nk rfl rfl ?_
     refine wp_exit ?_
     repeat refine CD ?_
     refine x33 _ _ ?_
     refine k30 _ _ ?_
     refine AIi fun K53 k53=>?_
     refine AIh ?_
     replace CL:=AC g52 CL
     replace EN:=AC g52 EN
     replace hk18:=hk18.kn g52
     replace hF:=hF.kn g52
     refine AL Nk 6 [(49,Ao vx.2.1 vx.2.2 (.slice ao ks.length cap)),(50,CP r.1.addr (.slice ao23 (List.length own23) ac23) r.1.joint (.slice wo23 (List.length wr23) wc23) (.slice bo23 r.1.body.length bc23) r.1.tag),(51,.tuple #[Bu V.nul,.int .i64 10]),(48,.tuple #[Bu V.nul,.int .i64 10]),(52,Bu V.nul),(53,.int .i64 10)]
      ⟨yl r6 (BX hvd.1 hvd.2 (.slice ao ks.length cap) rfl) CL,yl r6 (EU _ _ hF.tg (.slice ao23 (List.length own23) ac23) (.slice wo23 (List.length wr23) wc23) (.slice bo23 r.1.body.length bc23) rfl rfl rfl) EN,Ad [Ao vx.2.1 vx.2.2 (.slice ao ks.length cap),CP r.1.addr (.slice ao23 (List.length own23) ac23) r.1.joint (.slice wo23 (List.length wr23) wc23) (.slice bo23 r.1.body.length bc23) r.1.tag] Tryz.func22 (by kernel_rfl) rq4 ⟨(oy rfl rfl),(oy rfl rfl),AIo⟩ (Aq fun W g=>ACN (q:=(V.nul,10)) hvd.1 hvd.2 (hk18.kn g) rfl (hF.kn g) hq),ym r5,BH rq4 (fun _ _ h=>⟨_,_,h,rfl,rfl⟩),BH rq4 (fun _ _ h=>⟨_,_,h,rfl,rfl⟩),AIo⟩ fun a54 w54 g54 Nl=>?_
     replace hF:=hF.kn g54
     replace HG:=AA (AA HG g52) g54
     refine As (T:=25) (Z:=[.int .i64 0,.int .i64 0,.string ⟨#[]⟩]) Nl rfl rfl rfl (fun a w=>by kernel_rfl) fun a55 w55 AIB RU g55 z55 TW ADd=>?_
     have AAL:=Bq HG RU
     have TX:=Ax (hF.lt) RU
     refine An ADd r7 (Dm V.nul) TW rfl fun w56 g56 h56=>?_
     replace TW:=h56
     refine Aa (v:=.int .i64 10) ADd r6 fun a57 Wu=>?_
     have SD:Sv _ _ [_,_,_,_,_,_,_,_,_,_,_,_,_,_,_,_,_,_,_,_,_,_,_,_,_,_,_] _:=Wu.dl [49,50,51,48,52,53]
     refine AE ?_
     refine k53 _ _ ?_
     refine AIi fun K59 k59=>?_
     refine AIh ?_
     refine AL SD 10 [(54,.int .i64 10),(55,.bool true),(56,.bool true),(57,Bu V.nul),(58,Bu V.nul),(59,.bool true),(60,.bool true),(61,.bool true),(62,.bool true),(63,.bool true)]
      ⟨ym r5,Cm r6 (fun _=>CB rfl),ym r5,Az rq9 (fun _ g=>Ae (Dm V.nul) (Al (AF g TW (by simp)))),BI (vs:=[]) rfl rfl (gy rfl rfl rfl) trivial (fun _=>MV _) (fun _=>rfl),Mr rfl rfl (gy rfl rfl rfl) (oy rfl rfl) (oy rfl rfl) (fun _=>Yh V.nul_ok) (fun _=>rfl),A3 rq9,ym r5,CG [] Tryz.func13 (by kernel_rfl) r7 trivial (Aq fun W g=>Lb W),A3 rq9,AIo⟩ fun a60 w60 g60 Zg=>?_
     refine Aa (v:=.bool true) Zg r6 fun a61 Mz=>?_
     have AEG:Sv _ _ [_,_,_,_,_,_,_,_,_,_,_,_,_,_,_,_,_,_,_,_,_,_,_,_,_,_,_] _:=Mz.dl [54,55,56,57,58,59,60,61,62,63,12]
     refine AE ?_
     refine k59 _ _ ?_
     replace hF:=((hF.kn g55).offR g56 (AU TX)).kn g60
     replace HG:=AA (AD (AA HG g55) g56 AAL) g60
     refine AIl ?_
     repeat refine AM ?_
     refine A8 (fn:=Tryz.f8) AEG (A7 (p:=4) Tryz.results8 AEG rfl rfl) ?_
     exact⟨rfl,HG⟩
end Go.Proofs.YtbfjfnbcmojpiaaGreat
