import Derived.Test.YtbfjfnbcmojpiaaGreatBkYE
set_option linter.unusedSimpArgs false
set_option linter.unusedVariables false
set_option maxRecDepth 100000
set_option maxHeartbeats 4000000
namespace Go.Proofs.YtbfjfnbcmojpiaaGreat
open Go.RowKit Go.Shelf
theorem O6 (x:V):Iv (BV x)=(x.clean,0):=by
 have h:=(AG2 x).rt []
 rw[List.append_nil] at h
 exact Xe h
theorem L3 (x:V):(BV x).length≤64:=Nat.le_trans (GI x) (by decide)
theorem Uv (b c:List Nat):IB (IB b c) c=b:=by
 unfold IB
 rw[LY (by rw[KQ];exact Nat.le_refl _)]
 exact MY (by rw[KQ];exact Nat.le_refl _)
theorem Wg {P P':List VP} {joint a:Int} {x:V} (h:hd [] joint a=true) (hv:CR P=true) (hv':CR P'=true):EX P' (E6 P [] joint a x).1=(x.clean,0):=by
 rw[IC h hv]
 rw[M2 (by unfold EE;simp[h,L3]) hv' rfl,if_pos rfl,O6]
theorem Uw {P:List VP} {own:List (List Nat)} {a:Int} {x:V} (h:hd own 0 a=true) (hv:CR P=true) (hne:own≠[]) (hk:(Ca P a own).2=0):EX P (E6 P own 0 a x).1=(x.clean,0):=by
 rw[Gd h hv hne hk rfl rfl]
 have hr:IH P ⟨a,own,0,if (0:Int)=1 then (Ca P a own).1.map (L8 (Sn (decide ((0:Int)=1)) (Ca P a own).1)) else [],IB (BV x) (Sn (decide ((0:Int)=1)) (Ca P a own).1),So (Sn (decide ((0:Int)=1)) (Ca P a own).1) a (IB (BV x) (Sn (decide ((0:Int)=1)) (Ca P a own).1))⟩=some (Sn (decide ((0:Int)=1)) (Ca P a own).1):=by
  unfold IH
  rw[if_neg (show ¬(0:Int)=1 by decide),if_pos hk]
 rw[Mj (by unfold EE;simp[h,Ip,L3]) hv hne hr,if_pos rfl,Uv,O6]
theorem Wh:Tryz.prog.cellsOf 25=3:=by kernel_rfl
theorem AFU:Tryz.prog.cellsOf 9=1:=by kernel_rfl
theorem ADe (d:Nat) (x:Int) (h:-9223372036854775808≤x∧x≤9223372036854775807):Tryz.prog.keyLits (d+1) 3 [.int .i64 x]=some [.int .i64 x]:=by
 unfold Program.keyLits
 rw[Tryz.underlying3]
 simp[Lit.wf,IntKind.min,IntKind.max,IntKind.signed,IntKind.bits]
 omega
theorem ABc (d:Nat) (x:Int) (h:-9223372036854775808≤x∧x≤9223372036854775807):Tryz.prog.keyLits (d+1) 2 [.int .i64 x]=some [.int .i64 x]:=by
 unfold Program.keyLits
 rw[Tryz.underlying2]
 simp[Lit.wf,IntKind.min,IntKind.max,IntKind.signed,IntKind.bits]
 omega
theorem AFV (d:Nat) (s:ByteArray) (h:s.size≤1000000):Tryz.prog.keyLits (d+1) 9 [.string s]=some [.string s.data.toList]:=by
 unfold Program.keyLits
 rw[Tryz.underlying9]
 simp only
 rw[if_pos (Nat.le_trans h (by decide))]
theorem ABd (d:Nat) (x:V) (hk:No x.kind) (hi:No x.int) (ht:x.text.size≤1000000):Tryz.prog.keyLits (d+2) 25 (vc x)=some [.int .i64 x.kind,.int .i64 x.int,.string x.text.data.toList]:=by
 unfold Program.keyLits
 rw[Tryz.underlying25]
 simp only
 rw[if_pos ⟨by rw[Wh];rfl,by kernel_rfl⟩]
 have e0:((vc x).drop 0).take 1=[.int .i64 x.kind]:=rfl
 have e1:((vc x).drop 1).take 1=[.int .i64 x.int]:=rfl
 have e2:((vc x).drop 2).take 1=[.string x.text]:=rfl
 simp only[List.mapM_cons,List.mapM_nil,AEa,ACK,AFU,e0,e1,e2,ADe d x.kind ⟨by have:=hk.1;omega,by have:=hk.2;omega⟩,ABc d x.int ⟨by have:=hi.1;omega,by have:=hi.2;omega⟩,AFV d x.text ht]
 simp
theorem Xn {x:V} (h:x.ok) {px py:Operand} {w:World}:(do eqGuard .eql 25 px py (Bi x) (Bi x);binOp .eql 25 (Bi x) (Bi x):Sem Value).run Tryz.prog w=.ok (.bool true) w:=
 (Zy 25 6 (by decide) (by kernel_rfl) (by kernel_rfl) (xs:=vc x) (ys:=vc x) (by simp[Value.formed,Tryz.underlying25,Wh,vc]) (by simp[Value.formed,Tryz.underlying25,Wh,vc]) (ABd 0 x (V.ok_kind h).1 (V.ok_kind h).2 (Nat.le_trans (V.ok_text h) (by decide))) (ABd 0 x (V.ok_kind h).1 (V.ok_kind h).2 (Nat.le_trans (V.ok_text h) (by decide))) (r:=true) (by simp) px py w).1
theorem ADf {P:Program} {t:TypeId} {x y:Operand} {w:World} {a b:ByteArray} {r:Bool} (h:(a.toList == b.toList)=r):(do eqGuard .eql t x y (.string a) (.string b);binOp .eql t (.string a) (.string b):Sem Value).run P w=.ok (.bool r) w:=by
 subst h
 simp[eqGuard,binOp_string_eql]
theorem b22:((bs [2,2]).toList == (⟨#[2,2]⟩:ByteArray).toList)=true:=by
 rw[show(⟨#[2,2]⟩:ByteArray)=bs [2,2] from rfl]
 simp
theorem ABe {P:Program} {ops:Array Oper} {L:Nat→Sp} {n:Nat} {w0:World} {o:Oper} {x:Operand} {src dst e d:Nat} {v:Value} {l:List Nat} (hs:P.underlying src=some (.slice e)) (he:P.underlying e=some (.int .u8)) (hd:P.underlying dst=some .string) (ho:o.op=.convert src dst x) (hd':o.dst=some d) (hg:GX ops L n o.guard) (hx:OpX L n x v) (hr:∀w,w0.grownBy w none→Sl w 1 v l.length (bv l)) (h:∀w,(L d).on w (.string (bs l))):OX P ops L n w0 o:=
 EO hg fun a w hw hl hsz=>⟨.string (bs l),by
  have e1:=hx.eval (o:=o) (a:=a) (w:=w) (by simp[ho,Op.operands]) hl
  simp only[execOp,ho,e1,Sem.run_bind,Sem.run_pure,Result.andThen_ok,Ta src dst e hs he hd (hr w hw)],Ci hd' (h w)⟩
theorem AFW {w0:World} {ks:List VK} {vo:Option Addr} {vc_:Nat} {sa po:List Nat} {P:List VP} {joint ad:Int} {x:V} {r:Sd×Int} (hsa:Dg sa) (hpo:Dg po) (hr:RdK w0 (.slice vo ks.length vc_) ks) (hP:ks.map VK.p=P) (hres:E6 P [] joint ad x=r) :
  ∀W,w0.grownBy W none→Calls Tryz.prog 20 #[An sa po (.slice vo ks.length vc_),.slice none 0 0,.int .i64 joint,.int .i64 ad,Bi x] W fun e w'=>∃v,e=.returned v∧W.grownBy w' none∧(Sp.sr w0.heap.size r).on w' v:=fun W g =>
 Wb hsa hpo (hr.kn g) hP (ds:=[]) (RdD.nil W) (by decide) g.size hres
theorem AGl {W:World} {B:Nat} {d:List Nat} {v:Value} (hd:Dg d) (h:(Sp.lit1 B 23 (bv d)).on W v):RdD W v [⟨d,hd⟩]:=by
 obtain⟨A,rfl,h1,h2⟩:=h
 refine⟨?_,fun k hk=>?_⟩
 · have:=J0 h2 hd
   simpa [JW] using this
 · obtain rfl:=Option.some.inj hk
   exact(Array.getElem?_eq_some_iff.1 h2).1
section
variable {W:World} {ks:List VK} {vo:Option Addr} {vc_:Nat} {sa po:List Nat} {P:List VP} {s:Sd} {own wr:List DD} {ao wo bo:Option Addr} {ac wc bc:Nat} {q:V×Int}
theorem ABf (hsa:Dg sa) (hpo:Dg po) (hr:RdK W (.slice vo ks.length vc_) ks) (hP:ks.map VK.p=P) (h:SdF W s own wr ao wo bo ac wc bc) (hq:EX P s=q) :
  Calls Tryz.prog 22 #[An sa po (.slice vo ks.length vc_),Br s.addr (.slice ao (List.length own) ac) s.joint (.slice wo (List.length wr) wc) (.slice bo s.body.length bc) s.tag] W fun e w'=>e=.returned (.tuple #[Bi q.1,.int .i64 q.2])∧W.grownBy w' none:=
 ABW hsa hpo h.tg h.by hr h.ro h.rw h.rb (by rw[hP,h.sd];exact hq)
end
theorem AEM {k:List Nat} {l:List Nd} {a:Int} (hk:Dg k) (hl:tree k []=l) (ha:CQ a=true):∃K,Dg K∧Co l a=(K,0):=by
 refine⟨(MG a 34 (KT k)).k,NT _ _ _ hk,?_⟩
 rw[←hl,YW k [] a (IR k) ha,if_neg (by simp)]
def JA (k:Nat):List Nat:=k::zs 31
theorem Sb {k:Nat} (h:k<256):Dg (JA k):=⟨rfl,fun x hx=>by simp[JA,zs] at hx;omega⟩
theorem AFX (k:Nat) (w:World):(Instr.build 23 #[(0,.int .u8 (k:Int))]).run Tryz.prog w=.ok (AP (JA k)) w:=by kernel_rfl
theorem Xo (n:Int):(Gp n).ok:=V.clean_ok _
theorem Wi (n:Int):(Gp n).clean=Gp n:=V.clean_of (Xo n)
theorem O7  (w:World) :
  Calls Tryz.prog 13 #[] w fun e w'=>e=.returned (.bool true)∧w.grownBy w' none:=by
 obtain⟨T,hT⟩:∃T,tree (kd 275 (kd 274 (JA 7))) []=T:=⟨_,rfl⟩
 have hTv:Fy T=true:=hT▸IR _
 obtain⟨P,hP⟩:∃P,KU [] (JA 1) T=P:=⟨_,rfl⟩
 have hv:CR P=true:=hP▸UB rfl rfl (by decide) hTv
 have hm:(JA 1,T)∈P:=by rw[←hP];exact W9.2 (.inl rfl)
 obtain⟨K,hKd,hK⟩:=AEM (BE 275 (kd 274 (JA 7))) hT (a:=5) rfl
 have hk:=XK (a:=5) rfl hv (XA (Srt.of hv) hm) hK
 obtain⟨r1,hr1⟩:∃r,E6 P [] 0 0 (Gp 1)=r:=⟨_,rfl⟩
 have hn:=IC (P:=P) (joint:=0) (a:=0) (x:=Gp 1) rfl hv
 have hz1:r1.2=0:=by rw[←hr1,hn]
 have hb1:r1.1.body=[2,2]:=by rw[←hr1,hn];decide +kernel
 have hk5:(Ca P 5 [JA 1]).2=0:=by unfold Ca;rw[hk,if_pos rfl];rfl
 obtain⟨r2,hr2⟩:∃r,E6 P [JA 1] 0 5 (Gp 9)=r:=⟨_,rfl⟩
 have hz2:r2.2=0:=by rw[←hr2,Gd (K:=_) rfl hv (by simp) hk5 rfl rfl]
 have hq:EX P r2.1=(Gp 9,0):=by rw[←hr2,Uw rfl hv (by simp) hk5,Wi]
 refine BH Tryz.func13 rfl Tryz.ntmps13 rfl fun a0 sv0=>?_
 have HG:=World.grownBy.refl w none
 replace sv0:Sv 61 [] [] a0:=sv0
 refine AH4 fun K1 k1=>?_
 refine AH3 ?_
 refine AZ (v:=.bool false) sv0 r6 fun a2 sv2=>?_
 refine AE ?_
 refine k1 _ _ ?_
 refine AH4 fun K3 k3=>?_
 refine AH3 ?_
 refine FV (sv2.st w) 7 [(10,Sp.is (AP ((JA 7)))),(11,Sp.is (An ((kd 273 (JA 7))) ((kd 274 (JA 7))) (.slice none 0 0))),(12,Sp.is (AP ((JA 1)))),(13,Sp.vt ((P,(kd 273 (JA 7)),(kd 276 (kd 274 (JA 7)))),(0:Int)) ((fun _=>False))),(9,Sp.vt ((P,(kd 273 (JA 7)),(kd 276 (kd 274 (JA 7)))),(0:Int)) ((fun _=>False))),(14,Sp.vv (P,(kd 273 (JA 7)),(kd 276 (kd 274 (JA 7)))) ((fun _=>False))),(15,Sp.is (.int .i64 0))] rfl (by kernel_rfl) (by kernel_rfl) (by kernel_rfl)
  ⟨BM (vs:=[.int .u8 7]) rfl rfl trivial ⟨rfl,AIA⟩ (fun _=>AFX 7 _) (fun _=>rfl),Ah [AP ((JA 7))] Tryz.func24 (by kernel_rfl) rq4 ⟨(oy rfl rfl),AIA⟩ (Ao fun W g=>Ym (JA 7) (Sb (by decide)) W),BM (vs:=[.int .u8 1]) rfl rfl trivial ⟨rfl,AIA⟩ (fun _=>AFX 1 _) (fun _=>rfl),Ah [An ((kd 273 (JA 7))) ((kd 274 (JA 7))) (.slice none 0 0),AP ((JA 1))] Tryz.func36 (by kernel_rfl) rq4 ⟨(oy rfl rfl),(oy rfl rfl),AIA⟩ (AE0 (ks:=[]) (BE _ _) (BE _ _) (Sb (by decide)) (RdK.nil _) rfl hT ((TZ rfl rfl (by decide)).trans (by rw[←hP];rfl))),ym r5,BL rq4 (fun w u h=>Ut w u h),BL rq4 (fun w u h=>Wa w u h),AIA⟩ fun a4 w4 g4 st4=>?_
 obtain⟨hn4,hd4,e4_10,e4_11,e4_12,e4_13,e4_9,e4_14,e4_15,e4_0,-⟩:=st4
 obtain⟨ao5,cap5,ks5,e4_14q,hp5,hk5,hf5⟩:=e4_14
 replace HG:=AA HG g4
 have sv4:Sv 61 [] [(0,_),(14,_),(15,_)] a4:=⟨hn4,hd4,e4_0,e4_14q,e4_15,AIA⟩
 refine Ap (T:=36) (Z:=([bv AS,bv AS,[.slice none 0 0]].flatten)) sv4 rfl rfl rfl (fun a w=>by kernel_rfl) fun a6 w6 AH1 Xp g6 z6 Je sv6=>?_
 have ADg:=Bp HG Xp
 have Ux:=Av (hk5.lt) Xp
 refine Am sv6 r7 (Bm (BE _ _) (BE _ _) (.slice ao5 ks5.length cap5) rfl) Je (by first|rfl|simp[Ac,AI,AU,(BE _ _).1,(BE _ _).1]) fun w7 g7 h7=>?_
 replace hk5:=(hk5.kn g6).offR g7 (AQ Ux)
 replace HG:=AD (AA HG g6) g7 ADg
 replace Je:=h7
 refine AZ (v:=.int .i64 0) sv6 r6 fun a8 sv8=>?_
 refine AE ?_
 refine k3 _ _ ?_
 refine AH4 fun K9 k9=>?_
 refine C6 (sv8.st w7) (by kernel_rfl) 7 [(17,Sp.is (An ((kd 273 (JA 7))) ((kd 276 (kd 274 (JA 7)))) (.slice ao5 ks5.length cap5))),(18,Sp.is (Bi ((Gp 1)))),(19,Sp.sr w7.heap.size r1),(16,Sp.sr w7.heap.size r1),(20,Sp.sl w7.heap.size r1.1),(21,Sp.is (.int .i64 r1.2)),(3,Sp.new w7.heap.size (([[.int .i64 0],[.slice none 0 0],[.int .i64 0],[.slice none 0 0],[.slice none 0 0],bv AS].flatten)) 31)] rfl (by kernel_rfl) (by kernel_rfl) (by kernel_rfl) [5] (by kernel_rfl)
  ⟨yl r6 (Bm (BE _ _) (BE _ _) (.slice ao5 ks5.length cap5) rfl) Je,Ah [.int .i64 1] Tryz.func37 (by kernel_rfl) rq4 ⟨rfl,AIA⟩ (Ao fun W g=>Ml 1 W),Ah [An ((kd 273 (JA 7))) ((kd 276 (kd 274 (JA 7)))) (.slice ao5 ks5.length cap5),.slice none 0 0,.int .i64 0,.int .i64 0,Bi ((Gp 1))] Tryz.func20 (by kernel_rfl) rq4 ⟨(oy rfl rfl),rfl,rfl,rfl,(oy rfl rfl),AIA⟩ (AFW (BE _ _) (BE _ _) hk5 hp5 hr1),ym r5,BL rq4 (fun w u h=>Xl w u h),BL rq4 (fun w u h=>Mm w u h),OA rfl trivial (Nat.le_refl _) (fun a w=>by kernel_rfl) (fun _ _ h=>h),AIA⟩ ⟨fun o ho=>by obtain rfl:=Option.some.inj ho;exact KZ rfl rfl rfl trivial (fun w u h=>Mm w u h),AIA⟩
  [3] (by kernel_rfl) ⟨Sp.new_lt,AIA⟩ ⟨.inl rfl,.inl rfl,.inl rfl,.inl rfl,.inl rfl,.inl rfl,.inr ⟨rfl,(([[.int .i64 0],[.slice none 0 0],[.int .i64 0],[.slice none 0 0],[.slice none 0 0],bv AS].flatten)).toArray,31,fun a w=>by kernel_rfl⟩,AIA⟩ (by kernel_rfl) fun a10 w10 g10 st10 nd10=>?_
 obtain⟨hn10,hd10,e10_17,e10_18,e10_19,e10_16,e10_20,e10_21,e10_3,e10_2,e10_1,e10_0,e10_14,e10_15,-⟩:=st10
 obtain⟨own11,wr11,ao11,wo11,bo11,ac11,wc11,bc11,e10_20q,hF1,fr11⟩:=e10_20
 obtain⟨AGm,e10_3q,O8,Hn⟩:=e10_3
 have QM:=KF Je O8
 have ABg:=XE HG O8
 have Sc:=N5 (hk5.lt) O8
 have Se:=SdF.ap hF1 Hn (by decide)
 have CG:Sv 61 [] [(2,_),(1,_),(0,_),(14,_),(15,_),(20,_),(21,_),(3,_)] a10:=⟨hn10,hd10,e10_2,e10_1,e10_0,e10_14,e10_15,e10_20q,e10_21,e10_3q,AIA⟩
 refine Am CG r7 (Dn _ _ hF1.tg (.slice ao11 (List.length own11) ac11) (.slice wo11 (List.length wr11) wc11) (.slice bo11 r1.1.body.length bc11) rfl rfl rfl) Hn (EZ AV hF1.tg) fun w12 g12 h12=>?_
 replace Je:=Aa g12 (AC g10 Je) (Ne.symm QM)
 replace hk5:=(hk5.kn g10).offR g12 (AQ Sc)
 replace hF1:=hF1.offR g12 (AQ Se)
 replace HG:=AD (AA HG g10) g12 ABg
 replace Hn:=h12
 refine AZ (v:=.int .i64 r1.2) CG r6 fun a13 Dx=>?_
 refine AE ?_
 refine k9 _ _ ?_
 refine AH4 fun K14 k14=>?_
 refine C6 (Dx.st w12) (by kernel_rfl) 9 [(23,Sp.is (An ((kd 273 (JA 7))) ((kd 276 (kd 274 (JA 7)))) (.slice ao5 ks5.length cap5))),(24,Sp.is (AP ((JA 1)))),(25,Sp.lit1 w12.heap.size 23 (bv (JA 1))),(26,Sp.is (Bi ((Gp 9)))),(27,Sp.sr w12.heap.size r2),(22,Sp.sr w12.heap.size r2),(28,Sp.sl w12.heap.size r2.1),(29,Sp.is (.int .i64 r2.2)),(5,Sp.new w12.heap.size (([[.int .i64 0],[.slice none 0 0],[.int .i64 0],[.slice none 0 0],[.slice none 0 0],bv AS].flatten)) 31)] rfl (by kernel_rfl) (by kernel_rfl) (by kernel_rfl) [7] (by kernel_rfl)
  ⟨yl r6 (Bm (BE _ _) (BE _ _) (.slice ao5 ks5.length cap5) rfl) Je,BM (vs:=[.int .u8 1]) rfl rfl trivial ⟨rfl,AIA⟩ (fun _=>AFX 1 _) (fun _=>rfl),NW rfl rfl trivial (Nat.le_refl _) rfl (fun W hw v h=>match v,h with|_,⟨rfl,_⟩=>⟨bv (JA 1),ZF (Sb (by decide)) W,fun w' _ hh=>⟨_,rfl,hw.size,hh⟩⟩),Ah [.int .i64 9] Tryz.func37 (by kernel_rfl) rq4 ⟨rfl,AIA⟩ (Ao fun W g=>Ml 9 W),Th (Sp.sr w12.heap.size r2) rfl rfl trivial rfl (fun W g av h=>match av,h with|[_,_,_,_,_],⟨rfl,hv,rfl,rfl,rfl,_⟩=>Wb (BE _ _) (BE _ _) (hk5.kn g) hp5 (AGl (Sb (by decide)) hv) (by decide) g.size hr2) (fun _ _ h=>h) (Er Tryz.func20 (by kernel_rfl) rfl),ym r5,BL rq4 (fun w u h=>Xl w u h),BL rq4 (fun w u h=>Mm w u h),OA rfl trivial (Nat.le_refl _) (fun a w=>by kernel_rfl) (fun _ _ h=>h),AIA⟩ ⟨fun o ho=>by obtain rfl:=Option.some.inj ho;exact KZ rfl rfl rfl trivial (fun w u h=>Mm w u h),AIA⟩
  [5] (by kernel_rfl) ⟨Sp.new_lt,AIA⟩ ⟨.inl rfl,.inl rfl,.inl rfl,.inl rfl,.inl rfl,.inl rfl,.inl rfl,.inl rfl,.inr ⟨rfl,(([[.int .i64 0],[.slice none 0 0],[.int .i64 0],[.slice none 0 0],[.slice none 0 0],bv AS].flatten)).toArray,31,fun a w=>by kernel_rfl⟩,AIA⟩ (by kernel_rfl) fun a15 w15 g15 st15 nd15=>?_
 obtain⟨hn15,hd15,e15_23,e15_24,e15_25,e15_26,e15_27,e15_22,e15_28,e15_29,e15_5,e15_4,e15_2,e15_1,e15_0,e15_14,e15_15,e15_20,e15_21,e15_3,-⟩:=st15
 obtain⟨own16,wr16,ao16,wo16,bo16,ac16,wc16,bc16,e15_28q,hF2,fr16⟩:=e15_28
 obtain⟨AHo,e15_5q,Jf,Sf⟩:=e15_5
 have QN:=KF Je Jf
 have O9:=KF Hn Jf
 have ABh:=XE HG Jf
 have Sg:=N5 (hk5.lt) Jf
 have Sh:=N5 (hF1.lt) Jf
 have Si:=SdF.ap hF2 Sf (by decide)
 have Ko:Sv 61 [] [(4,_),(2,_),(1,_),(0,_),(14,_),(15,_),(20,_),(21,_),(3,_),(28,_),(29,_),(5,_)] a15:=⟨hn15,hd15,e15_4,e15_2,e15_1,e15_0,e15_14,e15_15,e15_20,e15_21,e15_3,e15_28q,e15_29,e15_5q,AIA⟩
 refine Am Ko r7 (Dn _ _ hF2.tg (.slice ao16 (List.length own16) ac16) (.slice wo16 (List.length wr16) wc16) (.slice bo16 r2.1.body.length bc16) rfl rfl rfl) Sf (EZ AV hF2.tg) fun w17 g17 h17=>?_
 replace Je:=Aa g17 (AC g15 Je) (Ne.symm QN)
 replace hk5:=(hk5.kn g15).offR g17 (AQ Sg)
 replace hF2:=hF2.offR g17 (AQ Si)
 replace Sf:=h17
 refine AZ (v:=.int .i64 r2.2) Ko r6 fun a18 CF=>?_
 refine AE ?_
 refine k14 _ _ ?_
 refine AH4 fun K19 k19=>?_
 refine AH3 ?_
 refine AK CF 6 [(31,An ((kd 273 (JA 7))) ((kd 276 (kd 274 (JA 7)))) (.slice ao5 ks5.length cap5)),(32,Br r2.1.addr (.slice ao16 (List.length own16) ac16) r2.1.joint (.slice wo16 (List.length wr16) wc16) (.slice bo16 r2.1.body.length bc16) r2.1.tag),(33,.tuple #[Bi ((Gp 9)),.int .i64 0]),(30,.tuple #[Bi ((Gp 9)),.int .i64 0]),(34,Bi ((Gp 9))),(35,.int .i64 0)]
  ⟨yl r6 (Bm (BE _ _) (BE _ _) (.slice ao5 ks5.length cap5) rfl) Je,yl r6 (Dn _ _ hF2.tg (.slice ao16 (List.length own16) ac16) (.slice wo16 (List.length wr16) wc16) (.slice bo16 r2.1.body.length bc16) rfl rfl rfl) Sf,Ah [An ((kd 273 (JA 7))) ((kd 276 (kd 274 (JA 7)))) (.slice ao5 ks5.length cap5),Br r2.1.addr (.slice ao16 (List.length own16) ac16) r2.1.joint (.slice wo16 (List.length wr16) wc16) (.slice bo16 r2.1.body.length bc16) r2.1.tag] Tryz.func22 (by kernel_rfl) rq4 ⟨(oy rfl rfl),(oy rfl rfl),AIA⟩ (Ao fun W g=>ABf (q:=(Gp 9,0)) (BE _ _) (BE _ _) (hk5.kn g) hp5 (hF2.kn g) hq),ym r5,BL rq4 (fun _ _ h=>⟨_,_,h,rfl,rfl⟩),BL rq4 (fun _ _ h=>⟨_,_,h,rfl,rfl⟩),AIA⟩ fun a20 w20 g20 Dl=>?_
 replace Hn:=AC g20 (Aa g17 (AC g15 Hn) (Ne.symm O9))
 replace hF1:=((hF1.kn g15).offR g17 (AQ Sh)).kn g20
 replace hF2:=hF2.kn g20
 replace HG:=AA (AD (AA HG g15) g17 ABh) g20
 refine Ap (T:=25) (Z:=[.int .i64 0,.int .i64 0,.string ⟨#[]⟩]) Dl rfl rfl rfl (fun a w=>by kernel_rfl) fun a21 w21 AHp L5 g21 z21 Wj DL=>?_
 have PA:=As Hn L5
 have ABi:=Bp HG L5
 have Sj:=Av (hF1.lt) L5
 have Sk:=Av (hF2.lt) L5
 refine Am DL r7 (DY ((Gp 9))) Wj rfl fun w22 g22 h22=>?_
 replace Hn:=Aa g22 (AC g21 Hn) (Ne.symm PA)
 replace hF1:=(hF1.kn g21).offR g22 (AQ Sj)
 replace Wj:=h22
 refine AZ (v:=.int .i64 0) DL r6 fun a23 CX=>?_
 have Dw:Sv _ _ [_,_,_,_,_,_,_,_,_,_,_,_,_,_,_] _:=CX.dl [31,32,33,30,34,35]
 refine AE ?_
 refine k19 _ _ ?_
 refine AH4 fun K25 k25=>?_
 refine Cn (Dw.dl [0]) [(36,.int .i64 0),(37,.bool true),(38,.bool true),(39,.int .i64 r1.2),(40,.bool true),(41,.bool true),(42,.bool true),(43,pk AGm 4),(44,.slice bo11 r1.1.body.length bc11),(45,.string (bs r1.1.body)),(46,.bool true),(47,.bool true),(48,.bool true),(49,.int .i64 r2.2),(50,.bool true),(51,.bool true),(52,.bool true),(53,.int .i64 0),(54,.bool true),(55,.bool true),(56,.bool true),(57,Bi ((Gp 9))),(58,Bi ((Gp 9))),(59,.bool true),(60,.bool true),(0,.bool true)]
  ⟨ym r5,Cm r6 (fun _=>B3 rfl),ym r5,Ar rq8,BD rq9 (fun _=>B3 (by rw[hz1];rfl)),A1 rq9,ym r5,BK rq9 (fun _=>by kernel_rfl),Au rq9 (fun _ g=>Ad (Fx (.slice bo11 r1.1.body.length bc11) rfl) (BT (L:=[[.int .i64 r1.1.addr],[.slice ao11 (List.length own11) ac11],[.int .i64 r1.1.joint],[.slice wo11 (List.length wr11) wc11],[.slice bo11 r1.1.body.length bc11],bv r1.1.tag]) (i:=4) (AF g Hn (by simp)) rfl rfl)),ABe (l:=r1.1.body) Tryz.underlying29 Tryz.underlying5 Tryz.underlying9 rfl rfl (gy rfl rfl rfl) (oy rfl rfl) (fun W g=>(hF1.kn g).rb.1) (fun _=>rfl),BD rq9 (fun _=>ADf (by rw[hb1];exact b22)),A1 rq9,ym r5,Ar rq8,BD rq9 (fun _=>B3 (by rw[hz2];rfl)),A1 rq9,ym r5,Ar rq8,BD rq9 (fun _=>B3 rfl),A1 rq9,ym r5,Au rq9 (fun _ g=>Ad (DY ((Gp 9))) (Aj (AF g Wj (by simp)))),Bq [.int .i64 9] Tryz.func37 (by kernel_rfl) r7 ⟨rfl,AIA⟩ (Ao fun W g=>Ml 9 W),ML rfl rfl (gy rfl rfl rfl) (oy rfl rfl) (oy rfl rfl) (fun _=>Xn (Xo 9)) (fun _=>rfl),A1 rq9,FU 60 0 (.inr rfl) rfl rfl trivial (fun _ _ h=>h),AIA⟩ fun a26 w26 g26 CW=>?_
 refine k25 _ _ ?_
 replace hF1:=hF1.kn g26
 replace hF2:=((hF2.kn g21).offR g22 (AQ Sk)).kn g26
 replace HG:=AA (AD (AA HG g21) g22 ABi) g26
 refine AH7 ?_
 repeat refine AM ?_
 refine A3 (fn:=Tryz.f13) CW (A2 (p:=0) Tryz.results13 CW rfl rfl) ?_
 exact⟨rfl,HG⟩
theorem ABm (seed:List Nat):CR (V6 seed).1=true:=(Lx seed 6 (by decide)).1
theorem AGo (seed:List Nat):Dg (V6 seed).2.1∧Dg (V6 seed).2.2:=⟨BE _ _,Fw _ _⟩
theorem ABo {w0:World} {seed:List Nat} (hse:Dg seed):∀W,w0.grownBy W none→Calls Tryz.prog 14 #[AP seed] W fun e w'=>∃v,e=.returned v∧W.grownBy w' none∧(Sp.vv (V6 seed) (fun _=>False)).on w' v:=fun W _=>Wc seed hse W
theorem Xq (x:V) (w:World):Calls Tryz.prog 12 #[Bi x] w fun e w'=>e=.returned (.bool (decide (x.text.size≤100)))∧w.grownBy w' none:=WW x _ rfl w
theorem ABj {c k:List Nat} (hc:Dg c):L8 (L8 c k) k=c:=by
 unfold L8
 exact MY (by rw[hc.1,show(msk k).length=32 from(BE 283 k).1];exact Nat.le_refl _)
theorem ABk {K:List (List Nat)} {f:List Nat→List Nat} (h:0<K.length):KH (K.map f) 0=f (KH K 0):=by
 cases K with
 | nil=>simp at h
 | cons a K=>rfl
theorem Uy {P:List VP} {own:List (List Nat)} {joint a:Int} {x:V} (h:hd own joint a=true) (hv:CR P=true) (hk:∀j,j<own.length→(Cl P (KH own j) a).2=0) :
   EX P (E6 P own joint a x).1=(x.clean,0)∧(E6 P own joint a x).2=0∧EE (E6 P own joint a x).1=true:=by
 obtain⟨K1,K2⟩:=Lg hk
 obtain⟨haa,hjj,hol,hasc⟩:=XY h
 by_cases hne:own=[]
 · subst hne
   refine⟨Wg h hv hv,?_,?_⟩
   · rw[IC h hv]
   · rw[IC h hv];unfold EE;simp[h,L3]
 · have hpos:0<own.length:=List.length_pos_iff.2 hne
   rcases hjj with rfl|rfl
   · refine⟨Uw h hv hne K2,?_,?_⟩
     · rw[Gd h hv hne K2 rfl rfl]
     · rw[Gd h hv hne K2 rfl rfl];unfold EE;simp[h,Ip,L3]
   · obtain⟨c,hc⟩:∃c,Sn (decide ((1:Int)=1)) (Ca P a own).1=c:=⟨_,rfl⟩
     have hcd:Dg c:=hc▸MZ _ _
     rw[Gd h hv hne K2 rfl hc]
     have hw:(Ca P a own).1.length=own.length:=by rw[K1,List.length_map]
     have hv2:EE ⟨a,own,1,if (1:Int)=1 then (Ca P a own).1.map (L8 c) else [],IB (BV x) c,So c a (IB (BV x) c)⟩=true:=by
       unfold EE;simp[h,Ip,L3,hw]
     refine⟨?_,rfl,hv2⟩
     have hr:IH P ⟨a,own,1,if (1:Int)=1 then (Ca P a own).1.map (L8 c) else [],IB (BV x) c,So c a (IB (BV x) c)⟩=some c:=by
       unfold IH
       rw[if_pos rfl]
       have:=Ow (P:=P) (a:=a) (own:=own) (wr:=(Ca P a own).1.map (L8 c)) (i:=0) hpos (fun j hj=>absurd hj (by omega)) (hk 0 hpos)
       rw[if_pos rfl,this,ABk (by omega)]
       congr 1
       have e:KH (Ca P a own).1 0=(Cl P (KH own 0) a).1:=by
        rw[K1]
        cases own with
        | nil=>simp at hpos
        | cons o l=>rfl
       rw[e]
       exact ABj hcd
     rw[Mj hv2 hv hne hr,if_pos rfl,Uv,O6]
theorem PB {n:Int}:∀{i:Nat} {d:DD},d∈EY n i→∃j,j<i∧Ur n j=1∧d=M4 j
 | 0,d,h=>by simp[EY] at h
 | i+1,d,h=>by
  unfold EY at h
  by_cases hb:Ur n i=1
  · rw[if_pos hb,List.mem_append,List.mem_singleton] at h
    rcases h with h|h
    · obtain⟨j,h1,h2,h3⟩:=PB h
      exact⟨j,by omega,h2,h3⟩
    · exact⟨i,by omega,hb,h⟩
  · rw[if_neg hb] at h
    obtain⟨j,h1,h2,h3⟩:=PB h
    exact⟨j,by omega,h2,h3⟩
def M5 (b:Bool) (i:Nat):List (List Nat):=if b then [Hm i] else []
theorem GB (n:Int) (i:Nat):(EY n (i+1)).map DD.x=(EY n i).map DD.x++M5 (decide (Ur n i=1)) i:=by
 unfold M5
 by_cases hb:Ur n i=1
 · rw[show EY n (i+1)=EY n i++[M4 i] from if_pos hb,List.map_append,decide_eq_true hb];rfl
 · rw[show EY n (i+1)=EY n i from if_neg hb,decide_eq_false hb];simp
theorem AHT:∀b0 b1 b2 b3 b4 b5:Bool,asc ([]++M5 b0 0++M5 b1 1++M5 b2 2++M5 b3 3++M5 b4 4++M5 b5 5)=true:=by decide +kernel
theorem ADh (n:Int):asc ((EY n 6).map DD.x)=true:=by
 rw[GB,GB,GB,GB,GB,GB]
 exact AHT _ _ _ _ _ _
theorem AFY (n:Int) (b:Bool) (a:Int):hd ((EY n 6).map DD.x) (jt b) (SV a)=true:=by
 have hl:=Nk n 6
 unfold hd
 rw[M3,ADh,List.length_map,decide_eq_true (show(EY n 6).length≤16 by omega)]
 cases b<;>rfl
theorem AHU {T:Nat→List Nd} {P:List VP} {i j:Nat} (h:OV T P i) (hj:j<i) {a:Int} (ha:CQ a=true):Cl P (Hm j) a=Co (T j) a:=
 XK ha h.1 (XA (Srt.of h.1) ((h.2.2 _).2 ⟨j,hj,rfl⟩)) rfl
theorem ABl {seed:List Nat} {j:Nat} (hj:j<6) {a:Int} (ha:CQ a=true):(Cl (V6 seed).1 (Hm j) a).2=0:=by
 rw[show(V6 seed).1=O5 seed 6 from rfl,AHU (Lx seed 6 (by decide)) hj ha]
 obtain⟨K,_,hK⟩:=AEM (l:=Tsd seed j) (BE 275 (Uu seed j)) rfl ha
 rw[hK]
theorem ADi {l:List (List Nat)} {j:Nat} (h:j<l.length):KH l j∈l:=by rw[WG h];exact List.getElem_mem _
theorem AGn (seed:List Nat) (n a:Int):∀j,j<((EY n 6).map DD.x).length→(Cl (V6 seed).1 (KH ((EY n 6).map DD.x) j) (SV a)).2=0:=fun j hj=>by
 obtain⟨d,hd,e⟩:=List.mem_map.1 (ADi hj)
 obtain⟨k,hk,_,rfl⟩:=PB hd
 rw[←e]
 exact ABl hk (M3 a)
theorem ZU (seed:List Nat) (x:V) (n:Int) (b:Bool) (a:Int):EX (V6 seed).1 (Qs (V6 seed).1 x n b a).1=(x.clean,0)∧(Qs (V6 seed).1 x n b a).2=0∧EE (Qs (V6 seed).1 x n b a).1=true:=
 Uy (AFY n b a) (ABm seed) (AGn seed n a)
theorem ABn {w0:World} {ks:List VK} {vo:Option Addr} {vc_:Nat} {sa po:List Nat} {P:List VP} {x:V} {n:Int} {b:Bool} {a:Int} {r:Sd×Int} (hsa:Dg sa) (hpo:Dg po) (hr:RdK w0 (.slice vo ks.length vc_) ks) (hP:ks.map VK.p=P) (hres:Qs P x n b a=r) :
  ∀W,w0.grownBy W none→Calls Tryz.prog 15 #[Eg x n b a,An sa po (.slice vo ks.length vc_)] W fun e w'=>∃v,e=.returned v∧W.grownBy w' none∧(Sp.sr w0.heap.size r).on w' v:=fun W g=>by
 refine(We ks vo vc_ sa po hsa hpo P hP x n b a r hres W (hr.kn g)).mono ?_
 rintro e w' ⟨v,h1,h2,own,wr,ao,wo,bo,ac,wc,bc,h3,h4,h5⟩
 exact⟨v,h1,h2,own,wr,ao,wo,bo,ac,wc,bc,h3,h4,fun k hk=>Nat.le_trans g.size (h5 k hk)⟩
section
variable {W:World} {ks:List VK} {vo:Option Addr} {vc_:Nat} {sa po:List Nat} {P:List VP} {s:Sd} {own wr:List DD} {ao wo bo:Option Addr} {ac wc bc:Nat} {q:V×Int} {b:Bool}
theorem ADj (h:SdF W s own wr ao wo bo ac wc bc) (hv:EE s=b) :
  Calls Tryz.prog 27 #[Br s.addr (.slice ao (List.length own) ac) s.joint (.slice wo (List.length wr) wc) (.slice bo s.body.length bc) s.tag] W fun e w'=>e=.returned (.bool b)∧W.grownBy w' none:=
 Lv h.tg h.ro h.rw h.rb h.sd hv
theorem Wk (hsa:Dg sa) (hpo:Dg po) (hr:RdK W (.slice vo ks.length vc_) ks) (hP:ks.map VK.p=P) (h:SdF W s own wr ao wo bo ac wc bc) (hq:EX P s=q) (hb:decide (q.2=0)=b) :
  Calls Tryz.prog 26 #[An sa po (.slice vo ks.length vc_),Br s.addr (.slice ao (List.length own) ac) s.joint (.slice wo (List.length wr) wc) (.slice bo s.body.length bc) s.tag] W fun e w'=>e=.returned (.bool b)∧W.grownBy w' none:=by
 have hq2:EX (ks.map VK.p) ⟨s.addr,own.map DD.x,s.joint,wr.map DD.x,s.body,s.tag⟩=q:=by rw[hP,h.sd];exact hq
 subst hb hq2
 exact QL ks vo vc_ sa po hsa hpo s.addr s.joint own wr ao wo bo ac wc bc s.body s.tag h.tg h.by W hr h.ro h.rw h.rb
end
theorem ZY (seed:List Nat) (hse:Dg seed) (x:V) (n:Int) (b:Bool) (a:Int) (w:World) :
   Calls Tryz.prog 7 #[AP seed,Eg x n b a] w fun e w'=>e=.returned (.bool true)∧w.grownBy w' none:=by
 obtain⟨vx,hvx⟩:∃v,V6 seed=v:=⟨_,rfl⟩
 have hvd:Dg vx.2.1∧Dg vx.2.2:=hvx▸AGo seed
 have hvv:CR vx.1=true:=hvx▸ABm seed
 obtain⟨r,hres⟩:∃r,Qs vx.1 x n b a=r:=⟨_,rfl⟩
 obtain⟨hq,hz,hvs⟩:=ZU seed x n b a
 rw[hvx,hres] at hq hz hvs
 refine BH Tryz.func7 rfl Tryz.ntmps7 rfl fun a0 sv0=>?_
 have HG:=World.grownBy.refl w none
 replace sv0:Sv 54 [] [(0,AP seed),(1,Eg x n b a)] a0:=sv0
 refine AH4 fun K1 k1=>?_
 refine AH3 ?_
 refine BQ sv0 r6 (Bj seed hse.1) fun a2 w2 CJ Cs g2 z2 AH sv2=>?_
 refine BQ sv2 r6 (Uq x n b a) fun a3 w3 Bw EH g3 z3 AL sv3=>?_
 replace AH:=AC g3 AH
 replace HG:=AA (AA HG g2) g3
 refine AZ (v:=.bool false) sv3 r6 fun a4 sv4=>?_
 refine AE ?_
 refine k1 _ _ ?_
 refine AH4 fun K5 k5=>?_
 refine AH4 fun K6 k6=>?_
 by_cases hsm:x.text.size≤100
 · refine AH3 ?_
   refine AK sv4 4 [(10,pt Bw),(11,Bi x),(12,.bool true),(13,.bool false)]
    ⟨yf r6 (fun _=>by kernel_rfl),yp (i:=0) r6 (DY x) AL rfl rfl,Ah [Bi x] Tryz.func12 (by kernel_rfl) rq4 ⟨(oy rfl rfl),AIA⟩ (Ao fun W g=>(Xq x W).mono fun e w' ⟨h1,h2⟩=>⟨by rw[h1,decide_eq_true hsm],h2⟩),C3 r6 (fun _=>Bf),AIA⟩ fun a7 w7 g7 sv7=>?_
   refine AE ?_
   refine k6 _ _ ?_
   refine Ax sv7 rfl rfl ?_
   refine AH8 ?_
   refine k5 _ _ ?_
   refine AH4 fun K8 k8=>?_
   refine AH3 ?_
   replace AH:=AC g7 AH
   refine FV (sv7.st w7) 2 [(15,Sp.is (AP seed)),(16,Sp.vv vx (fun _=>False))] rfl (by kernel_rfl) (by kernel_rfl) (by kernel_rfl)
    ⟨yl r6 (Bj seed hse.1) AH,Ah [AP seed] Tryz.func14 (by kernel_rfl) rq4 ⟨(oy rfl rfl),AIA⟩ (hvx▸ABo hse),AIA⟩ fun a9 w9 g9 st9=>?_
   obtain⟨hn9,hd9,e9_15,e9_16,e9_10,e9_11,e9_12,e9_13,e9_4,e9_3,e9_2,e9_0,e9_1,-⟩:=st9
   obtain⟨ao10,cap10,ks10,e9_16q,hp10,hk10,hf10⟩:=e9_16
   replace AL:=AC g9 (AC g7 AL)
   replace HG:=AA (AA HG g7) g9
   have sv9:Sv 54 [] [(10,_),(11,_),(12,_),(13,_),(4,_),(3,_),(2,_),(0,_),(1,_),(16,_)] a9:=⟨hn9,hd9,e9_10,e9_11,e9_12,e9_13,e9_4,e9_3,e9_2,e9_0,e9_1,e9_16q,AIA⟩
   refine Ap (T:=36) (Z:=([bv AS,bv AS,[.slice none 0 0]].flatten)) sv9 rfl rfl rfl (fun a w=>by kernel_rfl) fun a11 w11 AHq PC g11 z11 Ef CC=>?_
   have QO:=As AL PC
   have ABp:=Bp HG PC
   have QP:=Av (hk10.lt) PC
   refine Am CC r7 (Bm hvd.1 hvd.2 (.slice ao10 ks10.length cap10) rfl) Ef (by first|rfl|simp[Ac,AI,AU,hvd.1.1,hvd.2.1]) fun w12 g12 h12=>?_
   replace AL:=Aa g12 (AC g11 AL) (Ne.symm QO)
   replace hk10:=(hk10.kn g11).offR g12 (AQ QP)
   replace Ef:=h12
   refine AE ?_
   refine k8 _ _ ?_
   refine AH4 fun K13 k13=>?_
   refine AH3 ?_
   refine FV (CC.st w12) 6 [(18,Sp.is (Eg x n b a)),(19,Sp.is (An vx.2.1 vx.2.2 (.slice ao10 ks10.length cap10))),(20,Sp.sr w12.heap.size r),(17,Sp.sr w12.heap.size r),(21,Sp.sl w12.heap.size r.1),(22,Sp.is (.int .i64 r.2))] rfl (by kernel_rfl) (by kernel_rfl) (by kernel_rfl)
    ⟨yl r6 (Uq x n b a) AL,yl r6 (Bm hvd.1 hvd.2 (.slice ao10 ks10.length cap10) rfl) Ef,Ah [Eg x n b a,An vx.2.1 vx.2.2 (.slice ao10 ks10.length cap10)] Tryz.func15 (by kernel_rfl) rq4 ⟨(oy rfl rfl),(oy rfl rfl),AIA⟩ (ABn hvd.1 hvd.2 hk10 hp10 hres),ym r5,BL rq4 (fun w u h=>Xl w u h),BL rq4 (fun w u h=>Mm w u h),AIA⟩ fun a14 w14 g14 st14=>?_
   obtain⟨hn14,hd14,e14_18,e14_19,e14_20,e14_17,e14_21,e14_22,e14_5,e14_10,e14_11,e14_12,e14_13,e14_4,e14_3,e14_2,e14_0,e14_1,e14_16,-⟩:=st14
   obtain⟨own15,wr15,ao15,wo15,bo15,ac15,wc15,bc15,e14_21q,hF,fr15⟩:=e14_21
   replace AL:=AC g14 AL
   replace Ef:=AC g14 Ef
   replace hk10:=hk10.kn g14
   replace HG:=AA (AD (AA HG g11) g12 ABp) g14
   have Cy:Sv 54 [] [(5,_),(10,_),(11,_),(12,_),(13,_),(4,_),(3,_),(2,_),(0,_),(1,_),(16,_),(21,_),(22,_)] a14:=⟨hn14,hd14,e14_5,e14_10,e14_11,e14_12,e14_13,e14_4,e14_3,e14_2,e14_0,e14_1,e14_16,e14_21q,e14_22,AIA⟩
   refine Ap (T:=31) (Z:=([[.int .i64 0],[.slice none 0 0],[.int .i64 0],[.slice none 0 0],[.slice none 0 0],bv AS].flatten)) Cy rfl rfl rfl (fun a w=>by kernel_rfl) fun a16 w16 AHr Jg g16 z16 Ho Ck=>?_
   have QQ:=As AL Jg
   have PD:=As Ef Jg
   have ABq:=Bp HG Jg
   have QR:=Av (hk10.lt) Jg
   have Uz:=Av (hF.lt) Jg
   replace hF:=hF.kn g16
   refine Am Ck r7 (Dn _ _ hF.tg (.slice ao15 (List.length own15) ac15) (.slice wo15 (List.length wr15) wc15) (.slice bo15 r.1.body.length bc15) rfl rfl rfl) Ho (EZ AV hF.tg) fun w17 g17 h17=>?_
   replace Ef:=Aa g17 (AC g16 Ef) (Ne.symm PD)
   replace hk10:=(hk10.kn g16).offR g17 (AQ QR)
   replace hF:=hF.offR g17 (AQ Uz)
   replace Ho:=h17
   refine AZ (v:=.int .i64 r.2) Ck r6 fun a18 CF=>?_
   refine AE ?_
   refine k13 _ _ ?_
   refine AH4 fun K19 k19=>?_
   refine AH3 ?_
   refine AK CF 6 [(24,An vx.2.1 vx.2.2 (.slice ao10 ks10.length cap10)),(25,Br r.1.addr (.slice ao15 (List.length own15) ac15) r.1.joint (.slice wo15 (List.length wr15) wc15) (.slice bo15 r.1.body.length bc15) r.1.tag),(26,.tuple #[Bi x.clean,.int .i64 0]),(23,.tuple #[Bi x.clean,.int .i64 0]),(27,Bi x.clean),(28,.int .i64 0)]
    ⟨yl r6 (Bm hvd.1 hvd.2 (.slice ao10 ks10.length cap10) rfl) Ef,yl r6 (Dn _ _ hF.tg (.slice ao15 (List.length own15) ac15) (.slice wo15 (List.length wr15) wc15) (.slice bo15 r.1.body.length bc15) rfl rfl rfl) Ho,Ah [An vx.2.1 vx.2.2 (.slice ao10 ks10.length cap10),Br r.1.addr (.slice ao15 (List.length own15) ac15) r.1.joint (.slice wo15 (List.length wr15) wc15) (.slice bo15 r.1.body.length bc15) r.1.tag] Tryz.func22 (by kernel_rfl) rq4 ⟨(oy rfl rfl),(oy rfl rfl),AIA⟩ (Ao fun W g=>ABf (q:=(x.clean,0)) hvd.1 hvd.2 (hk10.kn g) hp10 (hF.kn g) hq),ym r5,BL rq4 (fun _ _ h=>⟨_,_,h,rfl,rfl⟩),BL rq4 (fun _ _ h=>⟨_,_,h,rfl,rfl⟩),AIA⟩ fun a20 w20 g20 Dl=>?_
   replace AL:=AC g20 (Aa g17 (AC g16 AL) (Ne.symm QQ))
   replace Ef:=AC g20 Ef
   replace Ho:=AC g20 Ho
   replace hk10:=hk10.kn g20
   replace hF:=hF.kn g20
   replace HG:=AA (AD (AA HG g16) g17 ABq) g20
   refine Ap (T:=25) (Z:=[.int .i64 0,.int .i64 0,.string ⟨#[]⟩]) Dl rfl rfl rfl (fun a w=>by kernel_rfl) fun a21 w21 AHs II g21 z21 Wl DL=>?_
   have QS:=As AL II
   have PE:=As Ef II
   have PF:=As Ho II
   have ABr:=Bp HG II
   have QT:=Av (hk10.lt) II
   have U0:=Av (hF.lt) II
   refine Am DL r7 (DY x.clean) Wl rfl fun w22 g22 h22=>?_
   replace AL:=Aa g22 (AC g21 AL) (Ne.symm QS)
   replace Ef:=Aa g22 (AC g21 Ef) (Ne.symm PE)
   replace Ho:=Aa g22 (AC g21 Ho) (Ne.symm PF)
   replace hk10:=(hk10.kn g21).offR g22 (AQ QT)
   replace hF:=(hF.kn g21).offR g22 (AQ U0)
   replace Wl:=h22
   refine AZ (v:=.int .i64 0) DL r6 fun a23 CX=>?_
   have Dw:Sv _ _ [_,_,_,_,_,_,_,_,_,_,_,_,_,_,_,_,_] _:=CX.dl [24,25,26,23,27,28]
   refine AE ?_
   refine k19 _ _ ?_
   refine AH4 fun K25 k25=>?_
   refine Cn (Dw.dl [4]) [(29,.int .i64 r.2),(30,.bool true),(31,.bool true),(32,.int .i64 0),(33,.bool true),(34,.bool true),(35,.bool true),(36,Bi x.clean),(37,pt Bw),(38,Bi x),(39,Bi x.clean),(40,.bool true),(41,.bool true),(42,.bool true),(43,Br r.1.addr (.slice ao15 (List.length own15) ac15) r.1.joint (.slice wo15 (List.length wr15) wc15) (.slice bo15 r.1.body.length bc15) r.1.tag),(44,.bool true),(45,.bool true),(46,.bool true),(47,An vx.2.1 vx.2.2 (.slice ao10 ks10.length cap10)),(48,Br r.1.addr (.slice ao15 (List.length own15) ac15) r.1.joint (.slice wo15 (List.length wr15) wc15) (.slice bo15 r.1.body.length bc15) r.1.tag),(49,.bool true),(50,.bool true),(51,.bool true),(52,.bool true),(53,.bool true),(4,.bool true)]
    ⟨ym r5,Cm r6 (fun _=>B3 (by rw[hz];rfl)),ym r5,Ar rq8,BD rq9 (fun _=>B3 rfl),A1 rq9,ym r5,Au rq9 (fun _ g=>Ad (DY x.clean) (Aj (AF g Wl (by simp)))),BK rq9 (fun _=>by kernel_rfl),Au rq9 (fun _ g=>Ad (DY x) (BT (L:=[vc x,[.int .i64 n],[.bool b],[.int .i64 a]]) (i:=0) (AF g AL (by simp)) rfl rfl)),Bq [Bi x] Tryz.func25 (by kernel_rfl) r7 ⟨(oy rfl rfl),AIA⟩ (Ao fun W g=>Mn x W),ML rfl rfl (gy rfl rfl rfl) (oy rfl rfl) (oy rfl rfl) (fun _=>Xn (V.clean_ok x)) (fun _=>rfl),A1 rq9,ym r5,Au rq9 (fun _ g=>Ad (Dn _ _ hF.tg (.slice ao15 (List.length own15) ac15) (.slice wo15 (List.length wr15) wc15) (.slice bo15 r.1.body.length bc15) rfl rfl rfl) (Aj (AF g Ho (by simp)))),Bq [Br r.1.addr (.slice ao15 (List.length own15) ac15) r.1.joint (.slice wo15 (List.length wr15) wc15) (.slice bo15 r.1.body.length bc15) r.1.tag] Tryz.func27 (by kernel_rfl) r7 ⟨(oy rfl rfl),AIA⟩ (Ao fun W g=>ADj (hF.kn g) hvs),A1 rq9,ym r5,Au rq9 (fun _ g=>Ad (Bm hvd.1 hvd.2 (.slice ao10 ks10.length cap10) rfl) (Aj (AF g Ef (by simp)))),Au rq9 (fun _ g=>Ad (Dn _ _ hF.tg (.slice ao15 (List.length own15) ac15) (.slice wo15 (List.length wr15) wc15) (.slice bo15 r.1.body.length bc15) rfl rfl rfl) (Aj (AF g Ho (by simp)))),Bq [An vx.2.1 vx.2.2 (.slice ao10 ks10.length cap10),Br r.1.addr (.slice ao15 (List.length own15) ac15) r.1.joint (.slice wo15 (List.length wr15) wc15) (.slice bo15 r.1.body.length bc15) r.1.tag] Tryz.func26 (by kernel_rfl) r7 ⟨(oy rfl rfl),(oy rfl rfl),AIA⟩ (Ao fun W g=>Wk (q:=(x.clean,0)) hvd.1 hvd.2 (hk10.kn g) hp10 (hF.kn g) hq rfl),A1 rq9,ym r5,Bq [] Tryz.func13 (by kernel_rfl) r7 trivial (Ao fun W g=>O7 W),A1 rq9,FU 53 4 (.inr rfl) rfl rfl trivial (fun _ _ h=>h),AIA⟩ fun a26 w26 g26 CW=>?_
   refine k25 _ _ ?_
   replace AL:=AC g26 AL
   replace hF:=hF.kn g26
   replace HG:=AA (AD (AA HG g21) g22 ABr) g26
   refine AH7 ?_
   repeat refine AM ?_
   refine A3 (fn:=Tryz.f7) CW (A2 (p:=4) Tryz.results7 CW rfl rfl) ?_
   exact⟨rfl,HG⟩
 · refine AH3 ?_
   refine AK sv4 4 [(10,pt Bw),(11,Bi x),(12,.bool false),(13,.bool true)]
    ⟨yf r6 (fun _=>by kernel_rfl),yp (i:=0) r6 (DY x) AL rfl rfl,Ah [Bi x] Tryz.func12 (by kernel_rfl) rq4 ⟨(oy rfl rfl),AIA⟩ (Ao fun W g=>(Xq x W).mono fun e w' ⟨h1,h2⟩=>⟨by rw[h1,decide_eq_false hsm],h2⟩),C3 r6 (fun _=>Bf),AIA⟩ fun a27 w27 g27 F8=>?_
   refine AE ?_
   refine k6 _ _ ?_
   refine Aq F8 rfl rfl ?_
   refine AH4 fun K28 k28=>?_
   refine AH3 ?_
   refine AK F8 1 [(14,.bool true)]
    ⟨Ah [] Tryz.func13 (by kernel_rfl) rq4 trivial (Ao fun W g=>O7 W),AIA⟩ fun a29 w29 g29 CK=>?_
   refine AZ (v:=.bool true) CK r6 fun a30 EB=>?_
   refine AE ?_
   refine k28 _ _ ?_
   replace HG:=AA (AA HG g27) g29
   refine AH7 ?_
   repeat refine AM ?_
   refine A3 (fn:=Tryz.f7) EB (A2 (p:=4) Tryz.results7 EB rfl rfl) ?_
   exact⟨rfl,HG⟩
end Go.Proofs.YtbfjfnbcmojpiaaGreat
