import Derived.Test.YtbfjfnbcmojpiaaGreatShYE
set_option linter.unusedSimpArgs false
set_option linter.unusedVariables false
set_option maxRecDepth 100000
set_option maxHeartbeats 4000000
namespace Go.Proofs.YtbfjfnbcmojpiaaGreat
open Go.RowKit Go.Shelf
theorem Oy (x:V):Kw (B6 x)=(x.clean,0):=by
 have h:=(AKz x).rt []
 rw[List.append_nil] at h
 exact ABt h
theorem Oz (x:V):(B6 x).length≤64:=Nat.le_trans (Ip x) (by decide)
theorem Sq (b c:List Nat):Jv (Jv b c) c=b:=by
 unfold Jv
 rw[OU (by rw[NN];exact Nat.le_refl _)]
 exact Pb (by rw[NN];exact Nat.le_refl _)
theorem Nr {P P':List VP} {joint a:Int} {x:V} (h:hd [] joint a=true) (hv:CH P=true) (hv':CH P'=true):DE P' (Eu P [] joint a x).1=(x.clean,0):=by
 rw[KH h hv]
 rw[QF (by unfold FQ;simp[h,Oz]) hv' rfl,if_pos rfl,Oy]
theorem ZQ {P:List VP} {own:List (List Nat)} {a:Int} {x:V} (h:hd own 0 a=true) (hv:CH P=true) (hne:own≠[]) (hk:(Cf P a own).2=0):DE P (Eu P own 0 a x).1=(x.clean,0):=by
 rw[Ev h hv hne hk rfl rfl]
 have hr:Ig P ⟨a,own,0,if (0:Int)=1 then (Cf P a own).1.map (NC (Vf (decide ((0:Int)=1)) (Cf P a own).1)) else [],Jv (B6 x) (Vf (decide ((0:Int)=1)) (Cf P a own).1),Vg (Vf (decide ((0:Int)=1)) (Cf P a own).1) a (Jv (B6 x) (Vf (decide ((0:Int)=1)) (Cf P a own).1))⟩=some (Vf (decide ((0:Int)=1)) (Cf P a own).1):=by
  unfold Ig
  rw[if_neg (show ¬(0:Int)=1 by decide),if_pos hk]
 rw[Mt (by unfold FQ;simp[h,Kp,Oz]) hv hne hr,if_pos rfl,Sq,Oy]
theorem AA2:Tryz.prog.cellsOf 25=3:=by kernel_rfl
theorem AJM:Tryz.prog.cellsOf 9=1:=by kernel_rfl
theorem AHX (d:Nat) (x:Int) (h:-9223372036854775808≤x∧x≤9223372036854775807):Tryz.prog.keyLits (d+1) 3 [.int .i64 x]=some [.int .i64 x]:=by
 unfold Program.keyLits
 rw[Tryz.underlying3]
 simp[Lit.wf,IntKind.min,IntKind.max,IntKind.signed,IntKind.bits]
 omega
theorem AFh (d:Nat) (x:Int) (h:-9223372036854775808≤x∧x≤9223372036854775807):Tryz.prog.keyLits (d+1) 2 [.int .i64 x]=some [.int .i64 x]:=by
 unfold Program.keyLits
 rw[Tryz.underlying2]
 simp[Lit.wf,IntKind.min,IntKind.max,IntKind.signed,IntKind.bits]
 omega
theorem AJN (d:Nat) (s:ByteArray) (h:s.size≤1000000):Tryz.prog.keyLits (d+1) 9 [.string s]=some [.string s.data.toList]:=by
 unfold Program.keyLits
 rw[Tryz.underlying9]
 simp only
 rw[if_pos (Nat.le_trans h (by decide))]
theorem AFi (d:Nat) (x:V) (hk:RB x.kind) (hi:RB x.int) (ht:x.text.size≤1000000):Tryz.prog.keyLits (d+2) 25 (vc x)=some [.int .i64 x.kind,.int .i64 x.int,.string x.text.data.toList]:=by
 unfold Program.keyLits
 rw[Tryz.underlying25]
 simp only
 rw[if_pos ⟨by rw[AA2];rfl,by kernel_rfl⟩]
 have e0:((vc x).drop 0).take 1=[.int .i64 x.kind]:=rfl
 have e1:((vc x).drop 1).take 1=[.int .i64 x.int]:=rfl
 have e2:((vc x).drop 2).take 1=[.string x.text]:=rfl
 simp only[List.mapM_cons,List.mapM_nil,AIZ,AGO,AJM,e0,e1,e2,AHX d x.kind ⟨by have:=hk.1;omega,by have:=hk.2;omega⟩,AFh d x.int ⟨by have:=hi.1;omega,by have:=hi.2;omega⟩,AJN d x.text ht]
 simp
theorem LB {x:V} (h:x.ok) {px py:Operand} {w:World}:(do eqGuard .eql 25 px py (BR x) (BR x);binOp .eql 25 (BR x) (BR x):Sem Value).run Tryz.prog w=.ok (.bool true) w:=
 (AD5 25 6 (by decide) (by kernel_rfl) (by kernel_rfl) (xs:=vc x) (ys:=vc x) (by simp[Value.formed,Tryz.underlying25,AA2,vc]) (by simp[Value.formed,Tryz.underlying25,AA2,vc]) (AFi 0 x (V.ok_kind h).1 (V.ok_kind h).2 (Nat.le_trans (V.ok_text h) (by decide))) (AFi 0 x (V.ok_kind h).1 (V.ok_kind h).2 (Nat.le_trans (V.ok_text h) (by decide))) (r:=true) (by simp) px py w).1
theorem AHY {P:Program} {t:TypeId} {x y:Operand} {w:World} {a b:ByteArray} {r:Bool} (h:(a.toList == b.toList)=r):(do eqGuard .eql t x y (.string a) (.string b);binOp .eql t (.string a) (.string b):Sem Value).run P w=.ok (.bool r) w:=by
 subst h
 simp[eqGuard,binOp_string_eql]
theorem b22:((bs [2,2]).toList == (⟨#[2,2]⟩:ByteArray).toList)=true:=by
 rw[show(⟨#[2,2]⟩:ByteArray)=bs [2,2] from rfl]
 simp
theorem AFj {P:Program} {ops:Array Oper} {L:Nat→Sp} {n:Nat} {w0:World} {o:Oper} {x:Operand} {src dst e d:Nat} {v:Value} {l:List Nat} (hs:P.underlying src=some (.slice e)) (he:P.underlying e=some (.int .u8)) (hd:P.underlying dst=some .string) (ho:o.op=.convert src dst x) (hd':o.dst=some d) (hg:GX ops L n o.guard) (hx:OpX L n x v) (hr:∀w,w0.grownBy w none→Sl w 1 v l.length (bv l)) (h:∀w,(L d).on w (.string (bs l))):OX P ops L n w0 o:=
 FX hg fun a w hw hl hsz=>⟨.string (bs l),by
  have e1:=hx.eval (o:=o) (a:=a) (w:=w) (by simp[ho,Op.operands]) hl
  simp only[execOp,ho,e1,Sem.run_bind,Sem.run_pure,Result.andThen_ok,Xe src dst e hs he hd (hr w hw)],DP hd' (h w)⟩
theorem AJO {w0:World} {ks:List VK} {vo:Option Addr} {vc_:Nat} {sa po:List Nat} {P:List VP} {joint ad:Int} {x:V} {r:Sd×Int} (hsa:Dg sa) (hpo:Dg po) (hr:RdK w0 (.slice vo ks.length vc_) ks) (hP:ks.map VK.p=P) (hres:Eu P [] joint ad x=r) :
  ∀W,w0.grownBy W none→Calls Tryz.prog 20 #[Ao sa po (.slice vo ks.length vc_),.slice none 0 0,.int .i64 joint,.int .i64 ad,BR x] W fun e w'=>∃v,e=.returned v∧W.grownBy w' none∧(Sp.sr w0.heap.size r).on w' v:=fun W g =>
 AAy hsa hpo (hr.kn g) hP (ds:=[]) (RdD.nil W) (by decide) g.size hres
theorem AKi {W:World} {B:Nat} {d:List Nat} {v:Value} (hd:Dg d) (h:(Sp.lit1 B 23 (bv d)).on W v):RdD W v [⟨d,hd⟩]:=by
 obtain⟨A,rfl,h1,h2⟩:=h
 refine⟨?_,fun k hk=>?_⟩
 · have:=Ms h2 hd
   simpa [ML] using this
 · obtain rfl:=Option.some.inj hk
   exact(Array.getElem?_eq_some_iff.1 h2).1
section
variable {W:World} {ks:List VK} {vo:Option Addr} {vc_:Nat} {sa po:List Nat} {P:List VP} {s:Sd} {own wr:List DD} {ao wo bo:Option Addr} {ac wc bc:Nat} {q:V×Int}
theorem Nt (hsa:Dg sa) (hpo:Dg po) (hr:RdK W (.slice vo ks.length vc_) ks) (hP:ks.map VK.p=P) (h:SdF W s own wr ao wo bo ac wc bc) (hq:DE P s=q) :
  Calls Tryz.prog 22 #[Ao sa po (.slice vo ks.length vc_),Bw s.addr (.slice ao (List.length own) ac) s.joint (.slice wo (List.length wr) wc) (.slice bo s.body.length bc) s.tag] W fun e w'=>e=.returned (.tuple #[BR q.1,.int .i64 q.2])∧W.grownBy w' none:=
 AFb hsa hpo h.tg h.by hr h.ro h.rw h.rb (by rw[hP,h.sd];exact hq)
end
theorem AIH {k:List Nat} {l:List Nd} {a:Int} (hk:Dg k) (hl:tree k []=l) (ha:Br a=true):∃K,Dg K∧DM l a=(K,0):=by
 refine⟨(PH a 34 (M0 k)).k,Qk _ _ _ hk,?_⟩
 rw[←hl,UW k [] a (KU k) ha,if_neg (by simp)]
def Lh (k:Nat):List Nat:=k::zs 31
theorem Wh {k:Nat} (h:k<256):Dg (Lh k):=⟨rfl,fun x hx=>by simp[Lh,zs] at hx;omega⟩
theorem AJP (k:Nat) (w:World):(Instr.build 23 #[(0,.int .u8 (k:Int))]).run Tryz.prog w=.ok (AP (Lh k)) w:=by kernel_rfl
theorem AB1 (n:Int):(JV n).ok:=V.clean_ok _
theorem AA3 (n:Int):(JV n).clean=JV n:=V.clean_of (AB1 n)
theorem FK  (w:World) :
  Calls Tryz.prog 13 #[] w fun e w'=>e=.returned (.bool true)∧w.grownBy w' none:=by
 obtain⟨T,hT⟩:∃T,tree (kd 275 (kd 274 (Lh 7))) []=T:=⟨_,rfl⟩
 have hTv:Gh T=true:=hT▸KU _
 obtain⟨P,hP⟩:∃P,NT [] (Lh 1) T=P:=⟨_,rfl⟩
 have hv:CH P=true:=hP▸YX rfl rfl (by decide) hTv
 have hm:(Lh 1,T)∈P:=by rw[←hP];exact ABQ.2 (.inl rfl)
 obtain⟨K,hKd,hK⟩:=AIH (Be 275 (kd 274 (Lh 7))) hT (a:=5) rfl
 have hk:=ABa (a:=5) rfl hv (U9 (Srt.of hv) hm) hK
 obtain⟨r1,hr1⟩:∃r,Eu P [] 0 0 (JV 1)=r:=⟨_,rfl⟩
 have hn:=KH (P:=P) (joint:=0) (a:=0) (x:=JV 1) rfl hv
 have hz1:r1.2=0:=by rw[←hr1,hn]
 have hb1:r1.1.body=[2,2]:=by rw[←hr1,hn];decide +kernel
 have hk5:(Cf P 5 [Lh 1]).2=0:=by unfold Cf;rw[hk,if_pos rfl];rfl
 obtain⟨r2,hr2⟩:∃r,Eu P [Lh 1] 0 5 (JV 9)=r:=⟨_,rfl⟩
 have hz2:r2.2=0:=by rw[←hr2,Ev (K:=_) rfl hv (by simp) hk5 rfl rfl]
 have hq:DE P r2.1=(JV 9,0):=by rw[←hr2,ZQ rfl hv (by simp) hk5,AA3]
 refine Bg Tryz.func13 rfl Tryz.ntmps13 rfl fun a0 sv0=>?_
 have HG:=World.grownBy.refl w none
 replace sv0:Sv 61 [] [] a0:=sv0
 refine ALo fun K1 k1=>?_
 refine ALn ?_
 refine Aa (v:=.bool false) sv0 r6 fun a2 sv2=>?_
 refine AE ?_
 refine k1 _ _ ?_
 refine ALo fun K3 k3=>?_
 refine ALn ?_
 refine E6 (sv2.st w) 7 [(10,Sp.is (AP ((Lh 7)))),(11,Sp.is (Ao ((kd 273 (Lh 7))) ((kd 274 (Lh 7))) (.slice none 0 0))),(12,Sp.is (AP ((Lh 1)))),(13,Sp.vt ((P,(kd 273 (Lh 7)),(kd 276 (kd 274 (Lh 7)))),(0:Int)) ((fun _=>False))),(9,Sp.vt ((P,(kd 273 (Lh 7)),(kd 276 (kd 274 (Lh 7)))),(0:Int)) ((fun _=>False))),(14,Sp.vv (P,(kd 273 (Lh 7)),(kd 276 (kd 274 (Lh 7)))) ((fun _=>False))),(15,Sp.is (.int .i64 0))] rfl (by kernel_rfl) (by kernel_rfl) (by kernel_rfl)
  ⟨Ba (vs:=[.int .u8 7]) rfl rfl trivial ⟨rfl,ALu⟩ (fun _=>AJP 7 _) (fun _=>rfl),Ae [AP ((Lh 7))] Tryz.func24 (by kernel_rfl) rq4 ⟨(oy rfl rfl),ALu⟩ (Au fun W g=>ACn (Lh 7) (Wh (by decide)) W),Ba (vs:=[.int .u8 1]) rfl rfl trivial ⟨rfl,ALu⟩ (fun _=>AJP 1 _) (fun _=>rfl),Ae [Ao ((kd 273 (Lh 7))) ((kd 274 (Lh 7))) (.slice none 0 0),AP ((Lh 1))] Tryz.func36 (by kernel_rfl) rq4 ⟨(oy rfl rfl),(oy rfl rfl),ALu⟩ (AIv (ks:=[]) (Be _ _) (Be _ _) (Wh (by decide)) (RdK.nil _) rfl hT ((Xd rfl rfl (by decide)).trans (by rw[←hP];rfl))),ym r5,BC rq4 (fun w u h=>Ov w u h),BC rq4 (fun w u h=>No w u h),ALu⟩ fun a4 w4 g4 st4=>?_
 obtain⟨hn4,hd4,e4_10,e4_11,e4_12,e4_13,e4_9,e4_14,e4_15,e4_0,-⟩:=st4
 obtain⟨ao5,cap5,ks5,e4_14q,hp5,hk5,hf5⟩:=e4_14
 replace HG:=AA HG g4
 have sv4:Sv 61 [] [(0,_),(14,_),(15,_)] a4:=⟨hn4,hd4,e4_0,e4_14q,e4_15,ALu⟩
 refine Av (T:=36) (Z:=([bv AQ,bv AQ,[.slice none 0 0]].flatten)) sv4 rfl rfl rfl (fun a w=>by kernel_rfl) fun a6 w6 ALm AB2 g6 z6 MV sv6=>?_
 have AHZ:=Bt HG AB2
 have ZR:=A1 (hk5.lt) AB2
 refine As sv6 r7 (BX (Be _ _) (Be _ _) (.slice ao5 ks5.length cap5) rfl) MV (by first|rfl|simp[Ag,AJ,AU,(Be _ _).1,(Be _ _).1]) fun w7 g7 h7=>?_
 replace hk5:=(hk5.kn g6).offR g7 (AV ZR)
 replace HG:=AD (AA HG g6) g7 AHZ
 replace MV:=h7
 refine Aa (v:=.int .i64 0) sv6 r6 fun a8 sv8=>?_
 refine AE ?_
 refine k3 _ _ ?_
 refine ALo fun K9 k9=>?_
 refine DZ (sv8.st w7) (by kernel_rfl) 7 [(17,Sp.is (Ao ((kd 273 (Lh 7))) ((kd 276 (kd 274 (Lh 7)))) (.slice ao5 ks5.length cap5))),(18,Sp.is (BR ((JV 1)))),(19,Sp.sr w7.heap.size r1),(16,Sp.sr w7.heap.size r1),(20,Sp.sl w7.heap.size r1.1),(21,Sp.is (.int .i64 r1.2)),(3,Sp.new w7.heap.size (([[.int .i64 0],[.slice none 0 0],[.int .i64 0],[.slice none 0 0],[.slice none 0 0],bv AQ].flatten)) 31)] rfl (by kernel_rfl) (by kernel_rfl) (by kernel_rfl) [5] (by kernel_rfl)
  ⟨yl r6 (BX (Be _ _) (Be _ _) (.slice ao5 ks5.length cap5) rfl) MV,Ae [.int .i64 1] Tryz.func37 (by kernel_rfl) rq4 ⟨rfl,ALu⟩ (Au fun W g=>Pm 1 W),Ae [Ao ((kd 273 (Lh 7))) ((kd 276 (kd 274 (Lh 7)))) (.slice ao5 ks5.length cap5),.slice none 0 0,.int .i64 0,.int .i64 0,BR ((JV 1))] Tryz.func20 (by kernel_rfl) rq4 ⟨(oy rfl rfl),rfl,rfl,rfl,(oy rfl rfl),ALu⟩ (AJO (Be _ _) (Be _ _) hk5 hp5 hr1),ym r5,BC rq4 (fun w u h=>ZP w u h),BC rq4 (fun w u h=>Np w u h),L3 rfl trivial (Nat.le_refl _) (fun a w=>by kernel_rfl) (fun _ _ h=>h),ALu⟩ ⟨fun o ho=>by obtain rfl:=Option.some.inj ho;exact Iw rfl rfl rfl trivial (fun w u h=>Np w u h),ALu⟩
  [3] (by kernel_rfl) ⟨Sp.new_lt,ALu⟩ ⟨.inl rfl,.inl rfl,.inl rfl,.inl rfl,.inl rfl,.inl rfl,.inr ⟨rfl,(([[.int .i64 0],[.slice none 0 0],[.int .i64 0],[.slice none 0 0],[.slice none 0 0],bv AQ].flatten)).toArray,31,fun a w=>by kernel_rfl⟩,ALu⟩ (by kernel_rfl) fun a10 w10 g10 st10 nd10=>?_
 obtain⟨hn10,hd10,e10_17,e10_18,e10_19,e10_16,e10_20,e10_21,e10_3,e10_2,e10_1,e10_0,e10_14,e10_15,-⟩:=st10
 obtain⟨own11,wr11,ao11,wo11,bo11,ac11,wc11,bc11,e10_20q,hF1,fr11⟩:=e10_20
 obtain⟨AKj,e10_3q,Sr,Jy⟩:=e10_3
 have UJ:=Gj MV Sr
 have AFk:=Ua HG Sr
 have Wi:=Ly (hk5.lt) Sr
 have Wj:=SdF.ap hF1 Jy (by decide)
 have Ci:Sv 61 [] [(2,_),(1,_),(0,_),(14,_),(15,_),(20,_),(21,_),(3,_)] a10:=⟨hn10,hd10,e10_2,e10_1,e10_0,e10_14,e10_15,e10_20q,e10_21,e10_3q,ALu⟩
 refine As Ci r7 (Dz _ _ hF1.tg (.slice ao11 (List.length own11) ac11) (.slice wo11 (List.length wr11) wc11) (.slice bo11 r1.1.body.length bc11) rfl rfl rfl) Jy (FS AO hF1.tg) fun w12 g12 h12=>?_
 replace MV:=AY g12 (AC g10 MV) (Ne.symm UJ)
 replace hk5:=(hk5.kn g10).offR g12 (AV Wi)
 replace hF1:=hF1.offR g12 (AV Wj)
 replace HG:=AD (AA HG g10) g12 AFk
 replace Jy:=h12
 refine Aa (v:=.int .i64 r1.2) Ci r6 fun a13 EC=>?_
 refine AE ?_
 refine k9 _ _ ?_
 refine ALo fun K14 k14=>?_
 refine DZ (EC.st w12) (by kernel_rfl) 9 [(23,Sp.is (Ao ((kd 273 (Lh 7))) ((kd 276 (kd 274 (Lh 7)))) (.slice ao5 ks5.length cap5))),(24,Sp.is (AP ((Lh 1)))),(25,Sp.lit1 w12.heap.size 23 (bv (Lh 1))),(26,Sp.is (BR ((JV 9)))),(27,Sp.sr w12.heap.size r2),(22,Sp.sr w12.heap.size r2),(28,Sp.sl w12.heap.size r2.1),(29,Sp.is (.int .i64 r2.2)),(5,Sp.new w12.heap.size (([[.int .i64 0],[.slice none 0 0],[.int .i64 0],[.slice none 0 0],[.slice none 0 0],bv AQ].flatten)) 31)] rfl (by kernel_rfl) (by kernel_rfl) (by kernel_rfl) [7] (by kernel_rfl)
  ⟨yl r6 (BX (Be _ _) (Be _ _) (.slice ao5 ks5.length cap5) rfl) MV,Ba (vs:=[.int .u8 1]) rfl rfl trivial ⟨rfl,ALu⟩ (fun _=>AJP 1 _) (fun _=>rfl),Qn rfl rfl trivial (Nat.le_refl _) rfl (fun W hw v h=>match v,h with|_,⟨rfl,_⟩=>⟨bv (Lh 1),AC7 (Wh (by decide)) W,fun w' _ hh=>⟨_,rfl,hw.size,hh⟩⟩),Ae [.int .i64 9] Tryz.func37 (by kernel_rfl) rq4 ⟨rfl,ALu⟩ (Au fun W g=>Pm 9 W),Xk (Sp.sr w12.heap.size r2) rfl rfl trivial rfl (fun W g av h=>match av,h with|[_,_,_,_,_],⟨rfl,hv,rfl,rfl,rfl,_⟩=>AAy (Be _ _) (Be _ _) (hk5.kn g) hp5 (AKi (Wh (by decide)) hv) (by decide) g.size hr2) (fun _ _ h=>h) (Eo Tryz.func20 (by kernel_rfl) rfl),ym r5,BC rq4 (fun w u h=>ZP w u h),BC rq4 (fun w u h=>Np w u h),L3 rfl trivial (Nat.le_refl _) (fun a w=>by kernel_rfl) (fun _ _ h=>h),ALu⟩ ⟨fun o ho=>by obtain rfl:=Option.some.inj ho;exact Iw rfl rfl rfl trivial (fun w u h=>Np w u h),ALu⟩
  [5] (by kernel_rfl) ⟨Sp.new_lt,ALu⟩ ⟨.inl rfl,.inl rfl,.inl rfl,.inl rfl,.inl rfl,.inl rfl,.inl rfl,.inl rfl,.inr ⟨rfl,(([[.int .i64 0],[.slice none 0 0],[.int .i64 0],[.slice none 0 0],[.slice none 0 0],bv AQ].flatten)).toArray,31,fun a w=>by kernel_rfl⟩,ALu⟩ (by kernel_rfl) fun a15 w15 g15 st15 nd15=>?_
 obtain⟨hn15,hd15,e15_23,e15_24,e15_25,e15_26,e15_27,e15_22,e15_28,e15_29,e15_5,e15_4,e15_2,e15_1,e15_0,e15_14,e15_15,e15_20,e15_21,e15_3,-⟩:=st15
 obtain⟨own16,wr16,ao16,wo16,bo16,ac16,wc16,bc16,e15_28q,hF2,fr16⟩:=e15_28
 obtain⟨ALb,e15_5q,MW,Wk⟩:=e15_5
 have UK:=Gj MV MW
 have Ss:=Gj Jy MW
 have AFl:=Ua HG MW
 have Wl:=Ly (hk5.lt) MW
 have Wm:=Ly (hF1.lt) MW
 have Wn:=SdF.ap hF2 Wk (by decide)
 have Nj:Sv 61 [] [(4,_),(2,_),(1,_),(0,_),(14,_),(15,_),(20,_),(21,_),(3,_),(28,_),(29,_),(5,_)] a15:=⟨hn15,hd15,e15_4,e15_2,e15_1,e15_0,e15_14,e15_15,e15_20,e15_21,e15_3,e15_28q,e15_29,e15_5q,ALu⟩
 refine As Nj r7 (Dz _ _ hF2.tg (.slice ao16 (List.length own16) ac16) (.slice wo16 (List.length wr16) wc16) (.slice bo16 r2.1.body.length bc16) rfl rfl rfl) Wk (FS AO hF2.tg) fun w17 g17 h17=>?_
 replace MV:=AY g17 (AC g15 MV) (Ne.symm UK)
 replace hk5:=(hk5.kn g15).offR g17 (AV Wl)
 replace hF2:=hF2.offR g17 (AV Wn)
 replace Wk:=h17
 refine Aa (v:=.int .i64 r2.2) Nj r6 fun a18 CU=>?_
 refine AE ?_
 refine k14 _ _ ?_
 refine ALo fun K19 k19=>?_
 refine ALn ?_
 refine AI CU 6 [(31,Ao ((kd 273 (Lh 7))) ((kd 276 (kd 274 (Lh 7)))) (.slice ao5 ks5.length cap5)),(32,Bw r2.1.addr (.slice ao16 (List.length own16) ac16) r2.1.joint (.slice wo16 (List.length wr16) wc16) (.slice bo16 r2.1.body.length bc16) r2.1.tag),(33,.tuple #[BR ((JV 9)),.int .i64 0]),(30,.tuple #[BR ((JV 9)),.int .i64 0]),(34,BR ((JV 9))),(35,.int .i64 0)]
  ⟨yl r6 (BX (Be _ _) (Be _ _) (.slice ao5 ks5.length cap5) rfl) MV,yl r6 (Dz _ _ hF2.tg (.slice ao16 (List.length own16) ac16) (.slice wo16 (List.length wr16) wc16) (.slice bo16 r2.1.body.length bc16) rfl rfl rfl) Wk,Ae [Ao ((kd 273 (Lh 7))) ((kd 276 (kd 274 (Lh 7)))) (.slice ao5 ks5.length cap5),Bw r2.1.addr (.slice ao16 (List.length own16) ac16) r2.1.joint (.slice wo16 (List.length wr16) wc16) (.slice bo16 r2.1.body.length bc16) r2.1.tag] Tryz.func22 (by kernel_rfl) rq4 ⟨(oy rfl rfl),(oy rfl rfl),ALu⟩ (Au fun W g=>Nt (q:=(JV 9,0)) (Be _ _) (Be _ _) (hk5.kn g) hp5 (hF2.kn g) hq),ym r5,BC rq4 (fun _ _ h=>⟨_,_,h,rfl,rfl⟩),BC rq4 (fun _ _ h=>⟨_,_,h,rfl,rfl⟩),ALu⟩ fun a20 w20 g20 FA=>?_
 replace Jy:=AC g20 (AY g17 (AC g15 Jy) (Ne.symm Ss))
 replace hF1:=((hF1.kn g15).offR g17 (AV Wm)).kn g20
 replace hF2:=hF2.kn g20
 replace HG:=AA (AD (AA HG g15) g17 AFl) g20
 refine Av (T:=25) (Z:=[.int .i64 0,.int .i64 0,.string ⟨#[]⟩]) FA rfl rfl rfl (fun a w=>by kernel_rfl) fun a21 w21 ALc O0 g21 z21 AA4 Da=>?_
 have Su:=Ar Jy O0
 have AFm:=Bt HG O0
 have Wo:=A1 (hF1.lt) O0
 have Wp:=A1 (hF2.lt) O0
 refine As Da r7 (C6 ((JV 9))) AA4 rfl fun w22 g22 h22=>?_
 replace Jy:=AY g22 (AC g21 Jy) (Ne.symm Su)
 replace hF1:=(hF1.kn g21).offR g22 (AV Wo)
 replace AA4:=h22
 refine Aa (v:=.int .i64 0) Da r6 fun a23 Cz=>?_
 have CI:Sv _ _ [_,_,_,_,_,_,_,_,_,_,_,_,_,_,_] _:=Cz.dl [31,32,33,30,34,35]
 refine AE ?_
 refine k19 _ _ ?_
 refine ALo fun K25 k25=>?_
 refine Ck (CI.dl [0]) [(36,.int .i64 0),(37,.bool true),(38,.bool true),(39,.int .i64 r1.2),(40,.bool true),(41,.bool true),(42,.bool true),(43,pk AKj 4),(44,.slice bo11 r1.1.body.length bc11),(45,.string (bs r1.1.body)),(46,.bool true),(47,.bool true),(48,.bool true),(49,.int .i64 r2.2),(50,.bool true),(51,.bool true),(52,.bool true),(53,.int .i64 0),(54,.bool true),(55,.bool true),(56,.bool true),(57,BR ((JV 9))),(58,BR ((JV 9))),(59,.bool true),(60,.bool true),(0,.bool true)]
  ⟨ym r5,CQ r6 (fun _=>Bi rfl),ym r5,Aw rq8,Bc rq9 (fun _=>Bi (by rw[hz1];rfl)),Ax rq9,ym r5,BE rq9 (fun _=>by kernel_rfl),Ap rq9 (fun _ g=>Ac (IR (.slice bo11 r1.1.body.length bc11) rfl) (BF (L:=[[.int .i64 r1.1.addr],[.slice ao11 (List.length own11) ac11],[.int .i64 r1.1.joint],[.slice wo11 (List.length wr11) wc11],[.slice bo11 r1.1.body.length bc11],bv r1.1.tag]) (i:=4) (AF g Jy (by simp)) rfl rfl)),AFj (l:=r1.1.body) Tryz.underlying29 Tryz.underlying5 Tryz.underlying9 rfl rfl (gy rfl rfl rfl) (oy rfl rfl) (fun W g=>(hF1.kn g).rb.1) (fun _=>rfl),Bc rq9 (fun _=>AHY (by rw[hb1];exact b22)),Ax rq9,ym r5,Aw rq8,Bc rq9 (fun _=>Bi (by rw[hz2];rfl)),Ax rq9,ym r5,Aw rq8,Bc rq9 (fun _=>Bi rfl),Ax rq9,ym r5,Ap rq9 (fun _ g=>Ac (C6 ((JV 9))) (Af (AF g AA4 (by simp)))),Bf [.int .i64 9] Tryz.func37 (by kernel_rfl) r7 ⟨rfl,ALu⟩ (Au fun W g=>Pm 9 W),Gn rfl rfl (gy rfl rfl rfl) (oy rfl rfl) (oy rfl rfl) (fun _=>LB (AB1 9)) (fun _=>rfl),Ax rq9,Co 60 0 (.inr rfl) rfl rfl trivial (fun _ _ h=>h),ALu⟩ fun a26 w26 g26 Cj=>?_
 refine k25 _ _ ?_
 replace hF1:=hF1.kn g26
 replace hF2:=((hF2.kn g21).offR g22 (AV Wp)).kn g26
 replace HG:=AA (AD (AA HG g21) g22 AFm) g26
 refine ALr ?_
 repeat refine AL ?_
 refine BH (fn:=Tryz.f13) Cj (BD (p:=0) Tryz.results13 Cj rfl rfl) ?_
 exact⟨rfl,HG⟩
theorem AKk (b:Bool) (a:Int):hd [] (jt b) (M5 a)=true:=by
 unfold hd
 rw[De]
 cases b<;>rfl
theorem MX (seed:List Nat):CH (V6 seed).1=true:=(JE seed 6 (by decide)).1
theorem AIJ (seed:List Nat):Dg (V6 seed).2.1∧Dg (V6 seed).2.2:=⟨Be _ _,IG _ _⟩
theorem ZX {w0:World} {seed:List Nat} (hse:Dg seed):∀W,w0.grownBy W none→Calls Tryz.prog 14 #[AP seed] W fun e w'=>∃v,e=.returned v∧W.grownBy w' none∧(Sp.vv (V6 seed) (fun _=>False)).on w' v:=fun W _=>AAz seed hse W
theorem Qy (x:V) (w:World):Calls Tryz.prog 12 #[BR x] w fun e w'=>e=.returned (.bool (decide (x.text.size≤100)))∧w.grownBy w' none:=AAu x _ rfl w
theorem ZS {c k:List Nat} (hc:Dg c):NC (NC c k) k=c:=by
 unfold NC
 exact Pb (by rw[hc.1,show(msk k).length=32 from(Be 283 k).1];exact Nat.le_refl _)
theorem AFn {K:List (List Nat)} {f:List Nat→List Nat} (h:0<K.length):Hg (K.map f) 0=f (Hg K 0):=by
 cases K with
 | nil=>simp at h
 | cons a K=>rfl
theorem Hy {P:List VP} {own:List (List Nat)} {joint a:Int} {x:V} (h:hd own joint a=true) (hv:CH P=true) (hk:∀j,j<own.length→(CP P (Hg own j) a).2=0) :
   DE P (Eu P own joint a x).1=(x.clean,0)∧(Eu P own joint a x).2=0∧FQ (Eu P own joint a x).1=true:=by
 obtain⟨K1,K2⟩:=GV hk
 obtain⟨haa,hjj,hol,hasc⟩:=ABp h
 by_cases hne:own=[]
 · subst hne
   refine⟨Nr h hv hv,?_,?_⟩
   · rw[KH h hv]
   · rw[KH h hv];unfold FQ;simp[h,Oz]
 · have hpos:0<own.length:=List.length_pos_iff.2 hne
   rcases hjj with rfl|rfl
   · refine⟨ZQ h hv hne K2,?_,?_⟩
     · rw[Ev h hv hne K2 rfl rfl]
     · rw[Ev h hv hne K2 rfl rfl];unfold FQ;simp[h,Kp,Oz]
   · obtain⟨c,hc⟩:∃c,Vf (decide ((1:Int)=1)) (Cf P a own).1=c:=⟨_,rfl⟩
     have hcd:Dg c:=hc▸Nk _ _
     rw[Ev h hv hne K2 rfl hc]
     have hw:(Cf P a own).1.length=own.length:=by rw[K1,List.length_map]
     have hv2:FQ ⟨a,own,1,if (1:Int)=1 then (Cf P a own).1.map (NC c) else [],Jv (B6 x) c,Vg c a (Jv (B6 x) c)⟩=true:=by
       unfold FQ;simp[h,Kp,Oz,hw]
     refine⟨?_,rfl,hv2⟩
     have hr:Ig P ⟨a,own,1,if (1:Int)=1 then (Cf P a own).1.map (NC c) else [],Jv (B6 x) c,Vg c a (Jv (B6 x) c)⟩=some c:=by
       unfold Ig
       rw[if_pos rfl]
       have:=On (P:=P) (a:=a) (own:=own) (wr:=(Cf P a own).1.map (NC c)) (i:=0) hpos (fun j hj=>absurd hj (by omega)) (hk 0 hpos)
       rw[if_pos rfl,this,AFn (by omega)]
       congr 1
       have e:Hg (Cf P a own).1 0=(CP P (Hg own 0) a).1:=by
        rw[K1]
        cases own with
        | nil=>simp at hpos
        | cons o l=>rfl
       rw[e]
       exact ZS hcd
     rw[Mt hv2 hv hne hr,if_pos rfl,Sq,Oy]
theorem JI {n:Int}:∀{i:Nat} {d:DD},d∈E4 n i→∃j,j<i∧FJ n j=1∧d=NJ j
 | 0,d,h=>by simp[E4] at h
 | i+1,d,h=>by
  unfold E4 at h
  by_cases hb:FJ n i=1
  · rw[if_pos hb,List.mem_append,List.mem_singleton] at h
    rcases h with h|h
    · obtain⟨j,h1,h2,h3⟩:=JI h
      exact⟨j,by omega,h2,h3⟩
    · exact⟨i,by omega,hb,h⟩
  · rw[if_neg hb] at h
    obtain⟨j,h1,h2,h3⟩:=JI h
    exact⟨j,by omega,h2,h3⟩
theorem O6 {n:Int}:∀{i j:Nat},j<i→FJ n j=1→NJ j∈E4 n i
 | 0,j,h,_=>by omega
 | i+1,j,h,hb=>by
  unfold E4
  by_cases e:j=i
  · subst e;rw[if_pos hb];simp
  · have:=O6 (n:=n) (i:=i) (j:=j) (by omega) hb
    split
    · exact List.mem_append_left _ this
    · exact this
def QH (b:Bool) (i:Nat):List (List Nat):=if b then [EQ i] else []
theorem Ij (n:Int) (i:Nat):(E4 n (i+1)).map DD.x=(E4 n i).map DD.x++QH (decide (FJ n i=1)) i:=by
 unfold QH
 by_cases hb:FJ n i=1
 · rw[show E4 n (i+1)=E4 n i++[NJ i] from if_pos hb,List.map_append,decide_eq_true hb];rfl
 · rw[show E4 n (i+1)=E4 n i from if_neg hb,decide_eq_false hb];simp
theorem ALJ:∀b0 b1 b2 b3 b4 b5:Bool,asc ([]++QH b0 0++QH b1 1++QH b2 2++QH b3 3++QH b4 4++QH b5 5)=true:=by decide +kernel
theorem AHa (n:Int):asc ((E4 n 6).map DD.x)=true:=by
 rw[Ij,Ij,Ij,Ij,Ij,Ij]
 exact ALJ _ _ _ _ _ _
theorem Sw (n:Int) (b:Bool) (a:Int):hd ((E4 n 6).map DD.x) (jt b) (M5 a)=true:=by
 have hl:=Qw n 6
 unfold hd
 rw[De,AHa,List.length_map,decide_eq_true (show(E4 n 6).length≤16 by omega)]
 cases b<;>rfl
theorem AHb {T:Nat→List Nd} {P:List VP} {i j:Nat} (h:OV T P i) (hj:j<i) {a:Int} (ha:Br a=true):CP P (EQ j) a=DM (T j) a:=
 ABa ha h.1 (U9 (Srt.of h.1) ((h.2.2 _).2 ⟨j,hj,rfl⟩)) rfl
theorem ZT {seed:List Nat} {j:Nat} (hj:j<6) {a:Int} (ha:Br a=true):(CP (V6 seed).1 (EQ j) a).2=0:=by
 rw[show(V6 seed).1=Qh seed 6 from rfl,AHb (JE seed 6 (by decide)) hj ha]
 obtain⟨K,_,hK⟩:=AIH (l:=Tsd seed j) (Be 275 (QG seed j)) rfl ha
 rw[hK]
theorem Qx {l:List (List Nat)} {j:Nat} (h:j<l.length):Hg l j∈l:=by rw[MJ h];exact List.getElem_mem _
theorem ZU (seed:List Nat) (n a:Int):∀j,j<((E4 n 6).map DD.x).length→(CP (V6 seed).1 (Hg ((E4 n 6).map DD.x) j) (M5 a)).2=0:=fun j hj=>by
 obtain⟨d,hd,e⟩:=List.mem_map.1 (Qx hj)
 obtain⟨k,hk,_,rfl⟩:=JI hd
 rw[←e]
 exact ZT hk (De a)
theorem Un (seed:List Nat) (x:V) (n:Int) (b:Bool) (a:Int):DE (V6 seed).1 (KN (V6 seed).1 x n b a).1=(x.clean,0)∧(KN (V6 seed).1 x n b a).2=0∧FQ (KN (V6 seed).1 x n b a).1=true:=
 Hy (Sw n b a) (MX seed) (ZU seed n a)
theorem ZV {w0:World} {ks:List VK} {vo:Option Addr} {vc_:Nat} {sa po:List Nat} {P:List VP} {x:V} {n:Int} {b:Bool} {a:Int} {r:Sd×Int} (hsa:Dg sa) (hpo:Dg po) (hr:RdK w0 (.slice vo ks.length vc_) ks) (hP:ks.map VK.p=P) (hres:KN P x n b a=r) :
  ∀W,w0.grownBy W none→Calls Tryz.prog 15 #[Dl x n b a,Ao sa po (.slice vo ks.length vc_)] W fun e w'=>∃v,e=.returned v∧W.grownBy w' none∧(Sp.sr w0.heap.size r).on w' v:=fun W g=>by
 refine(AA0 ks vo vc_ sa po hsa hpo P hP x n b a r hres W (hr.kn g)).mono ?_
 rintro e w' ⟨v,h1,h2,own,wr,ao,wo,bo,ac,wc,bc,h3,h4,h5⟩
 exact⟨v,h1,h2,own,wr,ao,wo,bo,ac,wc,bc,h3,h4,fun k hk=>Nat.le_trans g.size (h5 k hk)⟩
section
variable {W:World} {ks:List VK} {vo:Option Addr} {vc_:Nat} {sa po:List Nat} {P:List VP} {s:Sd} {own wr:List DD} {ao wo bo:Option Addr} {ac wc bc:Nat} {q:V×Int} {b:Bool}
theorem Sy (hsa:Dg sa) (hpo:Dg po) (hr:RdK W (.slice vo ks.length vc_) ks) (hP:ks.map VK.p=P) (h:SdF W s own wr ao wo bo ac wc bc) (hq:DE P s=q) (hb:decide (q.2=0)=b) :
  Calls Tryz.prog 26 #[Ao sa po (.slice vo ks.length vc_),Bw s.addr (.slice ao (List.length own) ac) s.joint (.slice wo (List.length wr) wc) (.slice bo s.body.length bc) s.tag] W fun e w'=>e=.returned (.bool b)∧W.grownBy w' none:=by
 have hq2:DE (ks.map VK.p) ⟨s.addr,own.map DD.x,s.joint,wr.map DD.x,s.body,s.tag⟩=q:=by rw[hP,h.sd];exact hq
 subst hb hq2
 exact UI ks vo vc_ sa po hsa hpo s.addr s.joint own wr ao wo bo ac wc bc s.body s.tag h.tg h.by W hr h.ro h.rw h.rb
end
theorem AB3 (m:Nat) (hm:(BitVec.ofInt 64 (m:Int)).toNat=m) (hm2:m<9223372036854775808) (n:Int):bits .and .i64 n (m:Int)=(((n%18446744073709551616).toNat &&& m:Nat):Int):=by
 have h:bits .and .i64 n (m:Int)=IntKind.i64.wrap (((BitVec.ofInt 64 n) &&& (BitVec.ofInt 64 (m:Int))).toNat:Int):=rfl
 rw[h,BitVec.toNat_and,hm,BitVec.toNat_ofInt]
 have hle:(n%((2^64:Nat):Int)).toNat &&& m≤m:=Nat.and_le_right
 exact BG (by omega) (by omega)
theorem AFo (n:Int):bits .and .i64 n 63=n%64:=by
 rw[show(63:Int)=((63:Nat):Int) from rfl,AB3 63 (by decide) (by decide) n,show(63:Nat)=2^6-1 from rfl,Nat.and_two_pow_sub_one_eq_mod]
 omega
theorem AJQ (n:Int):bits .and .i64 n 1=n%2:=by
 rw[show(1:Int)=((1:Nat):Int) from rfl,AB3 1 (by decide) (by decide) n,show(1:Nat)=2^1-1 from rfl,Nat.and_two_pow_sub_one_eq_mod]
 omega
theorem AB4 (n:Int) (i:Nat):FJ n i=n/2^i%2:=AJQ _
theorem AJR {n:Int} (h:¬bits .and .i64 n 63=0):(E4 n 6).map DD.x≠[]:=by
 intro he
 have h0:E4 n 6=[]:=List.map_eq_nil_iff.1 he
 have hb:∀j,j<6→¬FJ n j=1:=fun j hj hs=>by
  have:=O6 hj hs
  rw[h0] at this
  exact(List.not_mem_nil this)
 rw[AFo] at h
 have b0:=hb 0 (by omega)
 have b1:=hb 1 (by omega)
 have b2:=hb 2 (by omega)
 have b3:=hb 3 (by omega)
 have b4:=hb 4 (by omega)
 have b5:=hb 5 (by omega)
 rw[AB4] at b0 b1 b2 b3 b4 b5
 simp only[Int.pow_succ,Int.pow_zero] at b0 b1 b2 b3 b4 b5
 omega
theorem ADN {P P':List VP} {own:List (List Nat)} {joint a:Int} {x:V} (h:hd own joint a=true) (hv:CH P=true) (hk:∀j,j<own.length→(CP P (Hg own j) a).2=0) (hv':CH P'=true) (hne:own≠[]) (hl:∀j,j<own.length→(CP P' (Hg own j) a).2≠0) :
   DE P' (Eu P own joint a x).1=(V.nul,10):=by
 have hvs:=(Hy (x:=x) h hv hk).2.2
 obtain⟨K1,K2⟩:=GV hk
 rw[Ev h hv hne K2 rfl rfl] at hvs ⊢
 refine Nm hvs hv' hne ?_
 unfold Ig
 by_cases hj:joint=1
 · subst hj
   rw[if_pos rfl]
   exact Pj hl
 · have hpos:0<own.length:=List.length_pos_iff.2 hne
   have he:=KI (P:=P') (a:=a) (own:=own) (i:=0) hpos (fun j hj=>absurd hj (by omega)) (hl 0 hpos)
   show(if joint=1 then _ else if (Cf P' a own).2=0 then _ else _)=_
   rw[if_neg hj,if_neg (by rw[he];exact hl 0 hpos)]
def b6 (n:Int):Nat:=(n%64).toNat
theorem AB5 (n:Int):b6 n<64:=by unfold b6;omega
theorem Ih (n:Int) {j:Nat} (hj:j<6):FJ n j=1↔b6 n/2^j%2=1:=by
 rw[AB4]
 unfold b6
 have:j=0∨j=1∨j=2∨j=3∨j=4∨j=5:=by omega
 rcases this with rfl|rfl|rfl|rfl|rfl|rfl<;>simp only[Int.pow_succ,Int.pow_zero,Nat.pow_succ,Nat.pow_zero]<;>omega
theorem AFp (n:Int):bits .and .i64 n 63=(b6 n:Int):=by
 rw[AFo];unfold b6;omega
theorem AHc (n g:Int):bits .and .i64 n g=IntKind.i64.wrap (((n%18446744073709551616).toNat &&& (g%18446744073709551616).toNat:Nat):Int):=by
 have h:bits .and .i64 n g=IntKind.i64.wrap (((BitVec.ofInt 64 n) &&& (BitVec.ofInt 64 g)).toNat:Int):=rfl
 rw[h,BitVec.toNat_and,BitVec.toNat_ofInt,BitVec.toNat_ofInt]
 rfl
theorem AFq (n:Int):b6 n=(n%18446744073709551616).toNat%64:=by unfold b6;omega
theorem AHd (Z:Nat):b6 (IntKind.i64.wrap (Z:Int))=Z%64:=by
 unfold b6
 rw[IntKind.wrap_i64]
 omega
theorem ADO (N M:Nat):(N &&& M)%64=(N%64) &&& (M%64):=by
 have e3:(N &&& M)%2^6=(N%2^6) &&& (M%2^6):=Nat.and_mod_two_pow
 exact e3
theorem AFr (n g:Int):bits .and .i64 (bits .and .i64 n g) 63=((b6 n &&& b6 g:Nat):Int):=by
 rw[AFp,AHc,AHd,ADO,←AFq,←AFq]
theorem AII:∀a:Fin 64,∀b:Fin 64,(a.1 &&& b.1=0↔∀j:Fin 6,a.1/2^j.1%2=1→¬b.1/2^j.1%2=1)∧(a.1 &&& b.1=a.1↔∀j:Fin 6,a.1/2^j.1%2=1→b.1/2^j.1%2=1):=by decide +kernel
theorem Uo (n g:Int):bits .and .i64 (bits .and .i64 n g) 63=0↔∀j,j<6→FJ n j=1→¬FJ g j=1:=by
 rw[AFr]
 have h:=(AII ⟨b6 n,AB5 n⟩ ⟨b6 g,AB5 g⟩).1
 simp only at h
 constructor
 · intro e j hj h1 h2
   exact h.1 (by omega) ⟨j,hj⟩ ((Ih n hj).1 h1) ((Ih g hj).1 h2)
 · intro hh
   have:=h.2 fun j h1 h2=>hh j.1 j.2 ((Ih n j.2).2 h1) ((Ih g j.2).2 h2)
   omega
theorem ZW (n g:Int):bits .and .i64 (bits .and .i64 n g) 63=bits .and .i64 n 63↔∀j,j<6→FJ n j=1→FJ g j=1:=by
 rw[AFr,AFp]
 have h:=(AII ⟨b6 n,AB5 n⟩ ⟨b6 g,AB5 g⟩).2
 simp only at h
 constructor
 · intro e j hj h1
   exact(Ih g hj).2 (h.1 (by omega) ⟨j,hj⟩ ((Ih n hj).1 h1))
 · intro hh
   have:=h.2 fun j h1=>(Ih g j.2).1 (hh j.1 j.2 ((Ih n j.2).2 h1))
   omega
theorem AHe {n:Int} (h:bits .and .i64 n 63=0):(E4 n 6).map DD.x=[]:=by
 have h0:∀j,j<6→¬FJ n j=1:=fun j hj hs=>by
  rw[AFp] at h
  have:=(Ih n hj).1 hs
  have e:b6 n=0:=by omega
  rw[e,Nat.zero_div] at this
  omega
 rw[List.map_eq_nil_iff,List.eq_nil_iff_forall_not_mem]
 intro d hd
 obtain⟨j,hj,hb,_⟩:=JI hd
 exact h0 j hj hb
theorem ADP {P P':List VP} {own:List (List Nat)} {a:Int} {x:V} (h:hd own 0 a=true) (hv:CH P=true) (hv':CH P'=true) (hk:∀j,j<own.length→(CP P (Hg own j) a).2=0) (hs:∀j,j<own.length→CP P' (Hg own j) a=CP P (Hg own j) a) :
   DE P' (Eu P own 0 a x).1=(x.clean,0):=by
 by_cases hne:own=[]
 · subst hne;exact Nr h hv hv'
 obtain⟨K1,K2⟩:=GV hk
 obtain⟨L1,L2⟩:=GV (P:=P') (a:=a) (own:=own) fun j hj=>by rw[hs j hj];exact hk j hj
 have e:(Cf P' a own).1=(Cf P a own).1:=by
   rw[K1,L1]
   refine List.map_congr_left fun o ho=>?_
   obtain⟨j,hj,rfl⟩:=List.mem_iff_getElem.1 ho
   have:=hs j hj
   rw[MJ hj] at this
   rw[this]
 have hS:Eu P own 0 a x=Eu P' own 0 a x:=by
   rw[Ev h hv hne K2 rfl rfl,Ev h hv' hne L2 rfl rfl,e]
 rw[hS]
 exact(Hy h hv' fun j hj=>by rw[hs j hj];exact hk j hj).1
theorem ADQ {P P':List VP} {own:List (List Nat)} {a:Int} {x:V} (h:hd own 1 a=true) (hv:CH P=true) (hv':CH P'=true) (hk:∀j,j<own.length→(CP P (Hg own j) a).2=0) (hs:∀j,j<own.length→CP P' (Hg own j) a=CP P (Hg own j) a∨(CP P' (Hg own j) a).2≠0) {i:Nat} (hi:i<own.length) (hki:(CP P' (Hg own i) a).2=0) :
  DE P' (Eu P own 1 a x).1=(x.clean,0):=by
 have hne:own≠[]:=fun e=>by rw[e] at hi;simp at hi
 have hvs:=(Hy (x:=x) h hv hk).2.2
 obtain⟨K1,K2⟩:=GV hk
 obtain⟨c,hc⟩:∃c,Vf (decide ((1:Int)=1)) (Cf P a own).1=c:=⟨_,rfl⟩
 have hcd:Dg c:=hc▸Nk _ _
 rw[Ev h hv hne K2 rfl hc] at hvs ⊢
 -- the first owner whose key is there
 have hfirst:∃m,m≤i∧(CP P' (Hg own m) a).2=0∧∀j,j<m→(CP P' (Hg own j) a).2≠0:=by
  clear hvs hs
  induction i using Nat.strongRecOn with
  | _ i ih =>
   by_cases hx:∃j,j<i∧(CP P' (Hg own j) a).2=0
   · obtain⟨j,hj,hj2⟩:=hx
     obtain⟨m,h1,h2⟩:=ih j hj (by omega) hj2
     exact⟨m,by omega,h2⟩
   · exact⟨i,Nat.le_refl i,hki,fun j hj e=>hx ⟨j,hj,e⟩⟩
 obtain⟨m,hm,hm2,hm3⟩:=hfirst
 have hml:m<own.length:=by omega
 have hr:Ig P' ⟨a,own,1,if (1:Int)=1 then (Cf P a own).1.map (NC c) else [],Jv (B6 x) c,Vg c a (Jv (B6 x) c)⟩=some c:=by
  unfold Ig
  rw[if_pos rfl]
  have:=On (P:=P') (a:=a) (own:=own) (wr:=(Cf P a own).1.map (NC c)) (i:=m) hml hm3 hm2
  rw[if_pos rfl,this]
  congr 1
  have hsm:CP P' (Hg own m) a=CP P (Hg own m) a:=(hs m hml).elim id fun e=>absurd hm2 e
  have hkl:m<(Cf P a own).1.length:=by rw[K1,List.length_map];exact hml
  have e:Hg ((Cf P a own).1.map (NC c)) m=NC c (CP P (Hg own m) a).1:=by
   rw[MJ (by rw[List.length_map];exact hkl),List.getElem_map]
   congr 1
   simp only[K1,List.getElem_map,MJ hml]
  rw[e,hsm]
  exact ZS hcd
 rw[Mt hvs hv' hne hr,if_pos rfl,Sq,Oy]
theorem AA5 {P P':List VP} {own:List (List Nat)} {a:Int} {x:V} (h:hd own 0 a=true) (hv:CH P=true) (hk:∀j,j<own.length→(CP P (Hg own j) a).2=0) (hv':CH P'=true) {i:Nat} (hi:i<own.length) (hl:(CP P' (Hg own i) a).2≠0) :
  DE P' (Eu P own 0 a x).1=(V.nul,10):=by
 have hne:own≠[]:=fun e=>by rw[e] at hi;simp at hi
 have hvs:=(Hy (x:=x) h hv hk).2.2
 obtain⟨K1,K2⟩:=GV hk
 rw[Ev h hv hne K2 rfl rfl] at hvs ⊢
 refine Nm hvs hv' hne ?_
 have hfirst:∃m,m≤i∧(CP P' (Hg own m) a).2≠0∧∀j,j<m→(CP P' (Hg own j) a).2=0:=by
  clear hvs
  induction i using Nat.strongRecOn with
  | _ i ih =>
   by_cases hx:∃j,j<i∧(CP P' (Hg own j) a).2≠0
   · obtain⟨j,hj,hj2⟩:=hx
     obtain⟨m,h1,h2⟩:=ih j hj (by omega) hj2
     exact⟨m,by omega,h2⟩
   · exact⟨i,Nat.le_refl i,hl,fun j hj=>Decidable.byContradiction fun e=>hx ⟨j,hj,e⟩⟩
 obtain⟨m,hm,hm2,hm3⟩:=hfirst
 have he:=KI (P:=P') (a:=a) (own:=own) (i:=m) (by omega) hm3 hm2
 unfold Ig
 show(if (0:Int)=1 then _ else if (Cf P' a own).2=0 then _ else _)=_
 rw[if_neg (by decide),if_neg (by rw[he];exact hm2)]
theorem OV.congr {T T':Nat→List Nd} {P:List VP} {i:Nat} (h:OV T P i) (e:∀j,j<i→T j=T' j):OV T' P i:=⟨h.1,h.2.1,fun x=>by
 rw[h.2.2 x]
 exact⟨fun⟨j,h1,h2⟩=>⟨j,h1,by rw[h2,e j h1]⟩,fun⟨j,h1,h2⟩=>⟨j,h1,by rw[h2,e j h1]⟩⟩⟩
theorem OV.has {T:Nat→List Nd} {P:List VP} {i j:Nat} (h:OV T P i) (hj:j<i):IT P (EQ j)=true∧Go.Proofs.YtbfjfnbcmojpiaaGreat.tr P (pos P (EQ j))=T j:=U9 (Srt.of h.1) ((h.2.2 _).2 ⟨j,hj,rfl⟩)
theorem ADR {P:List VP} {o:List Nat} {t:List Nd} (h:pos P o<P.length):(Jo P o t).length=P.length:=by unfold Jo;simp;omega
theorem OV.set {T:Nat→List Nd} {P:List VP} {i:Nat} {t:List Nd} (h:OV T P 6) (hi:i<6) (ht:Gh t=true):OV (fun j=>if j=i then t else T j) (Jo P (EQ i) t) 6:=by
 have hf:=(h.has hi).1
 refine⟨AE2 h.1 hf ht,by rw[ADR (KT hf).1];exact h.2.1,fun x=>?_⟩
 rw[AGV (Srt.of h.1) hf,h.2.2 x]
 constructor
 · rintro (rfl|⟨⟨j,h1,rfl⟩,hne⟩)
   · exact⟨i,hi,by simp⟩
   · have:j≠i:=fun e=>hne (by rw[e])
     exact⟨j,h1,by simp[this]⟩
 · rintro ⟨j,h1,rfl⟩
   by_cases e:j=i
   · subst e;exact .inl (by simp)
   · refine .inr ⟨⟨j,h1,by simp[e]⟩,fun e2=>e (ABz h1 hi e2)⟩
end Go.Proofs.YtbfjfnbcmojpiaaGreat
