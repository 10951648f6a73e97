import Derived.Test.YtbfjfnbcmojpiaaGreatAlFE
set_option linter.unusedSimpArgs false
set_option linter.unusedVariables false
set_option maxRecDepth 100000
set_option maxHeartbeats 4000000
namespace Go.Proofs.YtbfjfnbcmojpiaaGreat
open Go.RowKit Go.Shelf
theorem Rz (x:V):KF (Bq x)=(x.clean,0):=by
 have h:=(AK9 x).rt []
 rw[List.append_nil] at h
 exact ABo h
theorem Nm (x:V):(Bq x).length≤64:=Nat.le_trans (IE x) (by decide)
theorem ZO (b c:List Nat):Ja (Ja b c) c=b:=by
 unfold Ja
 rw[NO (by rw[MW];exact Nat.le_refl _)]
 exact OK (by rw[MW];exact Nat.le_refl _)
theorem AAu {P P':List VP} {joint a:Int} {x:V} (h:hd [] joint a=true) (hv:CK P=true) (hv':CK P'=true):E9 P' (Fm P [] joint a x).1=(x.clean,0):=by
 rw[Jb h hv]
 rw[PG (by unfold FK;simp[h,Nm]) hv' rfl,if_pos rfl,Rz]
theorem ZP {P:List VP} {own:List (List Nat)} {a:Int} {x:V} (h:hd own 0 a=true) (hv:CK P=true) (hne:own≠[]) (hk:(Ck P a own).2=0):E9 P (Fm P own 0 a x).1=(x.clean,0):=by
 rw[Fa h hv hne hk rfl rfl]
 have hr:JK P ⟨a,own,0,if (0:Int)=1 then (Ck P a own).1.map (Mr (Wp (decide ((0:Int)=1)) (Ck P a own).1)) else [],Ja (Bq x) (Wp (decide ((0:Int)=1)) (Ck P a own).1),Wq (Wp (decide ((0:Int)=1)) (Ck P a own).1) a (Ja (Bq x) (Wp (decide ((0:Int)=1)) (Ck P a own).1))⟩=some (Wp (decide ((0:Int)=1)) (Ck P a own).1):=by
  unfold JK
  rw[if_neg (show ¬(0:Int)=1 by decide),if_pos hk]
 rw[Oe (by unfold FK;simp[h,J4,Nm]) hv hne hr,if_pos rfl,ZO,Rz]
theorem AAv:Tryz.prog.cellsOf 25=3:=by kernel_rfl
theorem AJX:Tryz.prog.cellsOf 9=1:=by kernel_rfl
theorem AHa (d:Nat) (x:Int) (h:-9223372036854775808≤x∧x≤9223372036854775807):Tryz.prog.keyLits (d+1) 3 [.int .i64 x]=some [.int .i64 x]:=by
 unfold Program.keyLits
 rw[Tryz.underlying3]
 simp[Lit.wf,IntKind.min,IntKind.max,IntKind.signed,IntKind.bits]
 omega
theorem AFf (d:Nat) (x:Int) (h:-9223372036854775808≤x∧x≤9223372036854775807):Tryz.prog.keyLits (d+1) 2 [.int .i64 x]=some [.int .i64 x]:=by
 unfold Program.keyLits
 rw[Tryz.underlying2]
 simp[Lit.wf,IntKind.min,IntKind.max,IntKind.signed,IntKind.bits]
 omega
theorem AJY (d:Nat) (s:ByteArray) (h:s.size≤1000000):Tryz.prog.keyLits (d+1) 9 [.string s]=some [.string s.data.toList]:=by
 unfold Program.keyLits
 rw[Tryz.underlying9]
 simp only
 rw[if_pos (Nat.le_trans h (by decide))]
theorem AFg (d:Nat) (x:V) (hk:QQ x.kind) (hi:QQ x.int) (ht:x.text.size≤1000000):Tryz.prog.keyLits (d+2) 25 (vc x)=some [.int .i64 x.kind,.int .i64 x.int,.string x.text.data.toList]:=by
 unfold Program.keyLits
 rw[Tryz.underlying25]
 simp only
 rw[if_pos ⟨by rw[AAv];rfl,by kernel_rfl⟩]
 have e0:((vc x).drop 0).take 1=[.int .i64 x.kind]:=rfl
 have e1:((vc x).drop 1).take 1=[.int .i64 x.int]:=rfl
 have e2:((vc x).drop 2).take 1=[.string x.text]:=rfl
 simp only[List.mapM_cons,List.mapM_nil,AIg,AGM,AJX,e0,e1,e2,AHa d x.kind ⟨by have:=hk.1;omega,by have:=hk.2;omega⟩,AFf d x.int ⟨by have:=hi.1;omega,by have:=hi.2;omega⟩,AJY d x.text ht]
 simp
theorem AHb {x:V} (h:x.ok) {px py:Operand} {w:World}:(do eqGuard .eql 25 px py (CH x) (CH x);binOp .eql 25 (CH x) (CH x):Sem Value).run Tryz.prog w=.ok (.bool true) w:=
 (AD2 25 6 (by decide) (by kernel_rfl) (by kernel_rfl) (xs:=vc x) (ys:=vc x) (by simp[Value.formed,Tryz.underlying25,AAv,vc]) (by simp[Value.formed,Tryz.underlying25,AAv,vc]) (AFg 0 x (V.ok_kind h).1 (V.ok_kind h).2 (Nat.le_trans (V.ok_text h) (by decide))) (AFg 0 x (V.ok_kind h).1 (V.ok_kind h).2 (Nat.le_trans (V.ok_text h) (by decide))) (r:=true) (by simp) px py w).1
theorem AHc {P:Program} {t:TypeId} {x y:Operand} {w:World} {a b:ByteArray} {r:Bool} (h:(a.toList == b.toList)=r):(do eqGuard .eql t x y (.string a) (.string b);binOp .eql t (.string a) (.string b):Sem Value).run P w=.ok (.bool r) w:=by
 subst h
 simp[eqGuard,binOp_string_eql]
theorem b22:((bs [2,2]).toList == (⟨#[2,2]⟩:ByteArray).toList)=true:=by
 rw[show(⟨#[2,2]⟩:ByteArray)=bs [2,2] from rfl]
 simp
theorem AFh {P:Program} {ops:Array Oper} {L:Nat→Sp} {n:Nat} {w0:World} {o:Oper} {x:Operand} {src dst e d:Nat} {v:Value} {l:List Nat} (hs:P.underlying src=some (.slice e)) (he:P.underlying e=some (.int .u8)) (hd:P.underlying dst=some .string) (ho:o.op=.convert src dst x) (hd':o.dst=some d) (hg:GX ops L n o.guard) (hx:OpX L n x v) (hr:∀w,w0.grownBy w none→Sl w 1 v l.length (bv l)) (h:∀w,(L d).on w (.string (bs l))):OX P ops L n w0 o:=
 FQ hg fun a w hw hl hsz=>⟨.string (bs l),by
  have e1:=hx.eval (o:=o) (a:=a) (w:=w) (by simp[ho,Op.operands]) hl
  simp only[execOp,ho,e1,Sem.run_bind,Sem.run_pure,Result.andThen_ok,Xf src dst e hs he hd (hr w hw)],DH hd' (h w)⟩
theorem AJZ {w0:World} {ks:List VK} {vo:Option Addr} {vc_:Nat} {sa po:List Nat} {P:List VP} {joint ad:Int} {x:V} {r:Sd×Int} (hsa:Dg sa) (hpo:Dg po) (hr:RdK w0 (.slice vo ks.length vc_) ks) (hP:ks.map VK.p=P) (hres:Fm P [] joint ad x=r) :
  ∀W,w0.grownBy W none→Calls Tryz.prog 20 #[Am sa po (.slice vo ks.length vc_),.slice none 0 0,.int .i64 joint,.int .i64 ad,CH x] W fun e w'=>∃v,e=.returned v∧W.grownBy w' none∧(Sp.sr w0.heap.size r).on w' v:=fun W g =>
 AAq hsa hpo (hr.kn g) hP (ds:=[]) (RdD.nil W) (by decide) g.size hres
theorem AKq {W:World} {B:Nat} {d:List Nat} {v:Value} (hd:Dg d) (h:(Sp.lit1 B 23 (bv d)).on W v):RdD W v [⟨d,hd⟩]:=by
 obtain⟨A,rfl,h1,h2⟩:=h
 refine⟨?_,fun k hk=>?_⟩
 · have:=Lx h2 hd
   simpa [LM] using this
 · obtain rfl:=Option.some.inj hk
   exact(Array.getElem?_eq_some_iff.1 h2).1
section
variable {W:World} {ks:List VK} {vo:Option Addr} {vc_:Nat} {sa po:List Nat} {P:List VP} {s:Sd} {own wr:List DD} {ao wo bo:Option Addr} {ac wc bc:Nat} {q:V×Int}
theorem AJa (hsa:Dg sa) (hpo:Dg po) (hr:RdK W (.slice vo ks.length vc_) ks) (hP:ks.map VK.p=P) (h:SdF W s own wr ao wo bo ac wc bc) (hq:E9 P s=q) :
  Calls Tryz.prog 22 #[Am sa po (.slice vo ks.length vc_),B9 s.addr (.slice ao (List.length own) ac) s.joint (.slice wo (List.length wr) wc) (.slice bo s.body.length bc) s.tag] W fun e w'=>e=.returned (.tuple #[CH q.1,.int .i64 q.2])∧W.grownBy w' none:=
 AFY hsa hpo h.tg h.by hr h.ro h.rw h.rb (by rw[hP,h.sd];exact hq)
end
theorem AFi {k:List Nat} {l:List Nd} {a:Int} (hk:Dg k) (hl:tree k []=l) (ha:Br a=true):∃K,Dg K∧Cy l a=(K,0):=by
 refine⟨(Ny a 34 (L5 k)).k,P9 _ _ _ hk,?_⟩
 rw[←hl,US k [] a (Jm k) ha,if_neg (by simp)]
def Kl (k:Nat):List Nat:=k::zs 31
theorem Wb {k:Nat} (h:k<256):Dg (Kl k):=⟨rfl,fun x hx=>by simp[Kl,zs] at hx;omega⟩
theorem AJb (k:Nat) (w:World):(Instr.build 23 #[(0,.int .u8 (k:Int))]).run Tryz.prog w=.ok (AP (Kl k)) w:=by kernel_rfl
theorem ABx (n:Int):(Iq n).ok:=V.clean_ok _
theorem AAw (n:Int):(Iq n).clean=Iq n:=V.clean_of (ABx n)
theorem R3  (w:World) :
  Calls Tryz.prog 13 #[] w fun e w'=>e=.returned (.bool true)∧w.grownBy w' none:=by
 obtain⟨T,hT⟩:∃T,tree (kd 275 (kd 274 (Kl 7))) []=T:=⟨_,rfl⟩
 have hTv:GO T=true:=hT▸Jm _
 obtain⟨P,hP⟩:∃P,Mb [] (Kl 1) T=P:=⟨_,rfl⟩
 have hv:CK P=true:=hP▸YY rfl rfl (by decide) hTv
 have hm:(Kl 1,T)∈P:=by rw[←hP];exact ABK.2 (.inl rfl)
 obtain⟨K,hKd,hK⟩:=AFi (BR 275 (kd 274 (Kl 7))) hT (a:=5) rfl
 have hk:=ABU (a:=5) rfl hv (U4 (Srt.of hv) hm) hK
 obtain⟨r1,hr1⟩:∃r,Fm P [] 0 0 (Iq 1)=r:=⟨_,rfl⟩
 have hn:=Jb (P:=P) (joint:=0) (a:=0) (x:=Iq 1) rfl hv
 have hz1:r1.2=0:=by rw[←hr1,hn]
 have hb1:r1.1.body=[2,2]:=by rw[←hr1,hn];decide +kernel
 have hk5:(Ck P 5 [Kl 1]).2=0:=by unfold Ck;rw[hk,if_pos rfl];rfl
 obtain⟨r2,hr2⟩:∃r,Fm P [Kl 1] 0 5 (Iq 9)=r:=⟨_,rfl⟩
 have hz2:r2.2=0:=by rw[←hr2,Fa (K:=_) rfl hv (by simp) hk5 rfl rfl]
 have hq:E9 P r2.1=(Iq 9,0):=by rw[←hr2,ZP rfl hv (by simp) hk5,AAw]
 refine BZ Tryz.func13 rfl Tryz.ntmps13 rfl fun a0 sv0=>?_
 have HG:=World.grownBy.refl w none
 replace sv0:Sv 61 [] [] a0:=sv0
 refine ALz fun K1 k1=>?_
 refine ALy ?_
 refine AY (v:=.bool false) sv0 r6 fun a2 sv2=>?_
 refine AE ?_
 refine k1 _ _ ?_
 refine ALz fun K3 k3=>?_
 refine ALy ?_
 refine FH (sv2.st w) 7 [(10,Sp.is (AP ((Kl 7)))),(11,Sp.is (Am ((kd 273 (Kl 7))) ((kd 274 (Kl 7))) (.slice none 0 0))),(12,Sp.is (AP ((Kl 1)))),(13,Sp.vt ((P,(kd 273 (Kl 7)),(kd 276 (kd 274 (Kl 7)))),(0:Int)) ((fun _=>False))),(9,Sp.vt ((P,(kd 273 (Kl 7)),(kd 276 (kd 274 (Kl 7)))),(0:Int)) ((fun _=>False))),(14,Sp.vv (P,(kd 273 (Kl 7)),(kd 276 (kd 274 (Kl 7)))) ((fun _=>False))),(15,Sp.is (.int .i64 0))] rfl (by kernel_rfl) (by kernel_rfl) (by kernel_rfl)
  ⟨BU (vs:=[.int .u8 7]) rfl rfl trivial ⟨rfl,AL5⟩ (fun _=>AJb 7 _) (fun _=>rfl),Ae [AP ((Kl 7))] Tryz.func24 (by kernel_rfl) rq4 ⟨(oy rfl rfl),AL5⟩ (Ap fun W g=>ACj (Kl 7) (Wb (by decide)) W),BU (vs:=[.int .u8 1]) rfl rfl trivial ⟨rfl,AL5⟩ (fun _=>AJb 1 _) (fun _=>rfl),Ae [Am ((kd 273 (Kl 7))) ((kd 274 (Kl 7))) (.slice none 0 0),AP ((Kl 1))] Tryz.func36 (by kernel_rfl) rq4 ⟨(oy rfl rfl),(oy rfl rfl),AL5⟩ (AI2 (ks:=[]) (BR _ _) (BR _ _) (Wb (by decide)) (RdK.nil _) rfl hT ((Xe rfl rfl (by decide)).trans (by rw[←hP];rfl))),ym r5,BF rq4 (fun w u h=>Rx w u h),BF rq4 (fun w u h=>Ry w u h),AL5⟩ fun a4 w4 g4 st4=>?_
 obtain⟨hn4,hd4,e4_10,e4_11,e4_12,e4_13,e4_9,e4_14,e4_15,e4_0,-⟩:=st4
 obtain⟨ao5,cap5,ks5,e4_14q,hp5,hk5,hf5⟩:=e4_14
 replace HG:=AA HG g4
 have sv4:Sv 61 [] [(0,_),(14,_),(15,_)] a4:=⟨hn4,hd4,e4_0,e4_14q,e4_15,AL5⟩
 refine Ar (T:=36) (Z:=([bv AR,bv AR,[.slice none 0 0]].flatten)) sv4 rfl rfl rfl (fun a w=>by kernel_rfl) fun a6 w6 ALx ABy g6 z6 LY sv6=>?_
 have AHd:=Bt HG ABy
 have ZQ:=Au (hk5.lt) ABy
 refine Ao sv6 r7 (Bb (BR _ _) (BR _ _) (.slice ao5 ks5.length cap5) rfl) LY (by first|rfl|simp[Af,AI,AV,(BR _ _).1,(BR _ _).1]) fun w7 g7 h7=>?_
 replace hk5:=(hk5.kn g6).offR g7 (AU ZQ)
 replace HG:=AD (AA HG g6) g7 AHd
 replace LY:=h7
 refine AY (v:=.int .i64 0) sv6 r6 fun a8 sv8=>?_
 refine AE ?_
 refine k3 _ _ ?_
 refine ALz fun K9 k9=>?_
 refine DW (sv8.st w7) (by kernel_rfl) 7 [(17,Sp.is (Am ((kd 273 (Kl 7))) ((kd 276 (kd 274 (Kl 7)))) (.slice ao5 ks5.length cap5))),(18,Sp.is (CH ((Iq 1)))),(19,Sp.sr w7.heap.size r1),(16,Sp.sr w7.heap.size r1),(20,Sp.sl w7.heap.size r1.1),(21,Sp.is (.int .i64 r1.2)),(3,Sp.new w7.heap.size (([[.int .i64 0],[.slice none 0 0],[.int .i64 0],[.slice none 0 0],[.slice none 0 0],bv AR].flatten)) 31)] rfl (by kernel_rfl) (by kernel_rfl) (by kernel_rfl) [5] (by kernel_rfl)
  ⟨yl r6 (Bb (BR _ _) (BR _ _) (.slice ao5 ks5.length cap5) rfl) LY,Ae [.int .i64 1] Tryz.func37 (by kernel_rfl) rq4 ⟨rfl,AL5⟩ (Ap fun W g=>Og 1 W),Ae [Am ((kd 273 (Kl 7))) ((kd 276 (kd 274 (Kl 7)))) (.slice ao5 ks5.length cap5),.slice none 0 0,.int .i64 0,.int .i64 0,CH ((Iq 1))] Tryz.func20 (by kernel_rfl) rq4 ⟨(oy rfl rfl),rfl,rfl,rfl,(oy rfl rfl),AL5⟩ (AJZ (BR _ _) (BR _ _) hk5 hp5 hr1),ym r5,BF rq4 (fun w u h=>ZN w u h),BF rq4 (fun w u h=>Mv w u h),LC rfl trivial (Nat.le_refl _) (fun a w=>by kernel_rfl) (fun _ _ h=>h),AL5⟩ ⟨fun o ho=>by obtain rfl:=Option.some.inj ho;exact IM rfl rfl rfl trivial (fun w u h=>Mv w u h),AL5⟩
  [3] (by kernel_rfl) ⟨Sp.new_lt,AL5⟩ ⟨.inl rfl,.inl rfl,.inl rfl,.inl rfl,.inl rfl,.inl rfl,.inr ⟨rfl,(([[.int .i64 0],[.slice none 0 0],[.int .i64 0],[.slice none 0 0],[.slice none 0 0],bv AR].flatten)).toArray,31,fun a w=>by kernel_rfl⟩,AL5⟩ (by kernel_rfl) fun a10 w10 g10 st10 nd10=>?_
 obtain⟨hn10,hd10,e10_17,e10_18,e10_19,e10_16,e10_20,e10_21,e10_3,e10_2,e10_1,e10_0,e10_14,e10_15,-⟩:=st10
 obtain⟨own11,wr11,ao11,wo11,bo11,ac11,wc11,bc11,e10_20q,hF1,fr11⟩:=e10_20
 obtain⟨AKr,e10_3q,R4,JL⟩:=e10_3
 have Tu:=FX LY R4
 have AFj:=UX HG R4
 have Wc:=Iu (hk5.lt) R4
 have We:=SdF.ap hF1 JL (by decide)
 have Cb:Sv 61 [] [(2,_),(1,_),(0,_),(14,_),(15,_),(20,_),(21,_),(3,_)] a10:=⟨hn10,hd10,e10_2,e10_1,e10_0,e10_14,e10_15,e10_20q,e10_21,e10_3q,AL5⟩
 refine Ao Cb r7 (EJ _ _ hF1.tg (.slice ao11 (List.length own11) ac11) (.slice wo11 (List.length wr11) wc11) (.slice bo11 r1.1.body.length bc11) rfl rfl rfl) JL (FL AO hF1.tg) fun w12 g12 h12=>?_
 replace LY:=AX g12 (AC g10 LY) (Ne.symm Tu)
 replace hk5:=(hk5.kn g10).offR g12 (AU Wc)
 replace hF1:=hF1.offR g12 (AU We)
 replace HG:=AD (AA HG g10) g12 AFj
 replace JL:=h12
 refine AY (v:=.int .i64 r1.2) Cb r6 fun a13 Dy=>?_
 refine AE ?_
 refine k9 _ _ ?_
 refine ALz fun K14 k14=>?_
 refine DW (Dy.st w12) (by kernel_rfl) 9 [(23,Sp.is (Am ((kd 273 (Kl 7))) ((kd 276 (kd 274 (Kl 7)))) (.slice ao5 ks5.length cap5))),(24,Sp.is (AP ((Kl 1)))),(25,Sp.lit1 w12.heap.size 23 (bv (Kl 1))),(26,Sp.is (CH ((Iq 9)))),(27,Sp.sr w12.heap.size r2),(22,Sp.sr w12.heap.size r2),(28,Sp.sl w12.heap.size r2.1),(29,Sp.is (.int .i64 r2.2)),(5,Sp.new w12.heap.size (([[.int .i64 0],[.slice none 0 0],[.int .i64 0],[.slice none 0 0],[.slice none 0 0],bv AR].flatten)) 31)] rfl (by kernel_rfl) (by kernel_rfl) (by kernel_rfl) [7] (by kernel_rfl)
  ⟨yl r6 (Bb (BR _ _) (BR _ _) (.slice ao5 ks5.length cap5) rfl) LY,BU (vs:=[.int .u8 1]) rfl rfl trivial ⟨rfl,AL5⟩ (fun _=>AJb 1 _) (fun _=>rfl),QC rfl rfl trivial (Nat.le_refl _) rfl (fun W hw v h=>match v,h with|_,⟨rfl,_⟩=>⟨bv (Kl 1),AC4 (Wb (by decide)) W,fun w' _ hh=>⟨_,rfl,hw.size,hh⟩⟩),Ae [.int .i64 9] Tryz.func37 (by kernel_rfl) rq4 ⟨rfl,AL5⟩ (Ap fun W g=>Og 9 W),Xl (Sp.sr w12.heap.size r2) rfl rfl trivial rfl (fun W g av h=>match av,h with|[_,_,_,_,_],⟨rfl,hv,rfl,rfl,rfl,_⟩=>AAq (BR _ _) (BR _ _) (hk5.kn g) hp5 (AKq (Wb (by decide)) hv) (by decide) g.size hr2) (fun _ _ h=>h) (Ed Tryz.func20 (by kernel_rfl) rfl),ym r5,BF rq4 (fun w u h=>ZN w u h),BF rq4 (fun w u h=>Mv w u h),LC rfl trivial (Nat.le_refl _) (fun a w=>by kernel_rfl) (fun _ _ h=>h),AL5⟩ ⟨fun o ho=>by obtain rfl:=Option.some.inj ho;exact IM rfl rfl rfl trivial (fun w u h=>Mv w u h),AL5⟩
  [5] (by kernel_rfl) ⟨Sp.new_lt,AL5⟩ ⟨.inl rfl,.inl rfl,.inl rfl,.inl rfl,.inl rfl,.inl rfl,.inl rfl,.inl rfl,.inr ⟨rfl,(([[.int .i64 0],[.slice none 0 0],[.int .i64 0],[.slice none 0 0],[.slice none 0 0],bv AR].flatten)).toArray,31,fun a w=>by kernel_rfl⟩,AL5⟩ (by kernel_rfl) fun a15 w15 g15 st15 nd15=>?_
 obtain⟨hn15,hd15,e15_23,e15_24,e15_25,e15_26,e15_27,e15_22,e15_28,e15_29,e15_5,e15_4,e15_2,e15_1,e15_0,e15_14,e15_15,e15_20,e15_21,e15_3,-⟩:=st15
 obtain⟨own16,wr16,ao16,wo16,bo16,ac16,wc16,bc16,e15_28q,hF2,fr16⟩:=e15_28
 obtain⟨ALn,e15_5q,LZ,Wf⟩:=e15_5
 have Tv:=FX LY LZ
 have R5:=FX JL LZ
 have AFk:=UX HG LZ
 have Wg:=Iu (hk5.lt) LZ
 have Wh:=Iu (hF1.lt) LZ
 have Wi:=SdF.ap hF2 Wf (by decide)
 have Ms:Sv 61 [] [(4,_),(2,_),(1,_),(0,_),(14,_),(15,_),(20,_),(21,_),(3,_),(28,_),(29,_),(5,_)] a15:=⟨hn15,hd15,e15_4,e15_2,e15_1,e15_0,e15_14,e15_15,e15_20,e15_21,e15_3,e15_28q,e15_29,e15_5q,AL5⟩
 refine Ao Ms r7 (EJ _ _ hF2.tg (.slice ao16 (List.length own16) ac16) (.slice wo16 (List.length wr16) wc16) (.slice bo16 r2.1.body.length bc16) rfl rfl rfl) Wf (FL AO hF2.tg) fun w17 g17 h17=>?_
 replace LY:=AX g17 (AC g15 LY) (Ne.symm Tv)
 replace hk5:=(hk5.kn g15).offR g17 (AU Wg)
 replace hF2:=hF2.offR g17 (AU Wi)
 replace Wf:=h17
 refine AY (v:=.int .i64 r2.2) Ms r6 fun a18 CZ=>?_
 refine AE ?_
 refine k14 _ _ ?_
 refine ALz fun K19 k19=>?_
 refine ALy ?_
 refine AJ CZ 6 [(31,Am ((kd 273 (Kl 7))) ((kd 276 (kd 274 (Kl 7)))) (.slice ao5 ks5.length cap5)),(32,B9 r2.1.addr (.slice ao16 (List.length own16) ac16) r2.1.joint (.slice wo16 (List.length wr16) wc16) (.slice bo16 r2.1.body.length bc16) r2.1.tag),(33,.tuple #[CH ((Iq 9)),.int .i64 0]),(30,.tuple #[CH ((Iq 9)),.int .i64 0]),(34,CH ((Iq 9))),(35,.int .i64 0)]
  ⟨yl r6 (Bb (BR _ _) (BR _ _) (.slice ao5 ks5.length cap5) rfl) LY,yl r6 (EJ _ _ hF2.tg (.slice ao16 (List.length own16) ac16) (.slice wo16 (List.length wr16) wc16) (.slice bo16 r2.1.body.length bc16) rfl rfl rfl) Wf,Ae [Am ((kd 273 (Kl 7))) ((kd 276 (kd 274 (Kl 7)))) (.slice ao5 ks5.length cap5),B9 r2.1.addr (.slice ao16 (List.length own16) ac16) r2.1.joint (.slice wo16 (List.length wr16) wc16) (.slice bo16 r2.1.body.length bc16) r2.1.tag] Tryz.func22 (by kernel_rfl) rq4 ⟨(oy rfl rfl),(oy rfl rfl),AL5⟩ (Ap fun W g=>AJa (q:=(Iq 9,0)) (BR _ _) (BR _ _) (hk5.kn g) hp5 (hF2.kn g) hq),ym r5,BF rq4 (fun _ _ h=>⟨_,_,h,rfl,rfl⟩),BF rq4 (fun _ _ h=>⟨_,_,h,rfl,rfl⟩),AL5⟩ fun a20 w20 g20 Eu=>?_
 replace JL:=AC g20 (AX g17 (AC g15 JL) (Ne.symm R5))
 replace hF1:=((hF1.kn g15).offR g17 (AU Wh)).kn g20
 replace hF2:=hF2.kn g20
 replace HG:=AA (AD (AA HG g15) g17 AFk) g20
 refine Ar (T:=25) (Z:=[.int .i64 0,.int .i64 0,.string ⟨#[]⟩]) Eu rfl rfl rfl (fun a w=>by kernel_rfl) fun a21 w21 ALo Nn g21 z21 AAx Di=>?_
 have R7:=An JL Nn
 have AFl:=Bt HG Nn
 have Wj:=Au (hF1.lt) Nn
 have Wk:=Au (hF2.lt) Nn
 refine Ao Di r7 (En ((Iq 9))) AAx rfl fun w22 g22 h22=>?_
 replace JL:=AX g22 (AC g21 JL) (Ne.symm R7)
 replace hF1:=(hF1.kn g21).offR g22 (AU Wj)
 replace AAx:=h22
 refine AY (v:=.int .i64 0) Di r6 fun a23 Cw=>?_
 have ER:Sv _ _ [_,_,_,_,_,_,_,_,_,_,_,_,_,_,_] _:=Cw.dl [31,32,33,30,34,35]
 refine AE ?_
 refine k19 _ _ ?_
 refine ALz fun K25 k25=>?_
 refine DM (ER.dl [0]) [(36,.int .i64 0),(37,.bool true),(38,.bool true),(39,.int .i64 r1.2),(40,.bool true),(41,.bool true),(42,.bool true),(43,pk AKr 4),(44,.slice bo11 r1.1.body.length bc11),(45,.string (bs r1.1.body)),(46,.bool true),(47,.bool true),(48,.bool true),(49,.int .i64 r2.2),(50,.bool true),(51,.bool true),(52,.bool true),(53,.int .i64 0),(54,.bool true),(55,.bool true),(56,.bool true),(57,CH ((Iq 9))),(58,CH ((Iq 9))),(59,.bool true),(60,.bool true),(0,.bool true)]
  ⟨ym r5,Cz r6 (fun _=>CV rfl),ym r5,Az rq8,BJ rq9 (fun _=>CV (by rw[hz1];rfl)),A2 rq9,ym r5,BX rq9 (fun _=>by kernel_rfl),Aq rq9 (fun _ g=>Ab (Ho (.slice bo11 r1.1.body.length bc11) rfl) (Bl (L:=[[.int .i64 r1.1.addr],[.slice ao11 (List.length own11) ac11],[.int .i64 r1.1.joint],[.slice wo11 (List.length wr11) wc11],[.slice bo11 r1.1.body.length bc11],bv r1.1.tag]) (i:=4) (AF g JL (by simp)) rfl rfl)),AFh (l:=r1.1.body) Tryz.underlying29 Tryz.underlying5 Tryz.underlying9 rfl rfl (gy rfl rfl rfl) (oy rfl rfl) (fun W g=>(hF1.kn g).rb.1) (fun _=>rfl),BJ rq9 (fun _=>AHc (by rw[hb1];exact b22)),A2 rq9,ym r5,Az rq8,BJ rq9 (fun _=>CV (by rw[hz2];rfl)),A2 rq9,ym r5,Az rq8,BJ rq9 (fun _=>CV rfl),A2 rq9,ym r5,Aq rq9 (fun _ g=>Ab (En ((Iq 9))) (Ac (AF g AAx (by simp)))),B7 [.int .i64 9] Tryz.func37 (by kernel_rfl) r7 ⟨rfl,AL5⟩ (Ap fun W g=>Og 9 W),N6 rfl rfl (gy rfl rfl rfl) (oy rfl rfl) (oy rfl rfl) (fun _=>AHb (ABx 9)) (fun _=>rfl),A2 rq9,Hw 60 0 (.inr rfl) rfl rfl trivial (fun _ _ h=>h),AL5⟩ fun a26 w26 g26 Cr=>?_
 refine k25 _ _ ?_
 replace hF1:=hF1.kn g26
 replace hF2:=((hF2.kn g21).offR g22 (AU Wk)).kn g26
 replace HG:=AA (AD (AA HG g21) g22 AFl) g26
 refine AL2 ?_
 repeat refine AL ?_
 refine BI (fn:=Tryz.f13) Cr (BC (p:=0) Tryz.results13 Cr rfl rfl) ?_
 exact⟨rfl,HG⟩
theorem SA (seed:List Nat):CK (V6 seed).1=true:=(Je seed 6 (by decide)).1
theorem AKs (seed:List Nat):Dg (V6 seed).2.1∧Dg (V6 seed).2.2:=⟨BR _ _,Hn _ _⟩
theorem AFo {w0:World} {seed:List Nat} (hse:Dg seed):∀W,w0.grownBy W none→Calls Tryz.prog 14 #[AP seed] W fun e w'=>∃v,e=.returned v∧W.grownBy w' none∧(Sp.vv (V6 seed) (fun _=>False)).on w' v:=fun W _=>AAr seed hse W
theorem ABz (x:V) (w:World):Calls Tryz.prog 12 #[CH x] w fun e w'=>e=.returned (.bool (decide (x.text.size≤100)))∧w.grownBy w' none:=AAm x _ rfl w
theorem ZR {c k:List Nat} (hc:Dg c):Mr (Mr c k) k=c:=by
 unfold Mr
 exact OK (by rw[hc.1,show(msk k).length=32 from(BR 283 k).1];exact Nat.le_refl _)
theorem AFm {K:List (List Nat)} {f:List Nat→List Nat} (h:0<K.length):Ls (K.map f) 0=f (Ls K 0):=by
 cases K with
 | nil=>simp at h
 | cons a K=>rfl
theorem PJ {P:List VP} {own:List (List Nat)} {joint a:Int} {x:V} (h:hd own joint a=true) (hv:CK P=true) (hk:∀j,j<own.length→(Co P (Ls own j) a).2=0) :
   E9 P (Fm P own joint a x).1=(x.clean,0)∧(Fm P own joint a x).2=0∧FK (Fm P own joint a x).1=true:=by
 obtain⟨K1,K2⟩:=LR hk
 obtain⟨haa,hjj,hol,hasc⟩:=ABi h
 by_cases hne:own=[]
 · subst hne
   refine⟨AAu h hv hv,?_,?_⟩
   · rw[Jb h hv]
   · rw[Jb h hv];unfold FK;simp[h,Nm]
 · have hpos:0<own.length:=List.length_pos_iff.2 hne
   rcases hjj with rfl|rfl
   · refine⟨ZP h hv hne K2,?_,?_⟩
     · rw[Fa h hv hne K2 rfl rfl]
     · rw[Fa h hv hne K2 rfl rfl];unfold FK;simp[h,J4,Nm]
   · obtain⟨c,hc⟩:∃c,Wp (decide ((1:Int)=1)) (Ck P a own).1=c:=⟨_,rfl⟩
     have hcd:Dg c:=hc▸ON _ _
     rw[Fa h hv hne K2 rfl hc]
     have hw:(Ck P a own).1.length=own.length:=by rw[K1,List.length_map]
     have hv2:FK ⟨a,own,1,if (1:Int)=1 then (Ck P a own).1.map (Mr c) else [],Ja (Bq x) c,Wq c a (Ja (Bq x) c)⟩=true:=by
       unfold FK;simp[h,J4,Nm,hw]
     refine⟨?_,rfl,hv2⟩
     have hr:JK P ⟨a,own,1,if (1:Int)=1 then (Ck P a own).1.map (Mr c) else [],Ja (Bq x) c,Wq c a (Ja (Bq x) c)⟩=some c:=by
       unfold JK
       rw[if_pos rfl]
       have:=Rp (P:=P) (a:=a) (own:=own) (wr:=(Ck P a own).1.map (Mr c)) (i:=0) hpos (fun j hj=>absurd hj (by omega)) (hk 0 hpos)
       rw[if_pos rfl,this,AFm (by omega)]
       congr 1
       have e:Ls (Ck P a own).1 0=(Co P (Ls own 0) a).1:=by
        rw[K1]
        cases own with
        | nil=>simp at hpos
        | cons o l=>rfl
       rw[e]
       exact ZR hcd
     rw[Oe hv2 hv hne hr,if_pos rfl,ZO,Rz]
theorem R9 {n:Int}:∀{i:Nat} {d:DD},d∈Ey n i→∃j,j<i∧ZL n j=1∧d=PH j
 | 0,d,h=>by simp[Ey] at h
 | i+1,d,h=>by
  unfold Ey at h
  by_cases hb:ZL n i=1
  · rw[if_pos hb,List.mem_append,List.mem_singleton] at h
    rcases h with h|h
    · obtain⟨j,h1,h2,h3⟩:=R9 h
      exact⟨j,by omega,h2,h3⟩
    · exact⟨i,by omega,hb,h⟩
  · rw[if_neg hb] at h
    obtain⟨j,h1,h2,h3⟩:=R9 h
    exact⟨j,by omega,h2,h3⟩
def PK (b:Bool) (i:Nat):List (List Nat):=if b then [FA i] else []
theorem Hz (n:Int) (i:Nat):(Ey n (i+1)).map DD.x=(Ey n i).map DD.x++PK (decide (ZL n i=1)) i:=by
 unfold PK
 by_cases hb:ZL n i=1
 · rw[show Ey n (i+1)=Ey n i++[PH i] from if_pos hb,List.map_append,decide_eq_true hb];rfl
 · rw[show Ey n (i+1)=Ey n i from if_neg hb,decide_eq_false hb];simp
theorem ALV:∀b0 b1 b2 b3 b4 b5:Bool,asc ([]++PK b0 0++PK b1 1++PK b2 2++PK b3 3++PK b4 4++PK b5 5)=true:=by decide +kernel
theorem AHe (n:Int):asc ((Ey n 6).map DD.x)=true:=by
 rw[Hz,Hz,Hz,Hz,Hz,Hz]
 exact ALV _ _ _ _ _ _
theorem Wl (n:Int) (b:Bool) (a:Int):hd ((Ey n 6).map DD.x) (jt b) (Kk a)=true:=by
 have hl:=QL n 6
 unfold hd
 rw[Hi,AHe,List.length_map,decide_eq_true (show(Ey n 6).length≤16 by omega)]
 cases b<;>rfl
theorem AJc {T:Nat→List Nd} {P:List VP} {i j:Nat} (h:OV T P i) (hj:j<i) {a:Int} (ha:Br a=true):Co P (FA j) a=Cy (T j) a:=
 ABU ha h.1 (U4 (Srt.of h.1) ((h.2.2 _).2 ⟨j,hj,rfl⟩)) rfl
theorem AFn {seed:List Nat} {j:Nat} (hj:j<6) {a:Int} (ha:Br a=true):(Co (V6 seed).1 (FA j) a).2=0:=by
 rw[show(V6 seed).1=Po seed 6 from rfl,AJc (Je seed 6 (by decide)) hj ha]
 obtain⟨K,_,hK⟩:=AFi (l:=Tsd seed j) (BR 275 (Wr seed j)) rfl ha
 rw[hK]
theorem AHf {l:List (List Nat)} {j:Nat} (h:j<l.length):Ls l j∈l:=by rw[AAX h];exact List.getElem_mem _
theorem AIQ (seed:List Nat) (n a:Int):∀j,j<((Ey n 6).map DD.x).length→(Co (V6 seed).1 (Ls ((Ey n 6).map DD.x) j) (Kk a)).2=0:=fun j hj=>by
 obtain⟨d,hd,e⟩:=List.mem_map.1 (AHf hj)
 obtain⟨k,hk,_,rfl⟩:=R9 hd
 rw[←e]
 exact AFn hk (Hi a)
theorem Uk (seed:List Nat) (x:V) (n:Int) (b:Bool) (a:Int):E9 (V6 seed).1 (KV (V6 seed).1 x n b a).1=(x.clean,0)∧(KV (V6 seed).1 x n b a).2=0∧FK (KV (V6 seed).1 x n b a).1=true:=
 PJ (Wl n b a) (SA seed) (AIQ seed n a)
theorem ZS {w0:World} {ks:List VK} {vo:Option Addr} {vc_:Nat} {sa po:List Nat} {P:List VP} {x:V} {n:Int} {b:Bool} {a:Int} {r:Sd×Int} (hsa:Dg sa) (hpo:Dg po) (hr:RdK w0 (.slice vo ks.length vc_) ks) (hP:ks.map VK.p=P) (hres:KV P x n b a=r) :
  ∀W,w0.grownBy W none→Calls Tryz.prog 15 #[Dz x n b a,Am sa po (.slice vo ks.length vc_)] W fun e w'=>∃v,e=.returned v∧W.grownBy w' none∧(Sp.sr w0.heap.size r).on w' v:=fun W g=>by
 refine(AAs ks vo vc_ sa po hsa hpo P hP x n b a r hres W (hr.kn g)).mono ?_
 rintro e w' ⟨v,h1,h2,own,wr,ao,wo,bo,ac,wc,bc,h3,h4,h5⟩
 exact⟨v,h1,h2,own,wr,ao,wo,bo,ac,wc,bc,h3,h4,fun k hk=>Nat.le_trans g.size (h5 k hk)⟩
section
variable {W:World} {ks:List VK} {vo:Option Addr} {vc_:Nat} {sa po:List Nat} {P:List VP} {s:Sd} {own wr:List DD} {ao wo bo:Option Addr} {ac wc bc:Nat} {q:V×Int} {b:Bool}
theorem KJ (hsa:Dg sa) (hpo:Dg po) (hr:RdK W (.slice vo ks.length vc_) ks) (hP:ks.map VK.p=P) (h:SdF W s own wr ao wo bo ac wc bc) (hq:E9 P s=q) (hb:decide (q.2=0)=b) :
  Calls Tryz.prog 26 #[Am sa po (.slice vo ks.length vc_),B9 s.addr (.slice ao (List.length own) ac) s.joint (.slice wo (List.length wr) wc) (.slice bo s.body.length bc) s.tag] W fun e w'=>e=.returned (.bool b)∧W.grownBy w' none:=by
 have hq2:E9 (ks.map VK.p) ⟨s.addr,own.map DD.x,s.joint,wr.map DD.x,s.body,s.tag⟩=q:=by rw[hP,h.sd];exact hq
 subst hb hq2
 exact Tt ks vo vc_ sa po hsa hpo s.addr s.joint own wr ao wo bo ac wc bc s.body s.tag h.tg h.by W hr h.ro h.rw h.rb
end
theorem ADK {P P':List VP} {own:List (List Nat)} {joint a:Int} {x:V} (h:hd own joint a=true) (hv:CK P=true) (hk:∀j,j<own.length→(Co P (Ls own j) a).2=0) (hv':CK P'=true) (hne:own≠[]) (hl:∀j,j<own.length→(Co P' (Ls own j) a).2≠0) :
   E9 P' (Fm P own joint a x).1=(V.nul,10):=by
 have hvs:=(PJ (x:=x) h hv hk).2.2
 obtain⟨K1,K2⟩:=LR hk
 rw[Fa h hv hne K2 rfl rfl] at hvs ⊢
 refine Ru hvs hv' hne ?_
 unfold JK
 by_cases hj:joint=1
 · subst hj
   rw[if_pos rfl]
   exact Oc hl
 · have hpos:0<own.length:=List.length_pos_iff.2 hne
   have he:=Lw (P:=P') (a:=a) (own:=own) (i:=0) hpos (fun j hj=>absurd hj (by omega)) (hl 0 hpos)
   show(if joint=1 then _ else if (Ck P' a own).2=0 then _ else _)=_
   rw[if_neg hj,if_neg (by rw[he];exact hl 0 hpos)]
theorem OV.has {T:Nat→List Nd} {P:List VP} {i j:Nat} (h:OV T P i) (hj:j<i):Hv P (FA j)=true∧Go.Proofs.YtbfjfnbcmojpiaaGreat.tr P (pos P (FA j))=T j:=U4 (Srt.of h.1) ((h.2.2 _).2 ⟨j,hj,rfl⟩)
theorem ADL {P:List VP} {o:List Nat} {t:List Nd} (h:pos P o<P.length):(N3 P o t).length=P.length:=by unfold N3;simp;omega
theorem OV.set {T:Nat→List Nd} {P:List VP} {i:Nat} {t:List Nd} (h:OV T P 6) (hi:i<6) (ht:GO t=true):OV (fun j=>if j=i then t else T j) (N3 P (FA i) t) 6:=by
 have hf:=(h.has hi).1
 refine⟨AEx h.1 hf ht,by rw[ADL (Jl hf).1];exact h.2.1,fun x=>?_⟩
 rw[AGT (Srt.of h.1) hf,h.2.2 x]
 constructor
 · rintro (rfl|⟨⟨j,h1,rfl⟩,hne⟩)
   · exact⟨i,hi,by simp⟩
   · have:j≠i:=fun e=>hne (by rw[e])
     exact⟨j,h1,by simp[this]⟩
 · rintro ⟨j,h1,rfl⟩
   by_cases e:j=i
   · subst e;exact .inl (by simp)
   · refine .inr ⟨⟨j,h1,by simp[e]⟩,fun e2=>e (ABv h1 hi e2)⟩
end Go.Proofs.YtbfjfnbcmojpiaaGreat
