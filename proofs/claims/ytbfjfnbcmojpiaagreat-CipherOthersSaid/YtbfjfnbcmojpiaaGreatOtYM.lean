import Derived.Test.YtbfjfnbcmojpiaaGreatOtFE
set_option linter.unusedSimpArgs false
set_option linter.unusedVariables false
set_option maxRecDepth 100000
set_option maxHeartbeats 4000000
namespace Go.Proofs.YtbfjfnbcmojpiaaGreat
open Go.RowKit Go.Shelf
theorem Nz (x:V):KW (Bt x)=(x.clean,0):=by
 have h:=(AKw x).rt []
 rw[List.append_nil] at h
 exact ABa h
theorem N0 (x:V):(Bt x).length≤64:=Nat.le_trans (IT x) (by decide)
theorem R5 (b c:List Nat):Jb (Jb b c) c=b:=by
 unfold Jb
 rw[Nc (by rw[Mn];exact Nat.le_refl _)]
 exact Ok (by rw[Mn];exact Nat.le_refl _)
theorem M9 {P P':List VP} {joint a:Int} {x:V} (h:hd [] joint a=true) (hv:CI P=true) (hv':CI P'=true):Fd P' (E9 P [] joint a x).1=(x.clean,0):=by
 rw[Jw h hv]
 rw[PT (by unfold FK;simp[h,N0]) hv' rfl,if_pos rfl,Nz]
theorem Yz {P:List VP} {own:List (List Nat)} {a:Int} {x:V} (h:hd own 0 a=true) (hv:CI P=true) (hne:own≠[]) (hk:(Cg P a own).2=0):Fd P (E9 P own 0 a x).1=(x.clean,0):=by
 rw[Fb h hv hne hk rfl rfl]
 have hr:I8 P ⟨a,own,0,if (0:Int)=1 then (Cg P a own).1.map (Md (U5 (decide ((0:Int)=1)) (Cg P a own).1)) else [],Jb (Bt x) (U5 (decide ((0:Int)=1)) (Cg P a own).1),U6 (U5 (decide ((0:Int)=1)) (Cg P a own).1) a (Jb (Bt x) (U5 (decide ((0:Int)=1)) (Cg P a own).1))⟩=some (U5 (decide ((0:Int)=1)) (Cg P a own).1):=by
  unfold I8
  rw[if_neg (show ¬(0:Int)=1 by decide),if_pos hk]
 rw[MJ (by unfold FK;simp[h,KQ,N0]) hv hne hr,if_pos rfl,R5,Nz]
theorem AAj:Tryz.prog.cellsOf 25=3:=by kernel_rfl
theorem AJG:Tryz.prog.cellsOf 9=1:=by kernel_rfl
theorem AHM (d:Nat) (x:Int) (h:-9223372036854775808≤x∧x≤9223372036854775807):Tryz.prog.keyLits (d+1) 3 [.int .i64 x]=some [.int .i64 x]:=by
 unfold Program.keyLits
 rw[Tryz.underlying3]
 simp[Lit.wf,IntKind.min,IntKind.max,IntKind.signed,IntKind.bits]
 omega
theorem AFR (d:Nat) (x:Int) (h:-9223372036854775808≤x∧x≤9223372036854775807):Tryz.prog.keyLits (d+1) 2 [.int .i64 x]=some [.int .i64 x]:=by
 unfold Program.keyLits
 rw[Tryz.underlying2]
 simp[Lit.wf,IntKind.min,IntKind.max,IntKind.signed,IntKind.bits]
 omega
theorem AJH (d:Nat) (s:ByteArray) (h:s.size≤1000000):Tryz.prog.keyLits (d+1) 9 [.string s]=some [.string s.data.toList]:=by
 unfold Program.keyLits
 rw[Tryz.underlying9]
 simp only
 rw[if_pos (Nat.le_trans h (by decide))]
theorem AFS (d:Nat) (x:V) (hk:Qa x.kind) (hi:Qa x.int) (ht:x.text.size≤1000000):Tryz.prog.keyLits (d+2) 25 (vc x)=some [.int .i64 x.kind,.int .i64 x.int,.string x.text.data.toList]:=by
 unfold Program.keyLits
 rw[Tryz.underlying25]
 simp only
 rw[if_pos ⟨by rw[AAj];rfl,by kernel_rfl⟩]
 have e0:((vc x).drop 0).take 1=[.int .i64 x.kind]:=rfl
 have e1:((vc x).drop 1).take 1=[.int .i64 x.int]:=rfl
 have e2:((vc x).drop 2).take 1=[.string x.text]:=rfl
 simp only[List.mapM_cons,List.mapM_nil,AIJ,AAq,AJG,e0,e1,e2,AHM d x.kind ⟨by have:=hk.1;omega,by have:=hk.2;omega⟩,AFR d x.int ⟨by have:=hi.1;omega,by have:=hi.2;omega⟩,AJH d x.text ht]
 simp
theorem ABi {x:V} (h:x.ok) {px py:Operand} {w:World}:(do eqGuard .eql 25 px py (CE x) (CE x);binOp .eql 25 (CE x) (CE x):Sem Value).run Tryz.prog w=.ok (.bool true) w:=
 (ADp 25 6 (by decide) (by kernel_rfl) (by kernel_rfl) (xs:=vc x) (ys:=vc x) (by simp[Value.formed,Tryz.underlying25,AAj,vc]) (by simp[Value.formed,Tryz.underlying25,AAj,vc]) (AFS 0 x (V.ok_kind h).1 (V.ok_kind h).2 (Nat.le_trans (V.ok_text h) (by decide))) (AFS 0 x (V.ok_kind h).1 (V.ok_kind h).2 (Nat.le_trans (V.ok_text h) (by decide))) (r:=true) (by simp) px py w).1
theorem AHN {P:Program} {t:TypeId} {x y:Operand} {w:World} {a b:ByteArray} {r:Bool} (h:(a.toList == b.toList)=r):(do eqGuard .eql t x y (.string a) (.string b);binOp .eql t (.string a) (.string b):Sem Value).run P w=.ok (.bool r) w:=by
 subst h
 simp[eqGuard,binOp_string_eql]
theorem b22:((bs [2,2]).toList == (⟨#[2,2]⟩:ByteArray).toList)=true:=by
 rw[show(⟨#[2,2]⟩:ByteArray)=bs [2,2] from rfl]
 simp
theorem AFT {P:Program} {ops:Array Oper} {L:Nat→Sp} {n:Nat} {w0:World} {o:Oper} {x:Operand} {src dst e d:Nat} {v:Value} {l:List Nat} (hs:P.underlying src=some (.slice e)) (he:P.underlying e=some (.int .u8)) (hd:P.underlying dst=some .string) (ho:o.op=.convert src dst x) (hd':o.dst=some d) (hg:GX ops L n o.guard) (hx:OpX L n x v) (hr:∀w,w0.grownBy w none→Sl w 1 v l.length (bv l)) (h:∀w,(L d).on w (.string (bs l))):OX P ops L n w0 o:=
 FP hg fun a w hw hl hsz=>⟨.string (bs l),by
  have e1:=hx.eval (o:=o) (a:=a) (w:=w) (by simp[ho,Op.operands]) hl
  simp only[execOp,ho,e1,Sem.run_bind,Sem.run_pure,Result.andThen_ok,XN src dst e hs he hd (hr w hw)],DH hd' (h w)⟩
theorem AJI {w0:World} {ks:List VK} {vo:Option Addr} {vc_:Nat} {sa po:List Nat} {P:List VP} {joint ad:Int} {x:V} {r:Sd×Int} (hsa:Dg sa) (hpo:Dg po) (hr:RdK w0 (.slice vo ks.length vc_) ks) (hP:ks.map VK.p=P) (hres:E9 P [] joint ad x=r) :
  ∀W,w0.grownBy W none→Calls Tryz.prog 20 #[Ao sa po (.slice vo ks.length vc_),.slice none 0 0,.int .i64 joint,.int .i64 ad,CE x] W fun e w'=>∃v,e=.returned v∧W.grownBy w' none∧(Sp.sr w0.heap.size r).on w' v:=fun W g =>
 AAf hsa hpo (hr.kn g) hP (ds:=[]) (RdD.nil W) (by decide) g.size hres
theorem AKa {W:World} {B:Nat} {d:List Nat} {v:Value} (hd:Dg d) (h:(Sp.lit1 B 23 (bv d)).on W v):RdD W v [⟨d,hd⟩]:=by
 obtain⟨A,rfl,h1,h2⟩:=h
 refine⟨?_,fun k hk=>?_⟩
 · have:=MI h2 hd
   simpa [Lf] using this
 · obtain rfl:=Option.some.inj hk
   exact(Array.getElem?_eq_some_iff.1 h2).1
section
variable {W:World} {ks:List VK} {vo:Option Addr} {vc_:Nat} {sa po:List Nat} {P:List VP} {s:Sd} {own wr:List DD} {ao wo bo:Option Addr} {ac wc bc:Nat} {q:V×Int}
theorem AFU (hsa:Dg sa) (hpo:Dg po) (hr:RdK W (.slice vo ks.length vc_) ks) (hP:ks.map VK.p=P) (h:SdF W s own wr ao wo bo ac wc bc) (hq:Fd P s=q) :
  Calls Tryz.prog 22 #[Ao sa po (.slice vo ks.length vc_),Ce s.addr (.slice ao (List.length own) ac) s.joint (.slice wo (List.length wr) wc) (.slice bo s.body.length bc) s.tag] W fun e w'=>e=.returned (.tuple #[CE q.1,.int .i64 q.2])∧W.grownBy w' none:=
 AJC hsa hpo h.tg h.by hr h.ro h.rw h.rb (by rw[hP,h.sd];exact hq)
end
theorem AH2 {k:List Nat} {l:List Nd} {a:Int} (hk:Dg k) (hl:tree k []=l) (ha:Bn a=true):∃K,Dg K∧C4 l a=(K,0):=by
 refine⟨(OK a 34 (MR k)).k,QF _ _ _ hk,?_⟩
 rw[←hl,OP k [] a (IC k) ha,if_neg (by simp)]
def Kx (k:Nat):List Nat:=k::zs 31
theorem WD {k:Nat} (h:k<256):Dg (Kx k):=⟨rfl,fun x hx=>by simp[Kx,zs] at hx;omega⟩
theorem AJJ (k:Nat) (w:World):(Instr.build 23 #[(0,.int .u8 (k:Int))]).run Tryz.prog w=.ok (AR (Kx k)) w:=by kernel_rfl
theorem ABj (n:Int):(I9 n).ok:=V.clean_ok _
theorem AAk (n:Int):(I9 n).clean=I9 n:=V.clean_of (ABj n)
theorem R7  (w:World) :
  Calls Tryz.prog 13 #[] w fun e w'=>e=.returned (.bool true)∧w.grownBy w' none:=by
 obtain⟨T,hT⟩:∃T,tree (kd 275 (kd 274 (Kx 7))) []=T:=⟨_,rfl⟩
 have hTv:GV T=true:=hT▸IC _
 obtain⟨P,hP⟩:∃P,Ms [] (Kx 1) T=P:=⟨_,rfl⟩
 have hv:CI P=true:=hP▸Xy rfl rfl (by decide) hTv
 have hm:(Kx 1,T)∈P:=by rw[←hP];exact AA7.2 (.inl rfl)
 obtain⟨K,hKd,hK⟩:=AH2 (Bb 275 (kd 274 (Kx 7))) hT (a:=5) rfl
 have hk:=U3 (a:=5) rfl hv (NQ (Srt.of hv) hm) hK
 obtain⟨r1,hr1⟩:∃r,E9 P [] 0 0 (I9 1)=r:=⟨_,rfl⟩
 have hn:=Jw (P:=P) (joint:=0) (a:=0) (x:=I9 1) rfl hv
 have hz1:r1.2=0:=by rw[←hr1,hn]
 have hb1:r1.1.body=[2,2]:=by rw[←hr1,hn];decide +kernel
 have hk5:(Cg P 5 [Kx 1]).2=0:=by unfold Cg;rw[hk,if_pos rfl];rfl
 obtain⟨r2,hr2⟩:∃r,E9 P [Kx 1] 0 5 (I9 9)=r:=⟨_,rfl⟩
 have hz2:r2.2=0:=by rw[←hr2,Fb (K:=_) rfl hv (by simp) hk5 rfl rfl]
 have hq:Fd P r2.1=(I9 9,0):=by rw[←hr2,Yz rfl hv (by simp) hk5,AAk]
 refine Be Tryz.func13 rfl Tryz.ntmps13 rfl fun a0 sv0=>?_
 have HG:=World.grownBy.refl w none
 replace sv0:Sv 61 [] [] a0:=sv0
 refine ALl fun K1 k1=>?_
 refine ALk ?_
 refine Aa (v:=.bool false) sv0 r6 fun a2 sv2=>?_
 refine AE ?_
 refine k1 _ _ ?_
 refine ALl fun K3 k3=>?_
 refine ALk ?_
 refine FH (sv2.st w) 7 [(10,Sp.is (AR ((Kx 7)))),(11,Sp.is (Ao ((kd 273 (Kx 7))) ((kd 274 (Kx 7))) (.slice none 0 0))),(12,Sp.is (AR ((Kx 1)))),(13,Sp.vt ((P,(kd 273 (Kx 7)),(kd 276 (kd 274 (Kx 7)))),(0:Int)) ((fun _=>False))),(9,Sp.vt ((P,(kd 273 (Kx 7)),(kd 276 (kd 274 (Kx 7)))),(0:Int)) ((fun _=>False))),(14,Sp.vv (P,(kd 273 (Kx 7)),(kd 276 (kd 274 (Kx 7)))) ((fun _=>False))),(15,Sp.is (.int .i64 0))] rfl (by kernel_rfl) (by kernel_rfl) (by kernel_rfl)
  ⟨BV (vs:=[.int .u8 7]) rfl rfl trivial ⟨rfl,ALr⟩ (fun _=>AJJ 7 _) (fun _=>rfl),Ad [AR ((Kx 7))] Tryz.func24 (by kernel_rfl) rq4 ⟨(oy rfl rfl),ALr⟩ (As fun W g=>ACY (Kx 7) (WD (by decide)) W),BV (vs:=[.int .u8 1]) rfl rfl trivial ⟨rfl,ALr⟩ (fun _=>AJJ 1 _) (fun _=>rfl),Ad [Ao ((kd 273 (Kx 7))) ((kd 274 (Kx 7))) (.slice none 0 0),AR ((Kx 1))] Tryz.func36 (by kernel_rfl) rq4 ⟨(oy rfl rfl),(oy rfl rfl),ALr⟩ (AIh (ks:=[]) (Bb _ _) (Bb _ _) (WD (by decide)) (RdK.nil _) rfl hT ((XM rfl rfl (by decide)).trans (by rw[←hP];rfl))),ym r5,BE rq4 (fun w u h=>Nw w u h),BE rq4 (fun w u h=>M7 w u h),ALr⟩ fun a4 w4 g4 st4=>?_
 obtain⟨hn4,hd4,e4_10,e4_11,e4_12,e4_13,e4_9,e4_14,e4_15,e4_0,-⟩:=st4
 obtain⟨ao5,cap5,ks5,e4_14q,hp5,hk5,hf5⟩:=e4_14
 replace HG:=AA HG g4
 have sv4:Sv 61 [] [(0,_),(14,_),(15,_)] a4:=⟨hn4,hd4,e4_0,e4_14q,e4_15,ALr⟩
 refine Ax (T:=36) (Z:=([bv AS,bv AS,[.slice none 0 0]].flatten)) sv4 rfl rfl rfl (fun a w=>by kernel_rfl) fun a6 w6 ALj ABk g6 z6 Lp sv6=>?_
 have AHO:=B7 HG ABk
 have Y0:=A2 (hk5.lt) ABk
 refine Ap sv6 r7 (BR (Bb _ _) (Bb _ _) (.slice ao5 ks5.length cap5) rfl) Lp (by first|rfl|simp[AY,AI,AQ,(Bb _ _).1,(Bb _ _).1]) fun w7 g7 h7=>?_
 replace hk5:=(hk5.kn g6).offR g7 (AU Y0)
 replace HG:=AD (AA HG g6) g7 AHO
 replace Lp:=h7
 refine Aa (v:=.int .i64 0) sv6 r6 fun a8 sv8=>?_
 refine AE ?_
 refine k3 _ _ ?_
 refine ALl fun K9 k9=>?_
 refine DU (sv8.st w7) (by kernel_rfl) 7 [(17,Sp.is (Ao ((kd 273 (Kx 7))) ((kd 276 (kd 274 (Kx 7)))) (.slice ao5 ks5.length cap5))),(18,Sp.is (CE ((I9 1)))),(19,Sp.sr w7.heap.size r1),(16,Sp.sr w7.heap.size r1),(20,Sp.sl w7.heap.size r1.1),(21,Sp.is (.int .i64 r1.2)),(3,Sp.new w7.heap.size (([[.int .i64 0],[.slice none 0 0],[.int .i64 0],[.slice none 0 0],[.slice none 0 0],bv AS].flatten)) 31)] rfl (by kernel_rfl) (by kernel_rfl) (by kernel_rfl) [5] (by kernel_rfl)
  ⟨yl r6 (BR (Bb _ _) (Bb _ _) (.slice ao5 ks5.length cap5) rfl) Lp,Ad [.int .i64 1] Tryz.func37 (by kernel_rfl) rq4 ⟨rfl,ALr⟩ (As fun W g=>O0 1 W),Ad [Ao ((kd 273 (Kx 7))) ((kd 276 (kd 274 (Kx 7)))) (.slice ao5 ks5.length cap5),.slice none 0 0,.int .i64 0,.int .i64 0,CE ((I9 1))] Tryz.func20 (by kernel_rfl) rq4 ⟨(oy rfl rfl),rfl,rfl,rfl,(oy rfl rfl),ALr⟩ (AJI (Bb _ _) (Bb _ _) hk5 hp5 hr1),ym r5,BE rq4 (fun w u h=>ABg w u h),BE rq4 (fun w u h=>O6 w u h),LR rfl trivial (Nat.le_refl _) (fun a w=>by kernel_rfl) (fun _ _ h=>h),ALr⟩ ⟨fun o ho=>by obtain rfl:=Option.some.inj ho;exact Ic rfl rfl rfl trivial (fun w u h=>O6 w u h),ALr⟩
  [3] (by kernel_rfl) ⟨Sp.new_lt,ALr⟩ ⟨.inl rfl,.inl rfl,.inl rfl,.inl rfl,.inl rfl,.inl rfl,.inr ⟨rfl,(([[.int .i64 0],[.slice none 0 0],[.int .i64 0],[.slice none 0 0],[.slice none 0 0],bv AS].flatten)).toArray,31,fun a w=>by kernel_rfl⟩,ALr⟩ (by kernel_rfl) fun a10 w10 g10 st10 nd10=>?_
 obtain⟨hn10,hd10,e10_17,e10_18,e10_19,e10_16,e10_20,e10_21,e10_3,e10_2,e10_1,e10_0,e10_14,e10_15,-⟩:=st10
 obtain⟨own11,wr11,ao11,wo11,bo11,ac11,wc11,bc11,e10_20q,hF1,fr11⟩:=e10_20
 obtain⟨AKb,e10_3q,R9,Je⟩:=e10_3
 have Tk:=Ga Lp R9
 have AFV:=UA HG R9
 have WE:=Jn (hk5.lt) R9
 have WG:=SdF.ap hF1 Je (by decide)
 have Cj:Sv 61 [] [(2,_),(1,_),(0,_),(14,_),(15,_),(20,_),(21,_),(3,_)] a10:=⟨hn10,hd10,e10_2,e10_1,e10_0,e10_14,e10_15,e10_20q,e10_21,e10_3q,ALr⟩
 refine Ap Cj r7 (FL _ _ hF1.tg (.slice ao11 (List.length own11) ac11) (.slice wo11 (List.length wr11) wc11) (.slice bo11 r1.1.body.length bc11) rfl rfl rfl) Je (Fg AN hF1.tg) fun w12 g12 h12=>?_
 replace Lp:=AX g12 (AC g10 Lp) (Ne.symm Tk)
 replace hk5:=(hk5.kn g10).offR g12 (AU WE)
 replace hF1:=hF1.offR g12 (AU WG)
 replace HG:=AD (AA HG g10) g12 AFV
 replace Je:=h12
 refine Aa (v:=.int .i64 r1.2) Cj r6 fun a13 Dh=>?_
 refine AE ?_
 refine k9 _ _ ?_
 refine ALl fun K14 k14=>?_
 refine DU (Dh.st w12) (by kernel_rfl) 9 [(23,Sp.is (Ao ((kd 273 (Kx 7))) ((kd 276 (kd 274 (Kx 7)))) (.slice ao5 ks5.length cap5))),(24,Sp.is (AR ((Kx 1)))),(25,Sp.lit1 w12.heap.size 23 (bv (Kx 1))),(26,Sp.is (CE ((I9 9)))),(27,Sp.sr w12.heap.size r2),(22,Sp.sr w12.heap.size r2),(28,Sp.sl w12.heap.size r2.1),(29,Sp.is (.int .i64 r2.2)),(5,Sp.new w12.heap.size (([[.int .i64 0],[.slice none 0 0],[.int .i64 0],[.slice none 0 0],[.slice none 0 0],bv AS].flatten)) 31)] rfl (by kernel_rfl) (by kernel_rfl) (by kernel_rfl) [7] (by kernel_rfl)
  ⟨yl r6 (BR (Bb _ _) (Bb _ _) (.slice ao5 ks5.length cap5) rfl) Lp,BV (vs:=[.int .u8 1]) rfl rfl trivial ⟨rfl,ALr⟩ (fun _=>AJJ 1 _) (fun _=>rfl),QI rfl rfl trivial (Nat.le_refl _) rfl (fun W hw v h=>match v,h with|_,⟨rfl,_⟩=>⟨bv (Kx 1),ACu (WD (by decide)) W,fun w' _ hh=>⟨_,rfl,hw.size,hh⟩⟩),Ad [.int .i64 9] Tryz.func37 (by kernel_rfl) rq4 ⟨rfl,ALr⟩ (As fun W g=>O0 9 W),XT (Sp.sr w12.heap.size r2) rfl rfl trivial rfl (fun W g av h=>match av,h with|[_,_,_,_,_],⟨rfl,hv,rfl,rfl,rfl,_⟩=>AAf (Bb _ _) (Bb _ _) (hk5.kn g) hp5 (AKa (WD (by decide)) hv) (by decide) g.size hr2) (fun _ _ h=>h) (Eg Tryz.func20 (by kernel_rfl) rfl),ym r5,BE rq4 (fun w u h=>ABg w u h),BE rq4 (fun w u h=>O6 w u h),LR rfl trivial (Nat.le_refl _) (fun a w=>by kernel_rfl) (fun _ _ h=>h),ALr⟩ ⟨fun o ho=>by obtain rfl:=Option.some.inj ho;exact Ic rfl rfl rfl trivial (fun w u h=>O6 w u h),ALr⟩
  [5] (by kernel_rfl) ⟨Sp.new_lt,ALr⟩ ⟨.inl rfl,.inl rfl,.inl rfl,.inl rfl,.inl rfl,.inl rfl,.inl rfl,.inl rfl,.inr ⟨rfl,(([[.int .i64 0],[.slice none 0 0],[.int .i64 0],[.slice none 0 0],[.slice none 0 0],bv AS].flatten)).toArray,31,fun a w=>by kernel_rfl⟩,ALr⟩ (by kernel_rfl) fun a15 w15 g15 st15 nd15=>?_
 obtain⟨hn15,hd15,e15_23,e15_24,e15_25,e15_26,e15_27,e15_22,e15_28,e15_29,e15_5,e15_4,e15_2,e15_1,e15_0,e15_14,e15_15,e15_20,e15_21,e15_3,-⟩:=st15
 obtain⟨own16,wr16,ao16,wo16,bo16,ac16,wc16,bc16,e15_28q,hF2,fr16⟩:=e15_28
 obtain⟨ALZ,e15_5q,Lr,WH⟩:=e15_5
 have Tl:=Ga Lp Lr
 have SA:=Ga Je Lr
 have AFW:=UA HG Lr
 have WI:=Jn (hk5.lt) Lr
 have WJ:=Jn (hF1.lt) Lr
 have WK:=SdF.ap hF2 WH (by decide)
 have Pq:Sv 61 [] [(4,_),(2,_),(1,_),(0,_),(14,_),(15,_),(20,_),(21,_),(3,_),(28,_),(29,_),(5,_)] a15:=⟨hn15,hd15,e15_4,e15_2,e15_1,e15_0,e15_14,e15_15,e15_20,e15_21,e15_3,e15_28q,e15_29,e15_5q,ALr⟩
 refine Ap Pq r7 (FL _ _ hF2.tg (.slice ao16 (List.length own16) ac16) (.slice wo16 (List.length wr16) wc16) (.slice bo16 r2.1.body.length bc16) rfl rfl rfl) WH (Fg AN hF2.tg) fun w17 g17 h17=>?_
 replace Lp:=AX g17 (AC g15 Lp) (Ne.symm Tl)
 replace hk5:=(hk5.kn g15).offR g17 (AU WI)
 replace hF2:=hF2.offR g17 (AU WK)
 replace WH:=h17
 refine Aa (v:=.int .i64 r2.2) Pq r6 fun a18 Ca=>?_
 refine AE ?_
 refine k14 _ _ ?_
 refine ALl fun K19 k19=>?_
 refine ALk ?_
 refine AK Ca 6 [(31,Ao ((kd 273 (Kx 7))) ((kd 276 (kd 274 (Kx 7)))) (.slice ao5 ks5.length cap5)),(32,Ce r2.1.addr (.slice ao16 (List.length own16) ac16) r2.1.joint (.slice wo16 (List.length wr16) wc16) (.slice bo16 r2.1.body.length bc16) r2.1.tag),(33,.tuple #[CE ((I9 9)),.int .i64 0]),(30,.tuple #[CE ((I9 9)),.int .i64 0]),(34,CE ((I9 9))),(35,.int .i64 0)]
  ⟨yl r6 (BR (Bb _ _) (Bb _ _) (.slice ao5 ks5.length cap5) rfl) Lp,yl r6 (FL _ _ hF2.tg (.slice ao16 (List.length own16) ac16) (.slice wo16 (List.length wr16) wc16) (.slice bo16 r2.1.body.length bc16) rfl rfl rfl) WH,Ad [Ao ((kd 273 (Kx 7))) ((kd 276 (kd 274 (Kx 7)))) (.slice ao5 ks5.length cap5),Ce r2.1.addr (.slice ao16 (List.length own16) ac16) r2.1.joint (.slice wo16 (List.length wr16) wc16) (.slice bo16 r2.1.body.length bc16) r2.1.tag] Tryz.func22 (by kernel_rfl) rq4 ⟨(oy rfl rfl),(oy rfl rfl),ALr⟩ (As fun W g=>AFU (q:=(I9 9,0)) (Bb _ _) (Bb _ _) (hk5.kn g) hp5 (hF2.kn g) hq),ym r5,BE rq4 (fun _ _ h=>⟨_,_,h,rfl,rfl⟩),BE rq4 (fun _ _ h=>⟨_,_,h,rfl,rfl⟩),ALr⟩ fun a20 w20 g20 E5=>?_
 replace Je:=AC g20 (AX g17 (AC g15 Je) (Ne.symm SA))
 replace hF1:=((hF1.kn g15).offR g17 (AU WJ)).kn g20
 replace hF2:=hF2.kn g20
 replace HG:=AA (AD (AA HG g15) g17 AFW) g20
 refine Ax (T:=25) (Z:=[.int .i64 0,.int .i64 0,.string ⟨#[]⟩]) E5 rfl rfl rfl (fun a w=>by kernel_rfl) fun a21 w21 ALa N1 g21 z21 AAl Db=>?_
 have SC:=Au Je N1
 have AFX:=B7 HG N1
 have WL:=A2 (hF1.lt) N1
 have WM:=A2 (hF2.lt) N1
 refine Ap Db r7 (EP ((I9 9))) AAl rfl fun w22 g22 h22=>?_
 replace Je:=AX g22 (AC g21 Je) (Ne.symm SC)
 replace hF1:=(hF1.kn g21).offR g22 (AU WL)
 replace AAl:=h22
 refine Aa (v:=.int .i64 0) Db r6 fun a23 Cy=>?_
 have Cn:Sv _ _ [_,_,_,_,_,_,_,_,_,_,_,_,_,_,_] _:=Cy.dl [31,32,33,30,34,35]
 refine AE ?_
 refine k19 _ _ ?_
 refine ALl fun K25 k25=>?_
 refine DP (Cn.dl [0]) [(36,.int .i64 0),(37,.bool true),(38,.bool true),(39,.int .i64 r1.2),(40,.bool true),(41,.bool true),(42,.bool true),(43,pk AKb 4),(44,.slice bo11 r1.1.body.length bc11),(45,.string (bs r1.1.body)),(46,.bool true),(47,.bool true),(48,.bool true),(49,.int .i64 r2.2),(50,.bool true),(51,.bool true),(52,.bool true),(53,.int .i64 0),(54,.bool true),(55,.bool true),(56,.bool true),(57,CE ((I9 9))),(58,CE ((I9 9))),(59,.bool true),(60,.bool true),(0,.bool true)]
  ⟨ym r5,Cq r6 (fun _=>CQ rfl),ym r5,A1 rq8,BZ rq9 (fun _=>CQ (by rw[hz1];rfl)),BC rq9,ym r5,Bl rq9 (fun _=>by kernel_rfl),A9 rq9 (fun _ g=>Ae (Hu (.slice bo11 r1.1.body.length bc11) rfl) (Bu (L:=[[.int .i64 r1.1.addr],[.slice ao11 (List.length own11) ac11],[.int .i64 r1.1.joint],[.slice wo11 (List.length wr11) wc11],[.slice bo11 r1.1.body.length bc11],bv r1.1.tag]) (i:=4) (AF g Je (by simp)) rfl rfl)),AFT (l:=r1.1.body) Tryz.underlying29 Tryz.underlying5 Tryz.underlying9 rfl rfl (gy rfl rfl rfl) (oy rfl rfl) (fun W g=>(hF1.kn g).rb.1) (fun _=>rfl),BZ rq9 (fun _=>AHN (by rw[hb1];exact b22)),BC rq9,ym r5,A1 rq8,BZ rq9 (fun _=>CQ (by rw[hz2];rfl)),BC rq9,ym r5,A1 rq8,BZ rq9 (fun _=>CQ rfl),BC rq9,ym r5,A9 rq9 (fun _ g=>Ae (EP ((I9 9))) (Ai (AF g AAl (by simp)))),CL [.int .i64 9] Tryz.func37 (by kernel_rfl) r7 ⟨rfl,ALr⟩ (As fun W g=>O0 9 W),OZ rfl rfl (gy rfl rfl rfl) (oy rfl rfl) (oy rfl rfl) (fun _=>ABi (ABj 9)) (fun _=>rfl),BC rq9,Gy 60 0 (.inr rfl) rfl rfl trivial (fun _ _ h=>h),ALr⟩ fun a26 w26 g26 Co=>?_
 refine k25 _ _ ?_
 replace hF1:=hF1.kn g26
 replace hF2:=((hF2.kn g21).offR g22 (AU WM)).kn g26
 replace HG:=AA (AD (AA HG g21) g22 AFX) g26
 refine ALo ?_
 repeat refine AM ?_
 refine BQ (fn:=Tryz.f13) Co (BT (p:=0) Tryz.results13 Co rfl rfl) ?_
 exact⟨rfl,HG⟩
theorem AKd (b:Bool) (a:Int):hd [] (jt b) (Kw a)=true:=by
 unfold hd
 rw[FA]
 cases b<;>rfl
theorem SD (seed:List Nat):CI (V6 seed).1=true:=(J0 seed 6 (by decide)).1
theorem AKe (seed:List Nat):Dg (V6 seed).2.1∧Dg (V6 seed).2.2:=⟨Bb _ _,Ht _ _⟩
theorem AFc {w0:World} {seed:List Nat} (hse:Dg seed):∀W,w0.grownBy W none→Calls Tryz.prog 14 #[AR seed] W fun e w'=>∃v,e=.returned v∧W.grownBy w' none∧(Sp.vv (V6 seed) (fun _=>False)).on w' v:=fun W _=>AAg seed hse W
theorem ABn (x:V) (w:World):Calls Tryz.prog 12 #[CE x] w fun e w'=>e=.returned (.bool (decide (x.text.size≤100)))∧w.grownBy w' none:=AAb x _ rfl w
theorem ZA {c k:List Nat} (hc:Dg c):Md (Md c k) k=c:=by
 unfold Md
 exact Ok (by rw[hc.1,show(msk k).length=32 from(Bb 283 k).1];exact Nat.le_refl _)
theorem AFY {K:List (List Nat)} {f:List Nat→List Nat} (h:0<K.length):IK (K.map f) 0=f (IK K 0):=by
 cases K with
 | nil=>simp at h
 | cons a K=>rfl
theorem Ls {P:List VP} {own:List (List Nat)} {joint a:Int} {x:V} (h:hd own joint a=true) (hv:CI P=true) (hk:∀j,j<own.length→(Cb P (IK own j) a).2=0) :
   Fd P (E9 P own joint a x).1=(x.clean,0)∧(E9 P own joint a x).2=0∧FK (E9 P own joint a x).1=true:=by
 obtain⟨K1,K2⟩:=Iq hk
 obtain⟨haa,hjj,hol,hasc⟩:=ABU h
 by_cases hne:own=[]
 · subst hne
   refine⟨M9 h hv hv,?_,?_⟩
   · rw[Jw h hv]
   · rw[Jw h hv];unfold FK;simp[h,N0]
 · have hpos:0<own.length:=List.length_pos_iff.2 hne
   rcases hjj with rfl|rfl
   · refine⟨Yz h hv hne K2,?_,?_⟩
     · rw[Fb h hv hne K2 rfl rfl]
     · rw[Fb h hv hne K2 rfl rfl];unfold FK;simp[h,KQ,N0]
   · obtain⟨c,hc⟩:∃c,U5 (decide ((1:Int)=1)) (Cg P a own).1=c:=⟨_,rfl⟩
     have hcd:Dg c:=hc▸M4 _ _
     rw[Fb h hv hne K2 rfl hc]
     have hw:(Cg P a own).1.length=own.length:=by rw[K1,List.length_map]
     have hv2:FK ⟨a,own,1,if (1:Int)=1 then (Cg P a own).1.map (Md c) else [],Jb (Bt x) c,U6 c a (Jb (Bt x) c)⟩=true:=by
       unfold FK;simp[h,KQ,N0,hw]
     refine⟨?_,rfl,hv2⟩
     have hr:I8 P ⟨a,own,1,if (1:Int)=1 then (Cg P a own).1.map (Md c) else [],Jb (Bt x) c,U6 c a (Jb (Bt x) c)⟩=some c:=by
       unfold I8
       rw[if_pos rfl]
       have:=Nr (P:=P) (a:=a) (own:=own) (wr:=(Cg P a own).1.map (Md c)) (i:=0) hpos (fun j hj=>absurd hj (by omega)) (hk 0 hpos)
       rw[if_pos rfl,this,AFY (by omega)]
       congr 1
       have e:IK (Cg P a own).1 0=(Cb P (IK own 0) a).1:=by
        rw[K1]
        cases own with
        | nil=>simp at hpos
        | cons o l=>rfl
       rw[e]
       exact ZA hcd
     rw[MJ hv2 hv hne hr,if_pos rfl,R5,Nz]
theorem N2 {n:Int}:∀{i:Nat} {d:DD},d∈Ev n i→∃j,j<i∧KY n j=1∧d=PU j
 | 0,d,h=>by simp[Ev] at h
 | i+1,d,h=>by
  unfold Ev at h
  by_cases hb:KY n i=1
  · rw[if_pos hb,List.mem_append,List.mem_singleton] at h
    rcases h with h|h
    · obtain⟨j,h1,h2,h3⟩:=N2 h
      exact⟨j,by omega,h2,h3⟩
    · exact⟨i,by omega,hb,h⟩
  · rw[if_neg hb] at h
    obtain⟨j,h1,h2,h3⟩:=N2 h
    exact⟨j,by omega,h2,h3⟩
def PY (b:Bool) (i:Nat):List (List Nat):=if b then [Ek i] else []
theorem IM (n:Int) (i:Nat):(Ev n (i+1)).map DD.x=(Ev n i).map DD.x++PY (decide (KY n i=1)) i:=by
 unfold PY
 by_cases hb:KY n i=1
 · rw[show Ev n (i+1)=Ev n i++[PU i] from if_pos hb,List.map_append,decide_eq_true hb];rfl
 · rw[show Ev n (i+1)=Ev n i from if_neg hb,decide_eq_false hb];simp
theorem ALF:∀b0 b1 b2 b3 b4 b5:Bool,asc ([]++PY b0 0++PY b1 1++PY b2 2++PY b3 3++PY b4 4++PY b5 5)=true:=by decide +kernel
theorem AHP (n:Int):asc ((Ev n 6).map DD.x)=true:=by
 rw[IM,IM,IM,IM,IM,IM]
 exact ALF _ _ _ _ _ _
theorem AAm (n:Int) (b:Bool) (a:Int):hd ((Ev n 6).map DD.x) (jt b) (Kw a)=true:=by
 have hl:=QT n 6
 unfold hd
 rw[FA,AHP,List.length_map,decide_eq_true (show(Ev n 6).length≤16 by omega)]
 cases b<;>rfl
theorem AKc {T:Nat→List Nd} {P:List VP} {i j:Nat} (h:OV T P i) (hj:j<i) {a:Int} (ha:Bn a=true):Cb P (Ek j) a=C4 (T j) a:=
 U3 ha h.1 (NQ (Srt.of h.1) ((h.2.2 _).2 ⟨j,hj,rfl⟩)) rfl
theorem AFZ {seed:List Nat} {j:Nat} (hj:j<6) {a:Int} (ha:Bn a=true):(Cb (V6 seed).1 (Ek j) a).2=0:=by
 rw[show(V6 seed).1=P0 seed 6 from rfl,AKc (J0 seed 6 (by decide)) hj ha]
 obtain⟨K,_,hK⟩:=AH2 (l:=Tsd seed j) (Bb 275 (SY seed j)) rfl ha
 rw[hK]
theorem ABl {l:List (List Nat)} {j:Nat} (h:j<l.length):IK l j∈l:=by rw[Ol h];exact List.getElem_mem _
theorem ABm (seed:List Nat) (n a:Int):∀j,j<((Ev n 6).map DD.x).length→(Cb (V6 seed).1 (IK ((Ev n 6).map DD.x) j) (Kw a)).2=0:=fun j hj=>by
 obtain⟨d,hd,e⟩:=List.mem_map.1 (ABl hj)
 obtain⟨k,hk,_,rfl⟩:=N2 hd
 rw[←e]
 exact AFZ hk (FA a)
theorem AC8 (seed:List Nat) (x:V) (n:Int) (b:Bool) (a:Int):Fd (V6 seed).1 (PW (V6 seed).1 x n b a).1=(x.clean,0)∧(PW (V6 seed).1 x n b a).2=0∧FK (PW (V6 seed).1 x n b a).1=true:=
 Ls (AAm n b a) (SD seed) (ABm seed n a)
theorem AFa {w0:World} {ks:List VK} {vo:Option Addr} {vc_:Nat} {sa po:List Nat} {P:List VP} {x:V} {n:Int} {b:Bool} {a:Int} {r:Sd×Int} (hsa:Dg sa) (hpo:Dg po) (hr:RdK w0 (.slice vo ks.length vc_) ks) (hP:ks.map VK.p=P) (hres:PW P x n b a=r) :
  ∀W,w0.grownBy W none→Calls Tryz.prog 15 #[D9 x n b a,Ao sa po (.slice vo ks.length vc_)] W fun e w'=>∃v,e=.returned v∧W.grownBy w' none∧(Sp.sr w0.heap.size r).on w' v:=fun W g=>by
 refine(AAh ks vo vc_ sa po hsa hpo P hP x n b a r hres W (hr.kn g)).mono ?_
 rintro e w' ⟨v,h1,h2,own,wr,ao,wo,bo,ac,wc,bc,h3,h4,h5⟩
 exact⟨v,h1,h2,own,wr,ao,wo,bo,ac,wc,bc,h3,h4,fun k hk=>Nat.le_trans g.size (h5 k hk)⟩
section
variable {W:World} {ks:List VK} {vo:Option Addr} {vc_:Nat} {sa po:List Nat} {P:List VP} {s:Sd} {own wr:List DD} {ao wo bo:Option Addr} {ac wc bc:Nat} {q:V×Int} {b:Bool}
end
theorem AHQ (m:Nat) (hm:(BitVec.ofInt 64 (m:Int)).toNat=m) (hm2:m<9223372036854775808) (n:Int):bits .and .i64 n (m:Int)=(((n%18446744073709551616).toNat &&& m:Nat):Int):=by
 have h:bits .and .i64 n (m:Int)=IntKind.i64.wrap (((BitVec.ofInt 64 n) &&& (BitVec.ofInt 64 (m:Int))).toNat:Int):=rfl
 rw[h,BitVec.toNat_and,hm,BitVec.toNat_ofInt]
 have hle:(n%((2^64:Nat):Int)).toNat &&& m≤m:=Nat.and_le_right
 exact BA (by omega) (by omega)
theorem AJK (n:Int):bits .and .i64 n 1=n%2:=by
 rw[show(1:Int)=((1:Nat):Int) from rfl,AHQ 1 (by decide) (by decide) n,show(1:Nat)=2^1-1 from rfl,Nat.and_two_pow_sub_one_eq_mod]
 omega
theorem AHR (n:Int) (i:Nat):KY n i=n/2^i%2:=AJK _
theorem AC9 {P P':List VP} {own:List (List Nat)} {a:Int} {x:V} (h:hd own 0 a=true) (hv:CI P=true) (hv':CI P'=true) (hk:∀j,j<own.length→(Cb P (IK own j) a).2=0) (hs:∀j,j<own.length→Cb P' (IK own j) a=Cb P (IK own j) a) :
   Fd P' (E9 P own 0 a x).1=(x.clean,0):=by
 by_cases hne:own=[]
 · subst hne;exact M9 h hv hv'
 obtain⟨K1,K2⟩:=Iq hk
 obtain⟨L1,L2⟩:=Iq (P:=P') (a:=a) (own:=own) fun j hj=>by rw[hs j hj];exact hk j hj
 have e:(Cg P' a own).1=(Cg P a own).1:=by
   rw[K1,L1]
   refine List.map_congr_left fun o ho=>?_
   obtain⟨j,hj,rfl⟩:=List.mem_iff_getElem.1 ho
   have:=hs j hj
   rw[Ol hj] at this
   rw[this]
 have hS:E9 P own 0 a x=E9 P' own 0 a x:=by
   rw[Fb h hv hne K2 rfl rfl,Fb h hv' hne L2 rfl rfl,e]
 rw[hS]
 exact(Ls h hv' fun j hj=>by rw[hs j hj];exact hk j hj).1
theorem ADA {P P':List VP} {own:List (List Nat)} {a:Int} {x:V} (h:hd own 1 a=true) (hv:CI P=true) (hv':CI P'=true) (hk:∀j,j<own.length→(Cb P (IK own j) a).2=0) (hs:∀j,j<own.length→Cb P' (IK own j) a=Cb P (IK own j) a∨(Cb P' (IK own j) a).2≠0) {i:Nat} (hi:i<own.length) (hki:(Cb P' (IK own i) a).2=0) :
  Fd P' (E9 P own 1 a x).1=(x.clean,0):=by
 have hne:own≠[]:=fun e=>by rw[e] at hi;simp at hi
 have hvs:=(Ls (x:=x) h hv hk).2.2
 obtain⟨K1,K2⟩:=Iq hk
 obtain⟨c,hc⟩:∃c,U5 (decide ((1:Int)=1)) (Cg P a own).1=c:=⟨_,rfl⟩
 have hcd:Dg c:=hc▸M4 _ _
 rw[Fb h hv hne K2 rfl hc] at hvs ⊢
 -- the first owner whose key is there
 have hfirst:∃m,m≤i∧(Cb P' (IK own m) a).2=0∧∀j,j<m→(Cb P' (IK own j) a).2≠0:=by
  clear hvs hs
  induction i using Nat.strongRecOn with
  | _ i ih =>
   by_cases hx:∃j,j<i∧(Cb P' (IK own j) a).2=0
   · obtain⟨j,hj,hj2⟩:=hx
     obtain⟨m,h1,h2⟩:=ih j hj (by omega) hj2
     exact⟨m,by omega,h2⟩
   · exact⟨i,Nat.le_refl i,hki,fun j hj e=>hx ⟨j,hj,e⟩⟩
 obtain⟨m,hm,hm2,hm3⟩:=hfirst
 have hml:m<own.length:=by omega
 have hr:I8 P' ⟨a,own,1,if (1:Int)=1 then (Cg P a own).1.map (Md c) else [],Jb (Bt x) c,U6 c a (Jb (Bt x) c)⟩=some c:=by
  unfold I8
  rw[if_pos rfl]
  have:=Nr (P:=P') (a:=a) (own:=own) (wr:=(Cg P a own).1.map (Md c)) (i:=m) hml hm3 hm2
  rw[if_pos rfl,this]
  congr 1
  have hsm:Cb P' (IK own m) a=Cb P (IK own m) a:=(hs m hml).elim id fun e=>absurd hm2 e
  have hkl:m<(Cg P a own).1.length:=by rw[K1,List.length_map];exact hml
  have e:IK ((Cg P a own).1.map (Md c)) m=Md c (Cb P (IK own m) a).1:=by
   rw[Ol (by rw[List.length_map];exact hkl),List.getElem_map]
   congr 1
   simp only[K1,List.getElem_map,Ol hml]
  rw[e,hsm]
  exact ZA hcd
 rw[MJ hvs hv' hne hr,if_pos rfl,R5,Nz]
theorem OV.congr {T T':Nat→List Nd} {P:List VP} {i:Nat} (h:OV T P i) (e:∀j,j<i→T j=T' j):OV T' P i:=⟨h.1,h.2.1,fun x=>by
 rw[h.2.2 x]
 exact⟨fun⟨j,h1,h2⟩=>⟨j,h1,by rw[h2,e j h1]⟩,fun⟨j,h1,h2⟩=>⟨j,h1,by rw[h2,e j h1]⟩⟩⟩
theorem OV.has {T:Nat→List Nd} {P:List VP} {i j:Nat} (h:OV T P i) (hj:j<i):Gx P (Ek j)=true∧Go.Proofs.YtbfjfnbcmojpiaaGreat.tr P (pos P (Ek j))=T j:=NQ (Srt.of h.1) ((h.2.2 _).2 ⟨j,hj,rfl⟩)
theorem ADB {P:List VP} {o:List Nat} {t:List Nd} (h:pos P o<P.length):(OT P o t).length=P.length:=by unfold OT;simp;omega
theorem OV.set {T:Nat→List Nd} {P:List VP} {i:Nat} {t:List Nd} (h:OV T P 6) (hi:i<6) (ht:GV t=true):OV (fun j=>if j=i then t else T j) (OT P (Ek i) t) 6:=by
 have hf:=(h.has hi).1
 refine⟨AEo h.1 hf ht,by rw[ADB (Ia hf).1];exact h.2.1,fun x=>?_⟩
 rw[AGE (Srt.of h.1) hf,h.2.2 x]
 constructor
 · rintro (rfl|⟨⟨j,h1,rfl⟩,hne⟩)
   · exact⟨i,hi,by simp⟩
   · have:j≠i:=fun e=>hne (by rw[e])
     exact⟨j,h1,by simp[this]⟩
 · rintro ⟨j,h1,rfl⟩
   by_cases e:j=i
   · subst e;exact .inl (by simp)
   · refine .inr ⟨⟨j,h1,by simp[e]⟩,fun e2=>e (Vy h1 hi e2)⟩
def ce (n:Int):List Value:=[.int .i64 n]
theorem AJL (n:Int):(ce n).length=1:=rfl
def OS (seed:List Nat) (A:Int) (P:List VP) (i:Nat):Prop:=∃S:Nat→List Int,OV (fun j=>tree (kd 275 (SY seed j)) (S j)) P 6∧∀j,(S j).length≤i∧A ∉ S j
theorem OS.zero (seed:List Nat) (A:Int):OS seed A (V6 seed).1 0:=⟨fun _=>[],J0 seed 6 (Nat.le_refl _),fun j=>⟨Nat.le_refl _,by simp⟩⟩
theorem OS.mono {seed:List Nat} {A:Int} {P:List VP} {i:Nat} (h:OS seed A P i):OS seed A P (i+1):=by
 obtain⟨S,h1,h2⟩:=h
 exact⟨S,h1,fun j=>⟨Nat.le_succ_of_le (h2 j).1,(h2 j).2⟩⟩
theorem OS.step {seed sa po:List Nat} {A:Int} {P:List VP} {i j:Nat} {n:Int} (h:OS seed A P i) (hi:i≤8) (hj:j<6) (hn:Bn n=true) (hne:¬n=A) :
   ∃P',RL (P,sa,po) (Ek j) n=((P',sa,po),0)∧OS seed A P' (i+1):=by
 obtain⟨S,h1,h2⟩:=h
 have hp:=Ze (k:=kd 275 (SY seed j)) (S:=S j) (by have:=(h2 j).1;omega) hn
 have hl:(n::S j).length≤900:=by have:=(h2 j).1;simp;omega
 refine⟨OT P (Ek j) (tree (kd 275 (SY seed j)) (n::S j)),ABG hn h1.1 (h1.has hj).1 rfl (h1.has hj).2 hp rfl,fun m=>if m=j then n::S j else S m,(h1.set hj (JC _ _ hl)).congr fun m _=>?_,fun m=>?_⟩
 · by_cases e:m=j
   · subst e;simp
   · simp[e]
 · by_cases e:m=j
   · subst e
     have:=h2 m
     simp only[if_pos,List.length_cons,List.mem_cons,not_or]
     exact⟨by omega,fun e=>hne e.symm,this.2⟩
   · simp only[if_neg e]
     have:=h2 m
     exact⟨by omega,this.2⟩
def OE (seed:List Nat) (A n:Int) (P:List VP) (i:Nat):Prop:=CI P=true∧∃T:Nat→List Nd,(∀j,C4 (T j) A=C4 (Tsd seed j) A)∧∀x,x∈P↔∃j,j<6∧(i≤j∨KY n j=1)∧x=(Ek j,T j)
theorem OE.of {seed:List Nat} {A n:Int} {P:List VP} {i:Nat} (h:OS seed A P i) (hi:i≤8) (hA:Bn A=true):OE seed A n P 0:=by
 obtain⟨S,h1,h2⟩:=h
 refine⟨h1.1,fun j=>tree (kd 275 (SY seed j)) (S j),fun j=>?_,fun x=>?_⟩
 · rw[OP _ _ _ (JC _ _ (by have:=(h2 j).1;omega)) hA,if_neg (h2 j).2]
   exact((OP (kd 275 (SY seed j)) [] A (IC _) hA).trans (if_neg (by simp))).symm
 · rw[h1.2.2 x]
   exact⟨fun⟨j,a,b⟩=>⟨j,a,.inl (Nat.zero_le _),b⟩,fun⟨j,a,_,b⟩=>⟨j,a,b⟩⟩
theorem OE.mono {seed:List Nat} {A n:Int} {P:List VP} {i:Nat} (h:OE seed A n P i) (hb:KY n i=1):OE seed A n P (i+1):=by
 obtain⟨h0,T,h1,h2⟩:=h
 refine⟨h0,T,h1,fun x=>?_⟩
 rw[h2 x]
 constructor
 · rintro ⟨j,a,b,c⟩
   refine⟨j,a,?_,c⟩
   by_cases e:j=i
   · exact .inr (e▸hb)
   · exact b.imp (fun h=>by omega) id
 · rintro ⟨j,a,b,c⟩
   exact⟨j,a,b.imp (fun h=>by omega) id,c⟩
theorem OE.has {seed:List Nat} {A n:Int} {P:List VP} {i:Nat} (h:OE seed A n P i) (hi:i<6):Gx P (Ek i)=true:=by
 obtain⟨h0,T,h1,h2⟩:=h
 exact(NQ (Srt.of h0) ((h2 _).2 ⟨i,hi,.inl (Nat.le_refl _),rfl⟩)).1
theorem OE.drop {seed:List Nat} {A n:Int} {P:List VP} {i:Nat} (h:OE seed A n P i) (hi:i<6) (hb:¬KY n i=1):OE seed A n (Hw P (Ek i)) (i+1):=by
 have hf:=h.has hi
 obtain⟨h0,T,h1,h2⟩:=h
 refine⟨ACj h0 hf,T,h1,fun x=>?_⟩
 rw[PG (Srt.of h0) hf,h2 x]
 constructor
 · rintro ⟨⟨j,a,b,rfl⟩,hne⟩
   refine⟨j,a,?_,rfl⟩
   have:j≠i:=fun e=>hne (by rw[e])
   exact b.imp (fun h=>by omega) id
 · rintro ⟨j,a,b,rfl⟩
   have hj:j≠i:=fun e=>by
    subst e
    exact b.elim (fun h=>by omega) hb
   exact⟨⟨j,a,b.imp (fun h=>by omega) id,rfl⟩,fun e=>hj (Vy a hi e)⟩
theorem OE.key {seed:List Nat} {a n:Int} {P:List VP} (h:OE seed (Kw a) n P 6) {j:Nat} (hj:j<6) (hb:KY n j=1):Cb P (Ek j) (Kw a)=Cb (V6 seed).1 (Ek j) (Kw a):=by
 obtain⟨h0,T,h1,h2⟩:=h
 rw[U3 (FA a) h0 (NQ (Srt.of h0) ((h2 _).2 ⟨j,hj,.inr hb,rfl⟩)) rfl,h1 j,show(V6 seed).1=P0 seed 6 from rfl,AKc (J0 seed 6 (Nat.le_refl _)) hj (FA a)]
theorem AFb {seed:List Nat} {x:V} {n:Int} {b:Bool} {a:Int} {P:List VP} (h:OE seed (Kw a) n P 6):Fd P (PW (V6 seed).1 x n b a).1=(x.clean,0):=by
 have hk:∀j,j<((Ev n 6).map DD.x).length→Cb P (IK ((Ev n 6).map DD.x) j) (Kw a)=Cb (V6 seed).1 (IK ((Ev n 6).map DD.x) j) (Kw a):=fun j hj=>by
   obtain⟨d,hd,e⟩:=List.mem_map.1 (ABl hj)
   obtain⟨k,hk,hb,rfl⟩:=N2 hd
   rw[←e]
   exact h.key hk hb
 cases b
 · exact AC9 (AAm n false a) (SD seed) h.1 (ABm seed n a) hk
 · by_cases hne:(Ev n 6).map DD.x=[]
   · unfold PW
     rw[hne]
     exact M9 (AKd true a) (SD seed) h.1
   · have hpos:0<((Ev n 6).map DD.x).length:=List.length_pos_iff.2 hne
     exact ADA (AAm n true a) (SD seed) h.1 (ABm seed n a) (fun j hj=>.inl (hk j hj)) hpos (by rw[hk 0 hpos];exact ABm seed n a 0 hpos)
end Go.Proofs.YtbfjfnbcmojpiaaGreat
