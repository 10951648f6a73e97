import Derived.Test.YtbfjfnbcmojpiaaGreatOpYE
set_option linter.unusedSimpArgs false
set_option linter.unusedVariables false
set_option maxRecDepth 100000
set_option maxHeartbeats 4000000
namespace Go.Proofs.YtbfjfnbcmojpiaaGreat
open Go.ChangeShapes Go.WideShapes Go.ChangeAt Go.RowKit Go.Deep
theorem ACN:Tryz.prog.cellsOf 31=37:=by kernel_rfl
theorem Sg:Tryz.prog.cellsOf 23=32:=by kernel_rfl
theorem ACO:Tryz.prog.cellsOf 5=1:=by kernel_rfl
theorem Uw:Tryz.prog.cellsOf 28=1:=by kernel_rfl
theorem ACP:Tryz.prog.cellsOf 29=1:=by kernel_rfl
theorem AGR {H:Type} {enc:TypeId×Value→H} {W:World} {b0:Nat}:∀fuel cs y,DataW.trod enc Tryz.prog W b0 (fun _=>true) true fuel 23 cs=some y→∃x:DD,cs=J4 x∧(J4 x).length=32∧True:=by
 intro fuel cs y h
 obtain⟨x,h1,h2,h3⟩:=M7 _ _ _ h
 exact⟨⟨x,h2,h3⟩,h1,DV _,AKW⟩
theorem AIK {H:Type} {enc:TypeId×Value→H} {W:World} {b0:Nat}:∀fuel cs y,DataW.trod enc Tryz.prog W b0 (fun _=>true) true fuel 5 cs=some y→∃x:Nat,cs=cb x∧(cb x).length=1∧x<256:=by
 intro fuel cs y h
 obtain⟨n,e,_,w⟩:=DataW.trod_int Tryz.underlying5 h
 simp[Lit.wf,IntKind.min,IntKind.max,IntKind.signed,IntKind.bits] at w
 refine⟨n.toNat,?_,rfl,by omega⟩
 rw[e]
 unfold cb
 rw[Int.toNat_of_nonneg (by omega)]
theorem AIL (l:List Nat):l.flatMap cb=bv l:=by
 induction l with
 | nil=>rfl
 | cons a l ih=>rw[List.flatMap_cons,ih];rfl
theorem AEs {H:Type} {enc:TypeId×Value→H} {W:World} {r:Reach} {base b0:Nat} {v:Value} {d:DataW H} {p:List MemPlace} (hv:Value.okWide Tryz.prog W r base 31 v) (h:DataW.Trod enc Tryz.prog W b0 (fun _=>true) true 31 v d p) :
  ∃(ad j:Int) (os ws bs:Value) (own wr:List DD) (body tg:List Nat),v=BR ad os j ws bs tg∧Dg tg∧RdD W os own∧RdD W ws wr∧SlB W 1 bs body.length (bv body)∧By body:=by
 obtain⟨cs,rfl,hcell⟩:=LU Tryz.underlying31 hv
 obtain⟨fuel,hf⟩:=h
 have hf':DataW.trod enc Tryz.prog W b0 (fun _=>true) true fuel 31 cs.toList=some (d,p):=hf
 obtain⟨xs,k,_,_,hl,hxl,hf⟩:=DataW.trod_struct Tryz.underlying31 hf'
 rw[ACN] at hl
 obtain⟨l⟩:=cs
 have hl:l.length=37:=hl
 obtain⟨y0,t0⟩:=FP hxl hf 0 _ rfl 2 rfl 1 ACM
 obtain⟨y1,t1⟩:=FP hxl hf 1 _ rfl 28 rfl 1 Uw
 obtain⟨y2,t2⟩:=FP hxl hf 2 _ rfl 3 rfl 1 AEu
 obtain⟨y3,t3⟩:=FP hxl hf 3 _ rfl 28 rfl 1 Uw
 obtain⟨y4,t4⟩:=FP hxl hf 4 _ rfl 29 rfl 1 ACP
 obtain⟨y5,t5⟩:=FP hxl hf 5 _ rfl 23 rfl 32 Sg
 obtain⟨ad,e0,_,_⟩:=DataW.trod_int Tryz.underlying2 t0
 obtain⟨s1,own,e1,n1,_⟩:=KD Tryz.underlying28 Sg (by decide) J4 (fun _=>True) AGR t1
 obtain⟨j,e2,_,_⟩:=DataW.trod_int Tryz.underlying3 t2
 obtain⟨s3,wr,e3,n3,_⟩:=KD Tryz.underlying28 Sg (by decide) J4 (fun _=>True) AGR t3
 obtain⟨s4,body,e4,n4,w4⟩:=KD Tryz.underlying29 ACO (by decide) cb (fun b=>b<256) AIK t4
 obtain⟨tg,e5,a5,c5⟩:=M7 _ _ _ t5
 have e0:(l.drop 0).take 1=[.int .i64 ad]:=e0
 have e1:(l.drop 1).take 1=[s1]:=e1
 have e2:(l.drop 2).take 1=[.int .i64 j]:=e2
 have e3:(l.drop 3).take 1=[s3]:=e3
 have e4:(l.drop 4).take 1=[s4]:=e4
 have e5:(l.drop 5).take 32=bv tg:=e5
 rw[List.take_of_length_le (by rw[List.length_drop];omega)] at e5
 have at1:∀(i:Nat) (s:Value),(l.drop i).take 1=[s]→(⟨l⟩:Array Value)[i]?=some s:=fun i s e=>by
  have h1:((l.drop i).take 1)[0]?=some s:=by rw[e];rfl
  rw[List.getElem?_take,if_pos (by decide),List.getElem?_drop] at h1
  simpa using h1
 obtain⟨u1,q1⟩:=hcell 1 s1 (at1 1 s1 e1)
 obtain⟨u3,q3⟩:=hcell 3 s3 (at1 3 s3 e3)
 obtain⟨u4,q4⟩:=hcell 4 s4 (at1 4 s4 e4)
 have r1:=n1.top (fun h=>by rw[List.eq_nil_of_length_eq_zero h];rfl) q1
 have r3:=n3.top (fun h=>by rw[List.eq_nil_of_length_eq_zero h];rfl) q3
 have r4:=n4.top (fun h=>by rw[List.eq_nil_of_length_eq_zero h];rfl) q4
 rw[AIL] at r4
 refine⟨ad,j,s1,s3,s4,own,wr,body,tg,?_,⟨a5,c5⟩,r1,r3,r4,w4⟩
 have hd:∀(i:Nat) (s:Value),(l.drop i).take 1=[s]→l.drop i=s::l.drop (i+1):=fun i s e=>by
  rw[←List.take_append_drop 1 (l.drop i),e,List.drop_drop,List.singleton_append,Nat.add_comm]
 have el:l=.int .i64 ad::s1::.int .i64 j::s3::s4::bv tg:=by
  have h0:=hd 0 _ e0
  rw[hd 1 _ e1,hd 2 _ e2,hd 3 _ e3,hd 4 _ e4,e5] at h0
  exact h0
 rw[el]
 unfold BR
 simp
end Go.Proofs.YtbfjfnbcmojpiaaGreat
namespace Go.Proofs.YtbfjfnbcmojpiaaGreat
open Go.RowKit Go.Shelf
theorem Xs (x:V):I4 (CD x)=(x.clean,0):=by
 have h:=(AJU x).rt []
 rw[List.append_nil] at h
 exact AAq h
theorem AAt (x:V):(CD x).length≤64:=Nat.le_trans (Hy x) (by decide)
theorem AEZ (b c:List Nat):IK (IK b c) c=b:=by
 unfold IK
 rw[KX (by rw[Lp];exact Nat.le_refl _)]
 exact SQ (by rw[Lp];exact Nat.le_refl _)
theorem AH2 {P P':List VP} {joint a:Int} {x:V} (h:hd [] joint a=true) (hv:Cj P=true) (hv':Cj P'=true):Ei P' (IL P [] joint a x).1=(x.clean,0):=by
 rw[NN h hv]
 rw[Kn (by unfold EX;simp[h,AAt]) hv' rfl,if_pos rfl,Xs]
theorem AEa {P:List VP} {own:List (List Nat)} {a:Int} {x:V} (h:hd own 0 a=true) (hv:Cj P=true) (hne:own≠[]) (hk:(DY P a own).2=0):Ei P (IL P own 0 a x).1=(x.clean,0):=by
 rw[Mq h hv hne hk rfl rfl]
 have hr:FT P ⟨a,own,0,if (0:Int)=1 then (DY P a own).1.map (Nr (PT (decide ((0:Int)=1)) (DY P a own).1)) else [],IK (CD x) (PT (decide ((0:Int)=1)) (DY P a own).1),LS (PT (decide ((0:Int)=1)) (DY P a own).1) a (IK (CD x) (PT (decide ((0:Int)=1)) (DY P a own).1))⟩=some (PT (decide ((0:Int)=1)) (DY P a own).1):=by
  unfold FT
  rw[if_neg (show ¬(0:Int)=1 by decide),if_pos hk]
 rw[NW (by unfold EX;simp[h,LG,AAt]) hv hne hr,if_pos rfl,AEZ,Xs]
theorem Zq:Tryz.prog.cellsOf 25=3:=by kernel_rfl
theorem AH3:Tryz.prog.cellsOf 9=1:=by kernel_rfl
theorem AGJ (d:Nat) (x:Int) (h:-9223372036854775808≤x∧x≤9223372036854775807):Tryz.prog.keyLits (d+1) 3 [.int .i64 x]=some [.int .i64 x]:=by
 unfold Program.keyLits
 rw[Tryz.underlying3]
 simp[Lit.wf,IntKind.min,IntKind.max,IntKind.signed,IntKind.bits]
 omega
theorem AEb (d:Nat) (x:Int) (h:-9223372036854775808≤x∧x≤9223372036854775807):Tryz.prog.keyLits (d+1) 2 [.int .i64 x]=some [.int .i64 x]:=by
 unfold Program.keyLits
 rw[Tryz.underlying2]
 simp[Lit.wf,IntKind.min,IntKind.max,IntKind.signed,IntKind.bits]
 omega
theorem AH4 (d:Nat) (s:ByteArray) (h:s.size≤1000000):Tryz.prog.keyLits (d+1) 9 [.string s]=some [.string s.data.toList]:=by
 unfold Program.keyLits
 rw[Tryz.underlying9]
 simp only
 rw[if_pos (Nat.le_trans h (by decide))]
theorem AEc (d:Nat) (x:V) (hk:MM x.kind) (hi:MM x.int) (ht:x.text.size≤1000000):Tryz.prog.keyLits (d+2) 25 (vc x)=some [.int .i64 x.kind,.int .i64 x.int,.string x.text.data.toList]:=by
 unfold Program.keyLits
 rw[Tryz.underlying25]
 simp only
 rw[if_pos ⟨by rw[Zq];rfl,by kernel_rfl⟩]
 have e0:((vc x).drop 0).take 1=[.int .i64 x.kind]:=rfl
 have e1:((vc x).drop 1).take 1=[.int .i64 x.int]:=rfl
 have e2:((vc x).drop 2).take 1=[.string x.text]:=rfl
 simp only[List.mapM_cons,List.mapM_nil,ACR,Z9,AH3,e0,e1,e2,AGJ d x.kind ⟨by have:=hk.1;omega,by have:=hk.2;omega⟩,AEb d x.int ⟨by have:=hi.1;omega,by have:=hi.2;omega⟩,AH4 d x.text ht]
 simp
theorem AAu {x:V} (h:x.ok) {px py:Operand} {w:World}:(do eqGuard .eql 25 px py (B7 x) (B7 x);binOp .eql 25 (B7 x) (B7 x):Sem Value).run Tryz.prog w=.ok (.bool true) w:=
 (ACo 25 6 (by decide) (by kernel_rfl) (by kernel_rfl) (xs:=vc x) (ys:=vc x) (by simp[Value.formed,Tryz.underlying25,Zq,vc]) (by simp[Value.formed,Tryz.underlying25,Zq,vc]) (AEc 0 x (V.ok_kind h).1 (V.ok_kind h).2 (Nat.le_trans (V.ok_text h) (by decide))) (AEc 0 x (V.ok_kind h).1 (V.ok_kind h).2 (Nat.le_trans (V.ok_text h) (by decide))) (r:=true) (by simp) px py w).1
theorem AGK {P:Program} {t:TypeId} {x y:Operand} {w:World} {a b:ByteArray} {r:Bool} (h:(a.toList == b.toList)=r):(do eqGuard .eql t x y (.string a) (.string b);binOp .eql t (.string a) (.string b):Sem Value).run P w=.ok (.bool r) w:=by
 subst h
 simp[eqGuard,binOp_string_eql]
theorem b22:((bs [2,2]).toList == (⟨#[2,2]⟩:ByteArray).toList)=true:=by
 rw[show(⟨#[2,2]⟩:ByteArray)=bs [2,2] from rfl]
 simp
theorem AEd {P:Program} {ops:Array Oper} {L:Nat→Sp} {n:Nat} {w0:World} {o:Oper} {x:Operand} {src dst e d:Nat} {v:Value} {l:List Nat} (hs:P.underlying src=some (.slice e)) (he:P.underlying e=some (.int .u8)) (hd:P.underlying dst=some .string) (ho:o.op=.convert src dst x) (hd':o.dst=some d) (hg:GX ops L n o.guard) (hx:OpX L n x v) (hr:∀w,w0.grownBy w none→Sl w 1 v l.length (bv l)) (h:∀w,(L d).on w (.string (bs l))):OX P ops L n w0 o:=
 E5 hg fun a w hw hl hsz=>⟨.string (bs l),by
  have e1:=hx.eval (o:=o) (a:=a) (w:=w) (by simp[ho,Op.operands]) hl
  simp only[execOp,ho,e1,Sem.run_bind,Sem.run_pure,Result.andThen_ok,O5 src dst e hs he hd (hr w hw)],Cw hd' (h w)⟩
theorem AH5 {w0:World} {ks:List VK} {vo:Option Addr} {vc_:Nat} {sa po:List Nat} {P:List VP} {joint ad:Int} {x:V} {r:Sd×Int} (hsa:Dg sa) (hpo:Dg po) (hr:RdK w0 (.slice vo ks.length vc_) ks) (hP:ks.map VK.p=P) (hres:IL P [] joint ad x=r) :
  ∀W,w0.grownBy W none→Calls Tryz.prog 20 #[A8 sa po (.slice vo ks.length vc_),.slice none 0 0,.int .i64 joint,.int .i64 ad,B7 x] W fun e w'=>∃v,e=.returned v∧W.grownBy w' none∧(Sp.sr w0.heap.size r).on w' v:=fun W g =>
 AEY hsa hpo (hr.kn g) hP (ds:=[]) (RdD.nil W) (by decide) g.size hres
theorem AJC {W:World} {B:Nat} {d:List Nat} {v:Value} (hd:Dg d) (h:(Sp.lit1 B 23 (bv d)).on W v):RdD W v [⟨d,hd⟩]:=by
 obtain⟨A,rfl,h1,h2⟩:=h
 refine⟨?_,fun k hk=>?_⟩
 · have:=Js h2 hd
   simpa [J4] using this
 · obtain rfl:=Option.some.inj hk
   exact(Array.getElem?_eq_some_iff.1 h2).1
section
variable {W:World} {ks:List VK} {vo:Option Addr} {vc_:Nat} {sa po:List Nat} {P:List VP} {s:Sd} {own wr:List DD} {ao wo bo:Option Addr} {ac wc bc:Nat} {q:V×Int}
theorem AH6 (hsa:Dg sa) (hpo:Dg po) (hr:RdK W (.slice vo ks.length vc_) ks) (hP:ks.map VK.p=P) (h:SdF W s own wr ao wo bo ac wc bc) (hq:Ei P s=q) :
  Calls Tryz.prog 22 #[A8 sa po (.slice vo ks.length vc_),BR s.addr (.slice ao (List.length own) ac) s.joint (.slice wo (List.length wr) wc) (.slice bo s.body.length bc) s.tag] W fun e w'=>e=.returned (.tuple #[B7 q.1,.int .i64 q.2])∧W.grownBy w' none:=
 Zm hsa hpo h.tg h.by hr h.ro h.rw h.rb (by rw[hP,h.sd];exact hq)
end
theorem AJD {k:List Nat} {l:List Nd} {a:Int} (hk:Dg k) (hl:tree k []=l) (ha:Ce a=true):∃K,Dg K∧CO l a=(K,0):=by
 refine⟨(J5 a 34 (Lw k)).k,MT _ _ _ hk,?_⟩
 rw[←hl,ABM k [] a (MZ k) ha,if_neg (by simp)]
def J9 (k:Nat):List Nat:=k::zs 31
theorem Uh {k:Nat} (h:k<256):Dg (J9 k):=⟨rfl,fun x hx=>by simp[J9,zs] at hx;omega⟩
theorem AH7 (k:Nat) (w:World):(Instr.build 23 #[(0,.int .u8 (k:Int))]).run Tryz.prog w=.ok (AQ (J9 k)) w:=by kernel_rfl
theorem AAv (n:Int):(IZ n).ok:=V.clean_ok _
theorem Zr (n:Int):(IZ n).clean=IZ n:=V.clean_of (AAv n)
theorem GO  (w:World) :
  Calls Tryz.prog 13 #[] w fun e w'=>e=.returned (.bool true)∧w.grownBy w' none:=by
 obtain⟨T,hT⟩:∃T,tree (kd 275 (kd 274 (J9 7))) []=T:=⟨_,rfl⟩
 have hTv:Gy T=true:=hT▸MZ _
 obtain⟨P,hP⟩:∃P,QV [] (J9 1) T=P:=⟨_,rfl⟩
 have hv:Cj P=true:=hP▸ADX rfl rfl (by decide) hTv
 have hm:(J9 1,T)∈P:=by rw[←hP];exact AFH.2 (.inl rfl)
 obtain⟨K,hKd,hK⟩:=AJD (Ct 275 (kd 274 (J9 7))) hT (a:=5) rfl
 have hk:=AFi (a:=5) rfl hv (AFI (Srt.of hv) hm) hK
 obtain⟨r1,hr1⟩:∃r,IL P [] 0 0 (IZ 1)=r:=⟨_,rfl⟩
 have hn:=NN (P:=P) (joint:=0) (a:=0) (x:=IZ 1) rfl hv
 have hz1:r1.2=0:=by rw[←hr1,hn]
 have hb1:r1.1.body=[2,2]:=by rw[←hr1,hn];decide +kernel
 have hk5:(DY P 5 [J9 1]).2=0:=by unfold DY;rw[hk,if_pos rfl];rfl
 obtain⟨r2,hr2⟩:∃r,IL P [J9 1] 0 5 (IZ 9)=r:=⟨_,rfl⟩
 have hz2:r2.2=0:=by rw[←hr2,Mq (K:=_) rfl hv (by simp) hk5 rfl rfl]
 have hq:Ei P r2.1=(IZ 9,0):=by rw[←hr2,AEa rfl hv (by simp) hk5,Zr]
 refine BV Tryz.func13 rfl Tryz.ntmps13 rfl fun a0 sv0=>?_
 have HG:=World.grownBy.refl w none
 replace sv0:Sv 61 [] [] a0:=sv0
 refine AKQ fun K1 k1=>?_
 refine AKP ?_
 refine AR (v:=.bool false) sv0 r6 fun a2 sv2=>?_
 refine AE ?_
 refine k1 _ _ ?_
 refine AKQ fun K3 k3=>?_
 refine AKP ?_
 refine Ic (sv2.st w) 7 [(10,Sp.is (AQ ((J9 7)))),(11,Sp.is (A8 ((kd 273 (J9 7))) ((kd 274 (J9 7))) (.slice none 0 0))),(12,Sp.is (AQ ((J9 1)))),(13,Sp.vt ((P,(kd 273 (J9 7)),(kd 276 (kd 274 (J9 7)))),(0:Int)) ((fun _=>False))),(9,Sp.vt ((P,(kd 273 (J9 7)),(kd 276 (kd 274 (J9 7)))),(0:Int)) ((fun _=>False))),(14,Sp.vv (P,(kd 273 (J9 7)),(kd 276 (kd 274 (J9 7)))) ((fun _=>False))),(15,Sp.is (.int .i64 0))] rfl (by kernel_rfl) (by kernel_rfl) (by kernel_rfl)
  ⟨BM (vs:=[.int .u8 7]) rfl rfl trivial ⟨rfl,AKW⟩ (fun _=>AH7 7 _) (fun _=>rfl),Al [AQ ((J9 7))] Tryz.func24 (by kernel_rfl) rq4 ⟨(oy rfl rfl),AKW⟩ (A7 fun W g=>ABd (J9 7) (Uh (by decide)) W),BM (vs:=[.int .u8 1]) rfl rfl trivial ⟨rfl,AKW⟩ (fun _=>AH7 1 _) (fun _=>rfl),Al [A8 ((kd 273 (J9 7))) ((kd 274 (J9 7))) (.slice none 0 0),AQ ((J9 1))] Tryz.func36 (by kernel_rfl) rq4 ⟨(oy rfl rfl),(oy rfl rfl),AKW⟩ (AHZ (ks:=[]) (Ct _ _) (Ct _ _) (Uh (by decide)) (RdK.nil _) rfl hT ((ACy rfl rfl (by decide)).trans (by rw[←hP];rfl))),ym r5,BZ rq4 (fun w u h=>AEW w u h),BZ rq4 (fun w u h=>AH1 w u h),AKW⟩ fun a4 w4 g4 st4=>?_
 obtain⟨hn4,hd4,e4_10,e4_11,e4_12,e4_13,e4_9,e4_14,e4_15,e4_0,-⟩:=st4
 obtain⟨ao5,cap5,ks5,e4_14q,hp5,hk5,hf5⟩:=e4_14
 replace HG:=AA HG g4
 have sv4:Sv 61 [] [(0,_),(14,_),(15,_)] a4:=⟨hn4,hd4,e4_0,e4_14q,e4_15,AKW⟩
 refine BB (T:=36) (Z:=([bv AS,bv AS,[.slice none 0 0]].flatten)) sv4 rfl rfl rfl (fun a w=>by kernel_rfl) fun a6 w6 AKN AAw g6 z6 Kq sv6=>?_
 have AGL:=Bq HG AAw
 have Xt:=Ay (hk5.lt) AAw
 refine Av sv6 r7 (CX (Ct _ _) (Ct _ _) (.slice ao5 ks5.length cap5) rfl) Kq (by first|rfl|simp[Ax,AO,Ac,(Ct _ _).1,(Ct _ _).1]) fun w7 g7 h7=>?_
 replace hk5:=(hk5.kn g6).offR g7 (AP Xt)
 replace HG:=AD (AA HG g6) g7 AGL
 replace Kq:=h7
 refine AR (v:=.int .i64 0) sv6 r6 fun a8 sv8=>?_
 refine AE ?_
 refine k3 _ _ ?_
 refine AKQ fun K9 k9=>?_
 refine Eg (sv8.st w7) (by kernel_rfl) 7 [(17,Sp.is (A8 ((kd 273 (J9 7))) ((kd 276 (kd 274 (J9 7)))) (.slice ao5 ks5.length cap5))),(18,Sp.is (B7 ((IZ 1)))),(19,Sp.sr w7.heap.size r1),(16,Sp.sr w7.heap.size r1),(20,Sp.sl w7.heap.size r1.1),(21,Sp.is (.int .i64 r1.2)),(3,Sp.new w7.heap.size (([[.int .i64 0],[.slice none 0 0],[.int .i64 0],[.slice none 0 0],[.slice none 0 0],bv AS].flatten)) 31)] rfl (by kernel_rfl) (by kernel_rfl) (by kernel_rfl) [5] (by kernel_rfl)
  ⟨yl r6 (CX (Ct _ _) (Ct _ _) (.slice ao5 ks5.length cap5) rfl) Kq,Al [.int .i64 1] Tryz.func37 (by kernel_rfl) rq4 ⟨rfl,AKW⟩ (A7 fun W g=>Nb 1 W),Al [A8 ((kd 273 (J9 7))) ((kd 276 (kd 274 (J9 7)))) (.slice ao5 ks5.length cap5),.slice none 0 0,.int .i64 0,.int .i64 0,B7 ((IZ 1))] Tryz.func20 (by kernel_rfl) rq4 ⟨(oy rfl rfl),rfl,rfl,rfl,(oy rfl rfl),AKW⟩ (AH5 (Ct _ _) (Ct _ _) hk5 hp5 hr1),ym r5,BZ rq4 (fun w u h=>AGw w u h),BZ rq4 (fun w u h=>Ug w u h),KO rfl trivial (Nat.le_refl _) (fun a w=>by kernel_rfl) (fun _ _ h=>h),AKW⟩ ⟨fun o ho=>by obtain rfl:=Option.some.inj ho;exact Ja rfl rfl rfl trivial (fun w u h=>Ug w u h),AKW⟩
  [3] (by kernel_rfl) ⟨Sp.new_lt,AKW⟩ ⟨.inl rfl,.inl rfl,.inl rfl,.inl rfl,.inl rfl,.inl rfl,.inr ⟨rfl,(([[.int .i64 0],[.slice none 0 0],[.int .i64 0],[.slice none 0 0],[.slice none 0 0],bv AS].flatten)).toArray,31,fun a w=>by kernel_rfl⟩,AKW⟩ (by kernel_rfl) fun a10 w10 g10 st10 nd10=>?_
 obtain⟨hn10,hd10,e10_17,e10_18,e10_19,e10_16,e10_20,e10_21,e10_3,e10_2,e10_1,e10_0,e10_14,e10_15,-⟩:=st10
 obtain⟨own11,wr11,ao11,wo11,bo11,ac11,wc11,bc11,e10_20q,hF1,fr11⟩:=e10_20
 obtain⟨AJE,e10_3q,QF,I5⟩:=e10_3
 have Rk:=He Kq QF
 have AEe:=SC HG QF
 have Ui:=Gj (hk5.lt) QF
 have Uj:=SdF.ap hF1 I5 (by decide)
 have BF:Sv 61 [] [(2,_),(1,_),(0,_),(14,_),(15,_),(20,_),(21,_),(3,_)] a10:=⟨hn10,hd10,e10_2,e10_1,e10_0,e10_14,e10_15,e10_20q,e10_21,e10_3q,AKW⟩
 refine Av BF r7 (Df _ _ hF1.tg (.slice ao11 (List.length own11) ac11) (.slice wo11 (List.length wr11) wc11) (.slice bo11 r1.1.body.length bc11) rfl rfl rfl) I5 (Gc Ab hF1.tg) fun w12 g12 h12=>?_
 replace Kq:=AZ g12 (AC g10 Kq) (Ne.symm Rk)
 replace hk5:=(hk5.kn g10).offR g12 (AP Ui)
 replace hF1:=hF1.offR g12 (AP Uj)
 replace HG:=AD (AA HG g10) g12 AEe
 replace I5:=h12
 refine AR (v:=.int .i64 r1.2) BF r6 fun a13 Cg=>?_
 refine AE ?_
 refine k9 _ _ ?_
 refine AKQ fun K14 k14=>?_
 refine Eg (Cg.st w12) (by kernel_rfl) 9 [(23,Sp.is (A8 ((kd 273 (J9 7))) ((kd 276 (kd 274 (J9 7)))) (.slice ao5 ks5.length cap5))),(24,Sp.is (AQ ((J9 1)))),(25,Sp.lit1 w12.heap.size 23 (bv (J9 1))),(26,Sp.is (B7 ((IZ 9)))),(27,Sp.sr w12.heap.size r2),(22,Sp.sr w12.heap.size r2),(28,Sp.sl w12.heap.size r2.1),(29,Sp.is (.int .i64 r2.2)),(5,Sp.new w12.heap.size (([[.int .i64 0],[.slice none 0 0],[.int .i64 0],[.slice none 0 0],[.slice none 0 0],bv AS].flatten)) 31)] rfl (by kernel_rfl) (by kernel_rfl) (by kernel_rfl) [7] (by kernel_rfl)
  ⟨yl r6 (CX (Ct _ _) (Ct _ _) (.slice ao5 ks5.length cap5) rfl) Kq,BM (vs:=[.int .u8 1]) rfl rfl trivial ⟨rfl,AKW⟩ (fun _=>AH7 1 _) (fun _=>rfl),TE rfl rfl trivial (Nat.le_refl _) rfl (fun W hw v h=>match v,h with|_,⟨rfl,_⟩=>⟨bv (J9 1),Zb (Uh (by decide)) W,fun w' _ hh=>⟨_,rfl,hw.size,hh⟩⟩),Al [.int .i64 9] Tryz.func37 (by kernel_rfl) rq4 ⟨rfl,AKW⟩ (A7 fun W g=>Nb 9 W),ADB (Sp.sr w12.heap.size r2) rfl rfl trivial rfl (fun W g av h=>match av,h with|[_,_,_,_,_],⟨rfl,hv,rfl,rfl,rfl,_⟩=>AEY (Ct _ _) (Ct _ _) (hk5.kn g) hp5 (AJC (Uh (by decide)) hv) (by decide) g.size hr2) (fun _ _ h=>h) (Gf Tryz.func20 (by kernel_rfl) rfl),ym r5,BZ rq4 (fun w u h=>AGw w u h),BZ rq4 (fun w u h=>Ug w u h),KO rfl trivial (Nat.le_refl _) (fun a w=>by kernel_rfl) (fun _ _ h=>h),AKW⟩ ⟨fun o ho=>by obtain rfl:=Option.some.inj ho;exact Ja rfl rfl rfl trivial (fun w u h=>Ug w u h),AKW⟩
  [5] (by kernel_rfl) ⟨Sp.new_lt,AKW⟩ ⟨.inl rfl,.inl rfl,.inl rfl,.inl rfl,.inl rfl,.inl rfl,.inl rfl,.inl rfl,.inr ⟨rfl,(([[.int .i64 0],[.slice none 0 0],[.int .i64 0],[.slice none 0 0],[.slice none 0 0],bv AS].flatten)).toArray,31,fun a w=>by kernel_rfl⟩,AKW⟩ (by kernel_rfl) fun a15 w15 g15 st15 nd15=>?_
 obtain⟨hn15,hd15,e15_23,e15_24,e15_25,e15_26,e15_27,e15_22,e15_28,e15_29,e15_5,e15_4,e15_2,e15_1,e15_0,e15_14,e15_15,e15_20,e15_21,e15_3,-⟩:=st15
 obtain⟨own16,wr16,ao16,wo16,bo16,ac16,wc16,bc16,e15_28q,hF2,fr16⟩:=e15_28
 obtain⟨AJ8,e15_5q,Kr,Uk⟩:=e15_5
 have Rl:=He Kq Kr
 have QG:=He I5 Kr
 have AEf:=SC HG Kr
 have Ul:=Gj (hk5.lt) Kr
 have Um:=Gj (hF1.lt) Kr
 have Un:=SdF.ap hF2 Uk (by decide)
 have EE:Sv 61 [] [(4,_),(2,_),(1,_),(0,_),(14,_),(15,_),(20,_),(21,_),(3,_),(28,_),(29,_),(5,_)] a15:=⟨hn15,hd15,e15_4,e15_2,e15_1,e15_0,e15_14,e15_15,e15_20,e15_21,e15_3,e15_28q,e15_29,e15_5q,AKW⟩
 refine Av EE r7 (Df _ _ hF2.tg (.slice ao16 (List.length own16) ac16) (.slice wo16 (List.length wr16) wc16) (.slice bo16 r2.1.body.length bc16) rfl rfl rfl) Uk (Gc Ab hF2.tg) fun w17 g17 h17=>?_
 replace Kq:=AZ g17 (AC g15 Kq) (Ne.symm Rl)
 replace hk5:=(hk5.kn g15).offR g17 (AP Ul)
 replace hF2:=hF2.offR g17 (AP Un)
 replace Uk:=h17
 refine AR (v:=.int .i64 r2.2) EE r6 fun a18 CQ=>?_
 refine AE ?_
 refine k14 _ _ ?_
 refine AKQ fun K19 k19=>?_
 refine AKP ?_
 refine AJ CQ 6 [(31,A8 ((kd 273 (J9 7))) ((kd 276 (kd 274 (J9 7)))) (.slice ao5 ks5.length cap5)),(32,BR r2.1.addr (.slice ao16 (List.length own16) ac16) r2.1.joint (.slice wo16 (List.length wr16) wc16) (.slice bo16 r2.1.body.length bc16) r2.1.tag),(33,.tuple #[B7 ((IZ 9)),.int .i64 0]),(30,.tuple #[B7 ((IZ 9)),.int .i64 0]),(34,B7 ((IZ 9))),(35,.int .i64 0)]
  ⟨yl r6 (CX (Ct _ _) (Ct _ _) (.slice ao5 ks5.length cap5) rfl) Kq,yl r6 (Df _ _ hF2.tg (.slice ao16 (List.length own16) ac16) (.slice wo16 (List.length wr16) wc16) (.slice bo16 r2.1.body.length bc16) rfl rfl rfl) Uk,Al [A8 ((kd 273 (J9 7))) ((kd 276 (kd 274 (J9 7)))) (.slice ao5 ks5.length cap5),BR r2.1.addr (.slice ao16 (List.length own16) ac16) r2.1.joint (.slice wo16 (List.length wr16) wc16) (.slice bo16 r2.1.body.length bc16) r2.1.tag] Tryz.func22 (by kernel_rfl) rq4 ⟨(oy rfl rfl),(oy rfl rfl),AKW⟩ (A7 fun W g=>AH6 (q:=(IZ 9,0)) (Ct _ _) (Ct _ _) (hk5.kn g) hp5 (hF2.kn g) hq),ym r5,BZ rq4 (fun _ _ h=>⟨_,_,h,rfl,rfl⟩),BZ rq4 (fun _ _ h=>⟨_,_,h,rfl,rfl⟩),AKW⟩ fun a20 w20 g20 DH=>?_
 replace I5:=AC g20 (AZ g17 (AC g15 I5) (Ne.symm QG))
 replace hF1:=((hF1.kn g15).offR g17 (AP Um)).kn g20
 replace hF2:=hF2.kn g20
 replace HG:=AA (AD (AA HG g15) g17 AEf) g20
 refine BB (T:=25) (Z:=[.int .i64 0,.int .i64 0,.string ⟨#[]⟩]) DH rfl rfl rfl (fun a w=>by kernel_rfl) fun a21 w21 AJ9 M3 g21 z21 Zs CK=>?_
 have QH:=As I5 M3
 have AEg:=Bq HG M3
 have Uo:=Ay (hF1.lt) M3
 have Up:=Ay (hF2.lt) M3
 refine Av CK r7 (Ck ((IZ 9))) Zs rfl fun w22 g22 h22=>?_
 replace I5:=AZ g22 (AC g21 I5) (Ne.symm QH)
 replace hF1:=(hF1.kn g21).offR g22 (AP Uo)
 replace Zs:=h22
 refine AR (v:=.int .i64 0) CK r6 fun a23 Cl=>?_
 have Du:Sv _ _ [_,_,_,_,_,_,_,_,_,_,_,_,_,_,_] _:=Cl.dl [31,32,33,30,34,35]
 refine AE ?_
 refine k19 _ _ ?_
 refine AKQ fun K25 k25=>?_
 refine DU (Du.dl [0]) [(36,.int .i64 0),(37,.bool true),(38,.bool true),(39,.int .i64 r1.2),(40,.bool true),(41,.bool true),(42,.bool true),(43,pk AJE 4),(44,.slice bo11 r1.1.body.length bc11),(45,.string (bs r1.1.body)),(46,.bool true),(47,.bool true),(48,.bool true),(49,.int .i64 r2.2),(50,.bool true),(51,.bool true),(52,.bool true),(53,.int .i64 0),(54,.bool true),(55,.bool true),(56,.bool true),(57,B7 ((IZ 9))),(58,B7 ((IZ 9))),(59,.bool true),(60,.bool true),(0,.bool true)]
  ⟨ym r5,Cp r6 (fun _=>BU rfl),ym r5,Ad rq8,Af rq9 (fun _=>BU (by rw[hz1];rfl)),Aa rq9,ym r5,Aq rq9 (fun _=>by kernel_rfl),Ai rq9 (fun _ g=>AY (Di (.slice bo11 r1.1.body.length bc11) rfl) (Ak (L:=[[.int .i64 r1.1.addr],[.slice ao11 (List.length own11) ac11],[.int .i64 r1.1.joint],[.slice wo11 (List.length wr11) wc11],[.slice bo11 r1.1.body.length bc11],bv r1.1.tag]) (i:=4) (AF g I5 (by simp)) rfl rfl)),AEd (l:=r1.1.body) Tryz.underlying29 Tryz.underlying5 Tryz.underlying9 rfl rfl (gy rfl rfl rfl) (oy rfl rfl) (fun W g=>(hF1.kn g).rb.1) (fun _=>rfl),Af rq9 (fun _=>AGK (by rw[hb1];exact b22)),Aa rq9,ym r5,Ad rq8,Af rq9 (fun _=>BU (by rw[hz2];rfl)),Aa rq9,ym r5,Ad rq8,Af rq9 (fun _=>BU rfl),Aa rq9,ym r5,Ai rq9 (fun _ g=>AY (Ck ((IZ 9))) (Aj (AF g Zs (by simp)))),B8 [.int .i64 9] Tryz.func37 (by kernel_rfl) r7 ⟨rfl,AKW⟩ (A7 fun W g=>Nb 9 W),JY rfl rfl (gy rfl rfl rfl) (oy rfl rfl) (oy rfl rfl) (fun _=>AAu (AAv 9)) (fun _=>rfl),Aa rq9,GV 60 0 (.inr rfl) rfl rfl trivial (fun _ _ h=>h),AKW⟩ fun a26 w26 g26 Cy=>?_
 refine k25 _ _ ?_
 replace hF1:=hF1.kn g26
 replace hF2:=((hF2.kn g21).offR g22 (AP Up)).kn g26
 replace HG:=AA (AD (AA HG g21) g22 AEg) g26
 refine AKT ?_
 repeat refine AK ?_
 refine Aw (fn:=Tryz.f13) Cy (BC (p:=0) Tryz.results13 Cy rfl rfl) ?_
 exact⟨rfl,HG⟩
section
variable {W:World} {ks:List VK} {vo:Option Addr} {vc_:Nat} {sa po:List Nat} {P:List VP} {s:Sd} {own wr:List DD} {ao wo bo:Option Addr} {ac wc bc:Nat} {q:V×Int} {b:Bool}
end
theorem Xu {α β:Type} {p:Cn α} {q:α→Cn β} {l r:List Nat} {y:β} (h:JC p q l=.ok (y,r)):∃x m,p l=.ok (x,m)∧q x m=.ok (y,r):=by
 unfold JC at h
 split at h
 · rename_i x m e
   exact⟨x,m,e,h⟩
 · cases h
theorem AEh {a b:Int} {l r:List Nat} {n:Int} (h:DA a b l=.ok (n,r)):a≤n∧n≤b:=by
 unfold DA at h
 split at h
 · split at h
   · cases h
   · simp only[Except.ok.injEq,Prod.mk.injEq] at h
     omega
 · cases h
theorem AJF {l r:List Nat} {v:V} (h:pV l=.ok (v,r)):v.ok:=by
 obtain⟨k,m,h1,h2⟩:=Xu h
 have hk:=AEh h1
 split at h2
 · rename_i e
   subst e
   obtain⟨n,m',h6,h7⟩:=Xu h2
   have hn:=AEh h6
   simp only[JD,Except.ok.injEq,Prod.mk.injEq] at h7
   obtain⟨rfl,rfl⟩:=h7
   exact .inr (.inl ⟨rfl,hn.1,hn.2,rfl⟩)
 · split at h2
   · rename_i e
     subst e
     obtain⟨t,m',h6,h7⟩:=Xu h2
     simp only[JD,Except.ok.injEq,Prod.mk.injEq] at h7
     obtain⟨rfl,rfl⟩:=h7
     obtain⟨n,m2,h8,h9⟩:=Xu h6
     have hn:=AEh h8
     obtain⟨b,m3,h10,h11⟩:=Xu h9
     simp only[JD,Except.ok.injEq,Prod.mk.injEq] at h11
     obtain⟨rfl,rfl⟩:=h11
     have hb:b.length=n.toNat:=by
      unfold G0 at h10
      split at h10
      · simp only[Except.ok.injEq,Prod.mk.injEq] at h10
        obtain⟨rfl,rfl⟩:=h10
        simp;omega
      · cases h10
     exact .inr (.inr ⟨rfl,rfl,by show(bs b).size≤32;rw[S6,hb];omega⟩)
   · simp only[JD,Except.ok.injEq,Prod.mk.injEq] at h2
     obtain⟨rfl,rfl⟩:=h2
     have e:k=0:=by omega
     exact .inl ⟨e,rfl,rfl⟩
theorem AEi (b:List Nat):(I4 b).1.ok:=by
 unfold I4
 split
 · rename_i h
   exact AJF h
 · exact V.nul_ok
theorem AGM (P:List VP) (s:Sd):(Ei P s).1.ok:=by
 unfold Ei
 split
 · split
   · split
     · exact AEi _
     · exact V.nul_ok
   · split
     · exact V.nul_ok
     · split
       · exact AEi _
       · exact V.nul_ok
 · exact V.nul_ok
theorem AGN {w:World} {ks:List VK} {vo:Option Addr} {vc_:Nat} {sa po:List Nat} {ad joint:Int} {od wd:List DD} {ao wo bo:Option Addr} {ac wc bc:Nat} {body tg:List Nat} {q:V×Int} (hsa:Dg sa) (hpo:Dg po) (htg:Dg tg) (bby:By body) (hr:RdK w (.slice vo ks.length vc_) ks) (ho:RdD w (.slice ao od.length ac) od) (hw:RdD w (.slice wo wd.length wc) wd) (hb:SlB w 1 (.slice bo body.length bc) body.length (bv body)) (hq:Ei (ks.map VK.p) ⟨ad,od.map DD.x,joint,wd.map DD.x,body,tg⟩=q) :
  Calls Tryz.prog 23 #[A8 sa po (.slice vo ks.length vc_),BR ad (.slice ao od.length ac) joint (.slice wo wd.length wc) (.slice bo body.length bc) tg] w fun e w'=>e=.returned (.tuple #[B7 q.1,.int .i64 q.2])∧w.grownBy w' none:=by
 subst hq
 exact Zn ks vo vc_ sa po hsa hpo ad joint od wd ao wo bo ac wc bc body tg htg bby w hr ho hw hb
theorem Zt {w:World} {ks:List VK} {vo:Option Addr} {vc_:Nat} {sa po:List Nat} {ad joint:Int} {od wd:List DD} {ao wo bo:Option Addr} {ac wc bc:Nat} {body tg:List Nat} {q:V×Int} {b:Bool} (hsa:Dg sa) (hpo:Dg po) (htg:Dg tg) (bby:By body) (hr:RdK w (.slice vo ks.length vc_) ks) (ho:RdD w (.slice ao od.length ac) od) (hw:RdD w (.slice wo wd.length wc) wd) (hb:SlB w 1 (.slice bo body.length bc) body.length (bv body)) (hq:Ei (ks.map VK.p) ⟨ad,od.map DD.x,joint,wd.map DD.x,body,tg⟩=q) (hd:decide (q.2=0)=b) :
  Calls Tryz.prog 26 #[A8 sa po (.slice vo ks.length vc_),BR ad (.slice ao od.length ac) joint (.slice wo wd.length wc) (.slice bo body.length bc) tg] w fun e w'=>e=.returned (.bool b)∧w.grownBy w' none:=by
 subst hd hq
 exact Rd ks vo vc_ sa po hsa hpo ad joint od wd ao wo bo ac wc bc body tg htg bby w hr ho hw hb
theorem AEj {ks:List VK} {i:Nat} {x:VK} {hi:i<ks.length} (hno:∀j (h:j<ks.length),j<i→¬30<(ks[j]'h).l.length) (hx:ks[i]'hi=x) (h30:¬30<(x.l.length:Int)):∀j (h:j<ks.length),j<i+1→¬30<(ks[j]'h).l.length:=fun j h hj=>by
 by_cases e:j=i
 · subst e;rw[hx];omega
 · exact hno j h (by omega)
end Go.Proofs.YtbfjfnbcmojpiaaGreat
