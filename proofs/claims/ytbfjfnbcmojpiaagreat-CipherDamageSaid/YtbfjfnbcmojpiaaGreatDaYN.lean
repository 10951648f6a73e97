import Derived.Test.YtbfjfnbcmojpiaaGreatDaFE
set_option linter.unusedSimpArgs false
set_option linter.unusedVariables false
set_option maxRecDepth 100000
set_option maxHeartbeats 4000000
namespace Go.Proofs.YtbfjfnbcmojpiaaGreat
open Go.RowKit Go.Shelf
theorem Ty (x:V):LC (BQ x)=(x.clean,0):=by
 have h:=(ANO x).rt []
 rw[List.append_nil] at h
 exact AEp h
theorem Pd (x:V):(BQ x).length≤64:=Nat.le_trans (FN x) (by decide)
theorem ACG (b c:List Nat):Fj (Fj b c) c=b:=by
 unfold Fj
 rw[M0 (by rw[N8];exact Nat.le_refl _)]
 exact Pw (by rw[N8];exact Nat.le_refl _)
theorem ADu {P P':List VP} {joint a:Int} {x:V} (h:hd [] joint a=true) (hv:Co P=true) (hv':Co P'=true):Fl P' (Gk P [] joint a x).1=(x.clean,0):=by
 rw[Ie h hv]
 rw[NB (by unfold Ed;simp[h,Pd]) hv' rfl,if_pos rfl,Ty]
theorem ACH {P:List VP} {own:List (List Nat)} {a:Int} {x:V} (h:hd own 0 a=true) (hv:Co P=true) (hne:own≠[]) (hk:(Df P a own).2=0):Fl P (Gk P own 0 a x).1=(x.clean,0):=by
 rw[Gm h hv hne hk rfl rfl]
 have hr:Ga P ⟨a,own,0,if (0:Int)=1 then (Df P a own).1.map (Mg (Qx (decide ((0:Int)=1)) (Df P a own).1)) else [],Fj (BQ x) (Qx (decide ((0:Int)=1)) (Df P a own).1),MI (Qx (decide ((0:Int)=1)) (Df P a own).1) a (Fj (BQ x) (Qx (decide ((0:Int)=1)) (Df P a own).1))⟩=some (Qx (decide ((0:Int)=1)) (Df P a own).1):=by
  unfold Ga
  rw[if_neg (show ¬(0:Int)=1 by decide),if_pos hk]
 rw[NZ (by unfold Ed;simp[h,Hy,Pd]) hv hne hr,if_pos rfl,ACG,Ty]
theorem ADv:Tryz.prog.cellsOf 25=3:=by kernel_rfl
theorem ALy:Tryz.prog.cellsOf 9=1:=by kernel_rfl
theorem AKN (d:Nat) (x:Int) (h:-9223372036854775808≤x∧x≤9223372036854775807):Tryz.prog.keyLits (d+1) 3 [.int .i64 x]=some [.int .i64 x]:=by
 unfold Program.keyLits
 rw[Tryz.underlying3]
 simp[Lit.wf,IntKind.min,IntKind.max,IntKind.signed,IntKind.bits]
 omega
theorem AIe (d:Nat) (x:Int) (h:-9223372036854775808≤x∧x≤9223372036854775807):Tryz.prog.keyLits (d+1) 2 [.int .i64 x]=some [.int .i64 x]:=by
 unfold Program.keyLits
 rw[Tryz.underlying2]
 simp[Lit.wf,IntKind.min,IntKind.max,IntKind.signed,IntKind.bits]
 omega
theorem ALz (d:Nat) (s:ByteArray) (h:s.size≤1000000):Tryz.prog.keyLits (d+1) 9 [.string s]=some [.string s.data.toList]:=by
 unfold Program.keyLits
 rw[Tryz.underlying9]
 simp only
 rw[if_pos (Nat.le_trans h (by decide))]
theorem AIf (d:Nat) (x:V) (hk:N6 x.kind) (hi:N6 x.int) (ht:x.text.size≤1000000):Tryz.prog.keyLits (d+2) 25 (vc x)=some [.int .i64 x.kind,.int .i64 x.int,.string x.text.data.toList]:=by
 unfold Program.keyLits
 rw[Tryz.underlying25]
 simp only
 rw[if_pos ⟨by rw[ADv];rfl,by kernel_rfl⟩]
 have e0:((vc x).drop 0).take 1=[.int .i64 x.kind]:=rfl
 have e1:((vc x).drop 1).take 1=[.int .i64 x.int]:=rfl
 have e2:((vc x).drop 2).take 1=[.string x.text]:=rfl
 simp only[List.mapM_cons,List.mapM_nil,AGe,AJH,ALy,e0,e1,e2,AKN d x.kind ⟨by have:=hk.1;omega,by have:=hk.2;omega⟩,AIe d x.int ⟨by have:=hi.1;omega,by have:=hi.2;omega⟩,ALz d x.text ht]
 simp
theorem AEx {x:V} (h:x.ok) {px py:Operand} {w:World}:(do eqGuard .eql 25 px py (Br x) (Br x);binOp .eql 25 (Br x) (Br x):Sem Value).run Tryz.prog w=.ok (.bool true) w:=
 (AG1 25 6 (by decide) (by kernel_rfl) (by kernel_rfl) (xs:=vc x) (ys:=vc x) (by simp[Value.formed,Tryz.underlying25,ADv,vc]) (by simp[Value.formed,Tryz.underlying25,ADv,vc]) (AIf 0 x (V.ok_kind h).1 (V.ok_kind h).2 (Nat.le_trans (V.ok_text h) (by decide))) (AIf 0 x (V.ok_kind h).1 (V.ok_kind h).2 (Nat.le_trans (V.ok_text h) (by decide))) (r:=true) (by simp) px py w).1
theorem AKO {P:Program} {t:TypeId} {x y:Operand} {w:World} {a b:ByteArray} {r:Bool} (h:(a.toList == b.toList)=r):(do eqGuard .eql t x y (.string a) (.string b);binOp .eql t (.string a) (.string b):Sem Value).run P w=.ok (.bool r) w:=by
 subst h
 simp[eqGuard,binOp_string_eql]
theorem b22:((bs [2,2]).toList == (⟨#[2,2]⟩:ByteArray).toList)=true:=by
 rw[show(⟨#[2,2]⟩:ByteArray)=bs [2,2] from rfl]
 simp
theorem AIg {P:Program} {ops:Array Oper} {L:Nat→Sp} {n:Nat} {w0:World} {o:Oper} {x:Operand} {src dst e d:Nat} {v:Value} {l:List Nat} (hs:P.underlying src=some (.slice e)) (he:P.underlying e=some (.int .u8)) (hd:P.underlying dst=some .string) (ho:o.op=.convert src dst x) (hd':o.dst=some d) (hg:GX ops L n o.guard) (hx:OpX L n x v) (hr:∀w,w0.grownBy w none→Sl w 1 v l.length (bv l)) (h:∀w,(L d).on w (.string (bs l))):OX P ops L n w0 o:=
 Fv hg fun a w hw hl hsz=>⟨.string (bs l),by
  have e1:=hx.eval (o:=o) (a:=a) (w:=w) (by simp[ho,Op.operands]) hl
  simp only[execOp,ho,e1,Sem.run_bind,Sem.run_pure,Result.andThen_ok,SB src dst e hs he hd (hr w hw)],Da hd' (h w)⟩
theorem AL0 {w0:World} {ks:List VK} {vo:Option Addr} {vc_:Nat} {sa po:List Nat} {P:List VP} {joint ad:Int} {x:V} {r:Sd×Int} (hsa:Dg sa) (hpo:Dg po) (hr:RdK w0 (.slice vo ks.length vc_) ks) (hP:ks.map VK.p=P) (hres:Gk P [] joint ad x=r) :
  ∀W,w0.grownBy W none→Calls Tryz.prog 20 #[Ay sa po (.slice vo ks.length vc_),.slice none 0 0,.int .i64 joint,.int .i64 ad,Br x] W fun e w'=>∃v,e=.returned v∧W.grownBy w' none∧(Sp.sr w0.heap.size r).on w' v:=fun W g =>
 AId hsa hpo (hr.kn g) hP (ds:=[]) (RdD.nil W) (by decide) g.size hres
theorem AM3 {W:World} {B:Nat} {d:List Nat} {v:Value} (hd:Dg d) (h:(Sp.lit1 B 23 (bv d)).on W v):RdD W v [⟨d,hd⟩]:=by
 obtain⟨A,rfl,h1,h2⟩:=h
 refine⟨?_,fun k hk=>?_⟩
 · have:=Iv h2 hd
   simpa [Ja] using this
 · obtain rfl:=Option.some.inj hk
   exact(Array.getElem?_eq_some_iff.1 h2).1
section
variable {W:World} {ks:List VK} {vo:Option Addr} {vc_:Nat} {sa po:List Nat} {P:List VP} {s:Sd} {own wr:List DD} {ao wo bo:Option Addr} {ac wc bc:Nat} {q:V×Int}
theorem AIh (hsa:Dg sa) (hpo:Dg po) (hr:RdK W (.slice vo ks.length vc_) ks) (hP:ks.map VK.p=P) (h:SdF W s own wr ao wo bo ac wc bc) (hq:Fl P s=q) :
  Calls Tryz.prog 22 #[Ay sa po (.slice vo ks.length vc_),Bv s.addr (.slice ao (List.length own) ac) s.joint (.slice wo (List.length wr) wc) (.slice bo s.body.length bc) s.tag] W fun e w'=>e=.returned (.tuple #[Br q.1,.int .i64 q.2])∧W.grownBy w' none:=
 ALu hsa hpo h.tg h.by hr h.ro h.rw h.rb (by rw[hP,h.sd];exact hq)
end
theorem AKz {k:List Nat} {l:List Nd} {a:Int} (hk:Dg k) (hl:tree k []=l) (ha:Ci a=true):∃K,Dg K∧Ca l a=(K,0):=by
 refine⟨(Mb a 34 (OD k)).k,Oh _ _ _ hk,?_⟩
 rw[←hl,AFS k [] a (Lz k) ha,if_neg (by simp)]
def Mf (k:Nat):List Nat:=k::zs 31
theorem ZC {k:Nat} (h:k<256):Dg (Mf k):=⟨rfl,fun x hx=>by simp[Mf,zs] at hx;omega⟩
theorem AL1 (k:Nat) (w:World):(Instr.build 23 #[(0,.int .u8 (k:Int))]).run Tryz.prog w=.ok (AQ (Mf k)) w:=by kernel_rfl
theorem AEy (n:Int):(KV n).ok:=V.clean_ok _
theorem ADw (n:Int):(KV n).clean=KV n:=V.clean_of (AEy n)
theorem Tz  (w:World) :
  Calls Tryz.prog 13 #[] w fun e w'=>e=.returned (.bool true)∧w.grownBy w' none:=by
 obtain⟨T,hT⟩:∃T,tree (kd 275 (kd 274 (Mf 7))) []=T:=⟨_,rfl⟩
 have hTv:I1 T=true:=hT▸Lz _
 obtain⟨P,hP⟩:∃P,OE [] (Mf 1) T=P:=⟨_,rfl⟩
 have hv:Co P=true:=hP▸AAi rfl rfl (by decide) hTv
 have hm:(Mf 1,T)∈P:=by rw[←hP];exact AEL.2 (.inl rfl)
 obtain⟨K,hKd,hK⟩:=AKz (Bp 275 (kd 274 (Mf 7))) hT (a:=5) rfl
 have hk:=AET (a:=5) rfl hv (AEM (Srt.of hv) hm) hK
 obtain⟨r1,hr1⟩:∃r,Gk P [] 0 0 (KV 1)=r:=⟨_,rfl⟩
 have hn:=Ie (P:=P) (joint:=0) (a:=0) (x:=KV 1) rfl hv
 have hz1:r1.2=0:=by rw[←hr1,hn]
 have hb1:r1.1.body=[2,2]:=by rw[←hr1,hn];decide +kernel
 have hk5:(Df P 5 [Mf 1]).2=0:=by unfold Df;rw[hk,if_pos rfl];rfl
 obtain⟨r2,hr2⟩:∃r,Gk P [Mf 1] 0 5 (KV 9)=r:=⟨_,rfl⟩
 have hz2:r2.2=0:=by rw[←hr2,Gm (K:=_) rfl hv (by simp) hk5 rfl rfl]
 have hq:Fl P r2.1=(KV 9,0):=by rw[←hr2,ACH rfl hv (by simp) hk5,ADw]
 refine BV Tryz.func13 rfl Tryz.ntmps13 rfl fun a0 sv0=>?_
 have HG:=World.grownBy.refl w none
 replace sv0:Sv 61 [] [] a0:=sv0
 refine AOQ fun K1 k1=>?_
 refine AOP ?_
 refine AS (v:=.bool false) sv0 r6 fun a2 sv2=>?_
 refine AD ?_
 refine k1 _ _ ?_
 refine AOQ fun K3 k3=>?_
 refine AOP ?_
 refine JX (sv2.st w) 7 [(10,Sp.is (AQ ((Mf 7)))),(11,Sp.is (Ay ((kd 273 (Mf 7))) ((kd 274 (Mf 7))) (.slice none 0 0))),(12,Sp.is (AQ ((Mf 1)))),(13,Sp.vt ((P,(kd 273 (Mf 7)),(kd 276 (kd 274 (Mf 7)))),(0:Int)) ((fun _=>False))),(9,Sp.vt ((P,(kd 273 (Mf 7)),(kd 276 (kd 274 (Mf 7)))),(0:Int)) ((fun _=>False))),(14,Sp.vv (P,(kd 273 (Mf 7)),(kd 276 (kd 274 (Mf 7)))) ((fun _=>False))),(15,Sp.is (.int .i64 0))] rfl (by kernel_rfl) (by kernel_rfl) (by kernel_rfl)
  ⟨BG (vs:=[.int .u8 7]) rfl rfl trivial ⟨rfl,AOW⟩ (fun _=>AL1 7 _) (fun _=>rfl),Ag [AQ ((Mf 7))] Tryz.func24 (by kernel_rfl) rq4 ⟨(oy rfl rfl),AOW⟩ (A1 fun W g=>AFh (Mf 7) (ZC (by decide)) W),BG (vs:=[.int .u8 1]) rfl rfl trivial ⟨rfl,AOW⟩ (fun _=>AL1 1 _) (fun _=>rfl),Ag [Ay ((kd 273 (Mf 7))) ((kd 274 (Mf 7))) (.slice none 0 0),AQ ((Mf 1))] Tryz.func36 (by kernel_rfl) rq4 ⟨(oy rfl rfl),(oy rfl rfl),AOW⟩ (ALc (ks:=[]) (Bp _ _) (Bp _ _) (ZC (by decide)) (RdK.nil _) rfl hT ((Z7 rfl rfl (by decide)).trans (by rw[←hP];rfl))),ym r5,Bh rq4 (fun w u h=>ACE w u h),Bh rq4 (fun w u h=>ADs w u h),AOW⟩ fun a4 w4 g4 st4=>?_
 obtain⟨hn4,hd4,e4_10,e4_11,e4_12,e4_13,e4_9,e4_14,e4_15,e4_0,-⟩:=st4
 obtain⟨ao5,cap5,ks5,e4_14q,hp5,hk5,hf5⟩:=e4_14
 replace HG:=AA HG g4
 have sv4:Sv 61 [] [(0,_),(14,_),(15,_)] a4:=⟨hn4,hd4,e4_0,e4_14q,e4_15,AOW⟩
 refine A9 (T:=36) (Z:=([bv AR,bv AR,[.slice none 0 0]].flatten)) sv4 rfl rfl rfl (fun a w=>by kernel_rfl) fun a6 w6 AON AEz g6 z6 NE sv6=>?_
 have AKP:=Bq HG AEz
 have ACI:=Aw (hk5.lt) AEz
 refine Aq sv6 r7 (B6 (Bp _ _) (Bp _ _) (.slice ao5 ks5.length cap5) rfl) NE (by first|rfl|simp[Ar,AO,Af,(Bp _ _).1,(Bp _ _).1]) fun w7 g7 h7=>?_
 replace hk5:=(hk5.kn g6).offR g7 (AP ACI)
 replace HG:=AE (AA HG g6) g7 AKP
 replace NE:=h7
 refine AS (v:=.int .i64 0) sv6 r6 fun a8 sv8=>?_
 refine AD ?_
 refine k3 _ _ ?_
 refine AOQ fun K9 k9=>?_
 refine DP (sv8.st w7) (by kernel_rfl) 7 [(17,Sp.is (Ay ((kd 273 (Mf 7))) ((kd 276 (kd 274 (Mf 7)))) (.slice ao5 ks5.length cap5))),(18,Sp.is (Br ((KV 1)))),(19,Sp.sr w7.heap.size r1),(16,Sp.sr w7.heap.size r1),(20,Sp.sl w7.heap.size r1.1),(21,Sp.is (.int .i64 r1.2)),(3,Sp.new w7.heap.size (([[.int .i64 0],[.slice none 0 0],[.int .i64 0],[.slice none 0 0],[.slice none 0 0],bv AR].flatten)) 31)] rfl (by kernel_rfl) (by kernel_rfl) (by kernel_rfl) [5] (by kernel_rfl)
  ⟨yl r6 (B6 (Bp _ _) (Bp _ _) (.slice ao5 ks5.length cap5) rfl) NE,Ag [.int .i64 1] Tryz.func37 (by kernel_rfl) rq4 ⟨rfl,AOW⟩ (A1 fun W g=>QE 1 W),Ag [Ay ((kd 273 (Mf 7))) ((kd 276 (kd 274 (Mf 7)))) (.slice ao5 ks5.length cap5),.slice none 0 0,.int .i64 0,.int .i64 0,Br ((KV 1))] Tryz.func20 (by kernel_rfl) rq4 ⟨(oy rfl rfl),rfl,rfl,rfl,(oy rfl rfl),AOW⟩ (AL0 (Bp _ _) (Bp _ _) hk5 hp5 hr1),ym r5,Bh rq4 (fun w u h=>AIc w u h),Bh rq4 (fun w u h=>QF w u h),Ju rfl trivial (Nat.le_refl _) (fun a w=>by kernel_rfl) (fun _ _ h=>h),AOW⟩ ⟨fun o ho=>by obtain rfl:=Option.some.inj ho;exact HH rfl rfl rfl trivial (fun w u h=>QF w u h),AOW⟩
  [3] (by kernel_rfl) ⟨Sp.new_lt,AOW⟩ ⟨.inl rfl,.inl rfl,.inl rfl,.inl rfl,.inl rfl,.inl rfl,.inr ⟨rfl,(([[.int .i64 0],[.slice none 0 0],[.int .i64 0],[.slice none 0 0],[.slice none 0 0],bv AR].flatten)).toArray,31,fun a w=>by kernel_rfl⟩,AOW⟩ (by kernel_rfl) fun a10 w10 g10 st10 nd10=>?_
 obtain⟨hn10,hd10,e10_17,e10_18,e10_19,e10_16,e10_20,e10_21,e10_3,e10_2,e10_1,e10_0,e10_14,e10_15,-⟩:=st10
 obtain⟨own11,wr11,ao11,wo11,bo11,ac11,wc11,bc11,e10_20q,hF1,fr11⟩:=e10_20
 obtain⟨AM4,e10_3q,T5,LF⟩:=e10_3
 have Vs:=Fu NE T5
 have AIi:=QR HG T5
 have ZD:=GO (hk5.lt) T5
 have ZE:=SdF.ap hF1 LF (by decide)
 have Bt:Sv 61 [] [(2,_),(1,_),(0,_),(14,_),(15,_),(20,_),(21,_),(3,_)] a10:=⟨hn10,hd10,e10_2,e10_1,e10_0,e10_14,e10_15,e10_20q,e10_21,e10_3q,AOW⟩
 refine Aq Bt r7 (Dh _ _ hF1.tg (.slice ao11 (List.length own11) ac11) (.slice wo11 (List.length wr11) wc11) (.slice bo11 r1.1.body.length bc11) rfl rfl rfl) LF (EG AU hF1.tg) fun w12 g12 h12=>?_
 replace NE:=Aa g12 (AC g10 NE) (Ne.symm Vs)
 replace hk5:=(hk5.kn g10).offR g12 (AP ZD)
 replace hF1:=hF1.offR g12 (AP ZE)
 replace HG:=AE (AA HG g10) g12 AIi
 replace LF:=h12
 refine AS (v:=.int .i64 r1.2) Bt r6 fun a13 Cx=>?_
 refine AD ?_
 refine k9 _ _ ?_
 refine AOQ fun K14 k14=>?_
 refine DP (Cx.st w12) (by kernel_rfl) 9 [(23,Sp.is (Ay ((kd 273 (Mf 7))) ((kd 276 (kd 274 (Mf 7)))) (.slice ao5 ks5.length cap5))),(24,Sp.is (AQ ((Mf 1)))),(25,Sp.lit1 w12.heap.size 23 (bv (Mf 1))),(26,Sp.is (Br ((KV 9)))),(27,Sp.sr w12.heap.size r2),(22,Sp.sr w12.heap.size r2),(28,Sp.sl w12.heap.size r2.1),(29,Sp.is (.int .i64 r2.2)),(5,Sp.new w12.heap.size (([[.int .i64 0],[.slice none 0 0],[.int .i64 0],[.slice none 0 0],[.slice none 0 0],bv AR].flatten)) 31)] rfl (by kernel_rfl) (by kernel_rfl) (by kernel_rfl) [7] (by kernel_rfl)
  ⟨yl r6 (B6 (Bp _ _) (Bp _ _) (.slice ao5 ks5.length cap5) rfl) NE,BG (vs:=[.int .u8 1]) rfl rfl trivial ⟨rfl,AOW⟩ (fun _=>AL1 1 _) (fun _=>rfl),Ot rfl rfl trivial (Nat.le_refl _) rfl (fun W hw v h=>match v,h with|_,⟨rfl,_⟩=>⟨bv (Mf 1),Up (ZC (by decide)) W,fun w' _ hh=>⟨_,rfl,hw.size,hh⟩⟩),Ag [.int .i64 9] Tryz.func37 (by kernel_rfl) rq4 ⟨rfl,AOW⟩ (A1 fun W g=>QE 9 W),AAK (Sp.sr w12.heap.size r2) rfl rfl trivial rfl (fun W g av h=>match av,h with|[_,_,_,_,_],⟨rfl,hv,rfl,rfl,rfl,_⟩=>AId (Bp _ _) (Bp _ _) (hk5.kn g) hp5 (AM3 (ZC (by decide)) hv) (by decide) g.size hr2) (fun _ _ h=>h) (Ho Tryz.func20 (by kernel_rfl) rfl),ym r5,Bh rq4 (fun w u h=>AIc w u h),Bh rq4 (fun w u h=>QF w u h),Ju rfl trivial (Nat.le_refl _) (fun a w=>by kernel_rfl) (fun _ _ h=>h),AOW⟩ ⟨fun o ho=>by obtain rfl:=Option.some.inj ho;exact HH rfl rfl rfl trivial (fun w u h=>QF w u h),AOW⟩
  [5] (by kernel_rfl) ⟨Sp.new_lt,AOW⟩ ⟨.inl rfl,.inl rfl,.inl rfl,.inl rfl,.inl rfl,.inl rfl,.inl rfl,.inl rfl,.inr ⟨rfl,(([[.int .i64 0],[.slice none 0 0],[.int .i64 0],[.slice none 0 0],[.slice none 0 0],bv AR].flatten)).toArray,31,fun a w=>by kernel_rfl⟩,AOW⟩ (by kernel_rfl) fun a15 w15 g15 st15 nd15=>?_
 obtain⟨hn15,hd15,e15_23,e15_24,e15_25,e15_26,e15_27,e15_22,e15_28,e15_29,e15_5,e15_4,e15_2,e15_1,e15_0,e15_14,e15_15,e15_20,e15_21,e15_3,-⟩:=st15
 obtain⟨own16,wr16,ao16,wo16,bo16,ac16,wc16,bc16,e15_28q,hF2,fr16⟩:=e15_28
 obtain⟨AOD,e15_5q,NF,ZF⟩:=e15_5
 have Vt:=Fu NE NF
 have T6:=Fu LF NF
 have AIj:=QR HG NF
 have ZG:=GO (hk5.lt) NF
 have ZH:=GO (hF1.lt) NF
 have ZI:=SdF.ap hF2 ZF (by decide)
 have Fp:Sv 61 [] [(4,_),(2,_),(1,_),(0,_),(14,_),(15,_),(20,_),(21,_),(3,_),(28,_),(29,_),(5,_)] a15:=⟨hn15,hd15,e15_4,e15_2,e15_1,e15_0,e15_14,e15_15,e15_20,e15_21,e15_3,e15_28q,e15_29,e15_5q,AOW⟩
 refine Aq Fp r7 (Dh _ _ hF2.tg (.slice ao16 (List.length own16) ac16) (.slice wo16 (List.length wr16) wc16) (.slice bo16 r2.1.body.length bc16) rfl rfl rfl) ZF (EG AU hF2.tg) fun w17 g17 h17=>?_
 replace NE:=Aa g17 (AC g15 NE) (Ne.symm Vt)
 replace hk5:=(hk5.kn g15).offR g17 (AP ZG)
 replace hF2:=hF2.offR g17 (AP ZI)
 replace ZF:=h17
 refine AS (v:=.int .i64 r2.2) Fp r6 fun a18 CY=>?_
 refine AD ?_
 refine k14 _ _ ?_
 refine AOQ fun K19 k19=>?_
 refine AOP ?_
 refine AH CY 6 [(31,Ay ((kd 273 (Mf 7))) ((kd 276 (kd 274 (Mf 7)))) (.slice ao5 ks5.length cap5)),(32,Bv r2.1.addr (.slice ao16 (List.length own16) ac16) r2.1.joint (.slice wo16 (List.length wr16) wc16) (.slice bo16 r2.1.body.length bc16) r2.1.tag),(33,.tuple #[Br ((KV 9)),.int .i64 0]),(30,.tuple #[Br ((KV 9)),.int .i64 0]),(34,Br ((KV 9))),(35,.int .i64 0)]
  ⟨yl r6 (B6 (Bp _ _) (Bp _ _) (.slice ao5 ks5.length cap5) rfl) NE,yl r6 (Dh _ _ hF2.tg (.slice ao16 (List.length own16) ac16) (.slice wo16 (List.length wr16) wc16) (.slice bo16 r2.1.body.length bc16) rfl rfl rfl) ZF,Ag [Ay ((kd 273 (Mf 7))) ((kd 276 (kd 274 (Mf 7)))) (.slice ao5 ks5.length cap5),Bv r2.1.addr (.slice ao16 (List.length own16) ac16) r2.1.joint (.slice wo16 (List.length wr16) wc16) (.slice bo16 r2.1.body.length bc16) r2.1.tag] Tryz.func22 (by kernel_rfl) rq4 ⟨(oy rfl rfl),(oy rfl rfl),AOW⟩ (A1 fun W g=>AIh (q:=(KV 9,0)) (Bp _ _) (Bp _ _) (hk5.kn g) hp5 (hF2.kn g) hq),ym r5,Bh rq4 (fun _ _ h=>⟨_,_,h,rfl,rfl⟩),Bh rq4 (fun _ _ h=>⟨_,_,h,rfl,rfl⟩),AOW⟩ fun a20 w20 g20 Du=>?_
 replace LF:=AC g20 (Aa g17 (AC g15 LF) (Ne.symm T6))
 replace hF1:=((hF1.kn g15).offR g17 (AP ZH)).kn g20
 replace hF2:=hF2.kn g20
 replace HG:=AA (AE (AA HG g15) g17 AIj) g20
 refine A9 (T:=25) (Z:=[.int .i64 0,.int .i64 0,.string ⟨#[]⟩]) Du rfl rfl rfl (fun a w=>by kernel_rfl) fun a21 w21 AOE Pe g21 z21 ADx Dl=>?_
 have T7:=Ao LF Pe
 have AIk:=Bq HG Pe
 have ZJ:=Aw (hF1.lt) Pe
 have ZK:=Aw (hF2.lt) Pe
 refine Aq Dl r7 (C6 ((KV 9))) ADx rfl fun w22 g22 h22=>?_
 replace LF:=Aa g22 (AC g21 LF) (Ne.symm T7)
 replace hF1:=(hF1.kn g21).offR g22 (AP ZJ)
 replace ADx:=h22
 refine AS (v:=.int .i64 0) Dl r6 fun a23 Cc=>?_
 have EN:Sv _ _ [_,_,_,_,_,_,_,_,_,_,_,_,_,_,_] _:=Cc.dl [31,32,33,30,34,35]
 refine AD ?_
 refine k19 _ _ ?_
 refine AOQ fun K25 k25=>?_
 refine Dx (EN.dl [0]) [(36,.int .i64 0),(37,.bool true),(38,.bool true),(39,.int .i64 r1.2),(40,.bool true),(41,.bool true),(42,.bool true),(43,pk AM4 4),(44,.slice bo11 r1.1.body.length bc11),(45,.string (bs r1.1.body)),(46,.bool true),(47,.bool true),(48,.bool true),(49,.int .i64 r2.2),(50,.bool true),(51,.bool true),(52,.bool true),(53,.int .i64 0),(54,.bool true),(55,.bool true),(56,.bool true),(57,Br ((KV 9))),(58,Br ((KV 9))),(59,.bool true),(60,.bool true),(0,.bool true)]
  ⟨ym r5,Ce r6 (fun _=>BM rfl),ym r5,Ae rq8,Ai rq9 (fun _=>BM (by rw[hz1];rfl)),Ah rq9,ym r5,BI rq9 (fun _=>by kernel_rfl),A8 rq9 (fun _ g=>Ad (D5 (.slice bo11 r1.1.body.length bc11) rfl) (BB (L:=[[.int .i64 r1.1.addr],[.slice ao11 (List.length own11) ac11],[.int .i64 r1.1.joint],[.slice wo11 (List.length wr11) wc11],[.slice bo11 r1.1.body.length bc11],bv r1.1.tag]) (i:=4) (AF g LF (by simp)) rfl rfl)),AIg (l:=r1.1.body) Tryz.underlying29 Tryz.underlying5 Tryz.underlying9 rfl rfl (gy rfl rfl rfl) (oy rfl rfl) (fun W g=>(hF1.kn g).rb.1) (fun _=>rfl),Ai rq9 (fun _=>AKO (by rw[hb1];exact b22)),Ah rq9,ym r5,Ae rq8,Ai rq9 (fun _=>BM (by rw[hz2];rfl)),Ah rq9,ym r5,Ae rq8,Ai rq9 (fun _=>BM rfl),Ah rq9,ym r5,A8 rq9 (fun _ g=>Ad (C6 ((KV 9))) (Av (AF g ADx (by simp)))),CG [.int .i64 9] Tryz.func37 (by kernel_rfl) r7 ⟨rfl,AOW⟩ (A1 fun W g=>QE 9 W),Mp rfl rfl (gy rfl rfl rfl) (oy rfl rfl) (oy rfl rfl) (fun _=>AEx (AEy 9)) (fun _=>rfl),Ah rq9,JW 60 0 (.inr rfl) rfl rfl trivial (fun _ _ h=>h),AOW⟩ fun a26 w26 g26 DH=>?_
 refine k25 _ _ ?_
 replace hF1:=hF1.kn g26
 replace hF2:=((hF2.kn g21).offR g22 (AP ZK)).kn g26
 replace HG:=AA (AE (AA HG g21) g22 AIk) g26
 refine AOT ?_
 repeat refine AM ?_
 refine Ap (fn:=Tryz.f13) DH (BK (p:=0) Tryz.results13 DH rfl rfl) ?_
 exact⟨rfl,HG⟩
theorem ZL (seed:List Nat):Co (V6 seed).1=true:=(Pa seed 6 (by decide)).1
theorem AM6 (seed:List Nat):Dg (V6 seed).2.1∧Dg (V6 seed).2.2:=⟨Bp _ _,JN _ _⟩
theorem AIr {w0:World} {seed:List Nat} (hse:Dg seed):∀W,w0.grownBy W none→Calls Tryz.prog 14 #[AQ seed] W fun e w'=>∃v,e=.returned v∧W.grownBy w' none∧(Sp.vv (V6 seed) (fun _=>False)).on w' v:=fun W _=>ADt seed hse W
theorem AE0 (x:V) (w:World):Calls Tryz.prog 12 #[Br x] w fun e w'=>e=.returned (.bool (decide (x.text.size≤100)))∧w.grownBy w' none:=ADo x _ rfl w
theorem AIl {c k:List Nat} (hc:Dg c):Mg (Mg c k) k=c:=by
 unfold Mg
 exact Pw (by rw[hc.1,show(msk k).length=32 from(Bp 283 k).1];exact Nat.le_refl _)
theorem AIm {K:List (List Nat)} {f:List Nat→List Nat} (h:0<K.length):Lf (K.map f) 0=f (Lf K 0):=by
 cases K with
 | nil=>simp at h
 | cons a K=>rfl
theorem ACJ {P:List VP} {own:List (List Nat)} {joint a:Int} {x:V} (h:hd own joint a=true) (hv:Co P=true) (hk:∀j,j<own.length→(DI P (Lf own j) a).2=0) :
   Fl P (Gk P own joint a x).1=(x.clean,0)∧(Gk P own joint a x).2=0∧Ed (Gk P own joint a x).1=true:=by
 obtain⟨K1,K2⟩:=J8 hk
 obtain⟨haa,hjj,hol,hasc⟩:=Sz h
 by_cases hne:own=[]
 · subst hne
   refine⟨ADu h hv hv,?_,?_⟩
   · rw[Ie h hv]
   · rw[Ie h hv];unfold Ed;simp[h,Pd]
 · have hpos:0<own.length:=List.length_pos_iff.2 hne
   rcases hjj with rfl|rfl
   · refine⟨ACH h hv hne K2,?_,?_⟩
     · rw[Gm h hv hne K2 rfl rfl]
     · rw[Gm h hv hne K2 rfl rfl];unfold Ed;simp[h,Hy,Pd]
   · obtain⟨c,hc⟩:∃c,Qx (decide ((1:Int)=1)) (Df P a own).1=c:=⟨_,rfl⟩
     have hcd:Dg c:=hc▸Hc _ _
     rw[Gm h hv hne K2 rfl hc]
     have hw:(Df P a own).1.length=own.length:=by rw[K1,List.length_map]
     have hv2:Ed ⟨a,own,1,if (1:Int)=1 then (Df P a own).1.map (Mg c) else [],Fj (BQ x) c,MI c a (Fj (BQ x) c)⟩=true:=by
       unfold Ed;simp[h,Hy,Pd,hw]
     refine⟨?_,rfl,hv2⟩
     have hr:Ga P ⟨a,own,1,if (1:Int)=1 then (Df P a own).1.map (Mg c) else [],Fj (BQ x) c,MI c a (Fj (BQ x) c)⟩=some c:=by
       unfold Ga
       rw[if_pos rfl]
       have:=PS (P:=P) (a:=a) (own:=own) (wr:=(Df P a own).1.map (Mg c)) (i:=0) hpos (fun j hj=>absurd hj (by omega)) (hk 0 hpos)
       rw[if_pos rfl,this,AIm (by omega)]
       congr 1
       have e:Lf (Df P a own).1 0=(DI P (Lf own 0) a).1:=by
        rw[K1]
        cases own with
        | nil=>simp at hpos
        | cons o l=>rfl
       rw[e]
       exact AIl hcd
     rw[NZ hv2 hv hne hr,if_pos rfl,ACG,Ty]
theorem T8 {n:Int}:∀{i:Nat} {d:DD},d∈Gb n i→∃j,j<i∧ACC n j=1∧d=Qg j
 | 0,d,h=>by simp[Gb] at h
 | i+1,d,h=>by
  unfold Gb at h
  by_cases hb:ACC n i=1
  · rw[if_pos hb,List.mem_append,List.mem_singleton] at h
    rcases h with h|h
    · obtain⟨j,h1,h2,h3⟩:=T8 h
      exact⟨j,by omega,h2,h3⟩
    · exact⟨i,by omega,hb,h⟩
  · rw[if_neg hb] at h
    obtain⟨j,h1,h2,h3⟩:=T8 h
    exact⟨j,by omega,h2,h3⟩
def Qh (b:Bool) (i:Nat):List (List Nat):=if b then [LD i] else []
theorem Jj (n:Int) (i:Nat):(Gb n (i+1)).map DD.x=(Gb n i).map DD.x++Qh (decide (ACC n i=1)) i:=by
 unfold Qh
 by_cases hb:ACC n i=1
 · rw[show Gb n (i+1)=Gb n i++[Qg i] from if_pos hb,List.map_append,decide_eq_true hb];rfl
 · rw[show Gb n (i+1)=Gb n i from if_neg hb,decide_eq_false hb];simp
theorem ANk:∀b0 b1 b2 b3 b4 b5:Bool,ZR ([]++Qh b0 0++Qh b1 1++Qh b2 2++Qh b3 3++Qh b4 4++Qh b5 5)=true:=by decide +kernel
theorem AKQ (n:Int):ZR ((Gb n 6).map DD.x)=true:=by
 rw[Jj,Jj,Jj,Jj,Jj,Jj]
 exact ANk _ _ _ _ _ _
theorem AIn (n:Int) (b:Bool) (a:Int):hd ((Gb n 6).map DD.x) (jt b) (Yz a)=true:=by
 have hl:=Rh n 6
 unfold hd
 rw[Qf,AKQ,List.length_map,decide_eq_true (show(Gb n 6).length≤16 by omega)]
 cases b<;>rfl
theorem ANl {T:Nat→List Nd} {P:List VP} {i j:Nat} (h:OV T P i) (hj:j<i) {a:Int} (ha:Ci a=true):DI P (LD j) a=Ca (T j) a:=
 AET ha h.1 (AEM (Srt.of h.1) ((h.2.2 _).2 ⟨j,hj,rfl⟩)) rfl
theorem AIo {seed:List Nat} {j:Nat} (hj:j<6) {a:Int} (ha:Ci a=true):(DI (V6 seed).1 (LD j) a).2=0:=by
 rw[show(V6 seed).1=Tx seed 6 from rfl,ANl (Pa seed 6 (by decide)) hj ha]
 obtain⟨K,_,hK⟩:=AKz (l:=Tsd seed j) (Bp 275 (pjC seed j)) rfl ha
 rw[hK]
theorem AKR {l:List (List Nat)} {j:Nat} (h:j<l.length):Lf l j∈l:=by rw[ADI h];exact List.getElem_mem _
theorem AK0 (seed:List Nat) (n a:Int):∀j,j<((Gb n 6).map DD.x).length→(DI (V6 seed).1 (Lf ((Gb n 6).map DD.x) j) (Yz a)).2=0:=fun j hj=>by
 obtain⟨d,hd,e⟩:=List.mem_map.1 (AKR hj)
 obtain⟨k,hk,_,rfl⟩:=T8 hd
 rw[←e]
 exact AIo hk (Qf a)
theorem AGO (seed:List Nat) (x:V) (n:Int) (b:Bool) (a:Int):Fl (V6 seed).1 (Wm (V6 seed).1 x n b a).1=(x.clean,0)∧(Wm (V6 seed).1 x n b a).2=0∧Ed (Wm (V6 seed).1 x n b a).1=true:=
 ACJ (AIn n b a) (ZL seed) (AK0 seed n a)
section
variable {W:World} {ks:List VK} {vo:Option Addr} {vc_:Nat} {sa po:List Nat} {P:List VP} {s:Sd} {own wr:List DD} {ao wo bo:Option Addr} {ac wc bc:Nat} {q:V×Int} {b:Bool}
theorem AKS (hsa:Dg sa) (hpo:Dg po) (hr:RdK W (.slice vo ks.length vc_) ks) (hP:ks.map VK.p=P) (h:SdF W s own wr ao wo bo ac wc bc) (hq:Fl P s=q) :
  Calls Tryz.prog 23 #[Ay sa po (.slice vo ks.length vc_),Bv s.addr (.slice ao (List.length own) ac) s.joint (.slice wo (List.length wr) wc) (.slice bo s.body.length bc) s.tag] W fun e w'=>e=.returned (.tuple #[Br q.1,.int .i64 q.2])∧W.grownBy w' none:=by
 have hq2:Fl (ks.map VK.p) ⟨s.addr,own.map DD.x,s.joint,wr.map DD.x,s.body,s.tag⟩=q:=by rw[hP,h.sd];exact hq
 subst hq2
 exact ADl ks vo vc_ sa po hsa hpo s.addr s.joint own wr ao wo bo ac wc bc s.body s.tag h.tg h.by W hr h.ro h.rw h.rb
end
theorem ACK {α β:Type} {p:DU α} {q:α→DU β} {l r:List Nat} {y:β} (h:LS p q l=.ok (y,r)):∃x m,p l=.ok (x,m)∧q x m=.ok (y,r):=by
 unfold LS at h
 split at h
 · rename_i x m e
   exact⟨x,m,e,h⟩
 · cases h
theorem AIp {a b:Int} {l r:List Nat} {n:Int} (h:Dn a b l=.ok (n,r)):a≤n∧n≤b:=by
 unfold Dn at h
 split at h
 · split at h
   · cases h
   · simp only[Except.ok.injEq,Prod.mk.injEq] at h
     omega
 · cases h
theorem AM5 {l r:List Nat} {v:V} (h:pV l=.ok (v,r)):v.ok:=by
 obtain⟨k,m,h1,h2⟩:=ACK h
 have hk:=AIp h1
 split at h2
 · rename_i e
   subst e
   obtain⟨n,m',h6,h7⟩:=ACK h2
   have hn:=AIp h6
   simp only[LU,Except.ok.injEq,Prod.mk.injEq] at h7
   obtain⟨rfl,rfl⟩:=h7
   exact .inr (.inl ⟨rfl,hn.1,hn.2,rfl⟩)
 · split at h2
   · rename_i e
     subst e
     obtain⟨t,m',h6,h7⟩:=ACK h2
     simp only[LU,Except.ok.injEq,Prod.mk.injEq] at h7
     obtain⟨rfl,rfl⟩:=h7
     obtain⟨n,m2,h8,h9⟩:=ACK h6
     have hn:=AIp h8
     obtain⟨b,m3,h10,h11⟩:=ACK h9
     simp only[LU,Except.ok.injEq,Prod.mk.injEq] at h11
     obtain⟨rfl,rfl⟩:=h11
     have hb:b.length=n.toNat:=by
      unfold JF at h10
      split at h10
      · simp only[Except.ok.injEq,Prod.mk.injEq] at h10
        obtain⟨rfl,rfl⟩:=h10
        simp;omega
      · cases h10
     exact .inr (.inr ⟨rfl,rfl,by show(bs b).size≤32;rw[XG,hb];omega⟩)
   · simp only[LU,Except.ok.injEq,Prod.mk.injEq] at h2
     obtain⟨rfl,rfl⟩:=h2
     have e:k=0:=by omega
     exact .inl ⟨e,rfl,rfl⟩
theorem AIq (b:List Nat):(LC b).1.ok:=by
 unfold LC
 split
 · rename_i h
   exact AM5 h
 · exact V.nul_ok
theorem AKT (P:List VP) (s:Sd):(Fl P s).1.ok:=by
 unfold Fl
 split
 · split
   · split
     · exact AIq _
     · exact V.nul_ok
   · split
     · exact V.nul_ok
     · split
       · exact AIq _
       · exact V.nul_ok
 · exact V.nul_ok
end Go.Proofs.YtbfjfnbcmojpiaaGreat
