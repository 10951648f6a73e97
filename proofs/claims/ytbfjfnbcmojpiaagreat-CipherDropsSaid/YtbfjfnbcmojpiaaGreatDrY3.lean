import Derived.Test.YtbfjfnbcmojpiaaGreatDrKB
import Derived.Test.YtbfjfnbcmojpiaaGreatDrSG
import Derived.Test.YtbfjfnbcmojpiaaGreatDrSH
set_option linter.unusedSimpArgs false
set_option linter.unusedVariables false
set_option maxRecDepth 100000
set_option maxHeartbeats 4000000
namespace Go.Proofs.YtbfjfnbcmojpiaaGreat
open Go.RowKit
theorem Oy {w w':World} {fp p:Nat→Prop} (g:w.grownBy w' none) (h:∀k,p k→fp k∨TagV w k):∀k,p k→fp k∨TagV w' k:=fun k hk=>(h k hk).imp id (·.keep g (by simp))
def Sp.vt (r:VV×Int) (fp:Nat→Prop):Sp:=⟨fun w v=>∃ao cap ks,v=.tuple #[Ao r.1.2.1 r.1.2.2 (.slice ao (List.length ks) cap),.int .i64 r.2]∧ks.map VK.p=r.1.1∧RdK w (.slice ao (List.length ks) cap) ks∧∀k,Je (.slice ao (List.length ks) cap) ks k→fp k∨TagV w k,fun _ _ _ hg ⟨ao,cap,ks,h1,h2,h3,h4⟩=>⟨ao,cap,ks,h1,h2,h3.kn hg,Oy hg h4⟩⟩
theorem VRes.on {w w':World} {r:VV×Int} {fp:Nat→Prop} {e:Ending} (h:VRes w w' r fp e):∃v,e=.returned v∧w.grownBy w' none∧(Sp.vt r fp).on w' v:=by
 obtain⟨ao,cap,ks,h1,h2,h3,h4,h5⟩:=h
 exact⟨_,h1,h5,ao,cap,ks,rfl,h2,h3,h4⟩
section
variable {w0:World} {ks:List VK} {ao:Option Addr} {cap:Nat} {sa po o:List Nat} {P:List VP} {r:VV×Int} {a:Int}
theorem AFi (hsa:Dg sa) (hpo:Dg po) (ho:Dg o) (hk:RdK w0 (.slice ao ks.length cap) ks) (hm:ks.map VK.p=P) {T:List Nd} (hT:tree (kd 275 po) []=T) (hres:KZ (P,sa,po) o T (kd 276 po)=r) :
  ∀W,w0.grownBy W none→Calls Tryz.prog 36 #[Ao sa po (.slice ao ks.length cap),AO o] W fun e W'=>∃v,e=.returned v∧W.grownBy W' none∧(Sp.vt r fun _=>False).on W' v:=fun W g=>by
 subst hres hm
 exact(ABW ks ao cap sa po hsa hpo o ho T hT W (hk.kn g)).mono fun e W' h=>h.on
theorem ADi (hsa:Dg sa) (hpo:Dg po) (ho:Dg o) (hk:RdK w0 (.slice ao ks.length cap) ks) (hm:ks.map VK.p=P) {T:List Nd} (hT:tree (kd 275 po) []=T) (hres:KZ (P,sa,po) o T (kd 276 po)=r) :
  ∀W,w0.grownBy W none→Calls Tryz.prog 39 #[Ao sa po (.slice ao ks.length cap),AO o] W fun e W'=>∃v,e=.returned v∧W.grownBy W' none∧(Sp.vt r (Je (.slice ao ks.length cap) ks)).on W' v:=fun W g=>by
 subst hres hm
 exact(Zi ks ao cap sa po hsa hpo o ho T hT W (hk.kn g)).mono fun e W' h=>h.on
theorem AFj (hsa:Dg sa) (hpo:Dg po) (ho:Dg o) (hk:RdK w0 (.slice ao ks.length cap) ks) (hm:ks.map VK.p=P) (hres:WO (P,sa,po) o=r) :
  ∀W,w0.grownBy W none→Calls Tryz.prog 29 #[Ao sa po (.slice ao ks.length cap),AO o] W fun e W'=>∃v,e=.returned v∧W.grownBy W' none∧(Sp.vt r fun _=>False).on W' v:=fun W g=>by
 subst hres hm
 exact(ABa ks ao cap sa po hsa hpo o ho W (hk.kn g)).mono fun e W' h=>h.on
theorem AGs {w:World} {q:List Nat×Int} (hsa:Dg sa) (hpo:Dg po) (ho:Dg o) (hk:RdK w (.slice ao ks.length cap) ks) (hm:ks.map VK.p=P) (hres:Ck P o a=q) :
  Calls Tryz.prog 32 #[Ao sa po (.slice ao ks.length cap),AO o,.int .i64 a] w fun e w'=>e=.returned (.tuple #[AO q.1,.int .i64 q.2])∧w.grownBy w' none:=by
 subst hres hm
 exact ABT ks ao cap sa po hsa hpo o ho a w hk
theorem L9 {w:World} {b:Bool} (hsa:Dg sa) (hpo:Dg po) (hk:RdK w (.slice ao ks.length cap) ks) (hm:ks.map VK.p=P) (hb:CE P=b):Calls Tryz.prog 51 #[Ao sa po (.slice ao ks.length cap)] w fun e w'=>e=.returned (.bool b)∧w.grownBy w' none:=by
 subst hm
 exact Gj hsa hpo hk hb
end
end Go.Proofs.YtbfjfnbcmojpiaaGreat
namespace Go.Proofs.YtbfjfnbcmojpiaaGreat
def By (l:List Nat):Prop:=∀x∈l,x<256
def I2 (a b:List Nat):List Nat:=List.zipWith (fun x y=>x ^^^ y) a b
theorem MB {a b:List Nat} (h:a.length≤b.length):(I2 a b).length=a.length:=by unfold I2;rw[List.length_zipWith];omega
theorem Xx {a b:List Nat} (ha:By a) (hb:By b):By (I2 a b):=fun x hx=>by
 unfold I2 at hx
 rw[List.mem_iff_getElem] at hx
 obtain⟨i,hi,rfl⟩:=hx
 rw[List.getElem_zipWith]
 exact Nat.xor_lt_two_pow (n:=8) (ha _ (List.getElem_mem _)) (hb _ (List.getElem_mem _))
theorem M1:∀{a b:List Nat},a.length≤b.length→I2 (I2 a b) b=a
 | [],_,_=>rfl
 | _::_,[],h=>by simp at h
 | x::a,y::b,h=>by
  have ih:=M1 (a:=a) (b:=b) (by simpa using h)
  unfold I2 at ih ⊢
  simp only[List.zipWith_cons_cons,ih,Nat.xor_assoc,Nat.xor_self,Nat.xor_zero]
def Ta (all:Bool) (keys:List (List Nat)):List Nat:=Pr (BitVec.ofNat 64 (if all then 282 else 281)) keys.flatten
def msk (k:List Nat):List Nat:=Li (BitVec.ofNat 64 283) k []
def Me (c k:List Nat):List Nat:=I2 c (msk k)
def IX (b c:List Nat):List Nat:=I2 b (sq (Fx (BitVec.ofNat 64 284) c) b.length)
def Tc (c:List Nat) (a:Int) (b:List Nat):List Nat:=Li (BitVec.ofNat 64 285) c (enc a++b)
def Zn (a:Int) (b:List Nat):List Nat:=Pr (BitVec.ofNat 64 280) (enc a++b)
structure Sd where
 addr:Int
 own:List (List Nat)
 joint:Int
 wr:List (List Nat)
 body:List Nat
 tag:List Nat
def Sd.zero:Sd:=⟨0,[],0,[],[],AS⟩
def KQ (l:List (List Nat)) (i:Nat):List Nat:=(l[i]?).getD []
theorem Wv {l:List (List Nat)} {i:Nat} (h:i<l.length):KQ l i=l[i]:=by unfold KQ;rw[List.getElem?_eq_getElem h];rfl
def Ww (l:List (List Nat)) (i:Nat):Bool:=decide (i=0)||Dy (KQ l (i-1)) (KQ l i)
def asc (l:List (List Nat)):Bool:=(List.range l.length).all (Ww l)
theorem Xy {l:List (List Nat)}:asc l=true↔∀i,i<l.length→Ww l i=true:=by unfold asc;simp[List.all_eq_true,List.mem_range]
theorem AFl {l:List (List Nat)} {i:Nat} (h:i<l.length) (hc:Ww l i=false):asc l=false:=by
 cases h2:asc l with
 | false=>rfl
 | true=>rw[Xy.1 h2 i h] at hc;cases hc
theorem ADj {l:List (List Nat)} (h:∀i,i<l.length→Ww l i=true):asc l=true:=Xy.2 h
def hd (own:List (List Nat)) (joint addr:Int):Bool:=CV addr&&(decide (joint=0)||decide (joint=1))&&decide (own.length≤16)&&asc own
def ES (s:Sd):Bool:=hd s.own s.joint s.addr&&decide (s.body.length≤64)&&decide (s.wr.length=if s.joint=1 then s.own.length else 0)
def Cb (P:List VP) (a:Int):List (List Nat)→List (List Nat)×Int
 | []=>([],0)
 | o::l=>if (Ck P o a).2=0 then ((Ck P o a).1::(Cb P a l).1,(Cb P a l).2) else ([],(Ck P o a).2)
def Et (P:List VP) (own:List (List Nat)) (joint addr:Int) (x:V):Sd×Int:=
 if hd own joint addr&&CE P then
   (if own=[] then (⟨addr,[],joint,[],Be x,Zn addr (Be x)⟩,0)
   else if (Cb P addr own).2=0 then
     (⟨addr,own,joint,if joint=1 then (Cb P addr own).1.map (Me (Ta (decide (joint=1)) (Cb P addr own).1)) else [],
       IX (Be x) (Ta (decide (joint=1)) (Cb P addr own).1),Tc (Ta (decide (joint=1)) (Cb P addr own).1) addr (IX (Be x) (Ta (decide (joint=1)) (Cb P addr own).1))⟩,0)
   else (Sd.zero,(Cb P addr own).2))
 else (Sd.zero,1)
end Go.Proofs.YtbfjfnbcmojpiaaGreat
namespace Go.Proofs.YtbfjfnbcmojpiaaGreat
open Go.RowKit Go.Shelf
structure DD where
 x:List Nat
 h:Dg x
def Jo (d:DD):List Value:=bv d.x
theorem Fe (d:DD):(Jo d).length=32:=by unfold Jo;rw[AI,d.h.1]
def RdD (w:World) (v:Value) (ds:List DD):Prop:=SlB w 32 v ds.length (ds.flatMap Jo)
section
variable {w w':World} {v:Value} {ds:List DD}
theorem RdD.kn (h:RdD w v ds) (g:w.grownBy w' none):RdD w' v ds:=SlB.kn h g
theorem RdD.lt (h:RdD w v ds):∀k,BO v k→k<w.heap.size:=SlB.lt h
theorem RdD.offR (h:RdD w v ds) {row:Option Nat} (g:w.grownBy w' row) (hb:∀k,BO v k→row≠some k):RdD w' v ds:=SlB.offR h g hb
theorem RdD.nil (w:World):RdD w (.slice none 0 0) []:=⟨Sl.nil w 32,fun k hk=>by simp[BO,Value.ownBlock] at hk⟩
theorem RdD.shape (h:RdD w v ds):∃ao cap,v=.slice ao ds.length cap:=by
 obtain⟨ao,cap,rfl,_⟩:=h.1.shape
 exact⟨ao,cap,rfl⟩
end
theorem KR {ds:List DD} {j:Nat} (h:j<ds.length):KQ (ds.map DD.x) j=ds[j].x:=by rw[Wv (by simpa using h),List.getElem_map]
theorem AFm {ds:List DD} {i:Nat} {x y:DD} (hi:i<ds.length) (hp:i-1<ds.length) (hx:ds[i]=x) (hy:ds[i-1]=y):Ww (ds.map DD.x) i=(decide (i=0)||Dy y.x x.x):=by
 unfold Ww
 rw[KR hi,KR hp,hx,hy]
theorem Kj (v:Value) (h:v.oneCell'=true):TY Tryz.prog 28 [v] v:=TY.one' Tryz.underlying28 rfl (by kernel_rfl) h
def cb (n:Nat):List Value:=[.int .u8 (n:Int)]
theorem Wx (n:Nat):(cb n).length=1:=rfl
theorem MC (l:List Nat):bv l=l.flatMap cb:=by
 induction l with
 | nil=>rfl
 | cons a l ih=>rw[List.flatMap_cons,←ih];rfl
theorem Ur {w:World} {n cap j:Nat} {ao:Option Addr} {l:List Nat} (h:Sl w 1 (.slice ao n cap) n (bv l)) (hj:j<l.length):w.rangeAt (bO ao) (oO ao+j*1) [.int .u8 (l[j]:Int)]:=by
 rw[MC] at h
 exact Cz h Wx hj (by decide)
theorem Ff (x:Int):TY Tryz.prog 2 [.int .i64 x] (.int .i64 x):=TY.one' Tryz.underlying2 rfl (by kernel_rfl) rfl
theorem dsT:ET Tryz.prog 28 23 (AO AS) 32 32:=⟨Tryz.underlying28,info_parts (by kernel_rfl),rfl,by decide,by decide⟩
theorem Xz {own:List (List Nat)} {joint addr:Int} (h:addr<0∨17179869184≤addr):hd own joint addr=false:=by
 have:CV addr=false:=by unfold CV;simp;omega
 unfold hd;rw[this];rfl
theorem ABh {own:List (List Nat)} {joint addr:Int} (h:joint≠0) (h1:joint≠1):hd own joint addr=false:=by unfold hd;simp[h,h1]
theorem AFn {own:List (List Nat)} {joint addr:Int} (h:16<own.length):hd own joint addr=false:=by
 have:decide (own.length≤16)=false:=decide_eq_false (by omega)
 unfold hd;rw[this];simp
theorem AFo {own:List (List Nat)} {joint addr:Int} (h:asc own=false):hd own joint addr=false:=by unfold hd;rw[h];simp
theorem AFp {own:List (List Nat)} {joint addr:Int} (h1:0≤addr∧addr<17179869184) (h2:joint=0∨joint=1) (h3:own.length≤16) (h4:asc own=true):hd own joint addr=true:=by
 have h5:CV addr=true:=by unfold CV;simp;omega
 unfold hd;rw[h5,h4];rcases h2 with rfl|rfl<;>simp[h3]
theorem Wy (ds:List DD) (ao:Option Addr) (cap:Nat) (joint addr:Int) (w:World) (hr:RdD w (.slice ao ds.length cap) ds) :
   Calls Tryz.prog 50 #[.slice ao ds.length cap,.int .i64 joint,.int .i64 addr] w fun e w'=>e=.returned (.bool (hd (ds.map DD.x) joint addr))∧w.grownBy w' none:=by
 have hmap:(ds.map DD.x).length=ds.length:=List.length_map _
 refine BM Tryz.func50 rfl Tryz.ntmps50 rfl fun a0 sv0=>?_
 have HG:=World.grownBy.refl w none
 replace sv0:Sv 46 [] [(0,.slice ao ds.length cap),(1,.int .i64 joint),(2,.int .i64 addr)] a0:=sv0
 refine AIi fun K1 k1=>?_
 refine AIh ?_
 refine Aa (v:=.bool false) sv0 r6 fun a2 sv2=>?_
 refine AE ?_
 refine k1 _ _ ?_
 refine AIi fun K3 k3=>?_
 suffices MG4:∀(a':Act) (w':World),Sv 46 [] [(0,.slice ao ds.length cap),(1,.int .i64 joint),(2,.int .i64 addr)] a'→(0≤addr∧addr<17179869184)→(joint=0∨joint=1)→w.grownBy w' none→(RdD w' (.slice ao ds.length cap) ds)→K3 a' w' by
   rcases(show addr<0∨(0≤addr∧17179869184≤addr)∨((0≤addr∧addr<17179869184)∧joint≠0∧joint≠1)∨((0≤addr∧addr<17179869184)∧joint=0)∨((0≤addr∧addr<17179869184)∧joint=1) by omega) with h1|⟨h0,h1⟩|⟨h0,h1,h2⟩|⟨h0,h2⟩|⟨h0,h2⟩
   · refine AIi fun K5 k5=>?_
     refine AIh ?_
     refine AL sv2 14 [(8,.int .i64 addr),(9,.bool true),(10,.bool true),(11,undef),(12,undef),(13,.bool true),(14,.bool true),(15,undef),(16,undef),(17,undef),(18,undef),(19,undef),(20,undef),(21,.bool true)]
       ⟨ym r5,Cm r6 (fun _=>Ba (decide_eq_true (by omega))),ym r5,AX r6,AX r6,B6 r7,ym r5,AX r6,AX r6,AX r6,A2 ⟨17,rfl,rfl,fun _ _ h=>h⟩ rfl (fun _=>rfl),A2 ⟨17,rfl,rfl,fun _ _ h=>h⟩ rfl (fun _=>rfl),AX r6,B6 r7,AIo⟩ fun a6 w6 g6 sv6=>?_
     refine AE ?_
     refine k5 _ _ ?_
     refine Ap sv6 rfl rfl ?_
     refine AIi fun K7 k7=>?_
     refine AIh ?_
     refine Aa (v:=.bool false) sv6 r6 fun a8 sv8=>?_
     refine AE ?_
     refine k7 _ _ ?_
     replace hr:=hr.kn g6
     replace HG:=AA HG g6
     refine AIl ?_
     repeat refine AM ?_
     refine A8 (fn:=Tryz.f50) sv8 (A7 (p:=6) Tryz.results50 sv8 rfl rfl) ?_
     exact⟨GL ((Xz (.inl h1)).symm),HG⟩
   · refine AIi fun K9 k9=>?_
     refine AIh ?_
     refine AL sv2 14 [(8,.int .i64 addr),(9,.bool false),(10,.bool false),(11,.int .i64 addr),(12,.bool true),(13,.bool true),(14,.bool true),(15,undef),(16,undef),(17,undef),(18,undef),(19,undef),(20,undef),(21,.bool true)]
       ⟨ym r5,Cm r6 (fun _=>Ba (decide_eq_false (by omega))),ym r5,Av rq8,BA rq9 (fun _=>Ea (decide_eq_true (by omega))),A3 rq9,ym r5,AX r6,AX r6,AX r6,A2 ⟨17,rfl,rfl,fun _ _ h=>h⟩ rfl (fun _=>rfl),A2 ⟨17,rfl,rfl,fun _ _ h=>h⟩ rfl (fun _=>rfl),AX r6,B6 r7,AIo⟩ fun a10 w10 g10 CK=>?_
     refine AE ?_
     refine k9 _ _ ?_
     refine Ap CK rfl rfl ?_
     refine AIi fun K11 k11=>?_
     refine AIh ?_
     refine Aa (v:=.bool false) CK r6 fun a12 C6=>?_
     refine AE ?_
     refine k11 _ _ ?_
     replace hr:=hr.kn g10
     replace HG:=AA HG g10
     refine AIl ?_
     repeat refine AM ?_
     refine A8 (fn:=Tryz.f50) C6 (A7 (p:=6) Tryz.results50 C6 rfl rfl) ?_
     exact⟨GL ((Xz (.inr h1)).symm),HG⟩
   · refine AIi fun K13 k13=>?_
     refine AIh ?_
     refine AL sv2 14 [(8,.int .i64 addr),(9,.bool false),(10,.bool false),(11,.int .i64 addr),(12,.bool false),(13,.bool false),(14,.bool false),(15,.int .i64 joint),(16,.bool true),(17,.bool true),(18,.int .i64 joint),(19,.bool true),(20,.bool true),(21,.bool true)]
       ⟨ym r5,Cm r6 (fun _=>Ba (decide_eq_false (by omega))),ym r5,Av rq8,BA rq9 (fun _=>Ea (decide_eq_false (by omega))),A3 rq9,ym r5,Av rq8,BA rq9 (fun _=>Eb (by simp;omega)),Av rq8,Av rq8,BA rq9 (fun _=>Eb (by simp;omega)),Hm rfl rfl (gy rfl rfl rfl) (oy rfl rfl) (oy rfl rfl) (fun _=>rfl),A3 rq9,AIo⟩ fun a14 w14 g14 DE=>?_
     refine AE ?_
     refine k13 _ _ ?_
     refine Ap DE rfl rfl ?_
     refine AIi fun K15 k15=>?_
     refine AIh ?_
     refine Aa (v:=.bool false) DE r6 fun a16 Cj=>?_
     refine AE ?_
     refine k15 _ _ ?_
     replace hr:=hr.kn g14
     replace HG:=AA HG g14
     refine AIl ?_
     repeat refine AM ?_
     refine A8 (fn:=Tryz.f50) Cj (A7 (p:=6) Tryz.results50 Cj rfl rfl) ?_
     exact⟨GL ((ABh h1 h2).symm),HG⟩
   · refine AIi fun K17 k17=>?_
     refine AIh ?_
     refine AL sv2 14 [(8,.int .i64 addr),(9,.bool false),(10,.bool false),(11,.int .i64 addr),(12,.bool false),(13,.bool false),(14,.bool false),(15,.int .i64 joint),(16,.bool false),(17,.bool false),(18,undef),(19,undef),(20,.bool false),(21,.bool false)]
       ⟨ym r5,Cm r6 (fun _=>Ba (decide_eq_false (by omega))),ym r5,Av rq8,BA rq9 (fun _=>Ea (decide_eq_false (by omega))),A3 rq9,ym r5,Av rq8,BA rq9 (fun _=>Eb (by simp;omega)),Av rq8,AX r6,AX r6,Hm rfl rfl (gy rfl rfl rfl) (oy rfl rfl) rfl (fun _=>rfl),A3 rq9,AIo⟩ fun a18 w18 g18 CS=>?_
     refine AE ?_
     refine k17 _ _ ?_
     refine Au CS rfl rfl ?_
     refine AIm ?_
     replace hr:=hr.kn g18
     replace HG:=AA HG g18
     have svm:Sv 46 [] [(0,_),(1,_),(2,_)] a18:=⟨CS.1,CS.2.1,(AK (AK CS)).2.1,(AK (AK CS)).2.2.1,(AK (AK CS)).2.2.2.1,AIo⟩
     exact MG4 _ _ svm (h0) (.inl h2) HG hr
   · refine AIi fun K19 k19=>?_
     refine AIh ?_
     refine AL sv2 14 [(8,.int .i64 addr),(9,.bool false),(10,.bool false),(11,.int .i64 addr),(12,.bool false),(13,.bool false),(14,.bool false),(15,.int .i64 joint),(16,.bool true),(17,.bool true),(18,.int .i64 joint),(19,.bool false),(20,.bool false),(21,.bool false)]
       ⟨ym r5,Cm r6 (fun _=>Ba (decide_eq_false (by omega))),ym r5,Av rq8,BA rq9 (fun _=>Ea (decide_eq_false (by omega))),A3 rq9,ym r5,Av rq8,BA rq9 (fun _=>Eb (by simp;omega)),Av rq8,Av rq8,BA rq9 (fun _=>Eb (by simp;omega)),Hm rfl rfl (gy rfl rfl rfl) (oy rfl rfl) (oy rfl rfl) (fun _=>rfl),A3 rq9,AIo⟩ fun a20 w20 g20 EL=>?_
     refine AE ?_
     refine k19 _ _ ?_
     refine Au EL rfl rfl ?_
     refine AIm ?_
     replace hr:=hr.kn g20
     replace HG:=AA HG g20
     have svm:Sv 46 [] [(0,_),(1,_),(2,_)] a20:=⟨EL.1,EL.2.1,(AK (AK EL)).2.1,(AK (AK EL)).2.2.1,(AK (AK EL)).2.2.2.1,AIo⟩
     exact MG4 _ _ svm (h0) (.inr h2) HG hr
 clear hr
 clear HG
 intro a4 w4 sv4 h0 h2 HG hr
 refine k3 _ _ ?_
 refine AIi fun K21 k21=>?_
 refine AIi fun K22 k22=>?_
 by_cases hbig:16<ds.length
 · refine AIh ?_
   refine AL sv4 3 [(22,.slice ao ds.length cap),(23,.int .i64 ((ds.length:Nat))),(24,.bool true)]
     ⟨ym r5,Bk (Tryz.underlying28) rfl rfl trivial (oy rfl rfl) (fun _=>rfl),Cm r6 (fun _=>Cp (by simp;omega)),AIo⟩ fun a23 w23 g23 Cg=>?_
   refine AE ?_
   refine k22 _ _ ?_
   refine Ap Cg rfl rfl ?_
   refine AIi fun K24 k24=>?_
   refine AIh ?_
   refine Aa (v:=.bool false) Cg r6 fun a25 Cx=>?_
   refine AE ?_
   refine k24 _ _ ?_
   replace hr:=hr.kn g23
   replace HG:=AA HG g23
   refine AIl ?_
   repeat refine AM ?_
   refine A8 (fn:=Tryz.f50) Cx (A7 (p:=6) Tryz.results50 Cx rfl rfl) ?_
   exact⟨GL ((AFn (by omega)).symm),HG⟩
 · refine AIh ?_
   refine AL sv4 3 [(22,.slice ao ds.length cap),(23,.int .i64 ((ds.length:Nat))),(24,.bool false)]
     ⟨ym r5,Bk (Tryz.underlying28) rfl rfl trivial (oy rfl rfl) (fun _=>rfl),Cm r6 (fun _=>Cp (by simp;omega)),AIo⟩ fun a26 w26 g26 CW=>?_
   refine AE ?_
   refine k22 _ _ ?_
   refine Au CW rfl rfl ?_
   refine AIm ?_
   refine k21 _ _ ?_
   refine AIi fun K27 k27=>?_
   refine AIi fun K28 k28=>?_
   refine AIh ?_
   refine AL CW 3 [(25,.slice ao ds.length cap),(26,.int .i64 ((ds.length:Nat))),(27,.int .i64 0)]
     ⟨ym r5,Bk (Tryz.underlying28) rfl rfl trivial (oy rfl rfl) (fun _=>rfl),EI (.inl rfl) rfl trivial (fun _=>rfl),AIo⟩ fun a29 w29 g29 CI=>?_
   have IV:=AA g26 g29
   refine AE ?_
   refine k28 _ _ ?_
   refine BB fun Q30 x30 y30 rt30 o30=>?_
   replace hr:=hr.kn IV
   replace HG:=AA HG IV
   refine wp_loop (fun a w'=>∃(i:Nat),(i≤ds.length+1)∧(∀k,k<i→Ww (ds.map DD.x) k=true)∧Sv 46 [] [(27,.int .i64 ((i:Int))),(25,.slice ao ds.length cap),(26,.int .i64 ((ds.length:Nat))),(22,.slice ao ds.length cap),(23,.int .i64 ((ds.length:Nat))),(24,.bool false),(0,.slice ao ds.length cap),(1,.int .i64 joint),(2,.int .i64 addr)] a∧w.grownBy w' none∧RdD w' (.slice ao ds.length cap) ds) (fun a _=>(ds.length+1-intOf (a.tmps.getD 27 undef)).toNat) ⟨0,Nat.zero_le _,fun k hk=>by omega,⟨CI.1,CI.2.1,CI.2.2.2.2.1,CI.2.2.1,CI.2.2.2.1,CI.2.2.2.2.2.1,CI.2.2.2.2.2.2.1,CI.2.2.2.2.2.2.2.1,(AK CI).1,(AK CI).2.1,(AK CI).2.2.1,AIo⟩,HG,hr⟩ fun a31 w31 hI31=>?_
   clear hr
   clear HG
   obtain⟨i,hin,hb,Gh,HG,hr⟩:=hI31
   refine AIi fun K32 k32=>?_
   by_cases hi:i<ds.length
   · have hp:i-1<ds.length:=by omega
     obtain⟨x,hx_x⟩:∃x,ds[i]'hi=x:=⟨_,rfl⟩
     obtain⟨y,hx_y⟩:∃x,ds[(i-1)]'hp=x:=⟨_,rfl⟩
     have hchk:=AFm hi hp hx_x hx_y
     refine AIh ?_
     refine AL Gh 1 [(28,.bool true)]
       ⟨Hl r7 (fun _=>Ba (by simp;omega)),AIo⟩ fun a33 w33 g33 JN=>?_
     refine AE ?_
     refine k32 _ _ ?_
     refine AIi fun K34 k34=>?_
     refine Ap JN rfl rfl ?_
     refine AIm ?_
     refine k34 _ _ ?_
     refine AIi fun K35 k35=>?_
     refine BB fun Q36 x36 y36 rt36 o36=>?_
     refine AIi fun K37 k37=>?_
     refine AIh ?_
     refine AL JN 1 [(29,.int .i64 ((i:Int)))]
       ⟨ym r5,AIo⟩ fun a38 w38 g38 WX=>?_
     have AGu:=AA g33 g38
     refine Aa (v:=.int .i64 ((i:Int))) WX r6 fun a39 Jh=>?_
     refine AE ?_
     refine k37 _ _ ?_
     refine AIi fun K40 k40=>?_
     replace hr:=hr.kn AGu
     replace HG:=AA HG AGu
     rcases(show i=0∨(0<i∧Dy y.x x.x=true)∨(0<i∧Dy y.x x.x=false) by
        rcases Nat.eq_zero_or_pos i with h|h<;>cases h3:Dy y.x x.x<;>simp[h]) with hz|⟨hz,hc⟩|⟨hz,hc⟩
     · have hok:(decide (i=0)||Dy y.x x.x)=true:=by simp[hz]
       refine Cv Jh [(30,.int .i64 ((i:Int))),(31,.bool false),(32,.bool false),(33,undef),(34,undef),(35,undef),(36,undef),(37,undef),(38,undef),(39,undef),(40,undef),(41,undef),(42,undef),(43,undef),(44,.bool false)]
        ⟨ym r5,Cm r6 (fun _=>Cp (by simp;omega)),ym r5,AX r6,AX r6,AX r6,AX r6,AX r6,AX r6,AX r6,AX r6,AX r6,AX r6,AX r6,B6 r7,AIo⟩ fun a41 w41 g41 JP=>?_
       refine k40 _ _ ?_
       refine Au JP rfl rfl ?_
       refine AIm ?_
       refine y36 _ _ ?_
       refine k35 _ _ ?_
       refine AIh ?_
       refine AL JP 1 [(45,.int .i64 (((i+1:Nat):Int)))]
        ⟨Cm r6 (fun _=>C4 (by rw[A1 (by omega) (by omega)];omega)),AIo⟩ fun a42 w42 g42 Gi=>?_
       have Nm:=AA g41 g42
       refine AL (Gi.dl [27]) 1 [(27,.int .i64 (((i+1:Nat):Int)))]
        ⟨ym r5,AIo⟩ fun a43 w43 g43 Hf=>?_
       have AGv:=AA Nm g43
       refine AE ?_
       replace hr:=hr.kn AGv
       replace HG:=AA HG AGv
       exact⟨⟨i+1,by omega,fun k hk=>if e:k=i then (by rw[e,hchk];exact hok) else hb k (by omega),⟨Hf.1,Hf.2.1,Hf.2.2.1,(AK (AK Hf)).2.2.2.2.2.2.1,(AK (AK Hf)).2.2.2.2.2.2.2.1,(AK (AK (AK Hf))).1,(AK (AK (AK Hf))).2.1,(AK (AK (AK Hf))).2.2.1,(AK (AK (AK Hf))).2.2.2.1,(AK (AK (AK Hf))).2.2.2.2.1,(AK (AK (AK Hf))).2.2.2.2.2.1,AIo⟩,HG,hr⟩,by rw[show _=_ from Hf.2.2.1,show _=_ from Gh.2.2.1];simp[intOf];omega⟩
     · have hok:(decide (i=0)||Dy y.x x.x)=true:=by simp[hz,hc]
       refine Cv Jh [(30,.int .i64 ((i:Int))),(31,.bool true),(32,.bool true),(33,.slice ao ds.length cap),(34,.int .i64 ((i:Int))),(35,.int .i64 (((i-1:Nat):Int))),(36,pk ((bO ao)) (oO ao+(i-1)*32)),(37,.slice ((some ⟨(bO ao),oO ao+(i-1)*32,none⟩)) 32 32),(38,.slice ao ds.length cap),(39,.int .i64 ((i:Int))),(40,pk ((bO ao)) (oO ao+i*32)),(41,.slice ((some ⟨(bO ao),oO ao+i*32,none⟩)) 32 32),(42,.int .i64 ((Fq y.x x.x))),(43,.bool false),(44,.bool false)]
        ⟨ym r5,Cm r6 (fun _=>Cp (by simp;omega)),ym r5,Av rq8,Av rq8,BA rq9 (fun _=>FG (by rw[A1 (by omega) (by omega)];omega)),Ce rfl rfl (gy rfl rfl rfl) (oy rfl rfl) (oy rfl rfl) (fun w=>CM Tryz.underlying28 (by kernel_rfl) (hr.1) (by omega) (rfl) w) (fun _=>rfl),Fp (l:=none) (u:=none) rfl rfl (gy rfl rfl rfl) (oy rfl rfl) trivial trivial (Jf ((bO ao)) (oO ao+(i-1)*32)) (fun _=>rfl),Av rq8,Av rq8,Ce rfl rfl (gy rfl rfl rfl) (oy rfl rfl) (oy rfl rfl) (fun w=>CM Tryz.underlying28 (by kernel_rfl) (hr.1) (by omega) (rfl) w) (fun _=>rfl),Fp (l:=none) (u:=none) rfl rfl (gy rfl rfl rfl) (oy rfl rfl) trivial trivial (Jf ((bO ao)) (oO ao+i*32)) (fun _=>rfl),CG [.slice ((some ⟨(bO ao),oO ao+(i-1)*32,none⟩)) 32 32,.slice ((some ⟨(bO ao),oO ao+i*32,none⟩)) 32 32] Tryz.func94 (by kernel_rfl) r7 ⟨(oy rfl rfl),(oy rfl rfl),AIo⟩ (Aq fun W g=>Io y.h x.h (by have:=Cz (hr.kn g).1 Fe hp (by decide);rw[hx_y] at this;exact this) (by have:=Cz (hr.kn g).1 Fe hi (by decide);rw[hx_x] at this;exact this)),BA rq9 (fun _=>Ea (by rw[KN,hc];rfl)),A3 rq9,AIo⟩ fun a44 w44 g44 Zo=>?_
       refine k40 _ _ ?_
       refine Au Zo rfl rfl ?_
       refine AIm ?_
       refine y36 _ _ ?_
       refine k35 _ _ ?_
       refine AIh ?_
       refine AL Zo 1 [(45,.int .i64 (((i+1:Nat):Int)))]
        ⟨Cm r6 (fun _=>C4 (by rw[A1 (by omega) (by omega)];omega)),AIo⟩ fun a45 w45 g45 Ec=>?_
       have O0:=AA g44 g45
       refine AL (Ec.dl [27]) 1 [(27,.int .i64 (((i+1:Nat):Int)))]
        ⟨ym r5,AIo⟩ fun a46 w46 g46 GM=>?_
       have AGw:=AA O0 g46
       refine AE ?_
       replace hr:=hr.kn AGw
       replace HG:=AA HG AGw
       exact⟨⟨i+1,by omega,fun k hk=>if e:k=i then (by rw[e,hchk];exact hok) else hb k (by omega),⟨GM.1,GM.2.1,GM.2.2.1,(AK (AK GM)).2.2.2.2.2.2.1,(AK (AK GM)).2.2.2.2.2.2.2.1,(AK (AK (AK GM))).1,(AK (AK (AK GM))).2.1,(AK (AK (AK GM))).2.2.1,(AK (AK (AK GM))).2.2.2.1,(AK (AK (AK GM))).2.2.2.2.1,(AK (AK (AK GM))).2.2.2.2.2.1,AIo⟩,HG,hr⟩,by rw[show _=_ from GM.2.2.1,show _=_ from Gh.2.2.1];simp[intOf];omega⟩
     · refine Cv Jh [(30,.int .i64 ((i:Int))),(31,.bool true),(32,.bool true),(33,.slice ao ds.length cap),(34,.int .i64 ((i:Int))),(35,.int .i64 (((i-1:Nat):Int))),(36,pk ((bO ao)) (oO ao+(i-1)*32)),(37,.slice ((some ⟨(bO ao),oO ao+(i-1)*32,none⟩)) 32 32),(38,.slice ao ds.length cap),(39,.int .i64 ((i:Int))),(40,pk ((bO ao)) (oO ao+i*32)),(41,.slice ((some ⟨(bO ao),oO ao+i*32,none⟩)) 32 32),(42,.int .i64 ((Fq y.x x.x))),(43,.bool true),(44,.bool true)]
        ⟨ym r5,Cm r6 (fun _=>Cp (by simp;omega)),ym r5,Av rq8,Av rq8,BA rq9 (fun _=>FG (by rw[A1 (by omega) (by omega)];omega)),Ce rfl rfl (gy rfl rfl rfl) (oy rfl rfl) (oy rfl rfl) (fun w=>CM Tryz.underlying28 (by kernel_rfl) (hr.1) (by omega) (rfl) w) (fun _=>rfl),Fp (l:=none) (u:=none) rfl rfl (gy rfl rfl rfl) (oy rfl rfl) trivial trivial (Jf ((bO ao)) (oO ao+(i-1)*32)) (fun _=>rfl),Av rq8,Av rq8,Ce rfl rfl (gy rfl rfl rfl) (oy rfl rfl) (oy rfl rfl) (fun w=>CM Tryz.underlying28 (by kernel_rfl) (hr.1) (by omega) (rfl) w) (fun _=>rfl),Fp (l:=none) (u:=none) rfl rfl (gy rfl rfl rfl) (oy rfl rfl) trivial trivial (Jf ((bO ao)) (oO ao+i*32)) (fun _=>rfl),CG [.slice ((some ⟨(bO ao),oO ao+(i-1)*32,none⟩)) 32 32,.slice ((some ⟨(bO ao),oO ao+i*32,none⟩)) 32 32] Tryz.func94 (by kernel_rfl) r7 ⟨(oy rfl rfl),(oy rfl rfl),AIo⟩ (Aq fun W g=>Io y.h x.h (by have:=Cz (hr.kn g).1 Fe hp (by decide);rw[hx_y] at this;exact this) (by have:=Cz (hr.kn g).1 Fe hi (by decide);rw[hx_x] at this;exact this)),BA rq9 (fun _=>Ea (by rw[KN,hc];rfl)),A3 rq9,AIo⟩ fun a47 w47 g47 Jl=>?_
       refine k40 _ _ ?_
       refine Ap Jl rfl rfl ?_
       refine AIi fun K48 k48=>?_
       refine AIh ?_
       refine Aa (v:=.bool false) Jl r6 fun a49 Ki=>?_
       refine AE ?_
       refine k48 _ _ ?_
       replace HG:=AA HG g47
       refine AIl ?_
       repeat refine AM ?_
       refine rt36 _ _ ?_
       repeat refine AM ?_
       refine rt30 _ _ ?_
       repeat refine AM ?_
       refine A8 (fn:=Tryz.f50) Ki (A7 (p:=6) Tryz.results50 Ki rfl rfl) ?_
       exact⟨GL ((AFo (AFl (i:=i) (by rw[hmap];exact hi) (by rw[hchk];simp[hc,Nat.ne_of_gt hz]))).symm),HG⟩
   · refine AIh ?_
     refine AL Gh 1 [(28,.bool false)]
       ⟨Hl r7 (fun _=>Ba (by simp;omega)),AIo⟩ fun a50 w50 g50 Ox=>?_
     refine AE ?_
     refine k32 _ _ ?_
     refine AIi fun K51 k51=>?_
     refine Au Ox rfl rfl ?_
     refine wp_exit ?_
     repeat refine CD ?_
     refine x30 _ _ ?_
     refine k27 _ _ ?_
     refine AIi fun K52 k52=>?_
     refine AIh ?_
     refine Aa (v:=.bool true) Ox r6 fun a53 Zf=>?_
     refine AE ?_
     refine k52 _ _ ?_
     replace HG:=AA HG g50
     refine AIl ?_
     repeat refine AM ?_
     refine A8 (fn:=Tryz.f50) Zf (A7 (p:=6) Tryz.results50 Zf rfl rfl) ?_
     exact⟨GL ((AFp h0 h2 (by omega) (ADj fun k hk=>hb k (by omega))).symm),HG⟩
theorem Us {x y sl:List Nat} {j a b:Nat} (hj:j<sl.length) (ha:x[j]?=some a) (hb:y[j]?=some b) (h:∀k,k<j→sl[k]?=(I2 x y)[k]?):∀k,k<j+1→(sl.set j (a ^^^ b))[k]?=(I2 x y)[k]?:=by
 intro k hk
 rw[List.getElem?_set]
 by_cases e:j=k
 · subst e
   rw[if_pos rfl,if_pos hj]
   unfold I2
   rw[List.getElem?_zipWith,ha,hb]
 · rw[if_neg e]
   exact h k (by omega)
theorem X5 {x y sl:List Nat} {n j:Nat} (hx:x.length=n) (hy:n≤y.length) (hs:sl.length=n) (hj:n≤j) (h:∀k,k<j→sl[k]?=(I2 x y)[k]?):sl=I2 x y:=by
 have hl:=MB (a:=x) (b:=y) (by omega)
 refine List.ext_getElem? fun k=>?_
 by_cases hk:k<n
 · exact h k (by omega)
 · rw[List.getElem?_eq_none (by omega),List.getElem?_eq_none (by omega)]
theorem ADk {P:Program} {a b c:Int} {t:TypeId} {x y:Operand} {w:World} (h:bits .xor .u8 a b=c):(do eqGuard .xor t x y (.int .u8 a) (.int .u8 b);binOp .xor t (.int .u8 a) (.int .u8 b):Sem Value).run P w=.ok (.int .u8 c) w:=by
 subst h
 simp[eqGuard,binOp_xor]
 rfl
theorem X7 {P:Program} {a b:Nat} {t:TypeId} {x y:Operand} {w:World} (ha:a<256) (hb:b<256):(do eqGuard .xor t x y (.int .u8 (a:Int)) (.int .u8 (b:Int));binOp .xor t (.int .u8 (a:Int)) (.int .u8 (b:Int)):Sem Value).run P w=.ok (.int .u8 ((a ^^^ b:Nat):Int)) w:=ADk (u8_xor_nat a b ha hb)
section
variable {P:Program} {Q:Exit→Act→World→Prop} {ops:Array Oper} {rest:List Oper} {o:Oper} {a:Act} {w:World} {n:Nat} {D:List Deferred} {K:List (Nat×Value)}
theorem AFq {l:List Nat} {j x:Nat} (hj:j<l.length):bv (l.set j x)=bv (l.take j)++([.int .u8 (x:Int)]++bv (l.drop (j+1))):=by
 rw[MC,MC,MC,AA7 hj]
 rfl
theorem ABi {l:List Nat} {j:Nat} (hj:j<l.length):bv l=bv (l.take j)++([.int .u8 (l[j]:Int)]++bv (l.drop (j+1))):=by
 rw[MC,MC,MC,Jb hj]
 rfl
theorem Zp (sv:Sv n D K a) (hgd:o.guard=none) {T:TypeId} {x y:Operand} (ho:o.op=.store T x y) (hd:o.dst=none) {b j v:Nat} {l:List Nat} {t:TypeId} (hx:LK K x=true) (hxv:LL K x=.pointer (some ⟨b,j,none⟩)) (hy:LK K y=true) (hyv:LL K y=.int .u8 (v:Int)) (ty:TY P T [.int .u8 (v:Int)] (.int .u8 (v:Int)))
  (hb:w.heap[b]?=some (.cells (bv l).toArray t (0,0))) (hj:j<l.length)
  (h:∀w',w.grownBy w' (some b)→w'.heap[b]?=some (.cells (bv (l.set j v)).toArray t (0,0))→wpList P ops Q rest a w'):wpList P ops Q (o::rest) a w:=by
 rw[ABi hj] at hb
 refine Of sv hgd ho hd hx hxv hy hyv ty hb (by rw[AI,List.length_take];omega) rfl fun w' g' hb'=>h w' g' ?_
 rw[hb',AFq hj]
end
theorem Zq (x y s0:List Nat) (hbx:By x) (hby:By y) (n:Nat) (hn63:n≤1000000) (hnx:x.length=n) (m:Nat) (hym:y.length=m) (hny:n≤m) (so ao bo:Option Addr) (sc ac bc:Nat) (w w1:World) (HG:w.grownBy w1 none) (hs:Own w1 5 1 (.slice so n sc) n (s0.flatMap cb)) (ha:SlB w1 1 (.slice ao n ac) n (bv x)) (hb:SlB w1 1 (.slice bo m bc) m (bv y)) (lo_hs:∀k,BO (.slice so n sc) k→w.heap.size≤k) (ap_ha_hs:∀k,BO (.slice ao n ac) k→¬BO (.slice so n sc) k) (ap_hb_hs:∀k,BO (.slice bo m bc) k→¬BO (.slice so n sc) k) :
   Calls Tryz.prog 106 #[.slice so n sc,.slice ao n ac,.slice bo m bc] w1 fun e w'=>e=.returned (.slice so n sc)∧w.grownBy w' none∧Own w' 5 1 (.slice so n sc) n (bv (I2 x y)):=by
 refine BM Tryz.func106 rfl Tryz.ntmps106 rfl fun a0 sv0=>?_
 have hs0:s0.length=n:=(AFR (Sl.of_own hs) Wx (by decide)).symm
 replace sv0:Sv 27 [] [(0,.slice so n sc),(1,.slice ao n ac),(2,.slice bo m bc)] a0:=sv0
 refine AIi fun K1 k1=>?_
 refine AIh ?_
 refine Aa (v:=.slice none 0 0) sv0 r6 fun a2 sv2=>?_
 refine AE ?_
 refine k1 _ _ ?_
 refine AIi fun K3 k3=>?_
 refine AIi fun K4 k4=>?_
 refine AIh ?_
 refine AL sv2 3 [(8,.slice so n sc),(9,.int .i64 ((n:Nat))),(10,.int .i64 0)]
   ⟨ym r5,Bk (Tryz.underlying29) rfl rfl trivial (oy rfl rfl) (fun _=>rfl),EI (.inl rfl) rfl trivial (fun _=>rfl),AIo⟩ fun a5 w5 g5 sv5=>?_
 refine AE ?_
 refine k4 _ _ ?_
 refine BB fun Q6 x6 y6 rt6 o6=>?_
 replace ha:=ha.kn g5
 replace hb:=hb.kn g5
 replace hs:=hs.kn g5
 replace HG:=AA HG g5
 refine wp_loop (fun a w'=>∃(i:Nat) (sl:List Nat),(i≤n)∧(sl.length=n)∧(∀k,k<i→sl[k]?=(I2 x y)[k]?)∧Sv 27 [] [(10,.int .i64 ((i:Int))),(8,.slice so n sc),(9,.int .i64 ((n:Nat))),(6,.slice none 0 0),(0,.slice so n sc),(1,.slice ao n ac),(2,.slice bo m bc)] a∧w.grownBy w' none∧SlB w' 1 (.slice ao n ac) n (bv x)∧SlB w' 1 (.slice bo m bc) m (bv y)∧Own w' 5 1 (.slice so n sc) n (sl.flatMap cb)∧(∀k,BO (.slice ao n ac) k→¬BO (.slice so n sc) k)∧(∀k,BO (.slice bo m bc) k→¬BO (.slice so n sc) k)∧(∀k,BO (.slice so n sc) k→w.heap.size≤k)) (fun a _=>(n-intOf (a.tmps.getD 10 undef)).toNat) ⟨0,s0,Nat.zero_le _,hs0,fun k hk=>by omega,⟨sv5.1,sv5.2.1,sv5.2.2.2.2.1,sv5.2.2.1,sv5.2.2.2.1,sv5.2.2.2.2.2.1,sv5.2.2.2.2.2.2.1,sv5.2.2.2.2.2.2.2.1,(AK sv5).1,AIo⟩,HG,ha,hb,hs,ap_ha_hs,ap_hb_hs,lo_hs⟩ fun a7 w7 hI7=>?_
 clear ha
 clear hb
 clear hs
 clear HG
 obtain⟨i,sl,hin,hsl,hq,sv7,HG,ha,hb,hs,ap_ha_hs,ap_hb_hs,lo_hs⟩:=hI7
 refine AIi fun K8 k8=>?_
 by_cases hi:i<n
 · have hix:i<x.length:=by omega
   have hiy:i<y.length:=by omega
   have his:i<sl.length:=by omega
   obtain⟨xa,hx_xa⟩:∃zx,x[i]'hix=zx:=⟨_,rfl⟩
   obtain⟨xb,hx_xb⟩:∃zx,y[i]'hiy=zx:=⟨_,rfl⟩
   obtain⟨xs,hx_xs⟩:∃zx,sl[i]'his=zx:=⟨_,rfl⟩
   have hxa:x[i]?=some xa:=by rw[←hx_xa];exact List.getElem?_eq_getElem _
   have hxb:y[i]?=some xb:=by rw[←hx_xb];exact List.getElem?_eq_getElem _
   have ba:xa<256:=hbx _ (List.mem_of_getElem? hxa)
   have bb:xb<256:=hby _ (List.mem_of_getElem? hxb)
   refine AIh ?_
   refine AL sv7 1 [(11,.bool true)]
    ⟨Hl r7 (fun _=>Ba (by simp;omega)),AIo⟩ fun a9 w9 g9 sv9=>?_
   refine AE ?_
   refine k8 _ _ ?_
   refine AIi fun K10 k10=>?_
   refine Ap sv9 rfl rfl ?_
   refine AIm ?_
   refine k10 _ _ ?_
   refine AIi fun K11 k11=>?_
   refine BB fun Q12 x12 y12 rt12 o12=>?_
   refine AIi fun K13 k13=>?_
   refine AIh ?_
   refine AL sv9 1 [(12,.int .i64 ((i:Int)))]
    ⟨ym r5,AIo⟩ fun a14 w14 g14 DE=>?_
   have UT:=AA g9 g14
   refine Aa (v:=.int .i64 ((i:Int))) DE r6 fun a15 LS=>?_
   refine AE ?_
   refine k13 _ _ ?_
   replace ha:=ha.kn UT
   replace hb:=hb.kn UT
   replace hs:=hs.kn UT
   refine DB (LS.st w14) (by kernel_rfl) 12 [(13,Sp.is (.slice so n sc)),(14,Sp.is (.int .i64 ((i:Int)))),(15,Sp.is (.slice ao n ac)),(16,Sp.is (.int .i64 ((i:Int)))),(17,Sp.is (pk ((bO ao)) (oO ao+i*1))),(18,Sp.is (.int .u8 ((xa:Int)))),(19,Sp.is (.slice bo m bc)),(20,Sp.is (.int .i64 ((i:Int)))),(21,Sp.is (pk ((bO bo)) (oO bo+i*1))),(22,Sp.is (.int .u8 ((xb:Int)))),(23,Sp.is (.int .u8 (((xa ^^^ xb:Nat):Int)))),(24,Sp.is (pk ((bO so)) (oO so+i*1)))] rfl (by kernel_rfl) (by kernel_rfl) (by kernel_rfl) [] (by kernel_rfl)
    ⟨ym r5,ym r5,ym r5,ym r5,BD rq8 (fun w=>CM Tryz.underlying29 (by kernel_rfl) (ha.1) (by omega) (rfl) w),Bv r6 (fun _ g=>Ae (tyB ((xa:Int))) (by have:=Ur (ha.kn g).1 hix;rw[hx_xa] at this;exact this)),ym r5,ym r5,BD rq8 (fun w=>CM Tryz.underlying29 (by kernel_rfl) (hb.1) (by omega) (rfl) w),Bv r6 (fun _ g=>Ae (tyB ((xb:Int))) (by have:=Ur (hb.kn g).1 hiy;rw[hx_xb] at this;exact this)),Hl r7 (fun _=>X7 ba bb),BD rq8 (fun w=>CM Tryz.underlying29 (by kernel_rfl) ((Sl.of_own hs)) (by omega) (rfl) w),AIo⟩ trivial
    [] (by kernel_rfl) trivial ⟨.inl rfl,.inl rfl,.inl rfl,.inl rfl,.inl rfl,.inl rfl,.inl rfl,.inl rfl,.inl rfl,.inl rfl,.inl rfl,.inl rfl,AIo⟩ (by kernel_rfl) fun a16 w16 g16 st16 nd16=>?_
   obtain⟨hn16,hd16,e16_13,e16_14,e16_15,e16_16,e16_17,e16_18,e16_19,e16_20,e16_21,e16_22,e16_23,e16_24,e16_7,e16_12,e16_11,e16_10,e16_8,e16_9,e16_6,e16_0,e16_1,e16_2,-⟩:=st16
   have Cj:Sv 27 [] [(7,_),(12,_),(11,_),(10,_),(8,_),(9,_),(6,_),(0,_),(1,_),(2,_),(23,_),(24,_)] a16:=⟨hn16,hd16,e16_7,e16_12,e16_11,e16_10,e16_8,e16_9,e16_6,e16_0,e16_1,e16_2,e16_23,e16_24,AIo⟩
   replace hs:=hs.kn g16
   refine Ik (c:=cb) (el:=(xa ^^^ xb)) Cj rfl rfl rfl rfl rfl rfl rfl (tyB (((xa ^^^ xb:Nat):Int))) hs Wx (by decide) (by first|omega|(simp only[List.length_set];omega)) rfl fun w17 g17 h17=>?_
   replace ha:=(ha.kn g16).offR g17 (fun k hk e=>ap_ha_hs k hk (C3 (j:=i) hs (by omega) e))
   replace hb:=(hb.kn g16).offR g17 (fun k hk e=>ap_hb_hs k hk (C3 (j:=i) hs (by omega) e))
   replace HG:=CJ (AA (AA HG UT) g16) g17 fun k e=>lo_hs k (C3 (j:=i) hs (by omega) e)
   refine AE ?_
   refine y12 _ _ ?_
   refine k11 _ _ ?_
   refine AIh ?_
   refine AL Cj 1 [(25,.int .i64 (((i+1:Nat):Int)))]
    ⟨Cm r6 (fun _=>C4 (by rw[A1 (by omega) (by omega)];omega)),AIo⟩ fun a18 w18 g18 CS=>?_
   refine AL (CS.dl [10]) 1 [(10,.int .i64 (((i+1:Nat):Int)))]
    ⟨ym r5,AIo⟩ fun a19 w19 g19 Dj=>?_
   have ADl:=AA g18 g19
   refine AE ?_
   replace ha:=ha.kn ADl
   replace hb:=hb.kn ADl
   replace hs:=h17.kn ADl
   replace HG:=AA HG ADl
   exact⟨⟨i+1,sl.set i (xa ^^^ xb),by omega,by rw[List.length_set];exact hsl,Us (by omega) hxa hxb hq,⟨Dj.1,Dj.2.1,Dj.2.2.1,Dj.2.2.2.2.2.2.2.1,(AK Dj).1,(AK Dj).2.1,(AK Dj).2.2.1,(AK Dj).2.2.2.1,(AK Dj).2.2.2.2.1,AIo⟩,HG,ha,hb,hs,ap_ha_hs,ap_hb_hs,lo_hs⟩,by rw[show _=_ from Dj.2.2.1,show _=_ from sv7.2.2.1];simp[intOf];omega⟩
 · have hfin:=X5 hnx (by omega) hsl (by omega) hq
   refine AIh ?_
   refine AL sv7 1 [(11,.bool false)]
    ⟨Hl r7 (fun _=>Ba (by simp;omega)),AIo⟩ fun a20 w20 g20 EL=>?_
   refine AE ?_
   refine k8 _ _ ?_
   refine AIi fun K21 k21=>?_
   refine Au EL rfl rfl ?_
   refine wp_exit ?_
   repeat refine CD ?_
   refine x6 _ _ ?_
   refine k3 _ _ ?_
   refine AIi fun K22 k22=>?_
   refine AIh ?_
   refine AL EL 1 [(26,.slice so n sc)]
    ⟨ym r5,AIo⟩ fun a23 w23 g23 Cg=>?_
   have AGx:=AA g20 g23
   refine Aa (v:=.slice so n sc) Cg r6 fun a24 DZ=>?_
   refine AE ?_
   refine k22 _ _ ?_
   replace hs:=hs.kn AGx
   replace HG:=AA HG AGx
   refine AIl ?_
   repeat refine AM ?_
   rw[hfin,←MC] at hs
   refine A8 (fn:=Tryz.f106) DZ (A7 (p:=6) Tryz.results106 DZ rfl rfl) ?_
   exact⟨rfl,HG,hs⟩
theorem ABj {x y:List Nat} (hx:Dg x) (hy:Dg y):Dg (I2 x y):=⟨by rw[MB (by rw[hx.1,hy.1];omega),hx.1],Xx hx.2 hy.2⟩
theorem Zr (z0 x y:List Nat) (hz:Dg z0) (hx:Dg x) (hy:Dg y) (w:World) :
   Calls Tryz.prog 104 #[AO z0,AO x,AO y] w fun e w'=>e=.returned (AO (I2 x y))∧w.grownBy w' none:=by
 have hz0:z0.length=32:=hz.1
 refine BM Tryz.func104 rfl Tryz.ntmps104 rfl fun a0 sv0=>?_
 have HG:=World.grownBy.refl w none
 replace sv0:Sv 24 [] [(0,AO z0),(1,AO x),(2,AO y)] a0:=sv0
 refine AIi fun K1 k1=>?_
 refine AIh ?_
 refine BT sv0 r6 (Bn z0 hz.1) fun a2 w2 P9 Lz g2 z2 BG sv2=>?_
 have ADm:=Bq HG Lz
 refine BT sv2 r6 (Bn x hx.1) fun a3 w3 ADZ Xu g3 z3 DV sv3=>?_
 have SE:=Ar BG Xu
 replace BG:=AC g3 BG
 refine BT sv3 r6 (Bn y hy.1) fun a4 w4 AFr ADn g4 z4 Jp sv4=>?_
 have SI:=Ar BG ADn
 replace BG:=AC g4 BG
 replace HG:=AA (AA (AA HG g2) g3) g4
 refine As (T:=23) (Z:=(bv AS)) sv4 rfl rfl rfl (fun a w=>by kernel_rfl) fun a5 w5 AGy X9 g5 z5 Jq sv5=>?_
 have SL:=Ar BG X9
 have ADo:=Bq HG X9
 replace BG:=AC g5 BG
 refine AE ?_
 refine k1 _ _ ?_
 refine AIi fun K6 k6=>?_
 refine AIi fun K7 k7=>?_
 refine AIh ?_
 refine AL sv5 3 [(8,AO z0),(9,.int .i64 32),(10,.int .i64 0)]
   ⟨yl r6 (Bn z0 hz.1) BG,EI (.inl rfl) rfl trivial (fun _=>rfl),EI (.inl rfl) rfl trivial (fun _=>rfl),AIo⟩ fun a8 w8 g8 sv8=>?_
 refine AE ?_
 refine k7 _ _ ?_
 refine BB fun Q9 x9 y9 rt9 o9=>?_
 replace BG:=AC g8 BG
 replace DV:=AC g8 (AC g5 (AC g4 DV))
 replace Jp:=AC g8 (AC g5 Jp)
 replace Jq:=AC g8 Jq
 replace HG:=AA (AA HG g5) g8
 refine wp_loop (fun a w'=>∃(j:Nat) (sl:List Nat),(j≤32)∧(sl.length=32)∧(∀k,j≤k→sl[k]?=z0[k]?)∧(∀k,k<j→sl[k]?=(I2 x y)[k]?)∧Sv 24 [] [(10,.int .i64 ((j:Int))),(8,AO z0),(9,.int .i64 32),(6,pt AGy),(5,pt AFr),(4,pt ADZ),(3,pt P9),(0,AO z0),(1,AO x),(2,AO y)] a∧w.grownBy w' none∧w'.heap[P9]?=some (.cells (bv sl).toArray 23 (0,0))∧w'.heap[ADZ]?=some (.cells (bv x).toArray 23 (0,0))∧w'.heap[AFr]?=some (.cells (bv y).toArray 23 (0,0))∧w'.heap[AGy]?=some (.cells ((bv AS)).toArray 23 (0,0))) (fun a _=>(32-intOf (a.tmps.getD 10 undef)).toNat) ⟨0,z0,by omega,hz0,fun k hk=>rfl,fun k hk=>by omega,⟨sv8.1,sv8.2.1,sv8.2.2.2.2.1,sv8.2.2.1,sv8.2.2.2.1,sv8.2.2.2.2.2.1,sv8.2.2.2.2.2.2.1,sv8.2.2.2.2.2.2.2.1,(AK sv8).1,(AK sv8).2.1,(AK sv8).2.2.1,(AK sv8).2.2.2.1,AIo⟩,HG,BG,DV,Jp,Jq⟩ fun a10 w10 hI10=>?_
 clear BG
 clear DV
 clear Jp
 clear Jq
 clear HG
 obtain⟨j,sl,hj32,hsl,hkeep,hq,CK,HG,BG,DV,Jp,Jq⟩:=hI10
 refine AIi fun K11 k11=>?_
 by_cases hj:j<32
 · obtain⟨xa,hxa⟩:∃a,x[j]?=some a:=⟨_,List.getElem?_eq_getElem (by rw[hx.1];exact hj)⟩
   obtain⟨xb,hxb⟩:∃b,y[j]?=some b:=⟨_,List.getElem?_eq_getElem (by rw[hy.1];exact hj)⟩
   have ba:xa<256:=hx.2 _ (List.mem_of_getElem? hxa)
   have bb:xb<256:=hy.2 _ (List.mem_of_getElem? hxb)
   refine AIh ?_
   refine AL CK 1 [(11,.bool true)]
    ⟨Hl r7 (fun _=>Ba (by simp;omega)),AIo⟩ fun a12 w12 g12 C6=>?_
   refine AE ?_
   refine k11 _ _ ?_
   refine AIi fun K13 k13=>?_
   refine Ap C6 rfl rfl ?_
   refine AIm ?_
   refine k13 _ _ ?_
   refine AIi fun K14 k14=>?_
   refine BB fun Q15 x15 y15 rt15 o15=>?_
   refine AIi fun K16 k16=>?_
   refine AIh ?_
   refine AL C6 1 [(12,.int .i64 ((j:Int)))]
    ⟨ym r5,AIo⟩ fun a17 w17 g17 FH=>?_
   have R4:=AA g12 g17
   refine Aa (v:=.int .i64 ((j:Int))) FH r6 fun a18 CS=>?_
   refine AE ?_
   refine k16 _ _ ?_
   replace DV:=AC R4 DV
   replace Jp:=AC R4 Jp
   refine DB (CS.st w17) (by kernel_rfl) 9 [(13,Sp.is (.int .i64 ((j:Int)))),(14,Sp.is (.int .i64 ((j:Int)))),(15,Sp.is (pk ADZ j)),(16,Sp.is (.int .u8 ((xa:Int)))),(17,Sp.is (.int .i64 ((j:Int)))),(18,Sp.is (pk AFr j)),(19,Sp.is (.int .u8 ((xb:Int)))),(20,Sp.is (.int .u8 (((xa ^^^ xb:Nat):Int)))),(21,Sp.is (pk P9 j))] rfl (by kernel_rfl) (by kernel_rfl) (by kernel_rfl) [] (by kernel_rfl)
    ⟨ym r5,ym r5,BD rq8 (fun w=>Ip hj w),Bv r6 (fun _ g=>Ae (R3 (xa:Int)) (by simpa using Fs (o:=0) (Al (AF g DV (by simp))) hxa)),ym r5,BD rq8 (fun w=>Ip hj w),Bv r6 (fun _ g=>Ae (R3 (xb:Int)) (by simpa using Fs (o:=0) (Al (AF g Jp (by simp))) hxb)),Hl r7 (fun _=>X7 ba bb),BD rq8 (fun w=>Ip hj w),AIo⟩ trivial
    [] (by kernel_rfl) trivial ⟨.inl rfl,.inl rfl,.inl rfl,.inl rfl,.inl rfl,.inl rfl,.inl rfl,.inl rfl,.inl rfl,AIo⟩ (by kernel_rfl) fun a19 w19 g19 st19 nd19=>?_
   obtain⟨hn19,hd19,e19_13,e19_14,e19_15,e19_16,e19_17,e19_18,e19_19,e19_20,e19_21,e19_7,e19_12,e19_11,e19_10,e19_8,e19_9,e19_6,e19_5,e19_4,e19_3,e19_0,e19_1,e19_2,-⟩:=st19
   have Dj:Sv 24 [] [(7,_),(12,_),(11,_),(10,_),(8,_),(9,_),(6,_),(5,_),(4,_),(3,_),(0,_),(1,_),(2,_),(20,_),(21,_)] a19:=⟨hn19,hd19,e19_7,e19_12,e19_11,e19_10,e19_8,e19_9,e19_6,e19_5,e19_4,e19_3,e19_0,e19_1,e19_2,e19_20,e19_21,AIo⟩
   replace BG:=AC g19 (AC R4 BG)
   refine Zp Dj rfl rfl rfl rfl rfl rfl rfl (R3 _) BG (by omega) fun w20 g20 h20=>?_
   refine AE ?_
   refine y15 _ _ ?_
   refine k14 _ _ ?_
   refine AIh ?_
   refine AL Dj 1 [(22,.int .i64 (((j+1:Nat):Int)))]
    ⟨Cm r6 (fun _=>C4 (by rw[A1 (by omega) (by omega)];omega)),AIo⟩ fun a21 w21 g21 DY=>?_
   refine AL (DY.dl [10]) 1 [(10,.int .i64 (((j+1:Nat):Int)))]
    ⟨ym r5,AIo⟩ fun a22 w22 g22 CX=>?_
   have Nh:=AA g21 g22
   refine AE ?_
   replace BG:=AC Nh h20
   replace DV:=AC Nh (Ab g20 (AC g19 DV) SE)
   replace Jp:=AC Nh (Ab g20 (AC g19 Jp) SI)
   replace Jq:=AC Nh (Ab g20 (AC g19 (AC R4 Jq)) SL)
   replace HG:=AA (AD (AA (AA HG R4) g19) g20 ADm) Nh
   exact⟨⟨j+1,sl.set j (xa ^^^ xb),by omega,by rw[List.length_set];exact hsl,fun k hk=>by rw[List.getElem?_set_ne (by omega)];exact hkeep k (by omega),Us (by omega) hxa hxb hq,⟨CX.1,CX.2.1,CX.2.2.1,CX.2.2.2.2.2.2.2.1,(AK CX).1,(AK CX).2.1,(AK CX).2.2.1,(AK CX).2.2.2.1,(AK CX).2.2.2.2.1,(AK CX).2.2.2.2.2.1,(AK CX).2.2.2.2.2.2.1,(AK CX).2.2.2.2.2.2.2.1,AIo⟩,HG,BG,DV,Jp,Jq⟩,by rw[show _=_ from CX.2.2.1,show _=_ from CK.2.2.1];simp[intOf];omega⟩
 · have hfin:=X5 hx.1 (by rw[hy.1];omega) hsl (by omega) hq
   have hsn:Dg sl:=hfin▸ABj hx hy
   refine AIh ?_
   refine AL CK 1 [(11,.bool false)]
    ⟨Hl r7 (fun _=>Ba (by simp;omega)),AIo⟩ fun a23 w23 g23 Cg=>?_
   refine AE ?_
   refine k11 _ _ ?_
   refine AIi fun K24 k24=>?_
   refine Au Cg rfl rfl ?_
   refine wp_exit ?_
   repeat refine CD ?_
   refine x9 _ _ ?_
   refine k6 _ _ ?_
   refine AIi fun K25 k25=>?_
   refine AIh ?_
   refine AL Cg 1 [(23,AO sl)]
    ⟨yl r6 (Bn sl hsn.1) (AC g23 BG),AIo⟩ fun a26 w26 g26 CW=>?_
   have AGz:=AA g23 g26
   refine An CW r7 (Bn sl hsn.1) (AC AGz Jq) (F5 hsn) fun w27 g27 h27=>?_
   replace HG:=AD (AA HG AGz) g27 ADo
   replace Jq:=h27
   refine AE ?_
   refine k25 _ _ ?_
   refine AIl ?_
   repeat refine AM ?_
   refine A8 (fn:=Tryz.f104) CW (EK (p:=6) Tryz.results104 CW rfl rfl (Bn sl hsn.1) Jq) ?_
   exact⟨by rw[hfin],HG⟩
theorem ME (x k:List Nat) (hx:Dg x) (hk:Dg k) (w:World) :
  Calls Tryz.prog 56 #[AO x,AO k] w fun e w'=>e=.returned (AO (Me x k))∧w.grownBy w' none:=by
 refine BM Tryz.func56 rfl Tryz.ntmps56 rfl fun a0 sv0=>?_
 have HG:=World.grownBy.refl w none
 replace sv0:Sv 10 [] [(0,AO x),(1,AO k)] a0:=sv0
 refine AIi fun K1 k1=>?_
 refine AIh ?_
 refine BT sv0 r6 (Bn x hx.1) fun a2 w2 CC Cq g2 z2 AG sv2=>?_
 refine BT sv2 r6 (Bn k hk.1) fun a3 w3 Bo EC g3 z3 AJ sv3=>?_
 replace HG:=AA (AA HG g2) g3
 refine As (T:=23) (Z:=(bv AS)) sv3 rfl rfl rfl (fun a w=>by kernel_rfl) fun a4 w4 Eh Bi g4 z4 AN sv4=>?_
 have Br:=Bq HG Bi
 replace AG:=AC g4 (AC g3 AG)
 replace AJ:=AC g4 AJ
 refine AE ?_
 refine k1 _ _ ?_
 refine AIi fun K5 k5=>?_
 refine DB (sv4.st w4) (by kernel_rfl) 5 [(5,Sp.is (AO AS)),(6,Sp.is (AO x)),(7,Sp.is (AO k)),(8,Sp.is (AO ((msk k)))),(9,Sp.is (AO ((Me x k))))] rfl (by kernel_rfl) (by kernel_rfl) (by kernel_rfl) [] (by kernel_rfl)
  ⟨BI (vs:=[]) rfl rfl trivial trivial (fun _=>bD0 _) (fun _=>rfl),yl r6 (Bn x hx.1) AG,yl r6 (Bn k hk.1) AJ,Ad [.int .u64 283,AO k,.slice none 0 0] Tryz.func66 (by kernel_rfl) rq4 ⟨rfl,(oy rfl rfl),rfl,AIo⟩ (Aq fun W g=>Ly (n:=283) (by decide) rfl hk W),Ad [AO AS,AO x,AO ((msk k))] Tryz.func104 (by kernel_rfl) rq4 ⟨(oy rfl rfl),(oy rfl rfl),(oy rfl rfl),AIo⟩ (Aq fun W g=>Zr AS x (msk k) AR hx (BF 283 k) W),AIo⟩ trivial
  [] (by kernel_rfl) trivial ⟨.inl rfl,.inl rfl,.inl rfl,.inl rfl,.inl rfl,AIo⟩ (by kernel_rfl) fun a6 w6 g6 st6 nd6=>?_
 obtain⟨hn6,hd6,e6_5,e6_6,e6_7,e6_8,e6_9,e6_4,e6_3,e6_2,e6_0,e6_1,-⟩:=st6
 have sv6:Sv 10 [] [(4,_),(3,_),(2,_),(0,_),(1,_),(9,_)] a6:=⟨hn6,hd6,e6_4,e6_3,e6_2,e6_0,e6_1,e6_9,AIo⟩
 refine An sv6 r7 (Bn ((Me x k)) (ABj hx (BF 283 k)).1) (AC g6 AN) (F5 (ABj hx (BF 283 k))) fun w7 g7 h7=>?_
 replace HG:=AD (AA (AA HG g4) g6) g7 Br
 replace AN:=h7
 refine AE ?_
 refine k5 _ _ ?_
 refine AIl ?_
 repeat refine AM ?_
 refine A8 (fn:=Tryz.f56) sv6 (EK (p:=4) Tryz.results56 sv6 rfl rfl (Bn ((Me x k)) (ABj hx (BF 283 k)).1) AN) ?_
 exact⟨rfl,HG⟩
end Go.Proofs.YtbfjfnbcmojpiaaGreat
