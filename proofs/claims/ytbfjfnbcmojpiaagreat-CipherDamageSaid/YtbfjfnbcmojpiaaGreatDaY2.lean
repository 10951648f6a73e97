import Derived.Test.YtbfjfnbcmojpiaaGreatDaY1
import Derived.Test.YtbfjfnbcmojpiaaGreatDaSG
import Derived.Test.YtbfjfnbcmojpiaaGreatDaV9
set_option linter.unusedSimpArgs false
set_option linter.unusedVariables false
set_option maxRecDepth 100000
set_option maxHeartbeats 4000000
namespace Go.Proofs.YtbfjfnbcmojpiaaGreat
open Go.RowKit Go.Shelf
structure DD where
 x:List Nat
 h:Dg x
def Ja (d:DD):List Value:=bv d.x
theorem Dj (d:DD):(Ja d).length=32:=by unfold Ja;rw[AO,d.h.1]
def RdD (w:World) (v:Value) (ds:List DD):Prop:=SlB w 32 v ds.length (ds.flatMap Ja)
section
variable {w w':World} {v:Value} {ds:List DD}
theorem RdD.kn (h:RdD w v ds) (g:w.grownBy w' none):RdD w' v ds:=SlB.kn h g
theorem RdD.lt (h:RdD w v ds):∀k,BC v k→k<w.heap.size:=SlB.lt h
theorem RdD.offR (h:RdD w v ds) {row:Option Nat} (g:w.grownBy w' row) (hb:∀k,BC v k→row≠some k):RdD w' v ds:=SlB.offR h g hb
theorem RdD.nil (w:World):RdD w (.slice none 0 0) []:=⟨Sl.nil w 32,fun k hk=>by simp[BC,Value.ownBlock] at hk⟩
theorem RdD.shape (h:RdD w v ds):∃ao cap,v=.slice ao ds.length cap:=by
 obtain⟨ao,cap,rfl,_⟩:=h.1.shape
 exact⟨ao,cap,rfl⟩
end
theorem Is {ds:List DD} {j:Nat} (h:j<ds.length):Lf (ds.map DD.x) j=ds[j].x:=by rw[ADI (by simpa using h),List.getElem_map]
theorem AHn {ds:List DD} {i:Nat} {x y:DD} (hi:i<ds.length) (hp:i-1<ds.length) (hx:ds[i]=x) (hy:ds[i-1]=y):XX (ds.map DD.x) i=(decide (i=0)||E5 y.x x.x):=by
 unfold XX
 rw[Is hi,Is hp,hx,hy]
theorem ALf {l:List (List Nat)} {k:Nat} (h:k=0):XX l k=true:=by subst h;rfl
theorem RdD.len {w:World} {v:Value} {ds:List DD} (h:RdD w v ds):(ds.length:Int)≤9223372036854775807:=by
 have h1:=h.1
 obtain⟨ao,cap,rfl⟩:=h.shape
 have:=(h1.shape)
 obtain⟨ao',cap',e,h2,h3⟩:=this
 omega
theorem Fe (v:Value) (h:v.oneCell'=true):TY Tryz.prog 28 [v] v:=TY.one' Tryz.underlying28 rfl (by kernel_rfl) h
def cb (n:Nat):List Value:=[.int .u8 (n:Int)]
theorem Sg (n:Nat):(cb n).length=1:=rfl
theorem M1 (l:List Nat):bv l=l.flatMap cb:=by
 induction l with
 | nil=>rfl
 | cons a l ih=>rw[List.flatMap_cons,←ih];rfl
theorem Gl {w:World} {n cap j:Nat} {ao:Option Addr} {l:List Nat} (h:Sl w 1 (.slice ao n cap) n (bv l)) (hj:j<l.length):w.rangeAt (bO ao) (oO ao+j*1) [.int .u8 (l[j]:Int)]:=by
 rw[M1] at h
 exact CW h Sg hj (by decide)
theorem D9 (x:Int):TY Tryz.prog 2 [.int .i64 x] (.int .i64 x):=TY.one' Tryz.underlying2 rfl (by kernel_rfl) rfl
theorem dsT:ET Tryz.prog 28 23 (AQ AR) 32 32:=⟨Tryz.underlying28,info_parts (by kernel_rfl),rfl,by decide,by decide⟩
theorem Ra {own:List (List Nat)} {joint addr:Int} (h:addr<0∨17179869184≤addr):hd own joint addr=false:=by
 have:Ci addr=false:=by unfold Ci;simp;omega
 unfold hd;rw[this];rfl
theorem AAj {own:List (List Nat)} {joint addr:Int} (h:joint≠0) (h1:joint≠1):hd own joint addr=false:=by unfold hd;simp[h,h1]
theorem ADJ {own:List (List Nat)} {joint addr:Int} (h:16<own.length):hd own joint addr=false:=by
 have:decide (own.length≤16)=false:=decide_eq_false (by omega)
 unfold hd;rw[this];simp
theorem ADK {own:List (List Nat)} {joint addr:Int} (h:ZR own=false):hd own joint addr=false:=by unfold hd;rw[h];simp
theorem ADL {own:List (List Nat)} {joint addr:Int} (h1:0≤addr∧addr<17179869184) (h2:joint=0∨joint=1) (h3:own.length≤16) (h4:ZR own=true):hd own joint addr=true:=by
 have h5:Ci addr=true:=by unfold Ci;simp;omega
 unfold hd;rw[h5,h4];rcases h2 with rfl|rfl<;>simp[h3]
theorem ADM (ds:List DD) (ao:Option Addr) (cap:Nat) (joint addr:Int) (w:World) (hr:RdD w (.slice ao ds.length cap) ds) :
   Calls Tryz.prog 50 #[.slice ao ds.length cap,.int .i64 joint,.int .i64 addr] w fun e w'=>e=.returned (.bool (hd (ds.map DD.x) joint addr))∧w.grownBy w' none:=by
 have hmap:(ds.map DD.x).length=ds.length:=List.length_map _
 refine BV Tryz.func50 rfl Tryz.ntmps50 rfl fun a0 sv0=>?_
 have HG:=World.grownBy.refl w none
 replace sv0:Sv 46 [] [(0,.slice ao ds.length cap),(1,.int .i64 joint),(2,.int .i64 addr)] a0:=sv0
 refine AOQ fun K1 k1=>?_
 refine AOP ?_
 refine AS (v:=.bool false) sv0 r6 fun a2 sv2=>?_
 refine AD ?_
 refine k1 _ _ ?_
 refine AOQ fun K3 k3=>?_
 suffices MG4:∀(a':Act) (w':World),Sv 46 [] [(0,.slice ao ds.length cap),(1,.int .i64 joint),(2,.int .i64 addr)] a'→(0≤addr∧addr<17179869184)→(joint=0∨joint=1)→w.grownBy w' none→(RdD w' (.slice ao ds.length cap) ds)→K3 a' w' by
   rcases(show addr<0∨(0≤addr∧17179869184≤addr)∨((0≤addr∧addr<17179869184)∧joint≠0∧joint≠1)∨((0≤addr∧addr<17179869184)∧joint=0)∨((0≤addr∧addr<17179869184)∧joint=1) by omega) with h1|⟨h0,h1⟩|⟨h0,h1,h2⟩|⟨h0,h2⟩|⟨h0,h2⟩
   · refine AOQ fun K5 k5=>?_
     refine AOP ?_
     refine AH sv2 14 [(8,.int .i64 addr),(9,.bool true),(10,.bool true),(11,undef),(12,undef),(13,.bool true),(14,.bool true),(15,undef),(16,undef),(17,undef),(18,undef),(19,undef),(20,undef),(21,.bool true)]
       ⟨ym r5,Ce r6 (fun _=>BR (decide_eq_true (by omega))),ym r5,AN r6,AN r6,BF r7,ym r5,AN r6,AN r6,AN r6,Ba ⟨17,rfl,rfl,fun _ _ h=>h⟩ rfl (fun _=>rfl),Ba ⟨17,rfl,rfl,fun _ _ h=>h⟩ rfl (fun _=>rfl),AN r6,BF r7,AOW⟩ fun a6 w6 g6 sv6=>?_
     refine AD ?_
     refine k5 _ _ ?_
     refine Am sv6 rfl rfl ?_
     refine AOQ fun K7 k7=>?_
     refine AOP ?_
     refine AS (v:=.bool false) sv6 r6 fun a8 sv8=>?_
     refine AD ?_
     refine k7 _ _ ?_
     replace hr:=hr.kn g6
     replace HG:=AA HG g6
     refine AOT ?_
     repeat refine AM ?_
     refine Ap (fn:=Tryz.f50) sv8 (BK (p:=6) Tryz.results50 sv8 rfl rfl) ?_
     exact⟨E6 ((Ra (.inl h1)).symm),HG⟩
   · refine AOQ fun K9 k9=>?_
     refine AOP ?_
     refine AH sv2 14 [(8,.int .i64 addr),(9,.bool false),(10,.bool false),(11,.int .i64 addr),(12,.bool true),(13,.bool true),(14,.bool true),(15,undef),(16,undef),(17,undef),(18,undef),(19,undef),(20,undef),(21,.bool true)]
       ⟨ym r5,Ce r6 (fun _=>BR (decide_eq_false (by omega))),ym r5,Ae rq8,Ai rq9 (fun _=>Dp (decide_eq_true (by omega))),Ah rq9,ym r5,AN r6,AN r6,AN r6,Ba ⟨17,rfl,rfl,fun _ _ h=>h⟩ rfl (fun _=>rfl),Ba ⟨17,rfl,rfl,fun _ _ h=>h⟩ rfl (fun _=>rfl),AN r6,BF r7,AOW⟩ fun a10 w10 g10 Bt=>?_
     refine AD ?_
     refine k9 _ _ ?_
     refine Am Bt rfl rfl ?_
     refine AOQ fun K11 k11=>?_
     refine AOP ?_
     refine AS (v:=.bool false) Bt r6 fun a12 DF=>?_
     refine AD ?_
     refine k11 _ _ ?_
     replace hr:=hr.kn g10
     replace HG:=AA HG g10
     refine AOT ?_
     repeat refine AM ?_
     refine Ap (fn:=Tryz.f50) DF (BK (p:=6) Tryz.results50 DF rfl rfl) ?_
     exact⟨E6 ((Ra (.inr h1)).symm),HG⟩
   · refine AOQ fun K13 k13=>?_
     refine AOP ?_
     refine AH sv2 14 [(8,.int .i64 addr),(9,.bool false),(10,.bool false),(11,.int .i64 addr),(12,.bool false),(13,.bool false),(14,.bool false),(15,.int .i64 joint),(16,.bool true),(17,.bool true),(18,.int .i64 joint),(19,.bool true),(20,.bool true),(21,.bool true)]
       ⟨ym r5,Ce r6 (fun _=>BR (decide_eq_false (by omega))),ym r5,Ae rq8,Ai rq9 (fun _=>Dp (decide_eq_false (by omega))),Ah rq9,ym r5,Ae rq8,Ai rq9 (fun _=>Dy (by simp;omega)),Ae rq8,Ae rq8,Ai rq9 (fun _=>Dy (by simp;omega)),E3 rfl rfl (gy rfl rfl rfl) (oy rfl rfl) (oy rfl rfl) (fun _=>rfl),Ah rq9,AOW⟩ fun a14 w14 g14 D1=>?_
     refine AD ?_
     refine k13 _ _ ?_
     refine Am D1 rfl rfl ?_
     refine AOQ fun K15 k15=>?_
     refine AOP ?_
     refine AS (v:=.bool false) D1 r6 fun a16 DG=>?_
     refine AD ?_
     refine k15 _ _ ?_
     replace hr:=hr.kn g14
     replace HG:=AA HG g14
     refine AOT ?_
     repeat refine AM ?_
     refine Ap (fn:=Tryz.f50) DG (BK (p:=6) Tryz.results50 DG rfl rfl) ?_
     exact⟨E6 ((AAj h1 h2).symm),HG⟩
   · refine AOQ fun K17 k17=>?_
     refine AOP ?_
     refine AH sv2 14 [(8,.int .i64 addr),(9,.bool false),(10,.bool false),(11,.int .i64 addr),(12,.bool false),(13,.bool false),(14,.bool false),(15,.int .i64 joint),(16,.bool false),(17,.bool false),(18,undef),(19,undef),(20,.bool false),(21,.bool false)]
       ⟨ym r5,Ce r6 (fun _=>BR (decide_eq_false (by omega))),ym r5,Ae rq8,Ai rq9 (fun _=>Dp (decide_eq_false (by omega))),Ah rq9,ym r5,Ae rq8,Ai rq9 (fun _=>Dy (by simp;omega)),Ae rq8,AN r6,AN r6,E3 rfl rfl (gy rfl rfl rfl) (oy rfl rfl) rfl (fun _=>rfl),Ah rq9,AOW⟩ fun a18 w18 g18 CY=>?_
     refine AD ?_
     refine k17 _ _ ?_
     refine Au CY rfl rfl ?_
     refine AOU ?_
     replace hr:=hr.kn g18
     replace HG:=AA HG g18
     have svm:Sv 46 [] [(0,_),(1,_),(2,_)] a18:=⟨CY.1,CY.2.1,(AG (AG CY)).2.1,(AG (AG CY)).2.2.1,(AG (AG CY)).2.2.2.1,AOW⟩
     exact MG4 _ _ svm (h0) (.inl h2) HG hr
   · refine AOQ fun K19 k19=>?_
     refine AOP ?_
     refine AH sv2 14 [(8,.int .i64 addr),(9,.bool false),(10,.bool false),(11,.int .i64 addr),(12,.bool false),(13,.bool false),(14,.bool false),(15,.int .i64 joint),(16,.bool true),(17,.bool true),(18,.int .i64 joint),(19,.bool false),(20,.bool false),(21,.bool false)]
       ⟨ym r5,Ce r6 (fun _=>BR (decide_eq_false (by omega))),ym r5,Ae rq8,Ai rq9 (fun _=>Dp (decide_eq_false (by omega))),Ah rq9,ym r5,Ae rq8,Ai rq9 (fun _=>Dy (by simp;omega)),Ae rq8,Ae rq8,Ai rq9 (fun _=>Dy (by simp;omega)),E3 rfl rfl (gy rfl rfl rfl) (oy rfl rfl) (oy rfl rfl) (fun _=>rfl),Ah rq9,AOW⟩ fun a20 w20 g20 Du=>?_
     refine AD ?_
     refine k19 _ _ ?_
     refine Au Du rfl rfl ?_
     refine AOU ?_
     replace hr:=hr.kn g20
     replace HG:=AA HG g20
     have svm:Sv 46 [] [(0,_),(1,_),(2,_)] a20:=⟨Du.1,Du.2.1,(AG (AG Du)).2.1,(AG (AG Du)).2.2.1,(AG (AG Du)).2.2.2.1,AOW⟩
     exact MG4 _ _ svm (h0) (.inr h2) HG hr
 clear hr
 clear HG
 intro a4 w4 sv4 h0 h2 HG hr
 refine k3 _ _ ?_
 refine AOQ fun K21 k21=>?_
 refine AOQ fun K22 k22=>?_
 by_cases hbig:16<ds.length
 · refine AOP ?_
   refine AH sv4 3 [(22,.slice ao ds.length cap),(23,.int .i64 ((ds.length:Nat))),(24,.bool true)]
     ⟨ym r5,BJ (Tryz.underlying28) rfl rfl trivial (oy rfl rfl) (fun _=>rfl),Ce r6 (fun _=>C3 (by simp;omega)),AOW⟩ fun a23 w23 g23 Cc=>?_
   refine AD ?_
   refine k22 _ _ ?_
   refine Am Cc rfl rfl ?_
   refine AOQ fun K24 k24=>?_
   refine AOP ?_
   refine AS (v:=.bool false) Cc r6 fun a25 DR=>?_
   refine AD ?_
   refine k24 _ _ ?_
   replace hr:=hr.kn g23
   replace HG:=AA HG g23
   refine AOT ?_
   repeat refine AM ?_
   refine Ap (fn:=Tryz.f50) DR (BK (p:=6) Tryz.results50 DR rfl rfl) ?_
   exact⟨E6 ((ADJ (by omega)).symm),HG⟩
 · refine AOP ?_
   refine AH sv4 3 [(22,.slice ao ds.length cap),(23,.int .i64 ((ds.length:Nat))),(24,.bool false)]
     ⟨ym r5,BJ (Tryz.underlying28) rfl rfl trivial (oy rfl rfl) (fun _=>rfl),Ce r6 (fun _=>C3 (by simp;omega)),AOW⟩ fun a26 w26 g26 DH=>?_
   refine AD ?_
   refine k22 _ _ ?_
   refine Au DH rfl rfl ?_
   refine AOU ?_
   refine k21 _ _ ?_
   refine AOQ fun K27 k27=>?_
   refine AOQ fun K28 k28=>?_
   refine AOP ?_
   refine AH DH 3 [(25,.slice ao ds.length cap),(26,.int .i64 ((ds.length:Nat))),(27,.int .i64 0)]
     ⟨ym r5,BJ (Tryz.underlying28) rfl rfl trivial (oy rfl rfl) (fun _=>rfl),Fw (.inl rfl) rfl trivial (fun _=>rfl),AOW⟩ fun a29 w29 g29 Ck=>?_
   have La:=AA g26 g29
   refine AD ?_
   refine k28 _ _ ?_
   refine BH fun Q30 x30 y30 rt30 o30=>?_
   replace hr:=hr.kn La
   replace HG:=AA HG La
   refine wp_loop (fun a w'=>∃(i:Nat),(i≤ds.length+1)∧(∀k,k<i→XX (ds.map DD.x) k=true)∧Sv 46 [] [(27,.int .i64 ((i:Int))),(25,.slice ao ds.length cap),(26,.int .i64 ((ds.length:Nat))),(22,.slice ao ds.length cap),(23,.int .i64 ((ds.length:Nat))),(24,.bool false),(0,.slice ao ds.length cap),(1,.int .i64 joint),(2,.int .i64 addr)] a∧w.grownBy w' none∧RdD w' (.slice ao ds.length cap) ds) (fun a _=>(ds.length+1-intOf (a.tmps.getD 27 undef)).toNat) ⟨0,Nat.zero_le _,fun k hk=>by omega,⟨Ck.1,Ck.2.1,Ck.2.2.2.2.1,Ck.2.2.1,Ck.2.2.2.1,Ck.2.2.2.2.2.1,Ck.2.2.2.2.2.2.1,Ck.2.2.2.2.2.2.2.1,(AG Ck).1,(AG Ck).2.1,(AG Ck).2.2.1,AOW⟩,HG,hr⟩ fun a31 w31 hI31=>?_
   clear hr
   clear HG
   obtain⟨i,hin,hb,IJ,HG,hr⟩:=hI31
   refine AOQ fun K32 k32=>?_
   by_cases hi:i<ds.length
   · have hp:i-1<ds.length:=by omega
     obtain⟨x,hx_x⟩:∃x,ds[i]'hi=x:=⟨_,rfl⟩
     obtain⟨y,hx_y⟩:∃x,ds[(i-1)]'hp=x:=⟨_,rfl⟩
     have hchk:=AHn hi hp hx_x hx_y
     refine AOP ?_
     refine AH IJ 1 [(28,.bool true)]
       ⟨Fg r7 (fun _=>BR (by simp;omega)),AOW⟩ fun a33 w33 g33 FS=>?_
     refine AD ?_
     refine k32 _ _ ?_
     refine AOQ fun K34 k34=>?_
     refine Am FS rfl rfl ?_
     refine AOU ?_
     refine k34 _ _ ?_
     refine AOQ fun K35 k35=>?_
     refine BH fun Q36 x36 y36 rt36 o36=>?_
     refine AOQ fun K37 k37=>?_
     refine AOP ?_
     refine AH FS 1 [(29,.int .i64 ((i:Int)))]
       ⟨ym r5,AOW⟩ fun a38 w38 g38 Qt=>?_
     have Qy:=AA g33 g38
     refine AS (v:=.int .i64 ((i:Int))) Qt r6 fun a39 JY=>?_
     refine AD ?_
     refine k37 _ _ ?_
     refine AOQ fun K40 k40=>?_
     replace hr:=hr.kn Qy
     replace HG:=AA HG Qy
     rcases(show i=0∨(0<i∧E5 y.x x.x=true)∨(0<i∧E5 y.x x.x=false) by
        rcases Nat.eq_zero_or_pos i with h|h<;>cases h3:E5 y.x x.x<;>simp[h]) with hz|⟨hz,hc⟩|⟨hz,hc⟩
     · have hok:(decide (i=0)||E5 y.x x.x)=true:=by simp[hz]
       refine Dx JY [(30,.int .i64 ((i:Int))),(31,.bool false),(32,.bool false),(33,undef),(34,undef),(35,undef),(36,undef),(37,undef),(38,undef),(39,undef),(40,undef),(41,undef),(42,undef),(43,undef),(44,.bool false)]
        ⟨ym r5,Ce r6 (fun _=>C3 (by simp;omega)),ym r5,AN r6,AN r6,AN r6,AN r6,AN r6,AN r6,AN r6,AN r6,AN r6,AN r6,AN r6,BF r7,AOW⟩ fun a41 w41 g41 Eu=>?_
       refine k40 _ _ ?_
       refine Au Eu rfl rfl ?_
       refine AOU ?_
       refine y36 _ _ ?_
       refine k35 _ _ ?_
       refine AOP ?_
       refine AH Eu 1 [(45,.int .i64 (((i+1:Nat):Int)))]
        ⟨Ce r6 (fun _=>Dd (by rw[BT (by omega) (by omega)];omega)),AOW⟩ fun a42 w42 g42 Gj=>?_
       have Qz:=AA g41 g42
       refine AH (Gj.dl [27]) 1 [(27,.int .i64 (((i+1:Nat):Int)))]
        ⟨ym r5,AOW⟩ fun a43 w43 g43 IK=>?_
       have Ul:=AA Qz g43
       refine AD ?_
       replace hr:=hr.kn Ul
       replace HG:=AA HG Ul
       exact⟨⟨i+1,by omega,fun k hk=>if e:k=i then (by rw[e,hchk];exact hok) else hb k (by omega),⟨IK.1,IK.2.1,IK.2.2.1,(AG (AG IK)).2.2.2.2.2.2.1,(AG (AG IK)).2.2.2.2.2.2.2.1,(AG (AG (AG IK))).1,(AG (AG (AG IK))).2.1,(AG (AG (AG IK))).2.2.1,(AG (AG (AG IK))).2.2.2.1,(AG (AG (AG IK))).2.2.2.2.1,(AG (AG (AG IK))).2.2.2.2.2.1,AOW⟩,HG,hr⟩,by rw[show _=_ from IK.2.2.1,show _=_ from IJ.2.2.1];simp[intOf];omega⟩
     · have hok:(decide (i=0)||E5 y.x x.x)=true:=by simp[hz,hc]
       refine Dx JY [(30,.int .i64 ((i:Int))),(31,.bool true),(32,.bool true),(33,.slice ao ds.length cap),(34,.int .i64 ((i:Int))),(35,.int .i64 (((i-1:Nat):Int))),(36,pk ((bO ao)) (oO ao+(i-1)*32)),(37,.slice ((some ⟨(bO ao),oO ao+(i-1)*32,none⟩)) 32 32),(38,.slice ao ds.length cap),(39,.int .i64 ((i:Int))),(40,pk ((bO ao)) (oO ao+i*32)),(41,.slice ((some ⟨(bO ao),oO ao+i*32,none⟩)) 32 32),(42,.int .i64 ((I6 y.x x.x))),(43,.bool false),(44,.bool false)]
        ⟨ym r5,Ce r6 (fun _=>C3 (by simp;omega)),ym r5,Ae rq8,Ae rq8,Ai rq9 (fun _=>GY (by rw[BT (by omega) (by omega)];omega)),Cf rfl rfl (gy rfl rfl rfl) (oy rfl rfl) (oy rfl rfl) (fun w=>CF Tryz.underlying28 (by kernel_rfl) (hr.1) (by omega) (rfl) w) (fun _=>rfl),I4 (l:=none) (u:=none) rfl rfl (gy rfl rfl rfl) (oy rfl rfl) trivial trivial (Mr ((bO ao)) (oO ao+(i-1)*32)) (fun _=>rfl),Ae rq8,Ae rq8,Cf rfl rfl (gy rfl rfl rfl) (oy rfl rfl) (oy rfl rfl) (fun w=>CF Tryz.underlying28 (by kernel_rfl) (hr.1) (by omega) (rfl) w) (fun _=>rfl),I4 (l:=none) (u:=none) rfl rfl (gy rfl rfl rfl) (oy rfl rfl) trivial trivial (Mr ((bO ao)) (oO ao+i*32)) (fun _=>rfl),CG [.slice ((some ⟨(bO ao),oO ao+(i-1)*32,none⟩)) 32 32,.slice ((some ⟨(bO ao),oO ao+i*32,none⟩)) 32 32] Tryz.func94 (by kernel_rfl) r7 ⟨(oy rfl rfl),(oy rfl rfl),AOW⟩ (A1 fun W g=>L5 y.h x.h (by have:=CW (hr.kn g).1 Dj hp (by decide);rw[hx_y] at this;exact this) (by have:=CW (hr.kn g).1 Dj hi (by decide);rw[hx_x] at this;exact this)),Ai rq9 (fun _=>Dp (by rw[NS,hc];rfl)),Ah rq9,AOW⟩ fun a44 w44 g44 Mv=>?_
       refine k40 _ _ ?_
       refine Au Mv rfl rfl ?_
       refine AOU ?_
       refine y36 _ _ ?_
       refine k35 _ _ ?_
       refine AOP ?_
       refine AH Mv 1 [(45,.int .i64 (((i+1:Nat):Int)))]
        ⟨Ce r6 (fun _=>Dd (by rw[BT (by omega) (by omega)];omega)),AOW⟩ fun a45 w45 g45 FT=>?_
       have Sh:=AA g44 g45
       refine AH (FT.dl [27]) 1 [(27,.int .i64 (((i+1:Nat):Int)))]
        ⟨ym r5,AOW⟩ fun a46 w46 g46 JK=>?_
       have AJp:=AA Sh g46
       refine AD ?_
       replace hr:=hr.kn AJp
       replace HG:=AA HG AJp
       exact⟨⟨i+1,by omega,fun k hk=>if e:k=i then (by rw[e,hchk];exact hok) else hb k (by omega),⟨JK.1,JK.2.1,JK.2.2.1,(AG (AG JK)).2.2.2.2.2.2.1,(AG (AG JK)).2.2.2.2.2.2.2.1,(AG (AG (AG JK))).1,(AG (AG (AG JK))).2.1,(AG (AG (AG JK))).2.2.1,(AG (AG (AG JK))).2.2.2.1,(AG (AG (AG JK))).2.2.2.2.1,(AG (AG (AG JK))).2.2.2.2.2.1,AOW⟩,HG,hr⟩,by rw[show _=_ from JK.2.2.1,show _=_ from IJ.2.2.1];simp[intOf];omega⟩
     · refine Dx JY [(30,.int .i64 ((i:Int))),(31,.bool true),(32,.bool true),(33,.slice ao ds.length cap),(34,.int .i64 ((i:Int))),(35,.int .i64 (((i-1:Nat):Int))),(36,pk ((bO ao)) (oO ao+(i-1)*32)),(37,.slice ((some ⟨(bO ao),oO ao+(i-1)*32,none⟩)) 32 32),(38,.slice ao ds.length cap),(39,.int .i64 ((i:Int))),(40,pk ((bO ao)) (oO ao+i*32)),(41,.slice ((some ⟨(bO ao),oO ao+i*32,none⟩)) 32 32),(42,.int .i64 ((I6 y.x x.x))),(43,.bool true),(44,.bool true)]
        ⟨ym r5,Ce r6 (fun _=>C3 (by simp;omega)),ym r5,Ae rq8,Ae rq8,Ai rq9 (fun _=>GY (by rw[BT (by omega) (by omega)];omega)),Cf rfl rfl (gy rfl rfl rfl) (oy rfl rfl) (oy rfl rfl) (fun w=>CF Tryz.underlying28 (by kernel_rfl) (hr.1) (by omega) (rfl) w) (fun _=>rfl),I4 (l:=none) (u:=none) rfl rfl (gy rfl rfl rfl) (oy rfl rfl) trivial trivial (Mr ((bO ao)) (oO ao+(i-1)*32)) (fun _=>rfl),Ae rq8,Ae rq8,Cf rfl rfl (gy rfl rfl rfl) (oy rfl rfl) (oy rfl rfl) (fun w=>CF Tryz.underlying28 (by kernel_rfl) (hr.1) (by omega) (rfl) w) (fun _=>rfl),I4 (l:=none) (u:=none) rfl rfl (gy rfl rfl rfl) (oy rfl rfl) trivial trivial (Mr ((bO ao)) (oO ao+i*32)) (fun _=>rfl),CG [.slice ((some ⟨(bO ao),oO ao+(i-1)*32,none⟩)) 32 32,.slice ((some ⟨(bO ao),oO ao+i*32,none⟩)) 32 32] Tryz.func94 (by kernel_rfl) r7 ⟨(oy rfl rfl),(oy rfl rfl),AOW⟩ (A1 fun W g=>L5 y.h x.h (by have:=CW (hr.kn g).1 Dj hp (by decide);rw[hx_y] at this;exact this) (by have:=CW (hr.kn g).1 Dj hi (by decide);rw[hx_x] at this;exact this)),Ai rq9 (fun _=>Dp (by rw[NS,hc];rfl)),Ah rq9,AOW⟩ fun a47 w47 g47 Kx=>?_
       refine k40 _ _ ?_
       refine Am Kx rfl rfl ?_
       refine AOQ fun K48 k48=>?_
       refine AOP ?_
       refine AS (v:=.bool false) Kx r6 fun a49 ER=>?_
       refine AD ?_
       refine k48 _ _ ?_
       replace HG:=AA HG g47
       refine AOT ?_
       repeat refine AM ?_
       refine rt36 _ _ ?_
       repeat refine AM ?_
       refine rt30 _ _ ?_
       repeat refine AM ?_
       refine Ap (fn:=Tryz.f50) ER (BK (p:=6) Tryz.results50 ER rfl rfl) ?_
       exact⟨E6 ((ADK (AHm (i:=i) (by rw[hmap];exact hi) (by rw[hchk];simp[hc,Nat.ne_of_gt hz]))).symm),HG⟩
   · refine AOP ?_
     refine AH IJ 1 [(28,.bool false)]
       ⟨Fg r7 (fun _=>BR (by simp;omega)),AOW⟩ fun a50 w50 g50 Ky=>?_
     refine AD ?_
     refine k32 _ _ ?_
     refine AOQ fun K51 k51=>?_
     refine Au Ky rfl rfl ?_
     refine wp_exit ?_
     repeat refine CA ?_
     refine x30 _ _ ?_
     refine k27 _ _ ?_
     refine AOQ fun K52 k52=>?_
     refine AOP ?_
     refine AS (v:=.bool true) Ky r6 fun a53 FU=>?_
     refine AD ?_
     refine k52 _ _ ?_
     replace HG:=AA HG g50
     refine AOT ?_
     repeat refine AM ?_
     refine Ap (fn:=Tryz.f50) FU (BK (p:=6) Tryz.results50 FU rfl rfl) ?_
     exact⟨E6 ((ADL h0 h2 (by omega) (AEW fun k hk=>hb k (by omega))).symm),HG⟩
theorem AHp (ds:List DD) (ao:Option Addr) (cap:Nat) (w:World) (hr:RdD w (.slice ao ds.length cap) ds) :
   Calls Tryz.prog 88 #[.slice ao ds.length cap] w fun e w'=>e=.returned (.bool (ZR (ds.map DD.x)))∧w.grownBy w' none:=by
 have hmap:(ds.map DD.x).length=ds.length:=List.length_map _
 have hlen:=hr.len
 refine BV Tryz.func88 rfl Tryz.ntmps88 rfl fun a0 sv0=>?_
 have HG:=World.grownBy.refl w none
 replace sv0:Sv 21 [] [(0,.slice ao ds.length cap)] a0:=sv0
 refine AOQ fun K1 k1=>?_
 refine AOP ?_
 refine AS (v:=.bool false) sv0 r6 fun a2 sv2=>?_
 refine AD ?_
 refine k1 _ _ ?_
 refine AOQ fun K3 k3=>?_
 refine AOQ fun K4 k4=>?_
 refine AOP ?_
 refine AS (v:=.int .i64 1) sv2 r6 fun a5 sv5=>?_
 refine AD ?_
 refine k4 _ _ ?_
 refine BH fun Q6 x6 y6 rt6 o6=>?_
 refine wp_loop (fun a w'=>∃(i:Nat),(i≤ds.length+1)∧(0<i)∧(∀k,k<i→XX (ds.map DD.x) k=true)∧Sv 21 [] [(3,.int .i64 ((i:Int))),(0,.slice ao ds.length cap)] a∧w.grownBy w' none∧RdD w' (.slice ao ds.length cap) ds) (fun a _=>(ds.length+1-intOf (a.tmps.getD 3 undef)).toNat) ⟨1,by omega,by omega,fun k hk=>ALf (by omega),⟨sv5.1,sv5.2.1,sv5.2.2.1,sv5.2.2.2.2.1,AOW⟩,HG,hr⟩ fun a7 w7 hI7=>?_
 clear hr
 clear HG
 obtain⟨i,hin,hi1,hb,sv7,HG,hr⟩:=hI7
 refine AOQ fun K8 k8=>?_
 refine AOQ fun K9 k9=>?_
 by_cases hi:i<ds.length
 · have hp:i-1<ds.length:=by omega
   obtain⟨x,hx_x⟩:∃x,ds[i]'hi=x:=⟨_,rfl⟩
   obtain⟨y,hx_y⟩:∃x,ds[(i-1)]'hp=x:=⟨_,rfl⟩
   have hchk:=AHn hi hp hx_x hx_y
   refine AOP ?_
   refine AH sv7 4 [(4,.int .i64 ((i:Int))),(5,.slice ao ds.length cap),(6,.int .i64 ((ds.length:Nat))),(7,.bool true)]
     ⟨ym r5,ym r5,BJ (Tryz.underlying28) rfl rfl trivial (oy rfl rfl) (fun _=>rfl),Fg r7 (fun _=>BR (by simp;omega)),AOW⟩ fun a10 w10 g10 Bt=>?_
   refine AD ?_
   refine k9 _ _ ?_
   refine Am Bt rfl rfl ?_
   refine AOU ?_
   refine k8 _ _ ?_
   refine AOQ fun K11 k11=>?_
   refine BH fun Q12 x12 y12 rt12 o12=>?_
   refine AOQ fun K13 k13=>?_
   replace hr:=hr.kn g10
   replace HG:=AA HG g10
   cases hc:E5 y.x x.x
   · refine Dx Bt [(10,.slice ao ds.length cap),(11,.int .i64 ((i:Int))),(12,.int .i64 (((i-1:Nat):Int))),(13,pk ((bO ao)) (oO ao+(i-1)*32)),(14,AQ y.x),(15,.slice ao ds.length cap),(16,.int .i64 ((i:Int))),(17,pk ((bO ao)) (oO ao+i*32)),(18,AQ x.x),(19,.bool false),(20,.bool true)]
      ⟨ym r5,ym r5,Ce r6 (fun _=>GY (by rw[BT (by omega) (by omega)];omega)),BD rq8 (fun w=>CF Tryz.underlying28 (by kernel_rfl) (hr.1) (by omega) (rfl) w),Bj r6 (fun _ g=>Ad (Bb y.x y.h.1) (by have:=CW (hr.kn g).1 Dj hp (by decide);rw[hx_y] at this;exact this)),ym r5,ym r5,BD rq8 (fun w=>CF Tryz.underlying28 (by kernel_rfl) (hr.1) (by omega) (rfl) w),Bj r6 (fun _ g=>Ad (Bb x.x x.h.1) (by have:=CW (hr.kn g).1 Dj hi (by decide);rw[hx_x] at this;exact this)),Ag [AQ y.x,AQ x.x] Tryz.func86 (by kernel_rfl) rq4 ⟨(oy rfl rfl),(oy rfl rfl),AOW⟩ (A1 fun W g=>Jz hc y.h x.h W),C7 r6 (fun _=>Bf),AOW⟩ fun a14 w14 g14 D1=>?_
     refine k13 _ _ ?_
     refine Am D1 rfl rfl ?_
     refine AOQ fun K15 k15=>?_
     refine AOP ?_
     refine AS (v:=.bool false) D1 r6 fun a16 DG=>?_
     refine AD ?_
     refine k15 _ _ ?_
     replace hr:=hr.kn g14
     replace HG:=AA HG g14
     refine AOT ?_
     repeat refine AM ?_
     refine rt12 _ _ ?_
     repeat refine AM ?_
     refine rt6 _ _ ?_
     repeat refine AM ?_
     refine Ap (fn:=Tryz.f88) DG (BK (p:=2) Tryz.results88 DG rfl rfl) ?_
     exact⟨E6 ((AHm (i:=i) (by rw[hmap];exact hi) (by rw[hchk];simp[hc,Nat.ne_of_gt hi1])).symm),HG⟩
   · have hok:(decide (i=0)||E5 y.x x.x)=true:=by simp[hc]
     refine Dx Bt [(10,.slice ao ds.length cap),(11,.int .i64 ((i:Int))),(12,.int .i64 (((i-1:Nat):Int))),(13,pk ((bO ao)) (oO ao+(i-1)*32)),(14,AQ y.x),(15,.slice ao ds.length cap),(16,.int .i64 ((i:Int))),(17,pk ((bO ao)) (oO ao+i*32)),(18,AQ x.x),(19,.bool true),(20,.bool false)]
      ⟨ym r5,ym r5,Ce r6 (fun _=>GY (by rw[BT (by omega) (by omega)];omega)),BD rq8 (fun w=>CF Tryz.underlying28 (by kernel_rfl) (hr.1) (by omega) (rfl) w),Bj r6 (fun _ g=>Ad (Bb y.x y.h.1) (by have:=CW (hr.kn g).1 Dj hp (by decide);rw[hx_y] at this;exact this)),ym r5,ym r5,BD rq8 (fun w=>CF Tryz.underlying28 (by kernel_rfl) (hr.1) (by omega) (rfl) w),Bj r6 (fun _ g=>Ad (Bb x.x x.h.1) (by have:=CW (hr.kn g).1 Dj hi (by decide);rw[hx_x] at this;exact this)),Ag [AQ y.x,AQ x.x] Tryz.func86 (by kernel_rfl) rq4 ⟨(oy rfl rfl),(oy rfl rfl),AOW⟩ (A1 fun W g=>Jz hc y.h x.h W),C7 r6 (fun _=>Bf),AOW⟩ fun a17 w17 g17 EK=>?_
     refine k13 _ _ ?_
     refine Au EK rfl rfl ?_
     refine AOU ?_
     refine y12 _ _ ?_
     refine k11 _ _ ?_
     refine AOP ?_
     refine AH EK 2 [(8,.int .i64 ((i:Int))),(9,.int .i64 (((i+1:Nat):Int)))]
      ⟨ym r5,Ce r6 (fun _=>Dd (by rw[BT (by omega) (by omega)];omega)),AOW⟩ fun a18 w18 g18 CY=>?_
     have AC0:=AA g17 g18
     refine AS (v:=.int .i64 (((i+1:Nat):Int))) CY r6 fun a19 Dq=>?_
     refine AD ?_
     replace hr:=hr.kn AC0
     replace HG:=AA HG AC0
     exact⟨⟨i+1,by omega,by omega,fun k hk=>if e:k=i then (by rw[e,hchk];exact hok) else hb k (by omega),⟨Dq.1,Dq.2.1,Dq.2.2.1,(AG (AG Dq)).2.2.2.2.1,AOW⟩,HG,hr⟩,by rw[show _=_ from Dq.2.2.1,show _=_ from sv7.2.2.1];simp[intOf];omega⟩
 · refine AOP ?_
   refine AH sv7 4 [(4,.int .i64 ((i:Int))),(5,.slice ao ds.length cap),(6,.int .i64 ((ds.length:Nat))),(7,.bool false)]
     ⟨ym r5,ym r5,BJ (Tryz.underlying28) rfl rfl trivial (oy rfl rfl) (fun _=>rfl),Fg r7 (fun _=>BR (by simp;omega)),AOW⟩ fun a20 w20 g20 Du=>?_
   refine AD ?_
   refine k9 _ _ ?_
   refine Au Du rfl rfl ?_
   refine wp_exit ?_
   repeat refine CA ?_
   refine x6 _ _ ?_
   refine k3 _ _ ?_
   refine AOQ fun K21 k21=>?_
   refine AOP ?_
   refine AS (v:=.bool true) Du r6 fun a22 B7=>?_
   refine AD ?_
   refine k21 _ _ ?_
   replace HG:=AA HG g20
   refine AOT ?_
   repeat refine AM ?_
   refine Ap (fn:=Tryz.f88) B7 (BK (p:=2) Tryz.results88 B7 rfl rfl) ?_
   exact⟨E6 ((AEW fun k hk=>hb k (by omega)).symm),HG⟩
theorem AEX {w:World} {ds:List DD} {ao:Option Addr} {cap:Nat} {b:Bool} (hr:RdD w (.slice ao ds.length cap) ds) (hb:ZR (ds.map DD.x)=b):Calls Tryz.prog 88 #[.slice ao ds.length cap] w fun e w'=>e=.returned (.bool b)∧w.grownBy w' none:=hb▸AHp ds ao cap w hr
theorem ADN (ds:List DD) (ao:Option Addr) (cap:Nat) (joint addr:Int) (w:World) (hr:RdD w (.slice ao ds.length cap) ds) :
   Calls Tryz.prog 41 #[.slice ao ds.length cap,.int .i64 joint,.int .i64 addr] w fun e w'=>e=.returned (.bool (hd (ds.map DD.x) joint addr))∧w.grownBy w' none:=by
 have hmap:(ds.map DD.x).length=ds.length:=List.length_map _
 refine BV Tryz.func41 rfl Tryz.ntmps41 rfl fun a0 sv0=>?_
 have HG:=World.grownBy.refl w none
 replace sv0:Sv 30 [] [(0,.slice ao ds.length cap),(1,.int .i64 joint),(2,.int .i64 addr)] a0:=sv0
 refine AOQ fun K1 k1=>?_
 refine AOP ?_
 refine AS (v:=.bool false) sv0 r6 fun a2 sv2=>?_
 refine AD ?_
 refine k1 _ _ ?_
 refine AOQ fun K3 k3=>?_
 rcases(show addr<0∨(0≤addr∧17179869184≤addr)∨((0≤addr∧addr<17179869184)∧joint≠0∧joint≠1)∨((0≤addr∧addr<17179869184)∧joint=0∧16<ds.length)∨((0≤addr∧addr<17179869184)∧joint=1∧16<ds.length)∨((0≤addr∧addr<17179869184)∧joint=0∧ds.length≤16∧ZR (ds.map DD.x)=false)∨((0≤addr∧addr<17179869184)∧joint=1∧ds.length≤16∧ZR (ds.map DD.x)=false)∨((0≤addr∧addr<17179869184)∧joint=0∧ds.length≤16∧ZR (ds.map DD.x)=true)∨((0≤addr∧addr<17179869184)∧joint=1∧ds.length≤16∧ZR (ds.map DD.x)=true) by cases ZR (ds.map DD.x)<;>simp<;>omega) with h1|⟨h0,h1⟩|⟨h0,h1,h2⟩|⟨h0,h2,h3⟩|⟨h0,h2,h3⟩|⟨h0,h2,h3,hc⟩|⟨h0,h2,h3,hc⟩|⟨h0,h2,h3,hc⟩|⟨h0,h2,h3,hc⟩
 · refine AOP ?_
   refine AH sv2 23 [(7,.int .i64 addr),(8,.bool false),(9,.bool false),(10,undef),(11,undef),(12,.bool false),(13,.bool false),(14,undef),(15,undef),(16,undef),(17,undef),(18,undef),(19,undef),(20,.bool false),(21,.bool false),(22,undef),(23,undef),(24,undef),(25,.bool false),(26,.bool false),(27,undef),(28,undef),(29,.bool false)]
    ⟨ym r5,Ce r6 (fun _=>Dp (decide_eq_false (by omega))),ym r5,AN r6,AN r6,BF r7,ym r5,AN r6,AN r6,AN r6,Ba ⟨16,rfl,rfl,fun _ _ h=>h⟩ rfl (fun _=>rfl),Ba ⟨16,rfl,rfl,fun _ _ h=>h⟩ rfl (fun _=>rfl),AN r6,BF r7,ym r5,AN r6,AN r6,AN r6,BF r7,ym r5,AN r6,AN r6,BF r7,AOW⟩ fun a4 w4 g4 sv4=>?_
   refine AS (v:=.bool false) sv4 r6 fun a5 sv5=>?_
   have sv6:Sv _ _ [_] _:=sv5.dl [7,8,9,10,11,12,13,14,15,16,17,18,19,20,21,22,23,24,25,26,27,28,29,0,1,2]
   refine AD ?_
   refine k3 _ _ ?_
   replace hr:=hr.kn g4
   replace HG:=AA HG g4
   refine AOT ?_
   repeat refine AM ?_
   refine Ap (fn:=Tryz.f41) sv6 (BK (p:=6) Tryz.results41 sv6 rfl rfl) ?_
   exact⟨E6 ((Ra (.inl h1)).symm),HG⟩
 · refine AOP ?_
   refine AH sv2 23 [(7,.int .i64 addr),(8,.bool true),(9,.bool true),(10,.int .i64 addr),(11,.bool false),(12,.bool false),(13,.bool false),(14,undef),(15,undef),(16,undef),(17,undef),(18,undef),(19,undef),(20,.bool false),(21,.bool false),(22,undef),(23,undef),(24,undef),(25,.bool false),(26,.bool false),(27,undef),(28,undef),(29,.bool false)]
    ⟨ym r5,Ce r6 (fun _=>Dp (decide_eq_true (by omega))),ym r5,Ae rq8,Ai rq9 (fun _=>BR (decide_eq_false (by omega))),Ah rq9,ym r5,AN r6,AN r6,AN r6,Ba ⟨16,rfl,rfl,fun _ _ h=>h⟩ rfl (fun _=>rfl),Ba ⟨16,rfl,rfl,fun _ _ h=>h⟩ rfl (fun _=>rfl),AN r6,BF r7,ym r5,AN r6,AN r6,AN r6,BF r7,ym r5,AN r6,AN r6,BF r7,AOW⟩ fun a7 w7 g7 sv7=>?_
   refine AS (v:=.bool false) sv7 r6 fun a8 sv8=>?_
   have sv9:Sv _ _ [_] _:=sv8.dl [7,8,9,10,11,12,13,14,15,16,17,18,19,20,21,22,23,24,25,26,27,28,29,0,1,2]
   refine AD ?_
   refine k3 _ _ ?_
   replace hr:=hr.kn g7
   replace HG:=AA HG g7
   refine AOT ?_
   repeat refine AM ?_
   refine Ap (fn:=Tryz.f41) sv9 (BK (p:=6) Tryz.results41 sv9 rfl rfl) ?_
   exact⟨E6 ((Ra (.inr h1)).symm),HG⟩
 · refine AOP ?_
   refine AH sv2 23 [(7,.int .i64 addr),(8,.bool true),(9,.bool true),(10,.int .i64 addr),(11,.bool true),(12,.bool true),(13,.bool true),(14,.int .i64 joint),(15,.bool false),(16,.bool false),(17,.int .i64 joint),(18,.bool false),(19,.bool false),(20,.bool false),(21,.bool false),(22,undef),(23,undef),(24,undef),(25,.bool false),(26,.bool false),(27,undef),(28,undef),(29,.bool false)]
    ⟨ym r5,Ce r6 (fun _=>Dp (decide_eq_true (by omega))),ym r5,Ae rq8,Ai rq9 (fun _=>BR (decide_eq_true (by omega))),Ah rq9,ym r5,Ae rq8,Ai rq9 (fun _=>BM (by simp;omega)),Ae rq8,Ae rq8,Ai rq9 (fun _=>BM (by simp;omega)),E3 rfl rfl (gy rfl rfl rfl) (oy rfl rfl) (oy rfl rfl) (fun _=>rfl),Ah rq9,ym r5,AN r6,AN r6,AN r6,BF r7,ym r5,AN r6,AN r6,BF r7,AOW⟩ fun a10 w10 g10 Bt=>?_
   refine AS (v:=.bool false) Bt r6 fun a11 CQ=>?_
   have DF:Sv _ _ [_] _:=CQ.dl [7,8,9,10,11,12,13,14,15,16,17,18,19,20,21,22,23,24,25,26,27,28,29,0,1,2]
   refine AD ?_
   refine k3 _ _ ?_
   replace hr:=hr.kn g10
   replace HG:=AA HG g10
   refine AOT ?_
   repeat refine AM ?_
   refine Ap (fn:=Tryz.f41) DF (BK (p:=6) Tryz.results41 DF rfl rfl) ?_
   exact⟨E6 ((AAj h1 h2).symm),HG⟩
 · refine AOP ?_
   refine AH sv2 23 [(7,.int .i64 addr),(8,.bool true),(9,.bool true),(10,.int .i64 addr),(11,.bool true),(12,.bool true),(13,.bool true),(14,.int .i64 joint),(15,.bool true),(16,.bool true),(17,undef),(18,undef),(19,.bool true),(20,.bool true),(21,.bool true),(22,.slice ao ds.length cap),(23,.int .i64 ((ds.length:Nat))),(24,.bool false),(25,.bool false),(26,.bool false),(27,undef),(28,undef),(29,.bool false)]
    ⟨ym r5,Ce r6 (fun _=>Dp (decide_eq_true (by omega))),ym r5,Ae rq8,Ai rq9 (fun _=>BR (decide_eq_true (by omega))),Ah rq9,ym r5,Ae rq8,Ai rq9 (fun _=>BM (by simp;omega)),Ae rq8,AN r6,AN r6,E3 rfl rfl (gy rfl rfl rfl) (oy rfl rfl) rfl (fun _=>rfl),Ah rq9,ym r5,Ae rq8,BJ (Tryz.underlying28) rfl rfl (gy rfl rfl rfl) (oy rfl rfl) (fun _=>rfl),Ai rq9 (fun _=>Jv (by simp;omega)),Ah rq9,ym r5,AN r6,AN r6,BF r7,AOW⟩ fun a13 w13 g13 Cx=>?_
   refine AS (v:=.bool false) Cx r6 fun a14 D1=>?_
   have Fp:Sv _ _ [_] _:=D1.dl [7,8,9,10,11,12,13,14,15,16,17,18,19,20,21,22,23,24,25,26,27,28,29,0,1,2]
   refine AD ?_
   refine k3 _ _ ?_
   replace hr:=hr.kn g13
   replace HG:=AA HG g13
   refine AOT ?_
   repeat refine AM ?_
   refine Ap (fn:=Tryz.f41) Fp (BK (p:=6) Tryz.results41 Fp rfl rfl) ?_
   exact⟨E6 ((ADJ (by omega)).symm),HG⟩
 · refine AOP ?_
   refine AH sv2 23 [(7,.int .i64 addr),(8,.bool true),(9,.bool true),(10,.int .i64 addr),(11,.bool true),(12,.bool true),(13,.bool true),(14,.int .i64 joint),(15,.bool false),(16,.bool false),(17,.int .i64 joint),(18,.bool true),(19,.bool true),(20,.bool true),(21,.bool true),(22,.slice ao ds.length cap),(23,.int .i64 ((ds.length:Nat))),(24,.bool false),(25,.bool false),(26,.bool false),(27,undef),(28,undef),(29,.bool false)]
    ⟨ym r5,Ce r6 (fun _=>Dp (decide_eq_true (by omega))),ym r5,Ae rq8,Ai rq9 (fun _=>BR (decide_eq_true (by omega))),Ah rq9,ym r5,Ae rq8,Ai rq9 (fun _=>BM (by simp;omega)),Ae rq8,Ae rq8,Ai rq9 (fun _=>BM (by simp;omega)),E3 rfl rfl (gy rfl rfl rfl) (oy rfl rfl) (oy rfl rfl) (fun _=>rfl),Ah rq9,ym r5,Ae rq8,BJ (Tryz.underlying28) rfl rfl (gy rfl rfl rfl) (oy rfl rfl) (fun _=>rfl),Ai rq9 (fun _=>Jv (by simp;omega)),Ah rq9,ym r5,AN r6,AN r6,BF r7,AOW⟩ fun a16 w16 g16 DG=>?_
   refine AS (v:=.bool false) DG r6 fun a17 EK=>?_
   have CY:Sv _ _ [_] _:=EK.dl [7,8,9,10,11,12,13,14,15,16,17,18,19,20,21,22,23,24,25,26,27,28,29,0,1,2]
   refine AD ?_
   refine k3 _ _ ?_
   replace hr:=hr.kn g16
   replace HG:=AA HG g16
   refine AOT ?_
   repeat refine AM ?_
   refine Ap (fn:=Tryz.f41) CY (BK (p:=6) Tryz.results41 CY rfl rfl) ?_
   exact⟨E6 ((ADJ (by omega)).symm),HG⟩
 · refine AOP ?_
   refine AH sv2 23 [(7,.int .i64 addr),(8,.bool true),(9,.bool true),(10,.int .i64 addr),(11,.bool true),(12,.bool true),(13,.bool true),(14,.int .i64 joint),(15,.bool true),(16,.bool true),(17,undef),(18,undef),(19,.bool true),(20,.bool true),(21,.bool true),(22,.slice ao ds.length cap),(23,.int .i64 ((ds.length:Nat))),(24,.bool true),(25,.bool true),(26,.bool true),(27,.slice ao ds.length cap),(28,.bool false),(29,.bool false)]
    ⟨ym r5,Ce r6 (fun _=>Dp (decide_eq_true (by omega))),ym r5,Ae rq8,Ai rq9 (fun _=>BR (decide_eq_true (by omega))),Ah rq9,ym r5,Ae rq8,Ai rq9 (fun _=>BM (by simp;omega)),Ae rq8,AN r6,AN r6,E3 rfl rfl (gy rfl rfl rfl) (oy rfl rfl) rfl (fun _=>rfl),Ah rq9,ym r5,Ae rq8,BJ (Tryz.underlying28) rfl rfl (gy rfl rfl rfl) (oy rfl rfl) (fun _=>rfl),Ai rq9 (fun _=>Jv (by simp;omega)),Ah rq9,ym r5,Ae rq8,CG [.slice ao ds.length cap] Tryz.func88 (by kernel_rfl) r7 ⟨(oy rfl rfl),AOW⟩ (A1 fun W g=>AEX (hr.kn g) hc),Ah rq9,AOW⟩ fun a19 w19 g19 Dq=>?_
   refine AS (v:=.bool false) Dq r6 fun a20 Du=>?_
   have Dl:Sv _ _ [_] _:=Du.dl [7,8,9,10,11,12,13,14,15,16,17,18,19,20,21,22,23,24,25,26,27,28,29,0,1,2]
   refine AD ?_
   refine k3 _ _ ?_
   replace hr:=hr.kn g19
   replace HG:=AA HG g19
   refine AOT ?_
   repeat refine AM ?_
   refine Ap (fn:=Tryz.f41) Dl (BK (p:=6) Tryz.results41 Dl rfl rfl) ?_
   exact⟨E6 ((ADK hc).symm),HG⟩
 · refine AOP ?_
   refine AH sv2 23 [(7,.int .i64 addr),(8,.bool true),(9,.bool true),(10,.int .i64 addr),(11,.bool true),(12,.bool true),(13,.bool true),(14,.int .i64 joint),(15,.bool false),(16,.bool false),(17,.int .i64 joint),(18,.bool true),(19,.bool true),(20,.bool true),(21,.bool true),(22,.slice ao ds.length cap),(23,.int .i64 ((ds.length:Nat))),(24,.bool true),(25,.bool true),(26,.bool true),(27,.slice ao ds.length cap),(28,.bool false),(29,.bool false)]
    ⟨ym r5,Ce r6 (fun _=>Dp (decide_eq_true (by omega))),ym r5,Ae rq8,Ai rq9 (fun _=>BR (decide_eq_true (by omega))),Ah rq9,ym r5,Ae rq8,Ai rq9 (fun _=>BM (by simp;omega)),Ae rq8,Ae rq8,Ai rq9 (fun _=>BM (by simp;omega)),E3 rfl rfl (gy rfl rfl rfl) (oy rfl rfl) (oy rfl rfl) (fun _=>rfl),Ah rq9,ym r5,Ae rq8,BJ (Tryz.underlying28) rfl rfl (gy rfl rfl rfl) (oy rfl rfl) (fun _=>rfl),Ai rq9 (fun _=>Jv (by simp;omega)),Ah rq9,ym r5,Ae rq8,CG [.slice ao ds.length cap] Tryz.func88 (by kernel_rfl) r7 ⟨(oy rfl rfl),AOW⟩ (A1 fun W g=>AEX (hr.kn g) hc),Ah rq9,AOW⟩ fun a22 w22 g22 B7=>?_
   refine AS (v:=.bool false) B7 r6 fun a23 Cc=>?_
   have EN:Sv _ _ [_] _:=Cc.dl [7,8,9,10,11,12,13,14,15,16,17,18,19,20,21,22,23,24,25,26,27,28,29,0,1,2]
   refine AD ?_
   refine k3 _ _ ?_
   replace hr:=hr.kn g22
   replace HG:=AA HG g22
   refine AOT ?_
   repeat refine AM ?_
   refine Ap (fn:=Tryz.f41) EN (BK (p:=6) Tryz.results41 EN rfl rfl) ?_
   exact⟨E6 ((ADK hc).symm),HG⟩
 · refine AOP ?_
   refine AH sv2 23 [(7,.int .i64 addr),(8,.bool true),(9,.bool true),(10,.int .i64 addr),(11,.bool true),(12,.bool true),(13,.bool true),(14,.int .i64 joint),(15,.bool true),(16,.bool true),(17,undef),(18,undef),(19,.bool true),(20,.bool true),(21,.bool true),(22,.slice ao ds.length cap),(23,.int .i64 ((ds.length:Nat))),(24,.bool true),(25,.bool true),(26,.bool true),(27,.slice ao ds.length cap),(28,.bool true),(29,.bool true)]
    ⟨ym r5,Ce r6 (fun _=>Dp (decide_eq_true (by omega))),ym r5,Ae rq8,Ai rq9 (fun _=>BR (decide_eq_true (by omega))),Ah rq9,ym r5,Ae rq8,Ai rq9 (fun _=>BM (by simp;omega)),Ae rq8,AN r6,AN r6,E3 rfl rfl (gy rfl rfl rfl) (oy rfl rfl) rfl (fun _=>rfl),Ah rq9,ym r5,Ae rq8,BJ (Tryz.underlying28) rfl rfl (gy rfl rfl rfl) (oy rfl rfl) (fun _=>rfl),Ai rq9 (fun _=>Jv (by simp;omega)),Ah rq9,ym r5,Ae rq8,CG [.slice ao ds.length cap] Tryz.func88 (by kernel_rfl) r7 ⟨(oy rfl rfl),AOW⟩ (A1 fun W g=>AEX (hr.kn g) hc),Ah rq9,AOW⟩ fun a25 w25 g25 DR=>?_
   refine AS (v:=.bool true) DR r6 fun a26 DH=>?_
   have HU:Sv _ _ [_] _:=DH.dl [7,8,9,10,11,12,13,14,15,16,17,18,19,20,21,22,23,24,25,26,27,28,29,0,1,2]
   refine AD ?_
   refine k3 _ _ ?_
   replace hr:=hr.kn g25
   replace HG:=AA HG g25
   refine AOT ?_
   repeat refine AM ?_
   refine Ap (fn:=Tryz.f41) HU (BK (p:=6) Tryz.results41 HU rfl rfl) ?_
   exact⟨E6 ((ADL h0 (.inl h2) (by omega) hc).symm),HG⟩
 · refine AOP ?_
   refine AH sv2 23 [(7,.int .i64 addr),(8,.bool true),(9,.bool true),(10,.int .i64 addr),(11,.bool true),(12,.bool true),(13,.bool true),(14,.int .i64 joint),(15,.bool false),(16,.bool false),(17,.int .i64 joint),(18,.bool true),(19,.bool true),(20,.bool true),(21,.bool true),(22,.slice ao ds.length cap),(23,.int .i64 ((ds.length:Nat))),(24,.bool true),(25,.bool true),(26,.bool true),(27,.slice ao ds.length cap),(28,.bool true),(29,.bool true)]
    ⟨ym r5,Ce r6 (fun _=>Dp (decide_eq_true (by omega))),ym r5,Ae rq8,Ai rq9 (fun _=>BR (decide_eq_true (by omega))),Ah rq9,ym r5,Ae rq8,Ai rq9 (fun _=>BM (by simp;omega)),Ae rq8,Ae rq8,Ai rq9 (fun _=>BM (by simp;omega)),E3 rfl rfl (gy rfl rfl rfl) (oy rfl rfl) (oy rfl rfl) (fun _=>rfl),Ah rq9,ym r5,Ae rq8,BJ (Tryz.underlying28) rfl rfl (gy rfl rfl rfl) (oy rfl rfl) (fun _=>rfl),Ai rq9 (fun _=>Jv (by simp;omega)),Ah rq9,ym r5,Ae rq8,CG [.slice ao ds.length cap] Tryz.func88 (by kernel_rfl) r7 ⟨(oy rfl rfl),AOW⟩ (A1 fun W g=>AEX (hr.kn g) hc),Ah rq9,AOW⟩ fun a28 w28 g28 Dm=>?_
   refine AS (v:=.bool true) Dm r6 fun a29 Ck=>?_
   have EF:Sv _ _ [_] _:=Ck.dl [7,8,9,10,11,12,13,14,15,16,17,18,19,20,21,22,23,24,25,26,27,28,29,0,1,2]
   refine AD ?_
   refine k3 _ _ ?_
   replace HG:=AA HG g28
   refine AOT ?_
   repeat refine AM ?_
   refine Ap (fn:=Tryz.f41) EF (BK (p:=6) Tryz.results41 EF rfl rfl) ?_
   exact⟨E6 ((ADL h0 (.inr h2) (by omega) hc).symm),HG⟩
end Go.Proofs.YtbfjfnbcmojpiaaGreat
