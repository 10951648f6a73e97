import Derived.Test.YtbfjfnbcmojpiaaGreatAlY1
import Derived.Test.YtbfjfnbcmojpiaaGreatAlSG
import Derived.Test.YtbfjfnbcmojpiaaGreatAlSH
set_option linter.unusedSimpArgs false
set_option linter.unusedVariables false
set_option maxRecDepth 100000
set_option maxHeartbeats 4000000
namespace Go.Proofs.YtbfjfnbcmojpiaaGreat
open Go.RowKit Go.Shelf
structure DD where
 x:List Nat
 h:Dg x
def LM (d:DD):List Value:=bv d.x
theorem GF (d:DD):(LM d).length=32:=by unfold LM;rw[AI,d.h.1]
def RdD (w:World) (v:Value) (ds:List DD):Prop:=SlB w 32 v ds.length (ds.flatMap LM)
section
variable {w w':World} {v:Value} {ds:List DD}
theorem RdD.kn (h:RdD w v ds) (g:w.grownBy w' none):RdD w' v ds:=SlB.kn h g
theorem RdD.lt (h:RdD w v ds):∀k,Bk v k→k<w.heap.size:=SlB.lt h
theorem RdD.offR (h:RdD w v ds) {row:Option Nat} (g:w.grownBy w' row) (hb:∀k,Bk v k→row≠some k):RdD w' v ds:=SlB.offR h g hb
theorem RdD.nil (w:World):RdD w (.slice none 0 0) []:=⟨Sl.nil w 32,fun k hk=>by simp[Bk,Value.ownBlock] at hk⟩
theorem RdD.shape (h:RdD w v ds):∃ao cap,v=.slice ao ds.length cap:=by
 obtain⟨ao,cap,rfl,_⟩:=h.1.shape
 exact⟨ao,cap,rfl⟩
end
theorem Lu {ds:List DD} {j:Nat} (h:j<ds.length):Ls (ds.map DD.x) j=ds[j].x:=by rw[AAX (by simpa using h),List.getElem_map]
theorem AI6 {ds:List DD} {i:Nat} {x y:DD} (hi:i<ds.length) (hp:i-1<ds.length) (hx:ds[i]=x) (hy:ds[i-1]=y):AAY (ds.map DD.x) i=(decide (i=0)||Eg y.x x.x):=by
 unfold AAY
 rw[Lu hi,Lu hp,hx,hy]
theorem J3 (v:Value) (h:v.oneCell'=true):TY Tryz.prog 28 [v] v:=TY.one' Tryz.underlying28 rfl (by kernel_rfl) h
def cb (n:Nat):List Value:=[.int .u8 (n:Int)]
theorem AAZ (n:Nat):(cb n).length=1:=rfl
theorem NP (l:List Nat):bv l=l.flatMap cb:=by
 induction l with
 | nil=>rfl
 | cons a l ih=>rw[List.flatMap_cons,←ih];rfl
theorem YZ {w:World} {n cap j:Nat} {ao:Option Addr} {l:List Nat} (h:Sl w 1 (.slice ao n cap) n (bv l)) (hj:j<l.length):w.rangeAt (bO ao) (oO ao+j*1) [.int .u8 (l[j]:Int)]:=by
 rw[NP] at h
 exact DU h AAZ hj (by decide)
theorem Gu (x:Int):TY Tryz.prog 2 [.int .i64 x] (.int .i64 x):=TY.one' Tryz.underlying2 rfl (by kernel_rfl) rfl
theorem dsT:ET Tryz.prog 28 23 (AP AR) 32 32:=⟨Tryz.underlying28,info_parts (by kernel_rfl),rfl,by decide,by decide⟩
theorem ABY {own:List (List Nat)} {joint addr:Int} (h:addr<0∨17179869184≤addr):hd own joint addr=false:=by
 have:Br addr=false:=by unfold Br;simp;omega
 unfold hd;rw[this];rfl
theorem AEz {own:List (List Nat)} {joint addr:Int} (h:joint≠0) (h1:joint≠1):hd own joint addr=false:=by unfold hd;simp[h,h1]
theorem AI7 {own:List (List Nat)} {joint addr:Int} (h:16<own.length):hd own joint addr=false:=by
 have:decide (own.length≤16)=false:=decide_eq_false (by omega)
 unfold hd;rw[this];simp
theorem AI8 {own:List (List Nat)} {joint addr:Int} (h:asc own=false):hd own joint addr=false:=by unfold hd;rw[h];simp
theorem AI9 {own:List (List Nat)} {joint addr:Int} (h1:0≤addr∧addr<17179869184) (h2:joint=0∨joint=1) (h3:own.length≤16) (h4:asc own=true):hd own joint addr=true:=by
 have h5:Br addr=true:=by unfold Br;simp;omega
 unfold hd;rw[h5,h4];rcases h2 with rfl|rfl<;>simp[h3]
theorem AAa (ds:List DD) (ao:Option Addr) (cap:Nat) (joint addr:Int) (w:World) (hr:RdD w (.slice ao ds.length cap) ds) :
   Calls Tryz.prog 50 #[.slice ao ds.length cap,.int .i64 joint,.int .i64 addr] w fun e w'=>e=.returned (.bool (hd (ds.map DD.x) joint addr))∧w.grownBy w' none:=by
 have hmap:(ds.map DD.x).length=ds.length:=List.length_map _
 refine BZ Tryz.func50 rfl Tryz.ntmps50 rfl fun a0 sv0=>?_
 have HG:=World.grownBy.refl w none
 replace sv0:Sv 46 [] [(0,.slice ao ds.length cap),(1,.int .i64 joint),(2,.int .i64 addr)] a0:=sv0
 refine ALz fun K1 k1=>?_
 refine ALy ?_
 refine AY (v:=.bool false) sv0 r6 fun a2 sv2=>?_
 refine AE ?_
 refine k1 _ _ ?_
 refine ALz fun K3 k3=>?_
 suffices MG4:∀(a':Act) (w':World),Sv 46 [] [(0,.slice ao ds.length cap),(1,.int .i64 joint),(2,.int .i64 addr)] a'→(0≤addr∧addr<17179869184)→(joint=0∨joint=1)→w.grownBy w' none→(RdD w' (.slice ao ds.length cap) ds)→K3 a' w' by
   rcases(show addr<0∨(0≤addr∧17179869184≤addr)∨((0≤addr∧addr<17179869184)∧joint≠0∧joint≠1)∨((0≤addr∧addr<17179869184)∧joint=0)∨((0≤addr∧addr<17179869184)∧joint=1) by omega) with h1|⟨h0,h1⟩|⟨h0,h1,h2⟩|⟨h0,h2⟩|⟨h0,h2⟩
   · refine ALz fun K5 k5=>?_
     refine ALy ?_
     refine AJ sv2 14 [(8,.int .i64 addr),(9,.bool true),(10,.bool true),(11,undef),(12,undef),(13,.bool true),(14,.bool true),(15,undef),(16,undef),(17,undef),(18,undef),(19,undef),(20,undef),(21,.bool true)]
       ⟨ym r5,Cz r6 (fun _=>Bo (decide_eq_true (by omega))),ym r5,AZ r6,AZ r6,CL r7,ym r5,AZ r6,AZ r6,AZ r6,BB ⟨17,rfl,rfl,fun _ _ h=>h⟩ rfl (fun _=>rfl),BB ⟨17,rfl,rfl,fun _ _ h=>h⟩ rfl (fun _=>rfl),AZ r6,CL r7,AL5⟩ fun a6 w6 g6 sv6=>?_
     refine AE ?_
     refine k5 _ _ ?_
     refine Aw sv6 rfl rfl ?_
     refine ALz fun K7 k7=>?_
     refine ALy ?_
     refine AY (v:=.bool false) sv6 r6 fun a8 sv8=>?_
     refine AE ?_
     refine k7 _ _ ?_
     replace hr:=hr.kn g6
     replace HG:=AA HG g6
     refine AL2 ?_
     repeat refine AL ?_
     refine BI (fn:=Tryz.f50) sv8 (BC (p:=6) Tryz.results50 sv8 rfl rfl) ?_
     exact⟨Hd ((ABY (.inl h1)).symm),HG⟩
   · refine ALz fun K9 k9=>?_
     refine ALy ?_
     refine AJ sv2 14 [(8,.int .i64 addr),(9,.bool false),(10,.bool false),(11,.int .i64 addr),(12,.bool true),(13,.bool true),(14,.bool true),(15,undef),(16,undef),(17,undef),(18,undef),(19,undef),(20,undef),(21,.bool true)]
       ⟨ym r5,Cz r6 (fun _=>Bo (decide_eq_false (by omega))),ym r5,Az rq8,BJ rq9 (fun _=>FS (decide_eq_true (by omega))),A2 rq9,ym r5,AZ r6,AZ r6,AZ r6,BB ⟨17,rfl,rfl,fun _ _ h=>h⟩ rfl (fun _=>rfl),BB ⟨17,rfl,rfl,fun _ _ h=>h⟩ rfl (fun _=>rfl),AZ r6,CL r7,AL5⟩ fun a10 w10 g10 Cb=>?_
     refine AE ?_
     refine k9 _ _ ?_
     refine Aw Cb rfl rfl ?_
     refine ALz fun K11 k11=>?_
     refine ALy ?_
     refine AY (v:=.bool false) Cb r6 fun a12 DL=>?_
     refine AE ?_
     refine k11 _ _ ?_
     replace hr:=hr.kn g10
     replace HG:=AA HG g10
     refine AL2 ?_
     repeat refine AL ?_
     refine BI (fn:=Tryz.f50) DL (BC (p:=6) Tryz.results50 DL rfl rfl) ?_
     exact⟨Hd ((ABY (.inr h1)).symm),HG⟩
   · refine ALz fun K13 k13=>?_
     refine ALy ?_
     refine AJ sv2 14 [(8,.int .i64 addr),(9,.bool false),(10,.bool false),(11,.int .i64 addr),(12,.bool false),(13,.bool false),(14,.bool false),(15,.int .i64 joint),(16,.bool true),(17,.bool true),(18,.int .i64 joint),(19,.bool true),(20,.bool true),(21,.bool true)]
       ⟨ym r5,Cz r6 (fun _=>Bo (decide_eq_false (by omega))),ym r5,Az rq8,BJ rq9 (fun _=>FS (decide_eq_false (by omega))),A2 rq9,ym r5,Az rq8,BJ rq9 (fun _=>Dj (by simp;omega)),Az rq8,Az rq8,BJ rq9 (fun _=>Dj (by simp;omega)),Iv rfl rfl (gy rfl rfl rfl) (oy rfl rfl) (oy rfl rfl) (fun _=>rfl),A2 rq9,AL5⟩ fun a14 w14 g14 Da=>?_
     refine AE ?_
     refine k13 _ _ ?_
     refine Aw Da rfl rfl ?_
     refine ALz fun K15 k15=>?_
     refine ALy ?_
     refine AY (v:=.bool false) Da r6 fun a16 DJ=>?_
     refine AE ?_
     refine k15 _ _ ?_
     replace hr:=hr.kn g14
     replace HG:=AA HG g14
     refine AL2 ?_
     repeat refine AL ?_
     refine BI (fn:=Tryz.f50) DJ (BC (p:=6) Tryz.results50 DJ rfl rfl) ?_
     exact⟨Hd ((AEz h1 h2).symm),HG⟩
   · refine ALz fun K17 k17=>?_
     refine ALy ?_
     refine AJ sv2 14 [(8,.int .i64 addr),(9,.bool false),(10,.bool false),(11,.int .i64 addr),(12,.bool false),(13,.bool false),(14,.bool false),(15,.int .i64 joint),(16,.bool false),(17,.bool false),(18,undef),(19,undef),(20,.bool false),(21,.bool false)]
       ⟨ym r5,Cz r6 (fun _=>Bo (decide_eq_false (by omega))),ym r5,Az rq8,BJ rq9 (fun _=>FS (decide_eq_false (by omega))),A2 rq9,ym r5,Az rq8,BJ rq9 (fun _=>Dj (by simp;omega)),Az rq8,AZ r6,AZ r6,Iv rfl rfl (gy rfl rfl rfl) (oy rfl rfl) rfl (fun _=>rfl),A2 rq9,AL5⟩ fun a18 w18 g18 CZ=>?_
     refine AE ?_
     refine k17 _ _ ?_
     refine A1 CZ rfl rfl ?_
     refine AL3 ?_
     replace hr:=hr.kn g18
     replace HG:=AA HG g18
     have svm:Sv 46 [] [(0,_),(1,_),(2,_)] a18:=⟨CZ.1,CZ.2.1,(AG (AG CZ)).2.1,(AG (AG CZ)).2.2.1,(AG (AG CZ)).2.2.2.1,AL5⟩
     exact MG4 _ _ svm (h0) (.inl h2) HG hr
   · refine ALz fun K19 k19=>?_
     refine ALy ?_
     refine AJ sv2 14 [(8,.int .i64 addr),(9,.bool false),(10,.bool false),(11,.int .i64 addr),(12,.bool false),(13,.bool false),(14,.bool false),(15,.int .i64 joint),(16,.bool true),(17,.bool true),(18,.int .i64 joint),(19,.bool false),(20,.bool false),(21,.bool false)]
       ⟨ym r5,Cz r6 (fun _=>Bo (decide_eq_false (by omega))),ym r5,Az rq8,BJ rq9 (fun _=>FS (decide_eq_false (by omega))),A2 rq9,ym r5,Az rq8,BJ rq9 (fun _=>Dj (by simp;omega)),Az rq8,Az rq8,BJ rq9 (fun _=>Dj (by simp;omega)),Iv rfl rfl (gy rfl rfl rfl) (oy rfl rfl) (oy rfl rfl) (fun _=>rfl),A2 rq9,AL5⟩ fun a20 w20 g20 Eu=>?_
     refine AE ?_
     refine k19 _ _ ?_
     refine A1 Eu rfl rfl ?_
     refine AL3 ?_
     replace hr:=hr.kn g20
     replace HG:=AA HG g20
     have svm:Sv 46 [] [(0,_),(1,_),(2,_)] a20:=⟨Eu.1,Eu.2.1,(AG (AG Eu)).2.1,(AG (AG Eu)).2.2.1,(AG (AG Eu)).2.2.2.1,AL5⟩
     exact MG4 _ _ svm (h0) (.inr h2) HG hr
 clear hr
 clear HG
 intro a4 w4 sv4 h0 h2 HG hr
 refine k3 _ _ ?_
 refine ALz fun K21 k21=>?_
 refine ALz fun K22 k22=>?_
 by_cases hbig:16<ds.length
 · refine ALy ?_
   refine AJ sv4 3 [(22,.slice ao ds.length cap),(23,.int .i64 ((ds.length:Nat))),(24,.bool true)]
     ⟨ym r5,Bv (Tryz.underlying28) rfl rfl trivial (oy rfl rfl) (fun _=>rfl),Cz r6 (fun _=>DI (by simp;omega)),AL5⟩ fun a23 w23 g23 Cw=>?_
   refine AE ?_
   refine k22 _ _ ?_
   refine Aw Cw rfl rfl ?_
   refine ALz fun K24 k24=>?_
   refine ALy ?_
   refine AY (v:=.bool false) Cw r6 fun a25 DV=>?_
   refine AE ?_
   refine k24 _ _ ?_
   replace hr:=hr.kn g23
   replace HG:=AA HG g23
   refine AL2 ?_
   repeat refine AL ?_
   refine BI (fn:=Tryz.f50) DV (BC (p:=6) Tryz.results50 DV rfl rfl) ?_
   exact⟨Hd ((AI7 (by omega)).symm),HG⟩
 · refine ALy ?_
   refine AJ sv4 3 [(22,.slice ao ds.length cap),(23,.int .i64 ((ds.length:Nat))),(24,.bool false)]
     ⟨ym r5,Bv (Tryz.underlying28) rfl rfl trivial (oy rfl rfl) (fun _=>rfl),Cz r6 (fun _=>DI (by simp;omega)),AL5⟩ fun a26 w26 g26 Cr=>?_
   refine AE ?_
   refine k22 _ _ ?_
   refine A1 Cr rfl rfl ?_
   refine AL3 ?_
   refine k21 _ _ ?_
   refine ALz fun K27 k27=>?_
   refine ALz fun K28 k28=>?_
   refine ALy ?_
   refine AJ Cr 3 [(25,.slice ao ds.length cap),(26,.int .i64 ((ds.length:Nat))),(27,.int .i64 0)]
     ⟨ym r5,Bv (Tryz.underlying28) rfl rfl trivial (oy rfl rfl) (fun _=>rfl),E0 (.inl rfl) rfl trivial (fun _=>rfl),AL5⟩ fun a29 w29 g29 Cf=>?_
   have Gh:=AA g26 g29
   refine AE ?_
   refine k28 _ _ ?_
   refine BM fun Q30 x30 y30 rt30 o30=>?_
   replace hr:=hr.kn Gh
   replace HG:=AA HG Gh
   refine wp_loop (fun a w'=>∃(i:Nat),(i≤ds.length+1)∧(∀k,k<i→AAY (ds.map DD.x) k=true)∧Sv 46 [] [(27,.int .i64 ((i:Int))),(25,.slice ao ds.length cap),(26,.int .i64 ((ds.length:Nat))),(22,.slice ao ds.length cap),(23,.int .i64 ((ds.length:Nat))),(24,.bool false),(0,.slice ao ds.length cap),(1,.int .i64 joint),(2,.int .i64 addr)] a∧w.grownBy w' none∧RdD w' (.slice ao ds.length cap) ds) (fun a _=>(ds.length+1-intOf (a.tmps.getD 27 undef)).toNat) ⟨0,Nat.zero_le _,fun k hk=>by omega,⟨Cf.1,Cf.2.1,Cf.2.2.2.2.1,Cf.2.2.1,Cf.2.2.2.1,Cf.2.2.2.2.2.1,Cf.2.2.2.2.2.2.1,Cf.2.2.2.2.2.2.2.1,(AG Cf).1,(AG Cf).2.1,(AG Cf).2.2.1,AL5⟩,HG,hr⟩ fun a31 w31 hI31=>?_
   clear hr
   clear HG
   obtain⟨i,hin,hb,He,HG,hr⟩:=hI31
   refine ALz fun K32 k32=>?_
   by_cases hi:i<ds.length
   · have hp:i-1<ds.length:=by omega
     obtain⟨x,hx_x⟩:∃x,ds[i]'hi=x:=⟨_,rfl⟩
     obtain⟨y,hx_y⟩:∃x,ds[(i-1)]'hp=x:=⟨_,rfl⟩
     have hchk:=AI6 hi hp hx_x hx_y
     refine ALy ?_
     refine AJ He 1 [(28,.bool true)]
       ⟨Il r7 (fun _=>Bo (by simp;omega)),AL5⟩ fun a33 w33 g33 JU=>?_
     refine AE ?_
     refine k32 _ _ ?_
     refine ALz fun K34 k34=>?_
     refine Aw JU rfl rfl ?_
     refine AL3 ?_
     refine k34 _ _ ?_
     refine ALz fun K35 k35=>?_
     refine BM fun Q36 x36 y36 rt36 o36=>?_
     refine ALz fun K37 k37=>?_
     refine ALy ?_
     refine AJ JU 1 [(29,.int .i64 ((i:Int)))]
       ⟨ym r5,AL5⟩ fun a38 w38 g38 Z7=>?_
     have AKE:=AA g33 g38
     refine AY (v:=.int .i64 ((i:Int))) Z7 r6 fun a39 JV=>?_
     refine AE ?_
     refine k37 _ _ ?_
     refine ALz fun K40 k40=>?_
     replace hr:=hr.kn AKE
     replace HG:=AA HG AKE
     rcases(show i=0∨(0<i∧Eg y.x x.x=true)∨(0<i∧Eg y.x x.x=false) by
        rcases Nat.eq_zero_or_pos i with h|h<;>cases h3:Eg y.x x.x<;>simp[h]) with hz|⟨hz,hc⟩|⟨hz,hc⟩
     · have hok:(decide (i=0)||Eg y.x x.x)=true:=by simp[hz]
       refine DM JV [(30,.int .i64 ((i:Int))),(31,.bool false),(32,.bool false),(33,undef),(34,undef),(35,undef),(36,undef),(37,undef),(38,undef),(39,undef),(40,undef),(41,undef),(42,undef),(43,undef),(44,.bool false)]
        ⟨ym r5,Cz r6 (fun _=>DI (by simp;omega)),ym r5,AZ r6,AZ r6,AZ r6,AZ r6,AZ r6,AZ r6,AZ r6,AZ r6,AZ r6,AZ r6,AZ r6,CL r7,AL5⟩ fun a41 w41 g41 OB=>?_
       refine k40 _ _ ?_
       refine A1 OB rfl rfl ?_
       refine AL3 ?_
       refine y36 _ _ ?_
       refine k35 _ _ ?_
       refine ALy ?_
       refine AJ OB 1 [(45,.int .i64 (((i+1:Nat):Int)))]
        ⟨Cz r6 (fun _=>Dk (by rw[BG (by omega) (by omega)];omega)),AL5⟩ fun a42 w42 g42 Hl=>?_
       have Pe:=AA g41 g42
       refine AJ (Hl.dl [27]) 1 [(27,.int .i64 (((i+1:Nat):Int)))]
        ⟨ym r5,AL5⟩ fun a43 w43 g43 Jt=>?_
       have AKF:=AA Pe g43
       refine AE ?_
       replace hr:=hr.kn AKF
       replace HG:=AA HG AKF
       exact⟨⟨i+1,by omega,fun k hk=>if e:k=i then (by rw[e,hchk];exact hok) else hb k (by omega),⟨Jt.1,Jt.2.1,Jt.2.2.1,(AG (AG Jt)).2.2.2.2.2.2.1,(AG (AG Jt)).2.2.2.2.2.2.2.1,(AG (AG (AG Jt))).1,(AG (AG (AG Jt))).2.1,(AG (AG (AG Jt))).2.2.1,(AG (AG (AG Jt))).2.2.2.1,(AG (AG (AG Jt))).2.2.2.2.1,(AG (AG (AG Jt))).2.2.2.2.2.1,AL5⟩,HG,hr⟩,by rw[show _=_ from Jt.2.2.1,show _=_ from He.2.2.1];simp[intOf];omega⟩
     · have hok:(decide (i=0)||Eg y.x x.x)=true:=by simp[hz,hc]
       refine DM JV [(30,.int .i64 ((i:Int))),(31,.bool true),(32,.bool true),(33,.slice ao ds.length cap),(34,.int .i64 ((i:Int))),(35,.int .i64 (((i-1:Nat):Int))),(36,pk ((bO ao)) (oO ao+(i-1)*32)),(37,.slice ((some ⟨(bO ao),oO ao+(i-1)*32,none⟩)) 32 32),(38,.slice ao ds.length cap),(39,.int .i64 ((i:Int))),(40,pk ((bO ao)) (oO ao+i*32)),(41,.slice ((some ⟨(bO ao),oO ao+i*32,none⟩)) 32 32),(42,.int .i64 ((Hc y.x x.x))),(43,.bool false),(44,.bool false)]
        ⟨ym r5,Cz r6 (fun _=>DI (by simp;omega)),ym r5,Az rq8,Az rq8,BJ rq9 (fun _=>F6 (by rw[BG (by omega) (by omega)];omega)),Cq rfl rfl (gy rfl rfl rfl) (oy rfl rfl) (oy rfl rfl) (fun w=>CU Tryz.underlying28 (by kernel_rfl) (hr.1) (by omega) (rfl) w) (fun _=>rfl),Hb (l:=none) (u:=none) rfl rfl (gy rfl rfl rfl) (oy rfl rfl) trivial trivial (LD ((bO ao)) (oO ao+(i-1)*32)) (fun _=>rfl),Az rq8,Az rq8,Cq rfl rfl (gy rfl rfl rfl) (oy rfl rfl) (oy rfl rfl) (fun w=>CU Tryz.underlying28 (by kernel_rfl) (hr.1) (by omega) (rfl) w) (fun _=>rfl),Hb (l:=none) (u:=none) rfl rfl (gy rfl rfl rfl) (oy rfl rfl) trivial trivial (LD ((bO ao)) (oO ao+i*32)) (fun _=>rfl),B7 [.slice ((some ⟨(bO ao),oO ao+(i-1)*32,none⟩)) 32 32,.slice ((some ⟨(bO ao),oO ao+i*32,none⟩)) 32 32] Tryz.func94 (by kernel_rfl) r7 ⟨(oy rfl rfl),(oy rfl rfl),AL5⟩ (Ap fun W g=>Jr y.h x.h (by have:=DU (hr.kn g).1 GF hp (by decide);rw[hx_y] at this;exact this) (by have:=DU (hr.kn g).1 GF hi (by decide);rw[hx_x] at this;exact this)),BJ rq9 (fun _=>FS (by rw[Ln,hc];rfl)),A2 rq9,AL5⟩ fun a44 w44 g44 VW=>?_
       refine k40 _ _ ?_
       refine A1 VW rfl rfl ?_
       refine AL3 ?_
       refine y36 _ _ ?_
       refine k35 _ _ ?_
       refine ALy ?_
       refine AJ VW 1 [(45,.int .i64 (((i+1:Nat):Int)))]
        ⟨Cz r6 (fun _=>Dk (by rw[BG (by omega) (by omega)];omega)),AL5⟩ fun a45 w45 g45 Ev=>?_
       have RO:=AA g44 g45
       refine AJ (Ev.dl [27]) 1 [(27,.int .i64 (((i+1:Nat):Int)))]
        ⟨ym r5,AL5⟩ fun a46 w46 g46 Ju=>?_
       have AKG:=AA RO g46
       refine AE ?_
       replace hr:=hr.kn AKG
       replace HG:=AA HG AKG
       exact⟨⟨i+1,by omega,fun k hk=>if e:k=i then (by rw[e,hchk];exact hok) else hb k (by omega),⟨Ju.1,Ju.2.1,Ju.2.2.1,(AG (AG Ju)).2.2.2.2.2.2.1,(AG (AG Ju)).2.2.2.2.2.2.2.1,(AG (AG (AG Ju))).1,(AG (AG (AG Ju))).2.1,(AG (AG (AG Ju))).2.2.1,(AG (AG (AG Ju))).2.2.2.1,(AG (AG (AG Ju))).2.2.2.2.1,(AG (AG (AG Ju))).2.2.2.2.2.1,AL5⟩,HG,hr⟩,by rw[show _=_ from Ju.2.2.1,show _=_ from He.2.2.1];simp[intOf];omega⟩
     · refine DM JV [(30,.int .i64 ((i:Int))),(31,.bool true),(32,.bool true),(33,.slice ao ds.length cap),(34,.int .i64 ((i:Int))),(35,.int .i64 (((i-1:Nat):Int))),(36,pk ((bO ao)) (oO ao+(i-1)*32)),(37,.slice ((some ⟨(bO ao),oO ao+(i-1)*32,none⟩)) 32 32),(38,.slice ao ds.length cap),(39,.int .i64 ((i:Int))),(40,pk ((bO ao)) (oO ao+i*32)),(41,.slice ((some ⟨(bO ao),oO ao+i*32,none⟩)) 32 32),(42,.int .i64 ((Hc y.x x.x))),(43,.bool true),(44,.bool true)]
        ⟨ym r5,Cz r6 (fun _=>DI (by simp;omega)),ym r5,Az rq8,Az rq8,BJ rq9 (fun _=>F6 (by rw[BG (by omega) (by omega)];omega)),Cq rfl rfl (gy rfl rfl rfl) (oy rfl rfl) (oy rfl rfl) (fun w=>CU Tryz.underlying28 (by kernel_rfl) (hr.1) (by omega) (rfl) w) (fun _=>rfl),Hb (l:=none) (u:=none) rfl rfl (gy rfl rfl rfl) (oy rfl rfl) trivial trivial (LD ((bO ao)) (oO ao+(i-1)*32)) (fun _=>rfl),Az rq8,Az rq8,Cq rfl rfl (gy rfl rfl rfl) (oy rfl rfl) (oy rfl rfl) (fun w=>CU Tryz.underlying28 (by kernel_rfl) (hr.1) (by omega) (rfl) w) (fun _=>rfl),Hb (l:=none) (u:=none) rfl rfl (gy rfl rfl rfl) (oy rfl rfl) trivial trivial (LD ((bO ao)) (oO ao+i*32)) (fun _=>rfl),B7 [.slice ((some ⟨(bO ao),oO ao+(i-1)*32,none⟩)) 32 32,.slice ((some ⟨(bO ao),oO ao+i*32,none⟩)) 32 32] Tryz.func94 (by kernel_rfl) r7 ⟨(oy rfl rfl),(oy rfl rfl),AL5⟩ (Ap fun W g=>Jr y.h x.h (by have:=DU (hr.kn g).1 GF hp (by decide);rw[hx_y] at this;exact this) (by have:=DU (hr.kn g).1 GF hi (by decide);rw[hx_x] at this;exact this)),BJ rq9 (fun _=>FS (by rw[Ln,hc];rfl)),A2 rq9,AL5⟩ fun a47 w47 g47 LG=>?_
       refine k40 _ _ ?_
       refine Aw LG rfl rfl ?_
       refine ALz fun K48 k48=>?_
       refine ALy ?_
       refine AY (v:=.bool false) LG r6 fun a49 JH=>?_
       refine AE ?_
       refine k48 _ _ ?_
       replace HG:=AA HG g47
       refine AL2 ?_
       repeat refine AL ?_
       refine rt36 _ _ ?_
       repeat refine AL ?_
       refine rt30 _ _ ?_
       repeat refine AL ?_
       refine BI (fn:=Tryz.f50) JH (BC (p:=6) Tryz.results50 JH rfl rfl) ?_
       exact⟨Hd ((AI8 (AI5 (i:=i) (by rw[hmap];exact hi) (by rw[hchk];simp[hc,Nat.ne_of_gt hz]))).symm),HG⟩
   · refine ALy ?_
     refine AJ He 1 [(28,.bool false)]
       ⟨Il r7 (fun _=>Bo (by simp;omega)),AL5⟩ fun a50 w50 g50 Va=>?_
     refine AE ?_
     refine k32 _ _ ?_
     refine ALz fun K51 k51=>?_
     refine A1 Va rfl rfl ?_
     refine wp_exit ?_
     repeat refine CY ?_
     refine x30 _ _ ?_
     refine k27 _ _ ?_
     refine ALz fun K52 k52=>?_
     refine ALy ?_
     refine AY (v:=.bool true) Va r6 fun a53 YO=>?_
     refine AE ?_
     refine k52 _ _ ?_
     replace HG:=AA HG g50
     refine AL2 ?_
     repeat refine AL ?_
     refine BI (fn:=Tryz.f50) YO (BC (p:=6) Tryz.results50 YO rfl rfl) ?_
     exact⟨Hd ((AI9 h0 h2 (by omega) (AG2 fun k hk=>hb k (by omega))).symm),HG⟩
theorem Ya {x y sl:List Nat} {j a b:Nat} (hj:j<sl.length) (ha:x[j]?=some a) (hb:y[j]?=some b) (h:∀k,k<j→sl[k]?=(Ip x y)[k]?):∀k,k<j+1→(sl.set j (a ^^^ b))[k]?=(Ip x y)[k]?:=by
 intro k hk
 rw[List.getElem?_set]
 by_cases e:j=k
 · subst e
   rw[if_pos rfl,if_pos hj]
   unfold Ip
   rw[List.getElem?_zipWith,ha,hb]
 · rw[if_neg e]
   exact h k (by omega)
theorem ABZ {x y sl:List Nat} {n j:Nat} (hx:x.length=n) (hy:n≤y.length) (hs:sl.length=n) (hj:n≤j) (h:∀k,k<j→sl[k]?=(Ip x y)[k]?):sl=Ip x y:=by
 have hl:=NO (a:=x) (b:=y) (by omega)
 refine List.ext_getElem? fun k=>?_
 by_cases hk:k<n
 · exact h k (by omega)
 · rw[List.getElem?_eq_none (by omega),List.getElem?_eq_none (by omega)]
theorem AG3 {P:Program} {a b c:Int} {t:TypeId} {x y:Operand} {w:World} (h:bits .xor .u8 a b=c):(do eqGuard .xor t x y (.int .u8 a) (.int .u8 b);binOp .xor t (.int .u8 a) (.int .u8 b):Sem Value).run P w=.ok (.int .u8 c) w:=by
 subst h
 simp[eqGuard,binOp_xor]
 rfl
theorem Vb {P:Program} {a b:Nat} {t:TypeId} {x y:Operand} {w:World} (ha:a<256) (hb:b<256):(do eqGuard .xor t x y (.int .u8 (a:Int)) (.int .u8 (b:Int));binOp .xor t (.int .u8 (a:Int)) (.int .u8 (b:Int)):Sem Value).run P w=.ok (.int .u8 ((a ^^^ b:Nat):Int)) w:=AG3 (u8_xor_nat a b ha hb)
section
variable {P:Program} {Q:Exit→Act→World→Prop} {ops:Array Oper} {rest:List Oper} {o:Oper} {a:Act} {w:World} {n:Nat} {D:List Deferred} {K:List (Nat×Value)}
theorem AJA {l:List Nat} {j x:Nat} (hj:j<l.length):bv (l.set j x)=bv (l.take j)++([.int .u8 (x:Int)]++bv (l.drop (j+1))):=by
 rw[NP,NP,NP,AEN hj]
 rfl
theorem AE0 {l:List Nat} {j:Nat} (hj:j<l.length):bv l=bv (l.take j)++([.int .u8 (l[j]:Int)]++bv (l.drop (j+1))):=by
 rw[NP,NP,NP,Kz hj]
 rfl
theorem ACv (sv:Sv n D K a) (hgd:o.guard=none) {T:TypeId} {x y:Operand} (ho:o.op=.store T x y) (hd:o.dst=none) {b j v:Nat} {l:List Nat} {t:TypeId} (hx:Me K x=true) (hxv:Mf K x=.pointer (some ⟨b,j,none⟩)) (hy:Me K y=true) (hyv:Mf K y=.int .u8 (v:Int)) (ty:TY P T [.int .u8 (v:Int)] (.int .u8 (v:Int)))
  (hb:w.heap[b]?=some (.cells (bv l).toArray t (0,0))) (hj:j<l.length)
  (h:∀w',w.grownBy w' (some b)→w'.heap[b]?=some (.cells (bv (l.set j v)).toArray t (0,0))→wpList P ops Q rest a w'):wpList P ops Q (o::rest) a w:=by
 rw[AE0 hj] at hb
 refine Qo sv hgd ho hd hx hxv hy hyv ty hb (by rw[AI,List.length_take];omega) rfl fun w' g' hb'=>h w' g' ?_
 rw[hb',AJA hj]
end
theorem ACw (x y s0:List Nat) (hbx:By x) (hby:By y) (n:Nat) (hn63:n≤1000000) (hnx:x.length=n) (m:Nat) (hym:y.length=m) (hny:n≤m) (so ao bo:Option Addr) (sc ac bc:Nat) (w w1:World) (HG:w.grownBy w1 none) (hs:Own w1 5 1 (.slice so n sc) n (s0.flatMap cb)) (ha:SlB w1 1 (.slice ao n ac) n (bv x)) (hb:SlB w1 1 (.slice bo m bc) m (bv y)) (lo_hs:∀k,Bk (.slice so n sc) k→w.heap.size≤k) (ap_ha_hs:∀k,Bk (.slice ao n ac) k→¬Bk (.slice so n sc) k) (ap_hb_hs:∀k,Bk (.slice bo m bc) k→¬Bk (.slice so n sc) k) :
   Calls Tryz.prog 106 #[.slice so n sc,.slice ao n ac,.slice bo m bc] w1 fun e w'=>e=.returned (.slice so n sc)∧w.grownBy w' none∧Own w' 5 1 (.slice so n sc) n (bv (Ip x y)):=by
 refine BZ Tryz.func106 rfl Tryz.ntmps106 rfl fun a0 sv0=>?_
 have hs0:s0.length=n:=(AIm (Sl.of_own hs) AAZ (by decide)).symm
 replace sv0:Sv 27 [] [(0,.slice so n sc),(1,.slice ao n ac),(2,.slice bo m bc)] a0:=sv0
 refine ALz fun K1 k1=>?_
 refine ALy ?_
 refine AY (v:=.slice none 0 0) sv0 r6 fun a2 sv2=>?_
 refine AE ?_
 refine k1 _ _ ?_
 refine ALz fun K3 k3=>?_
 refine ALz fun K4 k4=>?_
 refine ALy ?_
 refine AJ sv2 3 [(8,.slice so n sc),(9,.int .i64 ((n:Nat))),(10,.int .i64 0)]
   ⟨ym r5,Bv (Tryz.underlying29) rfl rfl trivial (oy rfl rfl) (fun _=>rfl),E0 (.inl rfl) rfl trivial (fun _=>rfl),AL5⟩ fun a5 w5 g5 sv5=>?_
 refine AE ?_
 refine k4 _ _ ?_
 refine BM fun Q6 x6 y6 rt6 o6=>?_
 replace ha:=ha.kn g5
 replace hb:=hb.kn g5
 replace hs:=hs.kn g5
 replace HG:=AA HG g5
 refine wp_loop (fun a w'=>∃(i:Nat) (sl:List Nat),(i≤n)∧(sl.length=n)∧(∀k,k<i→sl[k]?=(Ip x y)[k]?)∧Sv 27 [] [(10,.int .i64 ((i:Int))),(8,.slice so n sc),(9,.int .i64 ((n:Nat))),(6,.slice none 0 0),(0,.slice so n sc),(1,.slice ao n ac),(2,.slice bo m bc)] a∧w.grownBy w' none∧SlB w' 1 (.slice ao n ac) n (bv x)∧SlB w' 1 (.slice bo m bc) m (bv y)∧Own w' 5 1 (.slice so n sc) n (sl.flatMap cb)∧(∀k,Bk (.slice ao n ac) k→¬Bk (.slice so n sc) k)∧(∀k,Bk (.slice bo m bc) k→¬Bk (.slice so n sc) k)∧(∀k,Bk (.slice so n sc) k→w.heap.size≤k)) (fun a _=>(n-intOf (a.tmps.getD 10 undef)).toNat) ⟨0,s0,Nat.zero_le _,hs0,fun k hk=>by omega,⟨sv5.1,sv5.2.1,sv5.2.2.2.2.1,sv5.2.2.1,sv5.2.2.2.1,sv5.2.2.2.2.2.1,sv5.2.2.2.2.2.2.1,sv5.2.2.2.2.2.2.2.1,(AG sv5).1,AL5⟩,HG,ha,hb,hs,ap_ha_hs,ap_hb_hs,lo_hs⟩ fun a7 w7 hI7=>?_
 clear ha
 clear hb
 clear hs
 clear HG
 obtain⟨i,sl,hin,hsl,hq,sv7,HG,ha,hb,hs,ap_ha_hs,ap_hb_hs,lo_hs⟩:=hI7
 refine ALz fun K8 k8=>?_
 by_cases hi:i<n
 · have hix:i<x.length:=by omega
   have hiy:i<y.length:=by omega
   have his:i<sl.length:=by omega
   obtain⟨xa,hx_xa⟩:∃zx,x[i]'hix=zx:=⟨_,rfl⟩
   obtain⟨xb,hx_xb⟩:∃zx,y[i]'hiy=zx:=⟨_,rfl⟩
   obtain⟨xs,hx_xs⟩:∃zx,sl[i]'his=zx:=⟨_,rfl⟩
   have hxa:x[i]?=some xa:=by rw[←hx_xa];exact List.getElem?_eq_getElem _
   have hxb:y[i]?=some xb:=by rw[←hx_xb];exact List.getElem?_eq_getElem _
   have ba:xa<256:=hbx _ (List.mem_of_getElem? hxa)
   have bb:xb<256:=hby _ (List.mem_of_getElem? hxb)
   refine ALy ?_
   refine AJ sv7 1 [(11,.bool true)]
    ⟨Il r7 (fun _=>Bo (by simp;omega)),AL5⟩ fun a9 w9 g9 sv9=>?_
   refine AE ?_
   refine k8 _ _ ?_
   refine ALz fun K10 k10=>?_
   refine Aw sv9 rfl rfl ?_
   refine AL3 ?_
   refine k10 _ _ ?_
   refine ALz fun K11 k11=>?_
   refine BM fun Q12 x12 y12 rt12 o12=>?_
   refine ALz fun K13 k13=>?_
   refine ALy ?_
   refine AJ sv9 1 [(12,.int .i64 ((i:Int)))]
    ⟨ym r5,AL5⟩ fun a14 w14 g14 Da=>?_
   have Xp:=AA g9 g14
   refine AY (v:=.int .i64 ((i:Int))) Da r6 fun a15 Ms=>?_
   refine AE ?_
   refine k13 _ _ ?_
   replace ha:=ha.kn Xp
   replace hb:=hb.kn Xp
   replace hs:=hs.kn Xp
   refine DW (Ms.st w14) (by kernel_rfl) 12 [(13,Sp.is (.slice so n sc)),(14,Sp.is (.int .i64 ((i:Int)))),(15,Sp.is (.slice ao n ac)),(16,Sp.is (.int .i64 ((i:Int)))),(17,Sp.is (pk ((bO ao)) (oO ao+i*1))),(18,Sp.is (.int .u8 ((xa:Int)))),(19,Sp.is (.slice bo m bc)),(20,Sp.is (.int .i64 ((i:Int)))),(21,Sp.is (pk ((bO bo)) (oO bo+i*1))),(22,Sp.is (.int .u8 ((xb:Int)))),(23,Sp.is (.int .u8 (((xa ^^^ xb:Nat):Int)))),(24,Sp.is (pk ((bO so)) (oO so+i*1)))] rfl (by kernel_rfl) (by kernel_rfl) (by kernel_rfl) [] (by kernel_rfl)
    ⟨ym r5,ym r5,ym r5,ym r5,BA rq8 (fun w=>CU Tryz.underlying29 (by kernel_rfl) (ha.1) (by omega) (rfl) w),Bu r6 (fun _ g=>Ab (tyB ((xa:Int))) (by have:=YZ (ha.kn g).1 hix;rw[hx_xa] at this;exact this)),ym r5,ym r5,BA rq8 (fun w=>CU Tryz.underlying29 (by kernel_rfl) (hb.1) (by omega) (rfl) w),Bu r6 (fun _ g=>Ab (tyB ((xb:Int))) (by have:=YZ (hb.kn g).1 hiy;rw[hx_xb] at this;exact this)),Il r7 (fun _=>Vb ba bb),BA rq8 (fun w=>CU Tryz.underlying29 (by kernel_rfl) ((Sl.of_own hs)) (by omega) (rfl) w),AL5⟩ trivial
    [] (by kernel_rfl) trivial ⟨.inl rfl,.inl rfl,.inl rfl,.inl rfl,.inl rfl,.inl rfl,.inl rfl,.inl rfl,.inl rfl,.inl rfl,.inl rfl,.inl rfl,AL5⟩ (by kernel_rfl) fun a16 w16 g16 st16 nd16=>?_
   obtain⟨hn16,hd16,e16_13,e16_14,e16_15,e16_16,e16_17,e16_18,e16_19,e16_20,e16_21,e16_22,e16_23,e16_24,e16_7,e16_12,e16_11,e16_10,e16_8,e16_9,e16_6,e16_0,e16_1,e16_2,-⟩:=st16
   have DJ:Sv 27 [] [(7,_),(12,_),(11,_),(10,_),(8,_),(9,_),(6,_),(0,_),(1,_),(2,_),(23,_),(24,_)] a16:=⟨hn16,hd16,e16_7,e16_12,e16_11,e16_10,e16_8,e16_9,e16_6,e16_0,e16_1,e16_2,e16_23,e16_24,AL5⟩
   replace hs:=hs.kn g16
   refine Jn (c:=cb) (el:=(xa ^^^ xb)) DJ rfl rfl rfl rfl rfl rfl rfl (tyB (((xa ^^^ xb:Nat):Int))) hs AAZ (by decide) (by first|omega|(simp only[List.length_set];omega)) rfl fun w17 g17 h17=>?_
   replace ha:=(ha.kn g16).offR g17 (fun k hk e=>ap_ha_hs k hk (Cp (j:=i) hs (by omega) e))
   replace hb:=(hb.kn g16).offR g17 (fun k hk e=>ap_hb_hs k hk (Cp (j:=i) hs (by omega) e))
   replace HG:=Bi (AA (AA HG Xp) g16) g17 fun k e=>lo_hs k (Cp (j:=i) hs (by omega) e)
   refine AE ?_
   refine y12 _ _ ?_
   refine k11 _ _ ?_
   refine ALy ?_
   refine AJ DJ 1 [(25,.int .i64 (((i+1:Nat):Int)))]
    ⟨Cz r6 (fun _=>Dk (by rw[BG (by omega) (by omega)];omega)),AL5⟩ fun a18 w18 g18 CZ=>?_
   refine AJ (CZ.dl [10]) 1 [(10,.int .i64 (((i+1:Nat):Int)))]
    ⟨ym r5,AL5⟩ fun a19 w19 g19 EQ=>?_
   have AG4:=AA g18 g19
   refine AE ?_
   replace ha:=ha.kn AG4
   replace hb:=hb.kn AG4
   replace hs:=h17.kn AG4
   replace HG:=AA HG AG4
   exact⟨⟨i+1,sl.set i (xa ^^^ xb),by omega,by rw[List.length_set];exact hsl,Ya (by omega) hxa hxb hq,⟨EQ.1,EQ.2.1,EQ.2.2.1,EQ.2.2.2.2.2.2.2.1,(AG EQ).1,(AG EQ).2.1,(AG EQ).2.2.1,(AG EQ).2.2.2.1,(AG EQ).2.2.2.2.1,AL5⟩,HG,ha,hb,hs,ap_ha_hs,ap_hb_hs,lo_hs⟩,by rw[show _=_ from EQ.2.2.1,show _=_ from sv7.2.2.1];simp[intOf];omega⟩
 · have hfin:=ABZ hnx (by omega) hsl (by omega) hq
   refine ALy ?_
   refine AJ sv7 1 [(11,.bool false)]
    ⟨Il r7 (fun _=>Bo (by simp;omega)),AL5⟩ fun a20 w20 g20 Eu=>?_
   refine AE ?_
   refine k8 _ _ ?_
   refine ALz fun K21 k21=>?_
   refine A1 Eu rfl rfl ?_
   refine wp_exit ?_
   repeat refine CY ?_
   refine x6 _ _ ?_
   refine k3 _ _ ?_
   refine ALz fun K22 k22=>?_
   refine ALy ?_
   refine AJ Eu 1 [(26,.slice so n sc)]
    ⟨ym r5,AL5⟩ fun a23 w23 g23 Cw=>?_
   have AKH:=AA g20 g23
   refine AY (v:=.slice so n sc) Cw r6 fun a24 ER=>?_
   refine AE ?_
   refine k22 _ _ ?_
   replace hs:=hs.kn AKH
   replace HG:=AA HG AKH
   refine AL2 ?_
   repeat refine AL ?_
   rw[hfin,←NP] at hs
   refine BI (fn:=Tryz.f106) ER (BC (p:=6) Tryz.results106 ER rfl rfl) ?_
   exact⟨rfl,HG,hs⟩
theorem AE1 {x y:List Nat} (hx:Dg x) (hy:Dg y):Dg (Ip x y):=⟨by rw[NO (by rw[hx.1,hy.1];omega),hx.1],ABW hx.2 hy.2⟩
theorem ACx (z0 x y:List Nat) (hz:Dg z0) (hx:Dg x) (hy:Dg y) (w:World) :
   Calls Tryz.prog 104 #[AP z0,AP x,AP y] w fun e w'=>e=.returned (AP (Ip x y))∧w.grownBy w' none:=by
 have hz0:z0.length=32:=hz.1
 refine BZ Tryz.func104 rfl Tryz.ntmps104 rfl fun a0 sv0=>?_
 have HG:=World.grownBy.refl w none
 replace sv0:Sv 24 [] [(0,AP z0),(1,AP x),(2,AP y)] a0:=sv0
 refine ALz fun K1 k1=>?_
 refine ALy ?_
 refine Bj sv0 r6 (B6 z0 hz.1) fun a2 w2 Jy I0 g2 z2 Ad sv2=>?_
 have VU:=Bt HG I0
 refine Bj sv2 r6 (B6 x hx.1) fun a3 w3 ACk VS g3 z3 Bm sv3=>?_
 have Vc:=An Ad VS
 replace Ad:=AC g3 Ad
 refine Bj sv3 r6 (B6 y hy.1) fun a4 w4 AJB AG5 g4 z4 LN sv4=>?_
 have Vd:=An Ad AG5
 replace Ad:=AC g4 Ad
 replace HG:=AA (AA (AA HG g2) g3) g4
 refine Ar (T:=23) (Z:=(bv AR)) sv4 rfl rfl rfl (fun a w=>by kernel_rfl) fun a5 w5 AKI ABa g5 z5 LO sv5=>?_
 have Ve:=An Ad ABa
 have AG6:=Bt HG ABa
 replace Ad:=AC g5 Ad
 refine AE ?_
 refine k1 _ _ ?_
 refine ALz fun K6 k6=>?_
 refine ALz fun K7 k7=>?_
 refine ALy ?_
 refine AJ sv5 3 [(8,AP z0),(9,.int .i64 32),(10,.int .i64 0)]
   ⟨yl r6 (B6 z0 hz.1) Ad,E0 (.inl rfl) rfl trivial (fun _=>rfl),E0 (.inl rfl) rfl trivial (fun _=>rfl),AL5⟩ fun a8 w8 g8 sv8=>?_
 refine AE ?_
 refine k7 _ _ ?_
 refine BM fun Q9 x9 y9 rt9 o9=>?_
 replace Ad:=AC g8 Ad
 replace Bm:=AC g8 (AC g5 (AC g4 Bm))
 replace LN:=AC g8 (AC g5 LN)
 replace LO:=AC g8 LO
 replace HG:=AA (AA HG g5) g8
 refine wp_loop (fun a w'=>∃(j:Nat) (sl:List Nat),(j≤32)∧(sl.length=32)∧(∀k,j≤k→sl[k]?=z0[k]?)∧(∀k,k<j→sl[k]?=(Ip x y)[k]?)∧Sv 24 [] [(10,.int .i64 ((j:Int))),(8,AP z0),(9,.int .i64 32),(6,pt AKI),(5,pt AJB),(4,pt ACk),(3,pt Jy),(0,AP z0),(1,AP x),(2,AP y)] a∧w.grownBy w' none∧w'.heap[Jy]?=some (.cells (bv sl).toArray 23 (0,0))∧w'.heap[ACk]?=some (.cells (bv x).toArray 23 (0,0))∧w'.heap[AJB]?=some (.cells (bv y).toArray 23 (0,0))∧w'.heap[AKI]?=some (.cells ((bv AR)).toArray 23 (0,0))) (fun a _=>(32-intOf (a.tmps.getD 10 undef)).toNat) ⟨0,z0,by omega,hz0,fun k hk=>rfl,fun k hk=>by omega,⟨sv8.1,sv8.2.1,sv8.2.2.2.2.1,sv8.2.2.1,sv8.2.2.2.1,sv8.2.2.2.2.2.1,sv8.2.2.2.2.2.2.1,sv8.2.2.2.2.2.2.2.1,(AG sv8).1,(AG sv8).2.1,(AG sv8).2.2.1,(AG sv8).2.2.2.1,AL5⟩,HG,Ad,Bm,LN,LO⟩ fun a10 w10 hI10=>?_
 clear Ad
 clear Bm
 clear LN
 clear LO
 clear HG
 obtain⟨j,sl,hj32,hsl,hkeep,hq,Cb,HG,Ad,Bm,LN,LO⟩:=hI10
 refine ALz fun K11 k11=>?_
 by_cases hj:j<32
 · obtain⟨xa,hxa⟩:∃a,x[j]?=some a:=⟨_,List.getElem?_eq_getElem (by rw[hx.1];exact hj)⟩
   obtain⟨xb,hxb⟩:∃b,y[j]?=some b:=⟨_,List.getElem?_eq_getElem (by rw[hy.1];exact hj)⟩
   have ba:xa<256:=hx.2 _ (List.mem_of_getElem? hxa)
   have bb:xb<256:=hy.2 _ (List.mem_of_getElem? hxb)
   refine ALy ?_
   refine AJ Cb 1 [(11,.bool true)]
    ⟨Il r7 (fun _=>Bo (by simp;omega)),AL5⟩ fun a12 w12 g12 DL=>?_
   refine AE ?_
   refine k11 _ _ ?_
   refine ALz fun K13 k13=>?_
   refine Aw DL rfl rfl ?_
   refine AL3 ?_
   refine k13 _ _ ?_
   refine ALz fun K14 k14=>?_
   refine BM fun Q15 x15 y15 rt15 o15=>?_
   refine ALz fun K16 k16=>?_
   refine ALy ?_
   refine AJ DL 1 [(12,.int .i64 ((j:Int)))]
    ⟨ym r5,AL5⟩ fun a17 w17 g17 FY=>?_
   have VM:=AA g12 g17
   refine AY (v:=.int .i64 ((j:Int))) FY r6 fun a18 CZ=>?_
   refine AE ?_
   refine k16 _ _ ?_
   replace Bm:=AC VM Bm
   replace LN:=AC VM LN
   refine DW (CZ.st w17) (by kernel_rfl) 9 [(13,Sp.is (.int .i64 ((j:Int)))),(14,Sp.is (.int .i64 ((j:Int)))),(15,Sp.is (pk ACk j)),(16,Sp.is (.int .u8 ((xa:Int)))),(17,Sp.is (.int .i64 ((j:Int)))),(18,Sp.is (pk AJB j)),(19,Sp.is (.int .u8 ((xb:Int)))),(20,Sp.is (.int .u8 (((xa ^^^ xb:Nat):Int)))),(21,Sp.is (pk Jy j))] rfl (by kernel_rfl) (by kernel_rfl) (by kernel_rfl) [] (by kernel_rfl)
    ⟨ym r5,ym r5,BA rq8 (fun w=>IQ hj w),Bu r6 (fun _ g=>Ab (PW (xa:Int)) (by simpa using E3 (o:=0) (Ac (AF g Bm (by simp))) hxa)),ym r5,BA rq8 (fun w=>IQ hj w),Bu r6 (fun _ g=>Ab (PW (xb:Int)) (by simpa using E3 (o:=0) (Ac (AF g LN (by simp))) hxb)),Il r7 (fun _=>Vb ba bb),BA rq8 (fun w=>IQ hj w),AL5⟩ trivial
    [] (by kernel_rfl) trivial ⟨.inl rfl,.inl rfl,.inl rfl,.inl rfl,.inl rfl,.inl rfl,.inl rfl,.inl rfl,.inl rfl,AL5⟩ (by kernel_rfl) fun a19 w19 g19 st19 nd19=>?_
   obtain⟨hn19,hd19,e19_13,e19_14,e19_15,e19_16,e19_17,e19_18,e19_19,e19_20,e19_21,e19_7,e19_12,e19_11,e19_10,e19_8,e19_9,e19_6,e19_5,e19_4,e19_3,e19_0,e19_1,e19_2,-⟩:=st19
   have EQ:Sv 24 [] [(7,_),(12,_),(11,_),(10,_),(8,_),(9,_),(6,_),(5,_),(4,_),(3,_),(0,_),(1,_),(2,_),(20,_),(21,_)] a19:=⟨hn19,hd19,e19_7,e19_12,e19_11,e19_10,e19_8,e19_9,e19_6,e19_5,e19_4,e19_3,e19_0,e19_1,e19_2,e19_20,e19_21,AL5⟩
   replace Ad:=AC g19 (AC VM Ad)
   refine ACv EQ rfl rfl rfl rfl rfl rfl rfl (PW _) Ad (by omega) fun w20 g20 h20=>?_
   refine AE ?_
   refine y15 _ _ ?_
   refine k14 _ _ ?_
   refine ALy ?_
   refine AJ EQ 1 [(22,.int .i64 (((j+1:Nat):Int)))]
    ⟨Cz r6 (fun _=>Dk (by rw[BG (by omega) (by omega)];omega)),AL5⟩ fun a21 w21 g21 Di=>?_
   refine AJ (Di.dl [10]) 1 [(10,.int .i64 (((j+1:Nat):Int)))]
    ⟨ym r5,AL5⟩ fun a22 w22 g22 Ct=>?_
   have PY:=AA g21 g22
   refine AE ?_
   replace Ad:=AC PY h20
   replace Bm:=AC PY (AX g20 (AC g19 Bm) Vc)
   replace LN:=AC PY (AX g20 (AC g19 LN) Vd)
   replace LO:=AC PY (AX g20 (AC g19 (AC VM LO)) Ve)
   replace HG:=AA (AD (AA (AA HG VM) g19) g20 VU) PY
   exact⟨⟨j+1,sl.set j (xa ^^^ xb),by omega,by rw[List.length_set];exact hsl,fun k hk=>by rw[List.getElem?_set_ne (by omega)];exact hkeep k (by omega),Ya (by omega) hxa hxb hq,⟨Ct.1,Ct.2.1,Ct.2.2.1,Ct.2.2.2.2.2.2.2.1,(AG Ct).1,(AG Ct).2.1,(AG Ct).2.2.1,(AG Ct).2.2.2.1,(AG Ct).2.2.2.2.1,(AG Ct).2.2.2.2.2.1,(AG Ct).2.2.2.2.2.2.1,(AG Ct).2.2.2.2.2.2.2.1,AL5⟩,HG,Ad,Bm,LN,LO⟩,by rw[show _=_ from Ct.2.2.1,show _=_ from Cb.2.2.1];simp[intOf];omega⟩
 · have hfin:=ABZ hx.1 (by rw[hy.1];omega) hsl (by omega) hq
   have hsn:Dg sl:=hfin▸AE1 hx hy
   refine ALy ?_
   refine AJ Cb 1 [(11,.bool false)]
    ⟨Il r7 (fun _=>Bo (by simp;omega)),AL5⟩ fun a23 w23 g23 Cw=>?_
   refine AE ?_
   refine k11 _ _ ?_
   refine ALz fun K24 k24=>?_
   refine A1 Cw rfl rfl ?_
   refine wp_exit ?_
   repeat refine CY ?_
   refine x9 _ _ ?_
   refine k6 _ _ ?_
   refine ALz fun K25 k25=>?_
   refine ALy ?_
   refine AJ Cw 1 [(23,AP sl)]
    ⟨yl r6 (B6 sl hsn.1) (AC g23 Ad),AL5⟩ fun a26 w26 g26 Cr=>?_
   have AKJ:=AA g23 g26
   refine Ao Cr r7 (B6 sl hsn.1) (AC AKJ LO) (GR hsn) fun w27 g27 h27=>?_
   replace HG:=AD (AA HG AKJ) g27 AG6
   replace LO:=h27
   refine AE ?_
   refine k25 _ _ ?_
   refine AL2 ?_
   repeat refine AL ?_
   refine BI (fn:=Tryz.f104) Cr (E2 (p:=6) Tryz.results104 Cr rfl rfl (B6 sl hsn.1) LO) ?_
   exact⟨by rw[hfin],HG⟩
theorem NQ (x k:List Nat) (hx:Dg x) (hk:Dg k) (w:World) :
  Calls Tryz.prog 56 #[AP x,AP k] w fun e w'=>e=.returned (AP (Mr x k))∧w.grownBy w' none:=by
 refine BZ Tryz.func56 rfl Tryz.ntmps56 rfl fun a0 sv0=>?_
 have HG:=World.grownBy.refl w none
 replace sv0:Sv 10 [] [(0,AP x),(1,AP k)] a0:=sv0
 refine ALz fun K1 k1=>?_
 refine ALy ?_
 refine Bj sv0 r6 (B6 x hx.1) fun a2 w2 Ci Dh g2 z2 AK sv2=>?_
 refine Bj sv2 r6 (B6 k hk.1) fun a3 w3 CX Fd g3 z3 AN sv3=>?_
 replace HG:=AA (AA HG g2) g3
 refine Ar (T:=23) (Z:=(bv AR)) sv3 rfl rfl rfl (fun a w=>by kernel_rfl) fun a4 w4 GV CM g4 z4 AQ sv4=>?_
 have CP:=Bt HG CM
 replace AK:=AC g4 (AC g3 AK)
 replace AN:=AC g4 AN
 refine AE ?_
 refine k1 _ _ ?_
 refine ALz fun K5 k5=>?_
 refine DW (sv4.st w4) (by kernel_rfl) 5 [(5,Sp.is (AP AR)),(6,Sp.is (AP x)),(7,Sp.is (AP k)),(8,Sp.is (AP ((msk k)))),(9,Sp.is (AP ((Mr x k))))] rfl (by kernel_rfl) (by kernel_rfl) (by kernel_rfl) [] (by kernel_rfl)
  ⟨BU (vs:=[]) rfl rfl trivial trivial (fun _=>bD0 _) (fun _=>rfl),yl r6 (B6 x hx.1) AK,yl r6 (B6 k hk.1) AN,Ae [.int .u64 283,AP k,.slice none 0 0] Tryz.func66 (by kernel_rfl) rq4 ⟨rfl,(oy rfl rfl),rfl,AL5⟩ (Ap fun W g=>NG (n:=283) (by decide) rfl hk W),Ae [AP AR,AP x,AP ((msk k))] Tryz.func104 (by kernel_rfl) rq4 ⟨(oy rfl rfl),(oy rfl rfl),(oy rfl rfl),AL5⟩ (Ap fun W g=>ACx AR x (msk k) AO hx (BR 283 k) W),AL5⟩ trivial
  [] (by kernel_rfl) trivial ⟨.inl rfl,.inl rfl,.inl rfl,.inl rfl,.inl rfl,AL5⟩ (by kernel_rfl) fun a6 w6 g6 st6 nd6=>?_
 obtain⟨hn6,hd6,e6_5,e6_6,e6_7,e6_8,e6_9,e6_4,e6_3,e6_2,e6_0,e6_1,-⟩:=st6
 have sv6:Sv 10 [] [(4,_),(3,_),(2,_),(0,_),(1,_),(9,_)] a6:=⟨hn6,hd6,e6_4,e6_3,e6_2,e6_0,e6_1,e6_9,AL5⟩
 refine Ao sv6 r7 (B6 ((Mr x k)) (AE1 hx (BR 283 k)).1) (AC g6 AQ) (GR (AE1 hx (BR 283 k))) fun w7 g7 h7=>?_
 replace HG:=AD (AA (AA HG g4) g6) g7 CP
 replace AQ:=h7
 refine AE ?_
 refine k5 _ _ ?_
 refine AL2 ?_
 repeat refine AL ?_
 refine BI (fn:=Tryz.f56) sv6 (E2 (p:=4) Tryz.results56 sv6 rfl rfl (B6 ((Mr x k)) (AE1 hx (BR 283 k)).1) AQ) ?_
 exact⟨rfl,HG⟩
end Go.Proofs.YtbfjfnbcmojpiaaGreat
