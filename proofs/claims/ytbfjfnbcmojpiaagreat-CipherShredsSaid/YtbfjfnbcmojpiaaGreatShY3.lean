import Derived.Test.YtbfjfnbcmojpiaaGreatShY1
import Derived.Test.YtbfjfnbcmojpiaaGreatShSG
import Derived.Test.YtbfjfnbcmojpiaaGreatShSH
set_option linter.unusedSimpArgs false
set_option linter.unusedVariables false
set_option maxRecDepth 100000
set_option maxHeartbeats 4000000
namespace Go.Proofs.YtbfjfnbcmojpiaaGreat
open Go.RowKit Go.Shelf
structure DD where
 x:List Nat
 h:Dg x
def ML (d:DD):List Value:=bv d.x
theorem Hh (d:DD):(ML d).length=32:=by unfold ML;rw[AJ,d.h.1]
def RdD (w:World) (v:Value) (ds:List DD):Prop:=SlB w 32 v ds.length (ds.flatMap ML)
section
variable {w w':World} {v:Value} {ds:List DD}
theorem RdD.kn (h:RdD w v ds) (g:w.grownBy w' none):RdD w' v ds:=SlB.kn h g
theorem RdD.lt (h:RdD w v ds):∀k,Bq v k→k<w.heap.size:=SlB.lt h
theorem RdD.offR (h:RdD w v ds) {row:Option Nat} (g:w.grownBy w' row) (hb:∀k,Bq v k→row≠some k):RdD w' v ds:=SlB.offR h g hb
theorem RdD.nil (w:World):RdD w (.slice none 0 0) []:=⟨Sl.nil w 32,fun k hk=>by simp[Bq,Value.ownBlock] at hk⟩
theorem RdD.shape (h:RdD w v ds):∃ao cap,v=.slice ao ds.length cap:=by
 obtain⟨ao,cap,rfl,_⟩:=h.1.shape
 exact⟨ao,cap,rfl⟩
end
theorem Mq {ds:List DD} {j:Nat} (h:j<ds.length):Hg (ds.map DD.x) j=ds[j].x:=by rw[MJ (by simpa using h),List.getElem_map]
theorem AIy {ds:List DD} {i:Nat} {x y:DD} (hi:i<ds.length) (hp:i-1<ds.length) (hx:ds[i]=x) (hy:ds[i-1]=y):AAd (ds.map DD.x) i=(decide (i=0)||Es y.x x.x):=by
 unfold AAd
 rw[Mq hi,Mq hp,hx,hy]
theorem M4 (v:Value) (h:v.oneCell'=true):TY Tryz.prog 28 [v] v:=TY.one' Tryz.underlying28 rfl (by kernel_rfl) h
def cb (n:Nat):List Value:=[.int .u8 (n:Int)]
theorem AAe (n:Nat):(cb n).length=1:=rfl
theorem OY (l:List Nat):bv l=l.flatMap cb:=by
 induction l with
 | nil=>rfl
 | cons a l ih=>rw[List.flatMap_cons,←ih];rfl
theorem YY {w:World} {n cap j:Nat} {ao:Option Addr} {l:List Nat} (h:Sl w 1 (.slice ao n cap) n (bv l)) (hj:j<l.length):w.rangeAt (bO ao) (oO ao+j*1) [.int .u8 (l[j]:Int)]:=by
 rw[OY] at h
 exact Dq h AAe hj (by decide)
theorem Hi (x:Int):TY Tryz.prog 2 [.int .i64 x] (.int .i64 x):=TY.one' Tryz.underlying2 rfl (by kernel_rfl) rfl
theorem dsT:ET Tryz.prog 28 23 (AP AQ) 32 32:=⟨Tryz.underlying28,info_parts (by kernel_rfl),rfl,by decide,by decide⟩
theorem ABe {own:List (List Nat)} {joint addr:Int} (h:addr<0∨17179869184≤addr):hd own joint addr=false:=by
 have:Br addr=false:=by unfold Br;simp;omega
 unfold hd;rw[this];rfl
theorem AE4 {own:List (List Nat)} {joint addr:Int} (h:joint≠0) (h1:joint≠1):hd own joint addr=false:=by unfold hd;simp[h,h1]
theorem AIz {own:List (List Nat)} {joint addr:Int} (h:16<own.length):hd own joint addr=false:=by
 have:decide (own.length≤16)=false:=decide_eq_false (by omega)
 unfold hd;rw[this];simp
theorem AI0 {own:List (List Nat)} {joint addr:Int} (h:asc own=false):hd own joint addr=false:=by unfold hd;rw[h];simp
theorem AI1 {own:List (List Nat)} {joint addr:Int} (h1:0≤addr∧addr<17179869184) (h2:joint=0∨joint=1) (h3:own.length≤16) (h4:asc own=true):hd own joint addr=true:=by
 have h5:Br addr=true:=by unfold Br;simp;omega
 unfold hd;rw[h5,h4];rcases h2 with rfl|rfl<;>simp[h3]
theorem AAf (ds:List DD) (ao:Option Addr) (cap:Nat) (joint addr:Int) (w:World) (hr:RdD w (.slice ao ds.length cap) ds) :
   Calls Tryz.prog 50 #[.slice ao ds.length cap,.int .i64 joint,.int .i64 addr] w fun e w'=>e=.returned (.bool (hd (ds.map DD.x) joint addr))∧w.grownBy w' none:=by
 have hmap:(ds.map DD.x).length=ds.length:=List.length_map _
 refine Bg Tryz.func50 rfl Tryz.ntmps50 rfl fun a0 sv0=>?_
 have HG:=World.grownBy.refl w none
 replace sv0:Sv 46 [] [(0,.slice ao ds.length cap),(1,.int .i64 joint),(2,.int .i64 addr)] a0:=sv0
 refine ALo fun K1 k1=>?_
 refine ALn ?_
 refine Aa (v:=.bool false) sv0 r6 fun a2 sv2=>?_
 refine AE ?_
 refine k1 _ _ ?_
 refine ALo fun K3 k3=>?_
 suffices MG4:∀(a':Act) (w':World),Sv 46 [] [(0,.slice ao ds.length cap),(1,.int .i64 joint),(2,.int .i64 addr)] a'→(0≤addr∧addr<17179869184)→(joint=0∨joint=1)→w.grownBy w' none→(RdD w' (.slice ao ds.length cap) ds)→K3 a' w' by
   rcases(show addr<0∨(0≤addr∧17179869184≤addr)∨((0≤addr∧addr<17179869184)∧joint≠0∧joint≠1)∨((0≤addr∧addr<17179869184)∧joint=0)∨((0≤addr∧addr<17179869184)∧joint=1) by omega) with h1|⟨h0,h1⟩|⟨h0,h1,h2⟩|⟨h0,h2⟩|⟨h0,h2⟩
   · refine ALo fun K5 k5=>?_
     refine ALn ?_
     refine AI sv2 14 [(8,.int .i64 addr),(9,.bool true),(10,.bool true),(11,undef),(12,undef),(13,.bool true),(14,.bool true),(15,undef),(16,undef),(17,undef),(18,undef),(19,undef),(20,undef),(21,.bool true)]
       ⟨ym r5,CQ r6 (fun _=>Bv (decide_eq_true (by omega))),ym r5,AX r6,AX r6,B8 r7,ym r5,AX r6,AX r6,AX r6,A3 ⟨17,rfl,rfl,fun _ _ h=>h⟩ rfl (fun _=>rfl),A3 ⟨17,rfl,rfl,fun _ _ h=>h⟩ rfl (fun _=>rfl),AX r6,B8 r7,ALu⟩ fun a6 w6 g6 sv6=>?_
     refine AE ?_
     refine k5 _ _ ?_
     refine Ay sv6 rfl rfl ?_
     refine ALo fun K7 k7=>?_
     refine ALn ?_
     refine Aa (v:=.bool false) sv6 r6 fun a8 sv8=>?_
     refine AE ?_
     refine k7 _ _ ?_
     replace hr:=hr.kn g6
     replace HG:=AA HG g6
     refine ALr ?_
     repeat refine AL ?_
     refine BH (fn:=Tryz.f50) sv8 (BD (p:=6) Tryz.results50 sv8 rfl rfl) ?_
     exact⟨Ht ((ABe (.inl h1)).symm),HG⟩
   · refine ALo fun K9 k9=>?_
     refine ALn ?_
     refine AI sv2 14 [(8,.int .i64 addr),(9,.bool false),(10,.bool false),(11,.int .i64 addr),(12,.bool true),(13,.bool true),(14,.bool true),(15,undef),(16,undef),(17,undef),(18,undef),(19,undef),(20,undef),(21,.bool true)]
       ⟨ym r5,CQ r6 (fun _=>Bv (decide_eq_false (by omega))),ym r5,Aw rq8,Bc rq9 (fun _=>FY (decide_eq_true (by omega))),Ax rq9,ym r5,AX r6,AX r6,AX r6,A3 ⟨17,rfl,rfl,fun _ _ h=>h⟩ rfl (fun _=>rfl),A3 ⟨17,rfl,rfl,fun _ _ h=>h⟩ rfl (fun _=>rfl),AX r6,B8 r7,ALu⟩ fun a10 w10 g10 Ci=>?_
     refine AE ?_
     refine k9 _ _ ?_
     refine Ay Ci rfl rfl ?_
     refine ALo fun K11 k11=>?_
     refine ALn ?_
     refine Aa (v:=.bool false) Ci r6 fun a12 DX=>?_
     refine AE ?_
     refine k11 _ _ ?_
     replace hr:=hr.kn g10
     replace HG:=AA HG g10
     refine ALr ?_
     repeat refine AL ?_
     refine BH (fn:=Tryz.f50) DX (BD (p:=6) Tryz.results50 DX rfl rfl) ?_
     exact⟨Ht ((ABe (.inr h1)).symm),HG⟩
   · refine ALo fun K13 k13=>?_
     refine ALn ?_
     refine AI sv2 14 [(8,.int .i64 addr),(9,.bool false),(10,.bool false),(11,.int .i64 addr),(12,.bool false),(13,.bool false),(14,.bool false),(15,.int .i64 joint),(16,.bool true),(17,.bool true),(18,.int .i64 joint),(19,.bool true),(20,.bool true),(21,.bool true)]
       ⟨ym r5,CQ r6 (fun _=>Bv (decide_eq_false (by omega))),ym r5,Aw rq8,Bc rq9 (fun _=>FY (decide_eq_false (by omega))),Ax rq9,ym r5,Aw rq8,Bc rq9 (fun _=>Dt (by simp;omega)),Aw rq8,Aw rq8,Bc rq9 (fun _=>Dt (by simp;omega)),Ea rfl rfl (gy rfl rfl rfl) (oy rfl rfl) (oy rfl rfl) (fun _=>rfl),Ax rq9,ALu⟩ fun a14 w14 g14 Db=>?_
     refine AE ?_
     refine k13 _ _ ?_
     refine Ay Db rfl rfl ?_
     refine ALo fun K15 k15=>?_
     refine ALn ?_
     refine Aa (v:=.bool false) Db r6 fun a16 Cu=>?_
     refine AE ?_
     refine k15 _ _ ?_
     replace hr:=hr.kn g14
     replace HG:=AA HG g14
     refine ALr ?_
     repeat refine AL ?_
     refine BH (fn:=Tryz.f50) Cu (BD (p:=6) Tryz.results50 Cu rfl rfl) ?_
     exact⟨Ht ((AE4 h1 h2).symm),HG⟩
   · refine ALo fun K17 k17=>?_
     refine ALn ?_
     refine AI sv2 14 [(8,.int .i64 addr),(9,.bool false),(10,.bool false),(11,.int .i64 addr),(12,.bool false),(13,.bool false),(14,.bool false),(15,.int .i64 joint),(16,.bool false),(17,.bool false),(18,undef),(19,undef),(20,.bool false),(21,.bool false)]
       ⟨ym r5,CQ r6 (fun _=>Bv (decide_eq_false (by omega))),ym r5,Aw rq8,Bc rq9 (fun _=>FY (decide_eq_false (by omega))),Ax rq9,ym r5,Aw rq8,Bc rq9 (fun _=>Dt (by simp;omega)),Aw rq8,AX r6,AX r6,Ea rfl rfl (gy rfl rfl rfl) (oy rfl rfl) rfl (fun _=>rfl),Ax rq9,ALu⟩ fun a18 w18 g18 CU=>?_
     refine AE ?_
     refine k17 _ _ ?_
     refine Az CU rfl rfl ?_
     refine ALs ?_
     replace hr:=hr.kn g18
     replace HG:=AA HG g18
     have svm:Sv 46 [] [(0,_),(1,_),(2,_)] a18:=⟨CU.1,CU.2.1,(AH (AH CU)).2.1,(AH (AH CU)).2.2.1,(AH (AH CU)).2.2.2.1,ALu⟩
     exact MG4 _ _ svm (h0) (.inl h2) HG hr
   · refine ALo fun K19 k19=>?_
     refine ALn ?_
     refine AI sv2 14 [(8,.int .i64 addr),(9,.bool false),(10,.bool false),(11,.int .i64 addr),(12,.bool false),(13,.bool false),(14,.bool false),(15,.int .i64 joint),(16,.bool true),(17,.bool true),(18,.int .i64 joint),(19,.bool false),(20,.bool false),(21,.bool false)]
       ⟨ym r5,CQ r6 (fun _=>Bv (decide_eq_false (by omega))),ym r5,Aw rq8,Bc rq9 (fun _=>FY (decide_eq_false (by omega))),Ax rq9,ym r5,Aw rq8,Bc rq9 (fun _=>Dt (by simp;omega)),Aw rq8,Aw rq8,Bc rq9 (fun _=>Dt (by simp;omega)),Ea rfl rfl (gy rfl rfl rfl) (oy rfl rfl) (oy rfl rfl) (fun _=>rfl),Ax rq9,ALu⟩ fun a20 w20 g20 FA=>?_
     refine AE ?_
     refine k19 _ _ ?_
     refine Az FA rfl rfl ?_
     refine ALs ?_
     replace hr:=hr.kn g20
     replace HG:=AA HG g20
     have svm:Sv 46 [] [(0,_),(1,_),(2,_)] a20:=⟨FA.1,FA.2.1,(AH (AH FA)).2.1,(AH (AH FA)).2.2.1,(AH (AH FA)).2.2.2.1,ALu⟩
     exact MG4 _ _ svm (h0) (.inr h2) HG hr
 clear hr
 clear HG
 intro a4 w4 sv4 h0 h2 HG hr
 refine k3 _ _ ?_
 refine ALo fun K21 k21=>?_
 refine ALo fun K22 k22=>?_
 by_cases hbig:16<ds.length
 · refine ALn ?_
   refine AI sv4 3 [(22,.slice ao ds.length cap),(23,.int .i64 ((ds.length:Nat))),(24,.bool true)]
     ⟨ym r5,CB (Tryz.underlying28) rfl rfl trivial (oy rfl rfl) (fun _=>rfl),CQ r6 (fun _=>DQ (by simp;omega)),ALu⟩ fun a23 w23 g23 Cz=>?_
   refine AE ?_
   refine k22 _ _ ?_
   refine Ay Cz rfl rfl ?_
   refine ALo fun K24 k24=>?_
   refine ALn ?_
   refine Aa (v:=.bool false) Cz r6 fun a25 DY=>?_
   refine AE ?_
   refine k24 _ _ ?_
   replace hr:=hr.kn g23
   replace HG:=AA HG g23
   refine ALr ?_
   repeat refine AL ?_
   refine BH (fn:=Tryz.f50) DY (BD (p:=6) Tryz.results50 DY rfl rfl) ?_
   exact⟨Ht ((AIz (by omega)).symm),HG⟩
 · refine ALn ?_
   refine AI sv4 3 [(22,.slice ao ds.length cap),(23,.int .i64 ((ds.length:Nat))),(24,.bool false)]
     ⟨ym r5,CB (Tryz.underlying28) rfl rfl trivial (oy rfl rfl) (fun _=>rfl),CQ r6 (fun _=>DQ (by simp;omega)),ALu⟩ fun a26 w26 g26 Cj=>?_
   refine AE ?_
   refine k22 _ _ ?_
   refine Az Cj rfl rfl ?_
   refine ALs ?_
   refine k21 _ _ ?_
   refine ALo fun K27 k27=>?_
   refine ALo fun K28 k28=>?_
   refine ALn ?_
   refine AI Cj 3 [(25,.slice ao ds.length cap),(26,.int .i64 ((ds.length:Nat))),(27,.int .i64 0)]
     ⟨ym r5,CB (Tryz.underlying28) rfl rfl trivial (oy rfl rfl) (fun _=>rfl),FE (.inl rfl) rfl trivial (fun _=>rfl),ALu⟩ fun a29 w29 g29 CR=>?_
   have Gu:=AA g26 g29
   refine AE ?_
   refine k28 _ _ ?_
   refine BM fun Q30 x30 y30 rt30 o30=>?_
   replace hr:=hr.kn Gu
   replace HG:=AA HG Gu
   refine wp_loop (fun a w'=>∃(i:Nat),(i≤ds.length+1)∧(∀k,k<i→AAd (ds.map DD.x) k=true)∧Sv 46 [] [(27,.int .i64 ((i:Int))),(25,.slice ao ds.length cap),(26,.int .i64 ((ds.length:Nat))),(22,.slice ao ds.length cap),(23,.int .i64 ((ds.length:Nat))),(24,.bool false),(0,.slice ao ds.length cap),(1,.int .i64 joint),(2,.int .i64 addr)] a∧w.grownBy w' none∧RdD w' (.slice ao ds.length cap) ds) (fun a _=>(ds.length+1-intOf (a.tmps.getD 27 undef)).toNat) ⟨0,Nat.zero_le _,fun k hk=>by omega,⟨CR.1,CR.2.1,CR.2.2.2.2.1,CR.2.2.1,CR.2.2.2.1,CR.2.2.2.2.2.1,CR.2.2.2.2.2.2.1,CR.2.2.2.2.2.2.2.1,(AH CR).1,(AH CR).2.1,(AH CR).2.2.1,ALu⟩,HG,hr⟩ fun a31 w31 hI31=>?_
   clear hr
   clear HG
   obtain⟨i,hin,hb,Hu,HG,hr⟩:=hI31
   refine ALo fun K32 k32=>?_
   by_cases hi:i<ds.length
   · have hp:i-1<ds.length:=by omega
     obtain⟨x,hx_x⟩:∃x,ds[i]'hi=x:=⟨_,rfl⟩
     obtain⟨y,hx_y⟩:∃x,ds[(i-1)]'hp=x:=⟨_,rfl⟩
     have hchk:=AIy hi hp hx_x hx_y
     refine ALn ?_
     refine AI Hu 1 [(28,.bool true)]
       ⟨Hc r7 (fun _=>Bv (by simp;omega)),ALu⟩ fun a33 w33 g33 IZ=>?_
     refine AE ?_
     refine k32 _ _ ?_
     refine ALo fun K34 k34=>?_
     refine Ay IZ rfl rfl ?_
     refine ALs ?_
     refine k34 _ _ ?_
     refine ALo fun K35 k35=>?_
     refine BM fun Q36 x36 y36 rt36 o36=>?_
     refine ALo fun K37 k37=>?_
     refine ALn ?_
     refine AI IZ 1 [(29,.int .i64 ((i:Int)))]
       ⟨ym r5,ALu⟩ fun a38 w38 g38 Ro=>?_
     have AJ8:=AA g33 g38
     refine Aa (v:=.int .i64 ((i:Int))) Ro r6 fun a39 L9=>?_
     refine AE ?_
     refine k37 _ _ ?_
     refine ALo fun K40 k40=>?_
     replace hr:=hr.kn AJ8
     replace HG:=AA HG AJ8
     rcases(show i=0∨(0<i∧Es y.x x.x=true)∨(0<i∧Es y.x x.x=false) by
        rcases Nat.eq_zero_or_pos i with h|h<;>cases h3:Es y.x x.x<;>simp[h]) with hz|⟨hz,hc⟩|⟨hz,hc⟩
     · have hok:(decide (i=0)||Es y.x x.x)=true:=by simp[hz]
       refine Ck L9 [(30,.int .i64 ((i:Int))),(31,.bool false),(32,.bool false),(33,undef),(34,undef),(35,undef),(36,undef),(37,undef),(38,undef),(39,undef),(40,undef),(41,undef),(42,undef),(43,undef),(44,.bool false)]
        ⟨ym r5,CQ r6 (fun _=>DQ (by simp;omega)),ym r5,AX r6,AX r6,AX r6,AX r6,AX r6,AX r6,AX r6,AX r6,AX r6,AX r6,AX r6,B8 r7,ALu⟩ fun a41 w41 g41 Kh=>?_
       refine k40 _ _ ?_
       refine Az Kh rfl rfl ?_
       refine ALs ?_
       refine y36 _ _ ?_
       refine k35 _ _ ?_
       refine ALn ?_
       refine AI Kh 1 [(45,.int .i64 (((i+1:Nat):Int)))]
        ⟨CQ r6 (fun _=>DV (by rw[BG (by omega) (by omega)];omega)),ALu⟩ fun a42 w42 g42 GK=>?_
       have F6:=AA g41 g42
       refine AI (GK.dl [27]) 1 [(27,.int .i64 (((i+1:Nat):Int)))]
        ⟨ym r5,ALu⟩ fun a43 w43 g43 Kg=>?_
       have AJ9:=AA F6 g43
       refine AE ?_
       replace hr:=hr.kn AJ9
       replace HG:=AA HG AJ9
       exact⟨⟨i+1,by omega,fun k hk=>if e:k=i then (by rw[e,hchk];exact hok) else hb k (by omega),⟨Kg.1,Kg.2.1,Kg.2.2.1,(AH (AH Kg)).2.2.2.2.2.2.1,(AH (AH Kg)).2.2.2.2.2.2.2.1,(AH (AH (AH Kg))).1,(AH (AH (AH Kg))).2.1,(AH (AH (AH Kg))).2.2.1,(AH (AH (AH Kg))).2.2.2.1,(AH (AH (AH Kg))).2.2.2.2.1,(AH (AH (AH Kg))).2.2.2.2.2.1,ALu⟩,HG,hr⟩,by rw[show _=_ from Kg.2.2.1,show _=_ from Hu.2.2.1];simp[intOf];omega⟩
     · have hok:(decide (i=0)||Es y.x x.x)=true:=by simp[hz,hc]
       refine Ck L9 [(30,.int .i64 ((i:Int))),(31,.bool true),(32,.bool true),(33,.slice ao ds.length cap),(34,.int .i64 ((i:Int))),(35,.int .i64 (((i-1:Nat):Int))),(36,pk ((bO ao)) (oO ao+(i-1)*32)),(37,.slice ((some ⟨(bO ao),oO ao+(i-1)*32,none⟩)) 32 32),(38,.slice ao ds.length cap),(39,.int .i64 ((i:Int))),(40,pk ((bO ao)) (oO ao+i*32)),(41,.slice ((some ⟨(bO ao),oO ao+i*32,none⟩)) 32 32),(42,.int .i64 ((Hr y.x x.x))),(43,.bool false),(44,.bool false)]
        ⟨ym r5,CQ r6 (fun _=>DQ (by simp;omega)),ym r5,Aw rq8,Aw rq8,Bc rq9 (fun _=>GF (by rw[BG (by omega) (by omega)];omega)),C4 rfl rfl (gy rfl rfl rfl) (oy rfl rfl) (oy rfl rfl) (fun w=>Ce Tryz.underlying28 (by kernel_rfl) (hr.1) (by omega) (rfl) w) (fun _=>rfl),Hq (l:=none) (u:=none) rfl rfl (gy rfl rfl rfl) (oy rfl rfl) trivial trivial (L5 ((bO ao)) (oO ao+(i-1)*32)) (fun _=>rfl),Aw rq8,Aw rq8,C4 rfl rfl (gy rfl rfl rfl) (oy rfl rfl) (oy rfl rfl) (fun w=>Ce Tryz.underlying28 (by kernel_rfl) (hr.1) (by omega) (rfl) w) (fun _=>rfl),Hq (l:=none) (u:=none) rfl rfl (gy rfl rfl rfl) (oy rfl rfl) trivial trivial (L5 ((bO ao)) (oO ao+i*32)) (fun _=>rfl),Bf [.slice ((some ⟨(bO ao),oO ao+(i-1)*32,none⟩)) 32 32,.slice ((some ⟨(bO ao),oO ao+i*32,none⟩)) 32 32] Tryz.func94 (by kernel_rfl) r7 ⟨(oy rfl rfl),(oy rfl rfl),ALu⟩ (Au fun W g=>KY y.h x.h (by have:=Dq (hr.kn g).1 Hh hp (by decide);rw[hx_y] at this;exact this) (by have:=Dq (hr.kn g).1 Hh hi (by decide);rw[hx_x] at this;exact this)),Bc rq9 (fun _=>FY (by rw[Mn,hc];rfl)),Ax rq9,ALu⟩ fun a44 w44 g44 PZ=>?_
       refine k40 _ _ ?_
       refine Az PZ rfl rfl ?_
       refine ALs ?_
       refine y36 _ _ ?_
       refine k35 _ _ ?_
       refine ALn ?_
       refine AI PZ 1 [(45,.int .i64 (((i+1:Nat):Int)))]
        ⟨CQ r6 (fun _=>DV (by rw[BG (by omega) (by omega)];omega)),ALu⟩ fun a45 w45 g45 CL=>?_
       have SA:=AA g44 g45
       refine AI (CL.dl [27]) 1 [(27,.int .i64 (((i+1:Nat):Int)))]
        ⟨ym r5,ALu⟩ fun a46 w46 g46 IC=>?_
       have AKA:=AA SA g46
       refine AE ?_
       replace hr:=hr.kn AKA
       replace HG:=AA HG AKA
       exact⟨⟨i+1,by omega,fun k hk=>if e:k=i then (by rw[e,hchk];exact hok) else hb k (by omega),⟨IC.1,IC.2.1,IC.2.2.1,(AH (AH IC)).2.2.2.2.2.2.1,(AH (AH IC)).2.2.2.2.2.2.2.1,(AH (AH (AH IC))).1,(AH (AH (AH IC))).2.1,(AH (AH (AH IC))).2.2.1,(AH (AH (AH IC))).2.2.2.1,(AH (AH (AH IC))).2.2.2.2.1,(AH (AH (AH IC))).2.2.2.2.2.1,ALu⟩,HG,hr⟩,by rw[show _=_ from IC.2.2.1,show _=_ from Hu.2.2.1];simp[intOf];omega⟩
     · refine Ck L9 [(30,.int .i64 ((i:Int))),(31,.bool true),(32,.bool true),(33,.slice ao ds.length cap),(34,.int .i64 ((i:Int))),(35,.int .i64 (((i-1:Nat):Int))),(36,pk ((bO ao)) (oO ao+(i-1)*32)),(37,.slice ((some ⟨(bO ao),oO ao+(i-1)*32,none⟩)) 32 32),(38,.slice ao ds.length cap),(39,.int .i64 ((i:Int))),(40,pk ((bO ao)) (oO ao+i*32)),(41,.slice ((some ⟨(bO ao),oO ao+i*32,none⟩)) 32 32),(42,.int .i64 ((Hr y.x x.x))),(43,.bool true),(44,.bool true)]
        ⟨ym r5,CQ r6 (fun _=>DQ (by simp;omega)),ym r5,Aw rq8,Aw rq8,Bc rq9 (fun _=>GF (by rw[BG (by omega) (by omega)];omega)),C4 rfl rfl (gy rfl rfl rfl) (oy rfl rfl) (oy rfl rfl) (fun w=>Ce Tryz.underlying28 (by kernel_rfl) (hr.1) (by omega) (rfl) w) (fun _=>rfl),Hq (l:=none) (u:=none) rfl rfl (gy rfl rfl rfl) (oy rfl rfl) trivial trivial (L5 ((bO ao)) (oO ao+(i-1)*32)) (fun _=>rfl),Aw rq8,Aw rq8,C4 rfl rfl (gy rfl rfl rfl) (oy rfl rfl) (oy rfl rfl) (fun w=>Ce Tryz.underlying28 (by kernel_rfl) (hr.1) (by omega) (rfl) w) (fun _=>rfl),Hq (l:=none) (u:=none) rfl rfl (gy rfl rfl rfl) (oy rfl rfl) trivial trivial (L5 ((bO ao)) (oO ao+i*32)) (fun _=>rfl),Bf [.slice ((some ⟨(bO ao),oO ao+(i-1)*32,none⟩)) 32 32,.slice ((some ⟨(bO ao),oO ao+i*32,none⟩)) 32 32] Tryz.func94 (by kernel_rfl) r7 ⟨(oy rfl rfl),(oy rfl rfl),ALu⟩ (Au fun W g=>KY y.h x.h (by have:=Dq (hr.kn g).1 Hh hp (by decide);rw[hx_y] at this;exact this) (by have:=Dq (hr.kn g).1 Hh hi (by decide);rw[hx_x] at this;exact this)),Bc rq9 (fun _=>FY (by rw[Mn,hc];rfl)),Ax rq9,ALu⟩ fun a47 w47 g47 Ld=>?_
       refine k40 _ _ ?_
       refine Ay Ld rfl rfl ?_
       refine ALo fun K48 k48=>?_
       refine ALn ?_
       refine Aa (v:=.bool false) Ld r6 fun a49 GL=>?_
       refine AE ?_
       refine k48 _ _ ?_
       replace HG:=AA HG g47
       refine ALr ?_
       repeat refine AL ?_
       refine rt36 _ _ ?_
       repeat refine AL ?_
       refine rt30 _ _ ?_
       repeat refine AL ?_
       refine BH (fn:=Tryz.f50) GL (BD (p:=6) Tryz.results50 GL rfl rfl) ?_
       exact⟨Ht ((AI0 (AIx (i:=i) (by rw[hmap];exact hi) (by rw[hchk];simp[hc,Nat.ne_of_gt hz]))).symm),HG⟩
   · refine ALn ?_
     refine AI Hu 1 [(28,.bool false)]
       ⟨Hc r7 (fun _=>Bv (by simp;omega)),ALu⟩ fun a50 w50 g50 Vd=>?_
     refine AE ?_
     refine k32 _ _ ?_
     refine ALo fun K51 k51=>?_
     refine Az Vd rfl rfl ?_
     refine wp_exit ?_
     repeat refine CW ?_
     refine x30 _ _ ?_
     refine k27 _ _ ?_
     refine ALo fun K52 k52=>?_
     refine ALn ?_
     refine Aa (v:=.bool true) Vd r6 fun a53 Td=>?_
     refine AE ?_
     refine k52 _ _ ?_
     replace HG:=AA HG g50
     refine ALr ?_
     repeat refine AL ?_
     refine BH (fn:=Tryz.f50) Td (BD (p:=6) Tryz.results50 Td rfl rfl) ?_
     exact⟨Ht ((AI1 h0 h2 (by omega) (AG3 fun k hk=>hb k (by omega))).symm),HG⟩
theorem YZ {x y sl:List Nat} {j a b:Nat} (hj:j<sl.length) (ha:x[j]?=some a) (hb:y[j]?=some b) (h:∀k,k<j→sl[k]?=(Ko x y)[k]?):∀k,k<j+1→(sl.set j (a ^^^ b))[k]?=(Ko x y)[k]?:=by
 intro k hk
 rw[List.getElem?_set]
 by_cases e:j=k
 · subst e
   rw[if_pos rfl,if_pos hj]
   unfold Ko
   rw[List.getElem?_zipWith,ha,hb]
 · rw[if_neg e]
   exact h k (by omega)
theorem ABf {x y sl:List Nat} {n j:Nat} (hx:x.length=n) (hy:n≤y.length) (hs:sl.length=n) (hj:n≤j) (h:∀k,k<j→sl[k]?=(Ko x y)[k]?):sl=Ko x y:=by
 have hl:=OU (a:=x) (b:=y) (by omega)
 refine List.ext_getElem? fun k=>?_
 by_cases hk:k<n
 · exact h k (by omega)
 · rw[List.getElem?_eq_none (by omega),List.getElem?_eq_none (by omega)]
theorem AG4 {P:Program} {a b c:Int} {t:TypeId} {x y:Operand} {w:World} (h:bits .xor .u8 a b=c):(do eqGuard .xor t x y (.int .u8 a) (.int .u8 b);binOp .xor t (.int .u8 a) (.int .u8 b):Sem Value).run P w=.ok (.int .u8 c) w:=by
 subst h
 simp[eqGuard,binOp_xor]
 rfl
theorem ABg {P:Program} {a b:Nat} {t:TypeId} {x y:Operand} {w:World} (ha:a<256) (hb:b<256):(do eqGuard .xor t x y (.int .u8 (a:Int)) (.int .u8 (b:Int));binOp .xor t (.int .u8 (a:Int)) (.int .u8 (b:Int)):Sem Value).run P w=.ok (.int .u8 ((a ^^^ b:Nat):Int)) w:=AG4 (u8_xor_nat a b ha hb)
section
variable {P:Program} {Q:Exit→Act→World→Prop} {ops:Array Oper} {rest:List Oper} {o:Oper} {a:Act} {w:World} {n:Nat} {D:List Deferred} {K:List (Nat×Value)}
theorem AI2 {l:List Nat} {j x:Nat} (hj:j<l.length):bv (l.set j x)=bv (l.take j)++([.int .u8 (x:Int)]++bv (l.drop (j+1))):=by
 rw[OY,OY,OY,AEQ hj]
 rfl
theorem AE5 {l:List Nat} {j:Nat} (hj:j<l.length):bv l=bv (l.take j)++([.int .u8 (l[j]:Int)]++bv (l.drop (j+1))):=by
 rw[OY,OY,OY,Lx hj]
 rfl
theorem ACy (sv:Sv n D K a) (hgd:o.guard=none) {T:TypeId} {x y:Operand} (ho:o.op=.store T x y) (hd:o.dst=none) {b j v:Nat} {l:List Nat} {t:TypeId} (hx:NX K x=true) (hxv:NY K x=.pointer (some ⟨b,j,none⟩)) (hy:NX K y=true) (hyv:NY K y=.int .u8 (v:Int)) (ty:TY P T [.int .u8 (v:Int)] (.int .u8 (v:Int)))
  (hb:w.heap[b]?=some (.cells (bv l).toArray t (0,0))) (hj:j<l.length)
  (h:∀w',w.grownBy w' (some b)→w'.heap[b]?=some (.cells (bv (l.set j v)).toArray t (0,0))→wpList P ops Q rest a w'):wpList P ops Q (o::rest) a w:=by
 rw[AE5 hj] at hb
 refine Re sv hgd ho hd hx hxv hy hyv ty hb (by rw[AJ,List.length_take];omega) rfl fun w' g' hb'=>h w' g' ?_
 rw[hb',AI2 hj]
end
theorem ACz (x y s0:List Nat) (hbx:By x) (hby:By y) (n:Nat) (hn63:n≤1000000) (hnx:x.length=n) (m:Nat) (hym:y.length=m) (hny:n≤m) (so ao bo:Option Addr) (sc ac bc:Nat) (w w1:World) (HG:w.grownBy w1 none) (hs:Own w1 5 1 (.slice so n sc) n (s0.flatMap cb)) (ha:SlB w1 1 (.slice ao n ac) n (bv x)) (hb:SlB w1 1 (.slice bo m bc) m (bv y)) (lo_hs:∀k,Bq (.slice so n sc) k→w.heap.size≤k) (ap_ha_hs:∀k,Bq (.slice ao n ac) k→¬Bq (.slice so n sc) k) (ap_hb_hs:∀k,Bq (.slice bo m bc) k→¬Bq (.slice so n sc) k) :
   Calls Tryz.prog 106 #[.slice so n sc,.slice ao n ac,.slice bo m bc] w1 fun e w'=>e=.returned (.slice so n sc)∧w.grownBy w' none∧Own w' 5 1 (.slice so n sc) n (bv (Ko x y)):=by
 refine Bg Tryz.func106 rfl Tryz.ntmps106 rfl fun a0 sv0=>?_
 have hs0:s0.length=n:=(AIf (Sl.of_own hs) AAe (by decide)).symm
 replace sv0:Sv 27 [] [(0,.slice so n sc),(1,.slice ao n ac),(2,.slice bo m bc)] a0:=sv0
 refine ALo fun K1 k1=>?_
 refine ALn ?_
 refine Aa (v:=.slice none 0 0) sv0 r6 fun a2 sv2=>?_
 refine AE ?_
 refine k1 _ _ ?_
 refine ALo fun K3 k3=>?_
 refine ALo fun K4 k4=>?_
 refine ALn ?_
 refine AI sv2 3 [(8,.slice so n sc),(9,.int .i64 ((n:Nat))),(10,.int .i64 0)]
   ⟨ym r5,CB (Tryz.underlying29) rfl rfl trivial (oy rfl rfl) (fun _=>rfl),FE (.inl rfl) rfl trivial (fun _=>rfl),ALu⟩ fun a5 w5 g5 sv5=>?_
 refine AE ?_
 refine k4 _ _ ?_
 refine BM fun Q6 x6 y6 rt6 o6=>?_
 replace ha:=ha.kn g5
 replace hb:=hb.kn g5
 replace hs:=hs.kn g5
 replace HG:=AA HG g5
 refine wp_loop (fun a w'=>∃(i:Nat) (sl:List Nat),(i≤n)∧(sl.length=n)∧(∀k,k<i→sl[k]?=(Ko x y)[k]?)∧Sv 27 [] [(10,.int .i64 ((i:Int))),(8,.slice so n sc),(9,.int .i64 ((n:Nat))),(6,.slice none 0 0),(0,.slice so n sc),(1,.slice ao n ac),(2,.slice bo m bc)] a∧w.grownBy w' none∧SlB w' 1 (.slice ao n ac) n (bv x)∧SlB w' 1 (.slice bo m bc) m (bv y)∧Own w' 5 1 (.slice so n sc) n (sl.flatMap cb)∧(∀k,Bq (.slice ao n ac) k→¬Bq (.slice so n sc) k)∧(∀k,Bq (.slice bo m bc) k→¬Bq (.slice so n sc) k)∧(∀k,Bq (.slice so n sc) k→w.heap.size≤k)) (fun a _=>(n-intOf (a.tmps.getD 10 undef)).toNat) ⟨0,s0,Nat.zero_le _,hs0,fun k hk=>by omega,⟨sv5.1,sv5.2.1,sv5.2.2.2.2.1,sv5.2.2.1,sv5.2.2.2.1,sv5.2.2.2.2.2.1,sv5.2.2.2.2.2.2.1,sv5.2.2.2.2.2.2.2.1,(AH sv5).1,ALu⟩,HG,ha,hb,hs,ap_ha_hs,ap_hb_hs,lo_hs⟩ fun a7 w7 hI7=>?_
 clear ha
 clear hb
 clear hs
 clear HG
 obtain⟨i,sl,hin,hsl,hq,sv7,HG,ha,hb,hs,ap_ha_hs,ap_hb_hs,lo_hs⟩:=hI7
 refine ALo fun K8 k8=>?_
 by_cases hi:i<n
 · have hix:i<x.length:=by omega
   have hiy:i<y.length:=by omega
   have his:i<sl.length:=by omega
   obtain⟨xa,hx_xa⟩:∃zx,x[i]'hix=zx:=⟨_,rfl⟩
   obtain⟨xb,hx_xb⟩:∃zx,y[i]'hiy=zx:=⟨_,rfl⟩
   obtain⟨xs,hx_xs⟩:∃zx,sl[i]'his=zx:=⟨_,rfl⟩
   have hxa:x[i]?=some xa:=by rw[←hx_xa];exact List.getElem?_eq_getElem _
   have hxb:y[i]?=some xb:=by rw[←hx_xb];exact List.getElem?_eq_getElem _
   have ba:xa<256:=hbx _ (List.mem_of_getElem? hxa)
   have bb:xb<256:=hby _ (List.mem_of_getElem? hxb)
   refine ALn ?_
   refine AI sv7 1 [(11,.bool true)]
    ⟨Hc r7 (fun _=>Bv (by simp;omega)),ALu⟩ fun a9 w9 g9 sv9=>?_
   refine AE ?_
   refine k8 _ _ ?_
   refine ALo fun K10 k10=>?_
   refine Ay sv9 rfl rfl ?_
   refine ALs ?_
   refine k10 _ _ ?_
   refine ALo fun K11 k11=>?_
   refine BM fun Q12 x12 y12 rt12 o12=>?_
   refine ALo fun K13 k13=>?_
   refine ALn ?_
   refine AI sv9 1 [(12,.int .i64 ((i:Int)))]
    ⟨ym r5,ALu⟩ fun a14 w14 g14 Db=>?_
   have Xo:=AA g9 g14
   refine Aa (v:=.int .i64 ((i:Int))) Db r6 fun a15 Nj=>?_
   refine AE ?_
   refine k13 _ _ ?_
   replace ha:=ha.kn Xo
   replace hb:=hb.kn Xo
   replace hs:=hs.kn Xo
   refine DZ (Nj.st w14) (by kernel_rfl) 12 [(13,Sp.is (.slice so n sc)),(14,Sp.is (.int .i64 ((i:Int)))),(15,Sp.is (.slice ao n ac)),(16,Sp.is (.int .i64 ((i:Int)))),(17,Sp.is (pk ((bO ao)) (oO ao+i*1))),(18,Sp.is (.int .u8 ((xa:Int)))),(19,Sp.is (.slice bo m bc)),(20,Sp.is (.int .i64 ((i:Int)))),(21,Sp.is (pk ((bO bo)) (oO bo+i*1))),(22,Sp.is (.int .u8 ((xb:Int)))),(23,Sp.is (.int .u8 (((xa ^^^ xb:Nat):Int)))),(24,Sp.is (pk ((bO so)) (oO so+i*1)))] rfl (by kernel_rfl) (by kernel_rfl) (by kernel_rfl) [] (by kernel_rfl)
    ⟨ym r5,ym r5,ym r5,ym r5,BV rq8 (fun w=>Ce Tryz.underlying29 (by kernel_rfl) (ha.1) (by omega) (rfl) w),CE r6 (fun _ g=>Ac (tyB ((xa:Int))) (by have:=YY (ha.kn g).1 hix;rw[hx_xa] at this;exact this)),ym r5,ym r5,BV rq8 (fun w=>Ce Tryz.underlying29 (by kernel_rfl) (hb.1) (by omega) (rfl) w),CE r6 (fun _ g=>Ac (tyB ((xb:Int))) (by have:=YY (hb.kn g).1 hiy;rw[hx_xb] at this;exact this)),Hc r7 (fun _=>ABg ba bb),BV rq8 (fun w=>Ce Tryz.underlying29 (by kernel_rfl) ((Sl.of_own hs)) (by omega) (rfl) w),ALu⟩ trivial
    [] (by kernel_rfl) trivial ⟨.inl rfl,.inl rfl,.inl rfl,.inl rfl,.inl rfl,.inl rfl,.inl rfl,.inl rfl,.inl rfl,.inl rfl,.inl rfl,.inl rfl,ALu⟩ (by kernel_rfl) fun a16 w16 g16 st16 nd16=>?_
   obtain⟨hn16,hd16,e16_13,e16_14,e16_15,e16_16,e16_17,e16_18,e16_19,e16_20,e16_21,e16_22,e16_23,e16_24,e16_7,e16_12,e16_11,e16_10,e16_8,e16_9,e16_6,e16_0,e16_1,e16_2,-⟩:=st16
   have Cu:Sv 27 [] [(7,_),(12,_),(11,_),(10,_),(8,_),(9,_),(6,_),(0,_),(1,_),(2,_),(23,_),(24,_)] a16:=⟨hn16,hd16,e16_7,e16_12,e16_11,e16_10,e16_8,e16_9,e16_6,e16_0,e16_1,e16_2,e16_23,e16_24,ALu⟩
   replace hs:=hs.kn g16
   refine KV (c:=cb) (el:=(xa ^^^ xb)) Cu rfl rfl rfl rfl rfl rfl rfl (tyB (((xa ^^^ xb:Nat):Int))) hs AAe (by decide) (by first|omega|(simp only[List.length_set];omega)) rfl fun w17 g17 h17=>?_
   replace ha:=(ha.kn g16).offR g17 (fun k hk e=>ap_ha_hs k hk (Ct (j:=i) hs (by omega) e))
   replace hb:=(hb.kn g16).offR g17 (fun k hk e=>ap_hb_hs k hk (Ct (j:=i) hs (by omega) e))
   replace HG:=Bp (AA (AA HG Xo) g16) g17 fun k e=>lo_hs k (Ct (j:=i) hs (by omega) e)
   refine AE ?_
   refine y12 _ _ ?_
   refine k11 _ _ ?_
   refine ALn ?_
   refine AI Cu 1 [(25,.int .i64 (((i+1:Nat):Int)))]
    ⟨CQ r6 (fun _=>DV (by rw[BG (by omega) (by omega)];omega)),ALu⟩ fun a18 w18 g18 CU=>?_
   refine AI (CU.dl [10]) 1 [(10,.int .i64 (((i+1:Nat):Int)))]
    ⟨ym r5,ALu⟩ fun a19 w19 g19 E3=>?_
   have AG5:=AA g18 g19
   refine AE ?_
   replace ha:=ha.kn AG5
   replace hb:=hb.kn AG5
   replace hs:=h17.kn AG5
   replace HG:=AA HG AG5
   exact⟨⟨i+1,sl.set i (xa ^^^ xb),by omega,by rw[List.length_set];exact hsl,YZ (by omega) hxa hxb hq,⟨E3.1,E3.2.1,E3.2.2.1,E3.2.2.2.2.2.2.2.1,(AH E3).1,(AH E3).2.1,(AH E3).2.2.1,(AH E3).2.2.2.1,(AH E3).2.2.2.2.1,ALu⟩,HG,ha,hb,hs,ap_ha_hs,ap_hb_hs,lo_hs⟩,by rw[show _=_ from E3.2.2.1,show _=_ from sv7.2.2.1];simp[intOf];omega⟩
 · have hfin:=ABf hnx (by omega) hsl (by omega) hq
   refine ALn ?_
   refine AI sv7 1 [(11,.bool false)]
    ⟨Hc r7 (fun _=>Bv (by simp;omega)),ALu⟩ fun a20 w20 g20 FA=>?_
   refine AE ?_
   refine k8 _ _ ?_
   refine ALo fun K21 k21=>?_
   refine Az FA rfl rfl ?_
   refine wp_exit ?_
   repeat refine CW ?_
   refine x6 _ _ ?_
   refine k3 _ _ ?_
   refine ALo fun K22 k22=>?_
   refine ALn ?_
   refine AI FA 1 [(26,.slice so n sc)]
    ⟨ym r5,ALu⟩ fun a23 w23 g23 Cz=>?_
   have AKB:=AA g20 g23
   refine Aa (v:=.slice so n sc) Cz r6 fun a24 CI=>?_
   refine AE ?_
   refine k22 _ _ ?_
   replace hs:=hs.kn AKB
   replace HG:=AA HG AKB
   refine ALr ?_
   repeat refine AL ?_
   rw[hfin,←OY] at hs
   refine BH (fn:=Tryz.f106) CI (BD (p:=6) Tryz.results106 CI rfl rfl) ?_
   exact⟨rfl,HG,hs⟩
theorem AE6 {x y:List Nat} (hx:Dg x) (hy:Dg y):Dg (Ko x y):=⟨by rw[OU (by rw[hx.1,hy.1];omega),hx.1],ABc hx.2 hy.2⟩
theorem AC0 (z0 x y:List Nat) (hz:Dg z0) (hx:Dg x) (hy:Dg y) (w:World) :
   Calls Tryz.prog 104 #[AP z0,AP x,AP y] w fun e w'=>e=.returned (AP (Ko x y))∧w.grownBy w' none:=by
 have hz0:z0.length=32:=hz.1
 refine Bg Tryz.func104 rfl Tryz.ntmps104 rfl fun a0 sv0=>?_
 have HG:=World.grownBy.refl w none
 replace sv0:Sv 24 [] [(0,AP z0),(1,AP x),(2,AP y)] a0:=sv0
 refine ALo fun K1 k1=>?_
 refine ALn ?_
 refine Bn sv0 r6 (CD z0 hz.1) fun a2 w2 Ia Ib g2 z2 Ab sv2=>?_
 have Va:=Bt HG Ib
 refine Bn sv2 r6 (CD x hx.1) fun a3 w3 D9 OM g3 z3 AZ sv3=>?_
 have Vh:=Ar Ab OM
 replace Ab:=AC g3 Ab
 refine Bn sv3 r6 (CD y hy.1) fun a4 w4 AI3 AG6 g4 z4 MM sv4=>?_
 have Vi:=Ar Ab AG6
 replace Ab:=AC g4 Ab
 replace HG:=AA (AA (AA HG g2) g3) g4
 refine Av (T:=23) (Z:=(bv AQ)) sv4 rfl rfl rfl (fun a w=>by kernel_rfl) fun a5 w5 AKC ABh g5 z5 MN sv5=>?_
 have Vj:=Ar Ab ABh
 have AG7:=Bt HG ABh
 replace Ab:=AC g5 Ab
 refine AE ?_
 refine k1 _ _ ?_
 refine ALo fun K6 k6=>?_
 refine ALo fun K7 k7=>?_
 refine ALn ?_
 refine AI sv5 3 [(8,AP z0),(9,.int .i64 32),(10,.int .i64 0)]
   ⟨yl r6 (CD z0 hz.1) Ab,FE (.inl rfl) rfl trivial (fun _=>rfl),FE (.inl rfl) rfl trivial (fun _=>rfl),ALu⟩ fun a8 w8 g8 sv8=>?_
 refine AE ?_
 refine k7 _ _ ?_
 refine BM fun Q9 x9 y9 rt9 o9=>?_
 replace Ab:=AC g8 Ab
 replace AZ:=AC g8 (AC g5 (AC g4 AZ))
 replace MM:=AC g8 (AC g5 MM)
 replace MN:=AC g8 MN
 replace HG:=AA (AA HG g5) g8
 refine wp_loop (fun a w'=>∃(j:Nat) (sl:List Nat),(j≤32)∧(sl.length=32)∧(∀k,j≤k→sl[k]?=z0[k]?)∧(∀k,k<j→sl[k]?=(Ko x y)[k]?)∧Sv 24 [] [(10,.int .i64 ((j:Int))),(8,AP z0),(9,.int .i64 32),(6,pt AKC),(5,pt AI3),(4,pt D9),(3,pt Ia),(0,AP z0),(1,AP x),(2,AP y)] a∧w.grownBy w' none∧w'.heap[Ia]?=some (.cells (bv sl).toArray 23 (0,0))∧w'.heap[D9]?=some (.cells (bv x).toArray 23 (0,0))∧w'.heap[AI3]?=some (.cells (bv y).toArray 23 (0,0))∧w'.heap[AKC]?=some (.cells ((bv AQ)).toArray 23 (0,0))) (fun a _=>(32-intOf (a.tmps.getD 10 undef)).toNat) ⟨0,z0,by omega,hz0,fun k hk=>rfl,fun k hk=>by omega,⟨sv8.1,sv8.2.1,sv8.2.2.2.2.1,sv8.2.2.1,sv8.2.2.2.1,sv8.2.2.2.2.2.1,sv8.2.2.2.2.2.2.1,sv8.2.2.2.2.2.2.2.1,(AH sv8).1,(AH sv8).2.1,(AH sv8).2.2.1,(AH sv8).2.2.2.1,ALu⟩,HG,Ab,AZ,MM,MN⟩ fun a10 w10 hI10=>?_
 clear Ab
 clear AZ
 clear MM
 clear MN
 clear HG
 obtain⟨j,sl,hj32,hsl,hkeep,hq,Ci,HG,Ab,AZ,MM,MN⟩:=hI10
 refine ALo fun K11 k11=>?_
 by_cases hj:j<32
 · obtain⟨xa,hxa⟩:∃a,x[j]?=some a:=⟨_,List.getElem?_eq_getElem (by rw[hx.1];exact hj)⟩
   obtain⟨xb,hxb⟩:∃b,y[j]?=some b:=⟨_,List.getElem?_eq_getElem (by rw[hy.1];exact hj)⟩
   have ba:xa<256:=hx.2 _ (List.mem_of_getElem? hxa)
   have bb:xb<256:=hy.2 _ (List.mem_of_getElem? hxb)
   refine ALn ?_
   refine AI Ci 1 [(11,.bool true)]
    ⟨Hc r7 (fun _=>Bv (by simp;omega)),ALu⟩ fun a12 w12 g12 DX=>?_
   refine AE ?_
   refine k11 _ _ ?_
   refine ALo fun K13 k13=>?_
   refine Ay DX rfl rfl ?_
   refine ALs ?_
   refine k13 _ _ ?_
   refine ALo fun K14 k14=>?_
   refine BM fun Q15 x15 y15 rt15 o15=>?_
   refine ALo fun K16 k16=>?_
   refine ALn ?_
   refine AI DX 1 [(12,.int .i64 ((j:Int)))]
    ⟨ym r5,ALu⟩ fun a17 w17 g17 GH=>?_
   have VR:=AA g12 g17
   refine Aa (v:=.int .i64 ((j:Int))) GH r6 fun a18 CU=>?_
   refine AE ?_
   refine k16 _ _ ?_
   replace AZ:=AC VR AZ
   replace MM:=AC VR MM
   refine DZ (CU.st w17) (by kernel_rfl) 9 [(13,Sp.is (.int .i64 ((j:Int)))),(14,Sp.is (.int .i64 ((j:Int)))),(15,Sp.is (pk D9 j)),(16,Sp.is (.int .u8 ((xa:Int)))),(17,Sp.is (.int .i64 ((j:Int)))),(18,Sp.is (pk AI3 j)),(19,Sp.is (.int .u8 ((xb:Int)))),(20,Sp.is (.int .u8 (((xa ^^^ xb:Nat):Int)))),(21,Sp.is (pk Ia j))] rfl (by kernel_rfl) (by kernel_rfl) (by kernel_rfl) [] (by kernel_rfl)
    ⟨ym r5,ym r5,BV rq8 (fun w=>KZ hj w),CE r6 (fun _ g=>Ac (VQ (xa:Int)) (by simpa using Hs (o:=0) (Af (AF g AZ (by simp))) hxa)),ym r5,BV rq8 (fun w=>KZ hj w),CE r6 (fun _ g=>Ac (VQ (xb:Int)) (by simpa using Hs (o:=0) (Af (AF g MM (by simp))) hxb)),Hc r7 (fun _=>ABg ba bb),BV rq8 (fun w=>KZ hj w),ALu⟩ trivial
    [] (by kernel_rfl) trivial ⟨.inl rfl,.inl rfl,.inl rfl,.inl rfl,.inl rfl,.inl rfl,.inl rfl,.inl rfl,.inl rfl,ALu⟩ (by kernel_rfl) fun a19 w19 g19 st19 nd19=>?_
   obtain⟨hn19,hd19,e19_13,e19_14,e19_15,e19_16,e19_17,e19_18,e19_19,e19_20,e19_21,e19_7,e19_12,e19_11,e19_10,e19_8,e19_9,e19_6,e19_5,e19_4,e19_3,e19_0,e19_1,e19_2,-⟩:=st19
   have E3:Sv 24 [] [(7,_),(12,_),(11,_),(10,_),(8,_),(9,_),(6,_),(5,_),(4,_),(3,_),(0,_),(1,_),(2,_),(20,_),(21,_)] a19:=⟨hn19,hd19,e19_7,e19_12,e19_11,e19_10,e19_8,e19_9,e19_6,e19_5,e19_4,e19_3,e19_0,e19_1,e19_2,e19_20,e19_21,ALu⟩
   replace Ab:=AC g19 (AC VR Ab)
   refine ACy E3 rfl rfl rfl rfl rfl rfl rfl (VQ _) Ab (by omega) fun w20 g20 h20=>?_
   refine AE ?_
   refine y15 _ _ ?_
   refine k14 _ _ ?_
   refine ALn ?_
   refine AI E3 1 [(22,.int .i64 (((j+1:Nat):Int)))]
    ⟨CQ r6 (fun _=>DV (by rw[BG (by omega) (by omega)];omega)),ALu⟩ fun a21 w21 g21 Da=>?_
   refine AI (Da.dl [10]) 1 [(10,.int .i64 (((j+1:Nat):Int)))]
    ⟨ym r5,ALu⟩ fun a22 w22 g22 Cw=>?_
   have QP:=AA g21 g22
   refine AE ?_
   replace Ab:=AC QP h20
   replace AZ:=AC QP (AY g20 (AC g19 AZ) Vh)
   replace MM:=AC QP (AY g20 (AC g19 MM) Vi)
   replace MN:=AC QP (AY g20 (AC g19 (AC VR MN)) Vj)
   replace HG:=AA (AD (AA (AA HG VR) g19) g20 Va) QP
   exact⟨⟨j+1,sl.set j (xa ^^^ xb),by omega,by rw[List.length_set];exact hsl,fun k hk=>by rw[List.getElem?_set_ne (by omega)];exact hkeep k (by omega),YZ (by omega) hxa hxb hq,⟨Cw.1,Cw.2.1,Cw.2.2.1,Cw.2.2.2.2.2.2.2.1,(AH Cw).1,(AH Cw).2.1,(AH Cw).2.2.1,(AH Cw).2.2.2.1,(AH Cw).2.2.2.2.1,(AH Cw).2.2.2.2.2.1,(AH Cw).2.2.2.2.2.2.1,(AH Cw).2.2.2.2.2.2.2.1,ALu⟩,HG,Ab,AZ,MM,MN⟩,by rw[show _=_ from Cw.2.2.1,show _=_ from Ci.2.2.1];simp[intOf];omega⟩
 · have hfin:=ABf hx.1 (by rw[hy.1];omega) hsl (by omega) hq
   have hsn:Dg sl:=hfin▸AE6 hx hy
   refine ALn ?_
   refine AI Ci 1 [(11,.bool false)]
    ⟨Hc r7 (fun _=>Bv (by simp;omega)),ALu⟩ fun a23 w23 g23 Cz=>?_
   refine AE ?_
   refine k11 _ _ ?_
   refine ALo fun K24 k24=>?_
   refine Az Cz rfl rfl ?_
   refine wp_exit ?_
   repeat refine CW ?_
   refine x9 _ _ ?_
   refine k6 _ _ ?_
   refine ALo fun K25 k25=>?_
   refine ALn ?_
   refine AI Cz 1 [(23,AP sl)]
    ⟨yl r6 (CD sl hsn.1) (AC g23 Ab),ALu⟩ fun a26 w26 g26 Cj=>?_
   have AKD:=AA g23 g26
   refine As Cj r7 (CD sl hsn.1) (AC AKD MN) (IB hsn) fun w27 g27 h27=>?_
   replace HG:=AD (AA HG AKD) g27 AG7
   replace MN:=h27
   refine AE ?_
   refine k25 _ _ ?_
   refine ALr ?_
   repeat refine AL ?_
   refine BH (fn:=Tryz.f104) Cj (FG (p:=6) Tryz.results104 Cj rfl rfl (CD sl hsn.1) MN) ?_
   exact⟨by rw[hfin],HG⟩
theorem OZ (x k:List Nat) (hx:Dg x) (hk:Dg k) (w:World) :
  Calls Tryz.prog 56 #[AP x,AP k] w fun e w'=>e=.returned (AP (NC x k))∧w.grownBy w' none:=by
 refine Bg Tryz.func56 rfl Tryz.ntmps56 rfl fun a0 sv0=>?_
 have HG:=World.grownBy.refl w none
 replace sv0:Sv 10 [] [(0,AP x),(1,AP k)] a0:=sv0
 refine ALo fun K1 k1=>?_
 refine ALn ?_
 refine Bn sv0 r6 (CD x hx.1) fun a2 w2 Cp Ds g2 z2 AK sv2=>?_
 refine Bn sv2 r6 (CD k hk.1) fun a3 w3 Cc Fl g3 z3 AN sv3=>?_
 replace HG:=AA (AA HG g2) g3
 refine Av (T:=23) (Z:=(bv AQ)) sv3 rfl rfl rfl (fun a w=>by kernel_rfl) fun a4 w4 Gg CS g4 z4 AR sv4=>?_
 have CY:=Bt HG CS
 replace AK:=AC g4 (AC g3 AK)
 replace AN:=AC g4 AN
 refine AE ?_
 refine k1 _ _ ?_
 refine ALo fun K5 k5=>?_
 refine DZ (sv4.st w4) (by kernel_rfl) 5 [(5,Sp.is (AP AQ)),(6,Sp.is (AP x)),(7,Sp.is (AP k)),(8,Sp.is (AP ((msk k)))),(9,Sp.is (AP ((NC x k))))] rfl (by kernel_rfl) (by kernel_rfl) (by kernel_rfl) [] (by kernel_rfl)
  ⟨Ba (vs:=[]) rfl rfl trivial trivial (fun _=>bD0 _) (fun _=>rfl),yl r6 (CD x hx.1) AK,yl r6 (CD k hk.1) AN,Ae [.int .u64 283,AP k,.slice none 0 0] Tryz.func66 (by kernel_rfl) rq4 ⟨rfl,(oy rfl rfl),rfl,ALu⟩ (Au fun W g=>OK (n:=283) (by decide) rfl hk W),Ae [AP AQ,AP x,AP ((msk k))] Tryz.func104 (by kernel_rfl) rq4 ⟨(oy rfl rfl),(oy rfl rfl),(oy rfl rfl),ALu⟩ (Au fun W g=>AC0 AQ x (msk k) AO hx (Be 283 k) W),ALu⟩ trivial
  [] (by kernel_rfl) trivial ⟨.inl rfl,.inl rfl,.inl rfl,.inl rfl,.inl rfl,ALu⟩ (by kernel_rfl) fun a6 w6 g6 st6 nd6=>?_
 obtain⟨hn6,hd6,e6_5,e6_6,e6_7,e6_8,e6_9,e6_4,e6_3,e6_2,e6_0,e6_1,-⟩:=st6
 have sv6:Sv 10 [] [(4,_),(3,_),(2,_),(0,_),(1,_),(9,_)] a6:=⟨hn6,hd6,e6_4,e6_3,e6_2,e6_0,e6_1,e6_9,ALu⟩
 refine As sv6 r7 (CD ((NC x k)) (AE6 hx (Be 283 k)).1) (AC g6 AR) (IB (AE6 hx (Be 283 k))) fun w7 g7 h7=>?_
 replace HG:=AD (AA (AA HG g4) g6) g7 CY
 replace AR:=h7
 refine AE ?_
 refine k5 _ _ ?_
 refine ALr ?_
 repeat refine AL ?_
 refine BH (fn:=Tryz.f56) sv6 (FG (p:=4) Tryz.results56 sv6 rfl rfl (CD ((NC x k)) (AE6 hx (Be 283 k)).1) AR) ?_
 exact⟨rfl,HG⟩
end Go.Proofs.YtbfjfnbcmojpiaaGreat
