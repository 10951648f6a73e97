import Derived.Test.YtbfjfnbcmojpiaaGreatSeY1
import Derived.Test.YtbfjfnbcmojpiaaGreatSeSG
import Derived.Test.YtbfjfnbcmojpiaaGreatSeV9
set_option linter.unusedSimpArgs false
set_option linter.unusedVariables false
set_option maxRecDepth 100000
set_option maxHeartbeats 4000000
namespace Go.Proofs.YtbfjfnbcmojpiaaGreat
open Go.RowKit Go.Shelf
structure DD where
 x:List Nat
 h:Dg x
def Ic (d:DD):List Value:=bv d.x
theorem DW (d:DD):(Ic d).length=32:=by unfold Ic;rw[AL,d.h.1]
def RdD (w:World) (v:Value) (ds:List DD):Prop:=SlB w 32 v ds.length (ds.flatMap Ic)
section
variable {w w':World} {v:Value} {ds:List DD}
theorem RdD.kn (h:RdD w v ds) (g:w.grownBy w' none):RdD w' v ds:=SlB.kn h g
theorem RdD.lt (h:RdD w v ds):∀k,BM v k→k<w.heap.size:=SlB.lt h
theorem RdD.offR (h:RdD w v ds) {row:Option Nat} (g:w.grownBy w' row) (hb:∀k,BM v k→row≠some k):RdD w' v ds:=SlB.offR h g hb
theorem RdD.nil (w:World):RdD w (.slice none 0 0) []:=⟨Sl.nil w 32,fun k hk=>by simp[BM,Value.ownBlock] at hk⟩
theorem RdD.shape (h:RdD w v ds):∃ao cap,v=.slice ao ds.length cap:=by
 obtain⟨ao,cap,rfl,_⟩:=h.1.shape
 exact⟨ao,cap,rfl⟩
end
theorem IT {ds:List DD} {j:Nat} (h:j<ds.length):No (ds.map DD.x) j=ds[j].x:=by rw[AEn (by simpa using h),List.getElem_map]
theorem AEp {ds:List DD} {i:Nat} {x y:DD} (hi:i<ds.length) (hp:i-1<ds.length) (hx:ds[i]=x) (hy:ds[i-1]=y):U0 (ds.map DD.x) i=(decide (i=0)||Ea y.x x.x):=by
 unfold U0
 rw[IT hi,IT hp,hx,hy]
theorem AIo {l:List (List Nat)} {k:Nat} (h:k=0):U0 l k=true:=by subst h;rfl
theorem RdD.len {w:World} {v:Value} {ds:List DD} (h:RdD w v ds):(ds.length:Int)≤9223372036854775807:=by
 have h1:=h.1
 obtain⟨ao,cap,rfl⟩:=h.shape
 have:=(h1.shape)
 obtain⟨ao',cap',e,h2,h3⟩:=this
 omega
theorem Hz (v:Value) (h:v.oneCell'=true):TY Tryz.prog 28 [v] v:=TY.one' Tryz.underlying28 rfl (by kernel_rfl) h
def cb (n:Nat):List Value:=[.int .u8 (n:Int)]
theorem AAQ (n:Nat):(cb n).length=1:=rfl
theorem NJ (l:List Nat):bv l=l.flatMap cb:=by
 induction l with
 | nil=>rfl
 | cons a l ih=>rw[List.flatMap_cons,←ih];rfl
theorem Fh {w:World} {n cap j:Nat} {ao:Option Addr} {l:List Nat} (h:Sl w 1 (.slice ao n cap) n (bv l)) (hj:j<l.length):w.rangeAt (bO ao) (oO ao+j*1) [.int .u8 (l[j]:Int)]:=by
 rw[NJ] at h
 exact CT h AAQ hj (by decide)
theorem E4 (x:Int):TY Tryz.prog 2 [.int .i64 x] (.int .i64 x):=TY.one' Tryz.underlying2 rfl (by kernel_rfl) rfl
theorem dsT:ET Tryz.prog 28 23 (AO AM) 32 32:=⟨Tryz.underlying28,info_parts (by kernel_rfl),rfl,by decide,by decide⟩
theorem Pe {own:List (List Nat)} {joint addr:Int} (h:addr<0∨17179869184≤addr):hd own joint addr=false:=by
 have:Cg addr=false:=by unfold Cg;simp;omega
 unfold hd;rw[this];rfl
theorem Xv {own:List (List Nat)} {joint addr:Int} (h:joint≠0) (h1:joint≠1):hd own joint addr=false:=by unfold hd;simp[h,h1]
theorem AAR {own:List (List Nat)} {joint addr:Int} (h:16<own.length):hd own joint addr=false:=by
 have:decide (own.length≤16)=false:=decide_eq_false (by omega)
 unfold hd;rw[this];simp
theorem AAS {own:List (List Nat)} {joint addr:Int} (h:ZQ own=false):hd own joint addr=false:=by unfold hd;rw[h];simp
theorem AAT {own:List (List Nat)} {joint addr:Int} (h1:0≤addr∧addr<17179869184) (h2:joint=0∨joint=1) (h3:own.length≤16) (h4:ZQ own=true):hd own joint addr=true:=by
 have h5:Cg addr=true:=by unfold Cg;simp;omega
 unfold hd;rw[h5,h4];rcases h2 with rfl|rfl<;>simp[h3]
theorem AAU (ds:List DD) (ao:Option Addr) (cap:Nat) (joint addr:Int) (w:World) (hr:RdD w (.slice ao ds.length cap) ds) :
   Calls Tryz.prog 50 #[.slice ao ds.length cap,.int .i64 joint,.int .i64 addr] w fun e w'=>e=.returned (.bool (hd (ds.map DD.x) joint addr))∧w.grownBy w' none:=by
 have hmap:(ds.map DD.x).length=ds.length:=List.length_map _
 refine BF Tryz.func50 rfl Tryz.ntmps50 rfl fun a0 sv0=>?_
 have HG:=World.grownBy.refl w none
 replace sv0:Sv 46 [] [(0,.slice ao ds.length cap),(1,.int .i64 joint),(2,.int .i64 addr)] a0:=sv0
 refine ALa fun K1 k1=>?_
 refine ALZ ?_
 refine AX (v:=.bool false) sv0 r6 fun a2 sv2=>?_
 refine AE ?_
 refine k1 _ _ ?_
 refine ALa fun K3 k3=>?_
 suffices MG4:∀(a':Act) (w':World),Sv 46 [] [(0,.slice ao ds.length cap),(1,.int .i64 joint),(2,.int .i64 addr)] a'→(0≤addr∧addr<17179869184)→(joint=0∨joint=1)→w.grownBy w' none→(RdD w' (.slice ao ds.length cap) ds)→K3 a' w' by
   rcases(show addr<0∨(0≤addr∧17179869184≤addr)∨((0≤addr∧addr<17179869184)∧joint≠0∧joint≠1)∨((0≤addr∧addr<17179869184)∧joint=0)∨((0≤addr∧addr<17179869184)∧joint=1) by omega) with h1|⟨h0,h1⟩|⟨h0,h1,h2⟩|⟨h0,h2⟩|⟨h0,h2⟩
   · refine ALa fun K5 k5=>?_
     refine ALZ ?_
     refine AH sv2 14 [(8,.int .i64 addr),(9,.bool true),(10,.bool true),(11,undef),(12,undef),(13,.bool true),(14,.bool true),(15,undef),(16,undef),(17,undef),(18,undef),(19,undef),(20,undef),(21,.bool true)]
       ⟨ym r5,Cm r6 (fun _=>BE (decide_eq_true (by omega))),ym r5,AS r6,AS r6,BQ r7,ym r5,AS r6,AS r6,AS r6,BL ⟨17,rfl,rfl,fun _ _ h=>h⟩ rfl (fun _=>rfl),BL ⟨17,rfl,rfl,fun _ _ h=>h⟩ rfl (fun _=>rfl),AS r6,BQ r7,ALg⟩ fun a6 w6 g6 sv6=>?_
     refine AE ?_
     refine k5 _ _ ?_
     refine Av sv6 rfl rfl ?_
     refine ALa fun K7 k7=>?_
     refine ALZ ?_
     refine AX (v:=.bool false) sv6 r6 fun a8 sv8=>?_
     refine AE ?_
     refine k7 _ _ ?_
     replace hr:=hr.kn g6
     replace HG:=AA HG g6
     refine ALd ?_
     repeat refine AJ ?_
     refine Ar (fn:=Tryz.f50) sv8 (A7 (p:=6) Tryz.results50 sv8 rfl rfl) ?_
     exact⟨FE ((Pe (.inl h1)).symm),HG⟩
   · refine ALa fun K9 k9=>?_
     refine ALZ ?_
     refine AH sv2 14 [(8,.int .i64 addr),(9,.bool false),(10,.bool false),(11,.int .i64 addr),(12,.bool true),(13,.bool true),(14,.bool true),(15,undef),(16,undef),(17,undef),(18,undef),(19,undef),(20,undef),(21,.bool true)]
       ⟨ym r5,Cm r6 (fun _=>BE (decide_eq_false (by omega))),ym r5,Aa rq8,Ap rq9 (fun _=>DG (decide_eq_true (by omega))),Ag rq9,ym r5,AS r6,AS r6,AS r6,BL ⟨17,rfl,rfl,fun _ _ h=>h⟩ rfl (fun _=>rfl),BL ⟨17,rfl,rfl,fun _ _ h=>h⟩ rfl (fun _=>rfl),AS r6,BQ r7,ALg⟩ fun a10 w10 g10 Bj=>?_
     refine AE ?_
     refine k9 _ _ ?_
     refine Av Bj rfl rfl ?_
     refine ALa fun K11 k11=>?_
     refine ALZ ?_
     refine AX (v:=.bool false) Bj r6 fun a12 Cx=>?_
     refine AE ?_
     refine k11 _ _ ?_
     replace hr:=hr.kn g10
     replace HG:=AA HG g10
     refine ALd ?_
     repeat refine AJ ?_
     refine Ar (fn:=Tryz.f50) Cx (A7 (p:=6) Tryz.results50 Cx rfl rfl) ?_
     exact⟨FE ((Pe (.inr h1)).symm),HG⟩
   · refine ALa fun K13 k13=>?_
     refine ALZ ?_
     refine AH sv2 14 [(8,.int .i64 addr),(9,.bool false),(10,.bool false),(11,.int .i64 addr),(12,.bool false),(13,.bool false),(14,.bool false),(15,.int .i64 joint),(16,.bool true),(17,.bool true),(18,.int .i64 joint),(19,.bool true),(20,.bool true),(21,.bool true)]
       ⟨ym r5,Cm r6 (fun _=>BE (decide_eq_false (by omega))),ym r5,Aa rq8,Ap rq9 (fun _=>DG (decide_eq_false (by omega))),Ag rq9,ym r5,Aa rq8,Ap rq9 (fun _=>FB (by simp;omega)),Aa rq8,Aa rq8,Ap rq9 (fun _=>FB (by simp;omega)),EZ rfl rfl (gy rfl rfl rfl) (oy rfl rfl) (oy rfl rfl) (fun _=>rfl),Ag rq9,ALg⟩ fun a14 w14 g14 DQ=>?_
     refine AE ?_
     refine k13 _ _ ?_
     refine Av DQ rfl rfl ?_
     refine ALa fun K15 k15=>?_
     refine ALZ ?_
     refine AX (v:=.bool false) DQ r6 fun a16 Ch=>?_
     refine AE ?_
     refine k15 _ _ ?_
     replace hr:=hr.kn g14
     replace HG:=AA HG g14
     refine ALd ?_
     repeat refine AJ ?_
     refine Ar (fn:=Tryz.f50) Ch (A7 (p:=6) Tryz.results50 Ch rfl rfl) ?_
     exact⟨FE ((Xv h1 h2).symm),HG⟩
   · refine ALa fun K17 k17=>?_
     refine ALZ ?_
     refine AH sv2 14 [(8,.int .i64 addr),(9,.bool false),(10,.bool false),(11,.int .i64 addr),(12,.bool false),(13,.bool false),(14,.bool false),(15,.int .i64 joint),(16,.bool false),(17,.bool false),(18,undef),(19,undef),(20,.bool false),(21,.bool false)]
       ⟨ym r5,Cm r6 (fun _=>BE (decide_eq_false (by omega))),ym r5,Aa rq8,Ap rq9 (fun _=>DG (decide_eq_false (by omega))),Ag rq9,ym r5,Aa rq8,Ap rq9 (fun _=>FB (by simp;omega)),Aa rq8,AS r6,AS r6,EZ rfl rfl (gy rfl rfl rfl) (oy rfl rfl) rfl (fun _=>rfl),Ag rq9,ALg⟩ fun a18 w18 g18 CD=>?_
     refine AE ?_
     refine k17 _ _ ?_
     refine A1 CD rfl rfl ?_
     refine ALe ?_
     replace hr:=hr.kn g18
     replace HG:=AA HG g18
     have svm:Sv 46 [] [(0,_),(1,_),(2,_)] a18:=⟨CD.1,CD.2.1,(AG (AG CD)).2.1,(AG (AG CD)).2.2.1,(AG (AG CD)).2.2.2.1,ALg⟩
     exact MG4 _ _ svm (h0) (.inl h2) HG hr
   · refine ALa fun K19 k19=>?_
     refine ALZ ?_
     refine AH sv2 14 [(8,.int .i64 addr),(9,.bool false),(10,.bool false),(11,.int .i64 addr),(12,.bool false),(13,.bool false),(14,.bool false),(15,.int .i64 joint),(16,.bool true),(17,.bool true),(18,.int .i64 joint),(19,.bool false),(20,.bool false),(21,.bool false)]
       ⟨ym r5,Cm r6 (fun _=>BE (decide_eq_false (by omega))),ym r5,Aa rq8,Ap rq9 (fun _=>DG (decide_eq_false (by omega))),Ag rq9,ym r5,Aa rq8,Ap rq9 (fun _=>FB (by simp;omega)),Aa rq8,Aa rq8,Ap rq9 (fun _=>FB (by simp;omega)),EZ rfl rfl (gy rfl rfl rfl) (oy rfl rfl) (oy rfl rfl) (fun _=>rfl),Ag rq9,ALg⟩ fun a20 w20 g20 DR=>?_
     refine AE ?_
     refine k19 _ _ ?_
     refine A1 DR rfl rfl ?_
     refine ALe ?_
     replace hr:=hr.kn g20
     replace HG:=AA HG g20
     have svm:Sv 46 [] [(0,_),(1,_),(2,_)] a20:=⟨DR.1,DR.2.1,(AG (AG DR)).2.1,(AG (AG DR)).2.2.1,(AG (AG DR)).2.2.2.1,ALg⟩
     exact MG4 _ _ svm (h0) (.inr h2) HG hr
 clear hr
 clear HG
 intro a4 w4 sv4 h0 h2 HG hr
 refine k3 _ _ ?_
 refine ALa fun K21 k21=>?_
 refine ALa fun K22 k22=>?_
 by_cases hbig:16<ds.length
 · refine ALZ ?_
   refine AH sv4 3 [(22,.slice ao ds.length cap),(23,.int .i64 ((ds.length:Nat))),(24,.bool true)]
     ⟨ym r5,BI (Tryz.underlying28) rfl rfl trivial (oy rfl rfl) (fun _=>rfl),Cm r6 (fun _=>C4 (by simp;omega)),ALg⟩ fun a23 w23 g23 CS=>?_
   refine AE ?_
   refine k22 _ _ ?_
   refine Av CS rfl rfl ?_
   refine ALa fun K24 k24=>?_
   refine ALZ ?_
   refine AX (v:=.bool false) CS r6 fun a25 Co=>?_
   refine AE ?_
   refine k24 _ _ ?_
   replace hr:=hr.kn g23
   replace HG:=AA HG g23
   refine ALd ?_
   repeat refine AJ ?_
   refine Ar (fn:=Tryz.f50) Co (A7 (p:=6) Tryz.results50 Co rfl rfl) ?_
   exact⟨FE ((AAR (by omega)).symm),HG⟩
 · refine ALZ ?_
   refine AH sv4 3 [(22,.slice ao ds.length cap),(23,.int .i64 ((ds.length:Nat))),(24,.bool false)]
     ⟨ym r5,BI (Tryz.underlying28) rfl rfl trivial (oy rfl rfl) (fun _=>rfl),Cm r6 (fun _=>C4 (by simp;omega)),ALg⟩ fun a26 w26 g26 Cp=>?_
   refine AE ?_
   refine k22 _ _ ?_
   refine A1 Cp rfl rfl ?_
   refine ALe ?_
   refine k21 _ _ ?_
   refine ALa fun K27 k27=>?_
   refine ALa fun K28 k28=>?_
   refine ALZ ?_
   refine AH Cp 3 [(25,.slice ao ds.length cap),(26,.int .i64 ((ds.length:Nat))),(27,.int .i64 0)]
     ⟨ym r5,BI (Tryz.underlying28) rfl rfl trivial (oy rfl rfl) (fun _=>rfl),FA (.inl rfl) rfl trivial (fun _=>rfl),ALg⟩ fun a29 w29 g29 CU=>?_
   have Jk:=AA g26 g29
   refine AE ?_
   refine k28 _ _ ?_
   refine A8 fun Q30 x30 y30 rt30 o30=>?_
   replace hr:=hr.kn Jk
   replace HG:=AA HG Jk
   refine wp_loop (fun a w'=>∃(i:Nat),(i≤ds.length+1)∧(∀k,k<i→U0 (ds.map DD.x) k=true)∧Sv 46 [] [(27,.int .i64 ((i:Int))),(25,.slice ao ds.length cap),(26,.int .i64 ((ds.length:Nat))),(22,.slice ao ds.length cap),(23,.int .i64 ((ds.length:Nat))),(24,.bool false),(0,.slice ao ds.length cap),(1,.int .i64 joint),(2,.int .i64 addr)] a∧w.grownBy w' none∧RdD w' (.slice ao ds.length cap) ds) (fun a _=>(ds.length+1-intOf (a.tmps.getD 27 undef)).toNat) ⟨0,Nat.zero_le _,fun k hk=>by omega,⟨CU.1,CU.2.1,CU.2.2.2.2.1,CU.2.2.1,CU.2.2.2.1,CU.2.2.2.2.2.1,CU.2.2.2.2.2.2.1,CU.2.2.2.2.2.2.2.1,(AG CU).1,(AG CU).2.1,(AG CU).2.2.1,ALg⟩,HG,hr⟩ fun a31 w31 hI31=>?_
   clear hr
   clear HG
   obtain⟨i,hin,hb,Hv,HG,hr⟩:=hI31
   refine ALa fun K32 k32=>?_
   by_cases hi:i<ds.length
   · have hp:i-1<ds.length:=by omega
     obtain⟨x,hx_x⟩:∃x,ds[i]'hi=x:=⟨_,rfl⟩
     obtain⟨y,hx_y⟩:∃x,ds[(i-1)]'hp=x:=⟨_,rfl⟩
     have hchk:=AEp hi hp hx_x hx_y
     refine ALZ ?_
     refine AH Hv 1 [(28,.bool true)]
       ⟨GC r7 (fun _=>BE (by simp;omega)),ALg⟩ fun a33 w33 g33 Fb=>?_
     refine AE ?_
     refine k32 _ _ ?_
     refine ALa fun K34 k34=>?_
     refine Av Fb rfl rfl ?_
     refine ALe ?_
     refine k34 _ _ ?_
     refine ALa fun K35 k35=>?_
     refine A8 fun Q36 x36 y36 rt36 o36=>?_
     refine ALa fun K37 k37=>?_
     refine ALZ ?_
     refine AH Fb 1 [(29,.int .i64 ((i:Int)))]
       ⟨ym r5,ALg⟩ fun a38 w38 g38 Uw=>?_
     have AJs:=AA g33 g38
     refine AX (v:=.int .i64 ((i:Int))) Uw r6 fun a39 Jl=>?_
     refine AE ?_
     refine k37 _ _ ?_
     refine ALa fun K40 k40=>?_
     replace hr:=hr.kn AJs
     replace HG:=AA HG AJs
     rcases(show i=0∨(0<i∧Ea y.x x.x=true)∨(0<i∧Ea y.x x.x=false) by
        rcases Nat.eq_zero_or_pos i with h|h<;>cases h3:Ea y.x x.x<;>simp[h]) with hz|⟨hz,hc⟩|⟨hz,hc⟩
     · have hok:(decide (i=0)||Ea y.x x.x)=true:=by simp[hz]
       refine DK Jl [(30,.int .i64 ((i:Int))),(31,.bool false),(32,.bool false),(33,undef),(34,undef),(35,undef),(36,undef),(37,undef),(38,undef),(39,undef),(40,undef),(41,undef),(42,undef),(43,undef),(44,.bool false)]
        ⟨ym r5,Cm r6 (fun _=>C4 (by simp;omega)),ym r5,AS r6,AS r6,AS r6,AS r6,AS r6,AS r6,AS r6,AS r6,AS r6,AS r6,AS r6,BQ r7,ALg⟩ fun a41 w41 g41 N2=>?_
       refine k40 _ _ ?_
       refine A1 N2 rfl rfl ?_
       refine ALe ?_
       refine y36 _ _ ?_
       refine k35 _ _ ?_
       refine ALZ ?_
       refine AH N2 1 [(45,.int .i64 (((i+1:Nat):Int)))]
        ⟨Cm r6 (fun _=>DB (by rw[BG (by omega) (by omega)];omega)),ALg⟩ fun a42 w42 g42 GH=>?_
       have PB:=AA g41 g42
       refine AH (GH.dl [27]) 1 [(27,.int .i64 (((i+1:Nat):Int)))]
        ⟨ym r5,ALg⟩ fun a43 w43 g43 JX=>?_
       have SD:=AA PB g43
       refine AE ?_
       replace hr:=hr.kn SD
       replace HG:=AA HG SD
       exact⟨⟨i+1,by omega,fun k hk=>if e:k=i then (by rw[e,hchk];exact hok) else hb k (by omega),⟨JX.1,JX.2.1,JX.2.2.1,(AG (AG JX)).2.2.2.2.2.2.1,(AG (AG JX)).2.2.2.2.2.2.2.1,(AG (AG (AG JX))).1,(AG (AG (AG JX))).2.1,(AG (AG (AG JX))).2.2.1,(AG (AG (AG JX))).2.2.2.1,(AG (AG (AG JX))).2.2.2.2.1,(AG (AG (AG JX))).2.2.2.2.2.1,ALg⟩,HG,hr⟩,by rw[show _=_ from JX.2.2.1,show _=_ from Hv.2.2.1];simp[intOf];omega⟩
     · have hok:(decide (i=0)||Ea y.x x.x)=true:=by simp[hz,hc]
       refine DK Jl [(30,.int .i64 ((i:Int))),(31,.bool true),(32,.bool true),(33,.slice ao ds.length cap),(34,.int .i64 ((i:Int))),(35,.int .i64 (((i-1:Nat):Int))),(36,pk ((bO ao)) (oO ao+(i-1)*32)),(37,.slice ((some ⟨(bO ao),oO ao+(i-1)*32,none⟩)) 32 32),(38,.slice ao ds.length cap),(39,.int .i64 ((i:Int))),(40,pk ((bO ao)) (oO ao+i*32)),(41,.slice ((some ⟨(bO ao),oO ao+i*32,none⟩)) 32 32),(42,.int .i64 ((Hu y.x x.x))),(43,.bool false),(44,.bool false)]
        ⟨ym r5,Cm r6 (fun _=>C4 (by simp;omega)),ym r5,Aa rq8,Aa rq8,Ap rq9 (fun _=>Fa (by rw[BG (by omega) (by omega)];omega)),DE rfl rfl (gy rfl rfl rfl) (oy rfl rfl) (oy rfl rfl) (fun w=>B8 Tryz.underlying28 (by kernel_rfl) (hr.1) (by omega) (rfl) w) (fun _=>rfl),Hs (l:=none) (u:=none) rfl rfl (gy rfl rfl rfl) (oy rfl rfl) trivial trivial (LL ((bO ao)) (oO ao+(i-1)*32)) (fun _=>rfl),Aa rq8,Aa rq8,DE rfl rfl (gy rfl rfl rfl) (oy rfl rfl) (oy rfl rfl) (fun w=>B8 Tryz.underlying28 (by kernel_rfl) (hr.1) (by omega) (rfl) w) (fun _=>rfl),Hs (l:=none) (u:=none) rfl rfl (gy rfl rfl rfl) (oy rfl rfl) trivial trivial (LL ((bO ao)) (oO ao+i*32)) (fun _=>rfl),Bn [.slice ((some ⟨(bO ao),oO ao+(i-1)*32,none⟩)) 32 32,.slice ((some ⟨(bO ao),oO ao+i*32,none⟩)) 32 32] Tryz.func94 (by kernel_rfl) r7 ⟨(oy rfl rfl),(oy rfl rfl),ALg⟩ (Au fun W g=>KE y.h x.h (by have:=CT (hr.kn g).1 DW hp (by decide);rw[hx_y] at this;exact this) (by have:=CT (hr.kn g).1 DW hi (by decide);rw[hx_x] at this;exact this)),Ap rq9 (fun _=>DG (by rw[Lv,hc];rfl)),Ag rq9,ALg⟩ fun a44 w44 g44 R3=>?_
       refine k40 _ _ ?_
       refine A1 R3 rfl rfl ?_
       refine ALe ?_
       refine y36 _ _ ?_
       refine k35 _ _ ?_
       refine ALZ ?_
       refine AH R3 1 [(45,.int .i64 (((i+1:Nat):Int)))]
        ⟨Cm r6 (fun _=>DB (by rw[BG (by omega) (by omega)];omega)),ALg⟩ fun a45 w45 g45 Ep=>?_
       have Qa:=AA g44 g45
       refine AH (Ep.dl [27]) 1 [(27,.int .i64 (((i+1:Nat):Int)))]
        ⟨ym r5,ALg⟩ fun a46 w46 g46 Iq=>?_
       have AJt:=AA Qa g46
       refine AE ?_
       replace hr:=hr.kn AJt
       replace HG:=AA HG AJt
       exact⟨⟨i+1,by omega,fun k hk=>if e:k=i then (by rw[e,hchk];exact hok) else hb k (by omega),⟨Iq.1,Iq.2.1,Iq.2.2.1,(AG (AG Iq)).2.2.2.2.2.2.1,(AG (AG Iq)).2.2.2.2.2.2.2.1,(AG (AG (AG Iq))).1,(AG (AG (AG Iq))).2.1,(AG (AG (AG Iq))).2.2.1,(AG (AG (AG Iq))).2.2.2.1,(AG (AG (AG Iq))).2.2.2.2.1,(AG (AG (AG Iq))).2.2.2.2.2.1,ALg⟩,HG,hr⟩,by rw[show _=_ from Iq.2.2.1,show _=_ from Hv.2.2.1];simp[intOf];omega⟩
     · refine DK Jl [(30,.int .i64 ((i:Int))),(31,.bool true),(32,.bool true),(33,.slice ao ds.length cap),(34,.int .i64 ((i:Int))),(35,.int .i64 (((i-1:Nat):Int))),(36,pk ((bO ao)) (oO ao+(i-1)*32)),(37,.slice ((some ⟨(bO ao),oO ao+(i-1)*32,none⟩)) 32 32),(38,.slice ao ds.length cap),(39,.int .i64 ((i:Int))),(40,pk ((bO ao)) (oO ao+i*32)),(41,.slice ((some ⟨(bO ao),oO ao+i*32,none⟩)) 32 32),(42,.int .i64 ((Hu y.x x.x))),(43,.bool true),(44,.bool true)]
        ⟨ym r5,Cm r6 (fun _=>C4 (by simp;omega)),ym r5,Aa rq8,Aa rq8,Ap rq9 (fun _=>Fa (by rw[BG (by omega) (by omega)];omega)),DE rfl rfl (gy rfl rfl rfl) (oy rfl rfl) (oy rfl rfl) (fun w=>B8 Tryz.underlying28 (by kernel_rfl) (hr.1) (by omega) (rfl) w) (fun _=>rfl),Hs (l:=none) (u:=none) rfl rfl (gy rfl rfl rfl) (oy rfl rfl) trivial trivial (LL ((bO ao)) (oO ao+(i-1)*32)) (fun _=>rfl),Aa rq8,Aa rq8,DE rfl rfl (gy rfl rfl rfl) (oy rfl rfl) (oy rfl rfl) (fun w=>B8 Tryz.underlying28 (by kernel_rfl) (hr.1) (by omega) (rfl) w) (fun _=>rfl),Hs (l:=none) (u:=none) rfl rfl (gy rfl rfl rfl) (oy rfl rfl) trivial trivial (LL ((bO ao)) (oO ao+i*32)) (fun _=>rfl),Bn [.slice ((some ⟨(bO ao),oO ao+(i-1)*32,none⟩)) 32 32,.slice ((some ⟨(bO ao),oO ao+i*32,none⟩)) 32 32] Tryz.func94 (by kernel_rfl) r7 ⟨(oy rfl rfl),(oy rfl rfl),ALg⟩ (Au fun W g=>KE y.h x.h (by have:=CT (hr.kn g).1 DW hp (by decide);rw[hx_y] at this;exact this) (by have:=CT (hr.kn g).1 DW hi (by decide);rw[hx_x] at this;exact this)),Ap rq9 (fun _=>DG (by rw[Lv,hc];rfl)),Ag rq9,ALg⟩ fun a47 w47 g47 Kq=>?_
       refine k40 _ _ ?_
       refine Av Kq rfl rfl ?_
       refine ALa fun K48 k48=>?_
       refine ALZ ?_
       refine AX (v:=.bool false) Kq r6 fun a49 ES=>?_
       refine AE ?_
       refine k48 _ _ ?_
       replace HG:=AA HG g47
       refine ALd ?_
       repeat refine AJ ?_
       refine rt36 _ _ ?_
       repeat refine AJ ?_
       refine rt30 _ _ ?_
       repeat refine AJ ?_
       refine Ar (fn:=Tryz.f50) ES (A7 (p:=6) Tryz.results50 ES rfl rfl) ?_
       exact⟨FE ((AAS (AEo (i:=i) (by rw[hmap];exact hi) (by rw[hchk];simp[hc,Nat.ne_of_gt hz]))).symm),HG⟩
   · refine ALZ ?_
     refine AH Hv 1 [(28,.bool false)]
       ⟨GC r7 (fun _=>BE (by simp;omega)),ALg⟩ fun a50 w50 g50 PA=>?_
     refine AE ?_
     refine k32 _ _ ?_
     refine ALa fun K51 k51=>?_
     refine A1 PA rfl rfl ?_
     refine wp_exit ?_
     repeat refine Bo ?_
     refine x30 _ _ ?_
     refine k27 _ _ ?_
     refine ALa fun K52 k52=>?_
     refine ALZ ?_
     refine AX (v:=.bool true) PA r6 fun a53 ACm=>?_
     refine AE ?_
     refine k52 _ _ ?_
     replace HG:=AA HG g50
     refine ALd ?_
     repeat refine AJ ?_
     refine Ar (fn:=Tryz.f50) ACm (A7 (p:=6) Tryz.results50 ACm rfl rfl) ?_
     exact⟨FE ((AAT h0 h2 (by omega) (ABT fun k hk=>hb k (by omega))).symm),HG⟩
theorem AEq (ds:List DD) (ao:Option Addr) (cap:Nat) (w:World) (hr:RdD w (.slice ao ds.length cap) ds) :
   Calls Tryz.prog 88 #[.slice ao ds.length cap] w fun e w'=>e=.returned (.bool (ZQ (ds.map DD.x)))∧w.grownBy w' none:=by
 have hmap:(ds.map DD.x).length=ds.length:=List.length_map _
 have hlen:=hr.len
 refine BF Tryz.func88 rfl Tryz.ntmps88 rfl fun a0 sv0=>?_
 have HG:=World.grownBy.refl w none
 replace sv0:Sv 21 [] [(0,.slice ao ds.length cap)] a0:=sv0
 refine ALa fun K1 k1=>?_
 refine ALZ ?_
 refine AX (v:=.bool false) sv0 r6 fun a2 sv2=>?_
 refine AE ?_
 refine k1 _ _ ?_
 refine ALa fun K3 k3=>?_
 refine ALa fun K4 k4=>?_
 refine ALZ ?_
 refine AX (v:=.int .i64 1) sv2 r6 fun a5 sv5=>?_
 refine AE ?_
 refine k4 _ _ ?_
 refine A8 fun Q6 x6 y6 rt6 o6=>?_
 refine wp_loop (fun a w'=>∃(i:Nat),(i≤ds.length+1)∧(0<i)∧(∀k,k<i→U0 (ds.map DD.x) k=true)∧Sv 21 [] [(3,.int .i64 ((i:Int))),(0,.slice ao ds.length cap)] a∧w.grownBy w' none∧RdD w' (.slice ao ds.length cap) ds) (fun a _=>(ds.length+1-intOf (a.tmps.getD 3 undef)).toNat) ⟨1,by omega,by omega,fun k hk=>AIo (by omega),⟨sv5.1,sv5.2.1,sv5.2.2.1,sv5.2.2.2.2.1,ALg⟩,HG,hr⟩ fun a7 w7 hI7=>?_
 clear hr
 clear HG
 obtain⟨i,hin,hi1,hb,sv7,HG,hr⟩:=hI7
 refine ALa fun K8 k8=>?_
 refine ALa fun K9 k9=>?_
 by_cases hi:i<ds.length
 · have hp:i-1<ds.length:=by omega
   obtain⟨x,hx_x⟩:∃x,ds[i]'hi=x:=⟨_,rfl⟩
   obtain⟨y,hx_y⟩:∃x,ds[(i-1)]'hp=x:=⟨_,rfl⟩
   have hchk:=AEp hi hp hx_x hx_y
   refine ALZ ?_
   refine AH sv7 4 [(4,.int .i64 ((i:Int))),(5,.slice ao ds.length cap),(6,.int .i64 ((ds.length:Nat))),(7,.bool true)]
     ⟨ym r5,ym r5,BI (Tryz.underlying28) rfl rfl trivial (oy rfl rfl) (fun _=>rfl),GC r7 (fun _=>BE (by simp;omega)),ALg⟩ fun a10 w10 g10 Bj=>?_
   refine AE ?_
   refine k9 _ _ ?_
   refine Av Bj rfl rfl ?_
   refine ALe ?_
   refine k8 _ _ ?_
   refine ALa fun K11 k11=>?_
   refine A8 fun Q12 x12 y12 rt12 o12=>?_
   refine ALa fun K13 k13=>?_
   replace hr:=hr.kn g10
   replace HG:=AA HG g10
   cases hc:Ea y.x x.x
   · refine DK Bj [(10,.slice ao ds.length cap),(11,.int .i64 ((i:Int))),(12,.int .i64 (((i-1:Nat):Int))),(13,pk ((bO ao)) (oO ao+(i-1)*32)),(14,AO y.x),(15,.slice ao ds.length cap),(16,.int .i64 ((i:Int))),(17,pk ((bO ao)) (oO ao+i*32)),(18,AO x.x),(19,.bool false),(20,.bool true)]
      ⟨ym r5,ym r5,Cm r6 (fun _=>Fa (by rw[BG (by omega) (by omega)];omega)),BA rq8 (fun w=>B8 Tryz.underlying28 (by kernel_rfl) (hr.1) (by omega) (rfl) w),Bc r6 (fun _ g=>Ab (BV y.x y.h.1) (by have:=CT (hr.kn g).1 DW hp (by decide);rw[hx_y] at this;exact this)),ym r5,ym r5,BA rq8 (fun w=>B8 Tryz.underlying28 (by kernel_rfl) (hr.1) (by omega) (rfl) w),Bc r6 (fun _ g=>Ab (BV x.x x.h.1) (by have:=CT (hr.kn g).1 DW hi (by decide);rw[hx_x] at this;exact this)),Ae [AO y.x,AO x.x] Tryz.func86 (by kernel_rfl) rq4 ⟨(oy rfl rfl),(oy rfl rfl),ALg⟩ (Au fun W g=>Ip hc y.h x.h W),Cr r6 (fun _=>Ba),ALg⟩ fun a14 w14 g14 DQ=>?_
     refine k13 _ _ ?_
     refine Av DQ rfl rfl ?_
     refine ALa fun K15 k15=>?_
     refine ALZ ?_
     refine AX (v:=.bool false) DQ r6 fun a16 Ch=>?_
     refine AE ?_
     refine k15 _ _ ?_
     replace hr:=hr.kn g14
     replace HG:=AA HG g14
     refine ALd ?_
     repeat refine AJ ?_
     refine rt12 _ _ ?_
     repeat refine AJ ?_
     refine rt6 _ _ ?_
     repeat refine AJ ?_
     refine Ar (fn:=Tryz.f88) Ch (A7 (p:=2) Tryz.results88 Ch rfl rfl) ?_
     exact⟨FE ((AEo (i:=i) (by rw[hmap];exact hi) (by rw[hchk];simp[hc,Nat.ne_of_gt hi1])).symm),HG⟩
   · have hok:(decide (i=0)||Ea y.x x.x)=true:=by simp[hc]
     refine DK Bj [(10,.slice ao ds.length cap),(11,.int .i64 ((i:Int))),(12,.int .i64 (((i-1:Nat):Int))),(13,pk ((bO ao)) (oO ao+(i-1)*32)),(14,AO y.x),(15,.slice ao ds.length cap),(16,.int .i64 ((i:Int))),(17,pk ((bO ao)) (oO ao+i*32)),(18,AO x.x),(19,.bool true),(20,.bool false)]
      ⟨ym r5,ym r5,Cm r6 (fun _=>Fa (by rw[BG (by omega) (by omega)];omega)),BA rq8 (fun w=>B8 Tryz.underlying28 (by kernel_rfl) (hr.1) (by omega) (rfl) w),Bc r6 (fun _ g=>Ab (BV y.x y.h.1) (by have:=CT (hr.kn g).1 DW hp (by decide);rw[hx_y] at this;exact this)),ym r5,ym r5,BA rq8 (fun w=>B8 Tryz.underlying28 (by kernel_rfl) (hr.1) (by omega) (rfl) w),Bc r6 (fun _ g=>Ab (BV x.x x.h.1) (by have:=CT (hr.kn g).1 DW hi (by decide);rw[hx_x] at this;exact this)),Ae [AO y.x,AO x.x] Tryz.func86 (by kernel_rfl) rq4 ⟨(oy rfl rfl),(oy rfl rfl),ALg⟩ (Au fun W g=>Ip hc y.h x.h W),Cr r6 (fun _=>Ba),ALg⟩ fun a17 w17 g17 Dq=>?_
     refine k13 _ _ ?_
     refine A1 Dq rfl rfl ?_
     refine ALe ?_
     refine y12 _ _ ?_
     refine k11 _ _ ?_
     refine ALZ ?_
     refine AH Dq 2 [(8,.int .i64 ((i:Int))),(9,.int .i64 (((i+1:Nat):Int)))]
      ⟨ym r5,Cm r6 (fun _=>DB (by rw[BG (by omega) (by omega)];omega)),ALg⟩ fun a18 w18 g18 CD=>?_
     have QN:=AA g17 g18
     refine AX (v:=.int .i64 (((i+1:Nat):Int))) CD r6 fun a19 Cs=>?_
     refine AE ?_
     replace hr:=hr.kn QN
     replace HG:=AA HG QN
     exact⟨⟨i+1,by omega,by omega,fun k hk=>if e:k=i then (by rw[e,hchk];exact hok) else hb k (by omega),⟨Cs.1,Cs.2.1,Cs.2.2.1,(AG (AG Cs)).2.2.2.2.1,ALg⟩,HG,hr⟩,by rw[show _=_ from Cs.2.2.1,show _=_ from sv7.2.2.1];simp[intOf];omega⟩
 · refine ALZ ?_
   refine AH sv7 4 [(4,.int .i64 ((i:Int))),(5,.slice ao ds.length cap),(6,.int .i64 ((ds.length:Nat))),(7,.bool false)]
     ⟨ym r5,ym r5,BI (Tryz.underlying28) rfl rfl trivial (oy rfl rfl) (fun _=>rfl),GC r7 (fun _=>BE (by simp;omega)),ALg⟩ fun a20 w20 g20 DR=>?_
   refine AE ?_
   refine k9 _ _ ?_
   refine A1 DR rfl rfl ?_
   refine wp_exit ?_
   repeat refine Bo ?_
   refine x6 _ _ ?_
   refine k3 _ _ ?_
   refine ALa fun K21 k21=>?_
   refine ALZ ?_
   refine AX (v:=.bool true) DR r6 fun a22 Bl=>?_
   refine AE ?_
   refine k21 _ _ ?_
   replace HG:=AA HG g20
   refine ALd ?_
   repeat refine AJ ?_
   refine Ar (fn:=Tryz.f88) Bl (A7 (p:=2) Tryz.results88 Bl rfl rfl) ?_
   exact⟨FE ((ABT fun k hk=>hb k (by omega)).symm),HG⟩
theorem ABU {w:World} {ds:List DD} {ao:Option Addr} {cap:Nat} {b:Bool} (hr:RdD w (.slice ao ds.length cap) ds) (hb:ZQ (ds.map DD.x)=b):Calls Tryz.prog 88 #[.slice ao ds.length cap] w fun e w'=>e=.returned (.bool b)∧w.grownBy w' none:=hb▸AEq ds ao cap w hr
theorem AAV (ds:List DD) (ao:Option Addr) (cap:Nat) (joint addr:Int) (w:World) (hr:RdD w (.slice ao ds.length cap) ds) :
   Calls Tryz.prog 41 #[.slice ao ds.length cap,.int .i64 joint,.int .i64 addr] w fun e w'=>e=.returned (.bool (hd (ds.map DD.x) joint addr))∧w.grownBy w' none:=by
 have hmap:(ds.map DD.x).length=ds.length:=List.length_map _
 refine BF Tryz.func41 rfl Tryz.ntmps41 rfl fun a0 sv0=>?_
 have HG:=World.grownBy.refl w none
 replace sv0:Sv 30 [] [(0,.slice ao ds.length cap),(1,.int .i64 joint),(2,.int .i64 addr)] a0:=sv0
 refine ALa fun K1 k1=>?_
 refine ALZ ?_
 refine AX (v:=.bool false) sv0 r6 fun a2 sv2=>?_
 refine AE ?_
 refine k1 _ _ ?_
 refine ALa fun K3 k3=>?_
 rcases(show addr<0∨(0≤addr∧17179869184≤addr)∨((0≤addr∧addr<17179869184)∧joint≠0∧joint≠1)∨((0≤addr∧addr<17179869184)∧joint=0∧16<ds.length)∨((0≤addr∧addr<17179869184)∧joint=1∧16<ds.length)∨((0≤addr∧addr<17179869184)∧joint=0∧ds.length≤16∧ZQ (ds.map DD.x)=false)∨((0≤addr∧addr<17179869184)∧joint=1∧ds.length≤16∧ZQ (ds.map DD.x)=false)∨((0≤addr∧addr<17179869184)∧joint=0∧ds.length≤16∧ZQ (ds.map DD.x)=true)∨((0≤addr∧addr<17179869184)∧joint=1∧ds.length≤16∧ZQ (ds.map DD.x)=true) by cases ZQ (ds.map DD.x)<;>simp<;>omega) with h1|⟨h0,h1⟩|⟨h0,h1,h2⟩|⟨h0,h2,h3⟩|⟨h0,h2,h3⟩|⟨h0,h2,h3,hc⟩|⟨h0,h2,h3,hc⟩|⟨h0,h2,h3,hc⟩|⟨h0,h2,h3,hc⟩
 · refine ALZ ?_
   refine AH sv2 23 [(7,.int .i64 addr),(8,.bool false),(9,.bool false),(10,undef),(11,undef),(12,.bool false),(13,.bool false),(14,undef),(15,undef),(16,undef),(17,undef),(18,undef),(19,undef),(20,.bool false),(21,.bool false),(22,undef),(23,undef),(24,undef),(25,.bool false),(26,.bool false),(27,undef),(28,undef),(29,.bool false)]
    ⟨ym r5,Cm r6 (fun _=>DG (decide_eq_false (by omega))),ym r5,AS r6,AS r6,BQ r7,ym r5,AS r6,AS r6,AS r6,BL ⟨16,rfl,rfl,fun _ _ h=>h⟩ rfl (fun _=>rfl),BL ⟨16,rfl,rfl,fun _ _ h=>h⟩ rfl (fun _=>rfl),AS r6,BQ r7,ym r5,AS r6,AS r6,AS r6,BQ r7,ym r5,AS r6,AS r6,BQ r7,ALg⟩ fun a4 w4 g4 sv4=>?_
   refine AX (v:=.bool false) sv4 r6 fun a5 sv5=>?_
   have sv6:Sv _ _ [_] _:=sv5.dl [7,8,9,10,11,12,13,14,15,16,17,18,19,20,21,22,23,24,25,26,27,28,29,0,1,2]
   refine AE ?_
   refine k3 _ _ ?_
   replace hr:=hr.kn g4
   replace HG:=AA HG g4
   refine ALd ?_
   repeat refine AJ ?_
   refine Ar (fn:=Tryz.f41) sv6 (A7 (p:=6) Tryz.results41 sv6 rfl rfl) ?_
   exact⟨FE ((Pe (.inl h1)).symm),HG⟩
 · refine ALZ ?_
   refine AH sv2 23 [(7,.int .i64 addr),(8,.bool true),(9,.bool true),(10,.int .i64 addr),(11,.bool false),(12,.bool false),(13,.bool false),(14,undef),(15,undef),(16,undef),(17,undef),(18,undef),(19,undef),(20,.bool false),(21,.bool false),(22,undef),(23,undef),(24,undef),(25,.bool false),(26,.bool false),(27,undef),(28,undef),(29,.bool false)]
    ⟨ym r5,Cm r6 (fun _=>DG (decide_eq_true (by omega))),ym r5,Aa rq8,Ap rq9 (fun _=>BE (decide_eq_false (by omega))),Ag rq9,ym r5,AS r6,AS r6,AS r6,BL ⟨16,rfl,rfl,fun _ _ h=>h⟩ rfl (fun _=>rfl),BL ⟨16,rfl,rfl,fun _ _ h=>h⟩ rfl (fun _=>rfl),AS r6,BQ r7,ym r5,AS r6,AS r6,AS r6,BQ r7,ym r5,AS r6,AS r6,BQ r7,ALg⟩ fun a7 w7 g7 sv7=>?_
   refine AX (v:=.bool false) sv7 r6 fun a8 sv8=>?_
   have sv9:Sv _ _ [_] _:=sv8.dl [7,8,9,10,11,12,13,14,15,16,17,18,19,20,21,22,23,24,25,26,27,28,29,0,1,2]
   refine AE ?_
   refine k3 _ _ ?_
   replace hr:=hr.kn g7
   replace HG:=AA HG g7
   refine ALd ?_
   repeat refine AJ ?_
   refine Ar (fn:=Tryz.f41) sv9 (A7 (p:=6) Tryz.results41 sv9 rfl rfl) ?_
   exact⟨FE ((Pe (.inr h1)).symm),HG⟩
 · refine ALZ ?_
   refine AH sv2 23 [(7,.int .i64 addr),(8,.bool true),(9,.bool true),(10,.int .i64 addr),(11,.bool true),(12,.bool true),(13,.bool true),(14,.int .i64 joint),(15,.bool false),(16,.bool false),(17,.int .i64 joint),(18,.bool false),(19,.bool false),(20,.bool false),(21,.bool false),(22,undef),(23,undef),(24,undef),(25,.bool false),(26,.bool false),(27,undef),(28,undef),(29,.bool false)]
    ⟨ym r5,Cm r6 (fun _=>DG (decide_eq_true (by omega))),ym r5,Aa rq8,Ap rq9 (fun _=>BE (decide_eq_true (by omega))),Ag rq9,ym r5,Aa rq8,Ap rq9 (fun _=>Bd (by simp;omega)),Aa rq8,Aa rq8,Ap rq9 (fun _=>Bd (by simp;omega)),EZ rfl rfl (gy rfl rfl rfl) (oy rfl rfl) (oy rfl rfl) (fun _=>rfl),Ag rq9,ym r5,AS r6,AS r6,AS r6,BQ r7,ym r5,AS r6,AS r6,BQ r7,ALg⟩ fun a10 w10 g10 Bj=>?_
   refine AX (v:=.bool false) Bj r6 fun a11 B7=>?_
   have Cx:Sv _ _ [_] _:=B7.dl [7,8,9,10,11,12,13,14,15,16,17,18,19,20,21,22,23,24,25,26,27,28,29,0,1,2]
   refine AE ?_
   refine k3 _ _ ?_
   replace hr:=hr.kn g10
   replace HG:=AA HG g10
   refine ALd ?_
   repeat refine AJ ?_
   refine Ar (fn:=Tryz.f41) Cx (A7 (p:=6) Tryz.results41 Cx rfl rfl) ?_
   exact⟨FE ((Xv h1 h2).symm),HG⟩
 · refine ALZ ?_
   refine AH sv2 23 [(7,.int .i64 addr),(8,.bool true),(9,.bool true),(10,.int .i64 addr),(11,.bool true),(12,.bool true),(13,.bool true),(14,.int .i64 joint),(15,.bool true),(16,.bool true),(17,undef),(18,undef),(19,.bool true),(20,.bool true),(21,.bool true),(22,.slice ao ds.length cap),(23,.int .i64 ((ds.length:Nat))),(24,.bool false),(25,.bool false),(26,.bool false),(27,undef),(28,undef),(29,.bool false)]
    ⟨ym r5,Cm r6 (fun _=>DG (decide_eq_true (by omega))),ym r5,Aa rq8,Ap rq9 (fun _=>BE (decide_eq_true (by omega))),Ag rq9,ym r5,Aa rq8,Ap rq9 (fun _=>Bd (by simp;omega)),Aa rq8,AS r6,AS r6,EZ rfl rfl (gy rfl rfl rfl) (oy rfl rfl) rfl (fun _=>rfl),Ag rq9,ym r5,Aa rq8,BI (Tryz.underlying28) rfl rfl (gy rfl rfl rfl) (oy rfl rfl) (fun _=>rfl),Ap rq9 (fun _=>LK (by simp;omega)),Ag rq9,ym r5,AS r6,AS r6,BQ r7,ALg⟩ fun a13 w13 g13 Cl=>?_
   refine AX (v:=.bool false) Cl r6 fun a14 DQ=>?_
   have Gh:Sv _ _ [_] _:=DQ.dl [7,8,9,10,11,12,13,14,15,16,17,18,19,20,21,22,23,24,25,26,27,28,29,0,1,2]
   refine AE ?_
   refine k3 _ _ ?_
   replace hr:=hr.kn g13
   replace HG:=AA HG g13
   refine ALd ?_
   repeat refine AJ ?_
   refine Ar (fn:=Tryz.f41) Gh (A7 (p:=6) Tryz.results41 Gh rfl rfl) ?_
   exact⟨FE ((AAR (by omega)).symm),HG⟩
 · refine ALZ ?_
   refine AH sv2 23 [(7,.int .i64 addr),(8,.bool true),(9,.bool true),(10,.int .i64 addr),(11,.bool true),(12,.bool true),(13,.bool true),(14,.int .i64 joint),(15,.bool false),(16,.bool false),(17,.int .i64 joint),(18,.bool true),(19,.bool true),(20,.bool true),(21,.bool true),(22,.slice ao ds.length cap),(23,.int .i64 ((ds.length:Nat))),(24,.bool false),(25,.bool false),(26,.bool false),(27,undef),(28,undef),(29,.bool false)]
    ⟨ym r5,Cm r6 (fun _=>DG (decide_eq_true (by omega))),ym r5,Aa rq8,Ap rq9 (fun _=>BE (decide_eq_true (by omega))),Ag rq9,ym r5,Aa rq8,Ap rq9 (fun _=>Bd (by simp;omega)),Aa rq8,Aa rq8,Ap rq9 (fun _=>Bd (by simp;omega)),EZ rfl rfl (gy rfl rfl rfl) (oy rfl rfl) (oy rfl rfl) (fun _=>rfl),Ag rq9,ym r5,Aa rq8,BI (Tryz.underlying28) rfl rfl (gy rfl rfl rfl) (oy rfl rfl) (fun _=>rfl),Ap rq9 (fun _=>LK (by simp;omega)),Ag rq9,ym r5,AS r6,AS r6,BQ r7,ALg⟩ fun a16 w16 g16 Ch=>?_
   refine AX (v:=.bool false) Ch r6 fun a17 Dq=>?_
   have CD:Sv _ _ [_] _:=Dq.dl [7,8,9,10,11,12,13,14,15,16,17,18,19,20,21,22,23,24,25,26,27,28,29,0,1,2]
   refine AE ?_
   refine k3 _ _ ?_
   replace hr:=hr.kn g16
   replace HG:=AA HG g16
   refine ALd ?_
   repeat refine AJ ?_
   refine Ar (fn:=Tryz.f41) CD (A7 (p:=6) Tryz.results41 CD rfl rfl) ?_
   exact⟨FE ((AAR (by omega)).symm),HG⟩
 · refine ALZ ?_
   refine AH sv2 23 [(7,.int .i64 addr),(8,.bool true),(9,.bool true),(10,.int .i64 addr),(11,.bool true),(12,.bool true),(13,.bool true),(14,.int .i64 joint),(15,.bool true),(16,.bool true),(17,undef),(18,undef),(19,.bool true),(20,.bool true),(21,.bool true),(22,.slice ao ds.length cap),(23,.int .i64 ((ds.length:Nat))),(24,.bool true),(25,.bool true),(26,.bool true),(27,.slice ao ds.length cap),(28,.bool false),(29,.bool false)]
    ⟨ym r5,Cm r6 (fun _=>DG (decide_eq_true (by omega))),ym r5,Aa rq8,Ap rq9 (fun _=>BE (decide_eq_true (by omega))),Ag rq9,ym r5,Aa rq8,Ap rq9 (fun _=>Bd (by simp;omega)),Aa rq8,AS r6,AS r6,EZ rfl rfl (gy rfl rfl rfl) (oy rfl rfl) rfl (fun _=>rfl),Ag rq9,ym r5,Aa rq8,BI (Tryz.underlying28) rfl rfl (gy rfl rfl rfl) (oy rfl rfl) (fun _=>rfl),Ap rq9 (fun _=>LK (by simp;omega)),Ag rq9,ym r5,Aa rq8,Bn [.slice ao ds.length cap] Tryz.func88 (by kernel_rfl) r7 ⟨(oy rfl rfl),ALg⟩ (Au fun W g=>ABU (hr.kn g) hc),Ag rq9,ALg⟩ fun a19 w19 g19 Cs=>?_
   refine AX (v:=.bool false) Cs r6 fun a20 DR=>?_
   have Di:Sv _ _ [_] _:=DR.dl [7,8,9,10,11,12,13,14,15,16,17,18,19,20,21,22,23,24,25,26,27,28,29,0,1,2]
   refine AE ?_
   refine k3 _ _ ?_
   replace hr:=hr.kn g19
   replace HG:=AA HG g19
   refine ALd ?_
   repeat refine AJ ?_
   refine Ar (fn:=Tryz.f41) Di (A7 (p:=6) Tryz.results41 Di rfl rfl) ?_
   exact⟨FE ((AAS hc).symm),HG⟩
 · refine ALZ ?_
   refine AH sv2 23 [(7,.int .i64 addr),(8,.bool true),(9,.bool true),(10,.int .i64 addr),(11,.bool true),(12,.bool true),(13,.bool true),(14,.int .i64 joint),(15,.bool false),(16,.bool false),(17,.int .i64 joint),(18,.bool true),(19,.bool true),(20,.bool true),(21,.bool true),(22,.slice ao ds.length cap),(23,.int .i64 ((ds.length:Nat))),(24,.bool true),(25,.bool true),(26,.bool true),(27,.slice ao ds.length cap),(28,.bool false),(29,.bool false)]
    ⟨ym r5,Cm r6 (fun _=>DG (decide_eq_true (by omega))),ym r5,Aa rq8,Ap rq9 (fun _=>BE (decide_eq_true (by omega))),Ag rq9,ym r5,Aa rq8,Ap rq9 (fun _=>Bd (by simp;omega)),Aa rq8,Aa rq8,Ap rq9 (fun _=>Bd (by simp;omega)),EZ rfl rfl (gy rfl rfl rfl) (oy rfl rfl) (oy rfl rfl) (fun _=>rfl),Ag rq9,ym r5,Aa rq8,BI (Tryz.underlying28) rfl rfl (gy rfl rfl rfl) (oy rfl rfl) (fun _=>rfl),Ap rq9 (fun _=>LK (by simp;omega)),Ag rq9,ym r5,Aa rq8,Bn [.slice ao ds.length cap] Tryz.func88 (by kernel_rfl) r7 ⟨(oy rfl rfl),ALg⟩ (Au fun W g=>ABU (hr.kn g) hc),Ag rq9,ALg⟩ fun a22 w22 g22 Bl=>?_
   refine AX (v:=.bool false) Bl r6 fun a23 CS=>?_
   have ER:Sv _ _ [_] _:=CS.dl [7,8,9,10,11,12,13,14,15,16,17,18,19,20,21,22,23,24,25,26,27,28,29,0,1,2]
   refine AE ?_
   refine k3 _ _ ?_
   replace hr:=hr.kn g22
   replace HG:=AA HG g22
   refine ALd ?_
   repeat refine AJ ?_
   refine Ar (fn:=Tryz.f41) ER (A7 (p:=6) Tryz.results41 ER rfl rfl) ?_
   exact⟨FE ((AAS hc).symm),HG⟩
 · refine ALZ ?_
   refine AH sv2 23 [(7,.int .i64 addr),(8,.bool true),(9,.bool true),(10,.int .i64 addr),(11,.bool true),(12,.bool true),(13,.bool true),(14,.int .i64 joint),(15,.bool true),(16,.bool true),(17,undef),(18,undef),(19,.bool true),(20,.bool true),(21,.bool true),(22,.slice ao ds.length cap),(23,.int .i64 ((ds.length:Nat))),(24,.bool true),(25,.bool true),(26,.bool true),(27,.slice ao ds.length cap),(28,.bool true),(29,.bool true)]
    ⟨ym r5,Cm r6 (fun _=>DG (decide_eq_true (by omega))),ym r5,Aa rq8,Ap rq9 (fun _=>BE (decide_eq_true (by omega))),Ag rq9,ym r5,Aa rq8,Ap rq9 (fun _=>Bd (by simp;omega)),Aa rq8,AS r6,AS r6,EZ rfl rfl (gy rfl rfl rfl) (oy rfl rfl) rfl (fun _=>rfl),Ag rq9,ym r5,Aa rq8,BI (Tryz.underlying28) rfl rfl (gy rfl rfl rfl) (oy rfl rfl) (fun _=>rfl),Ap rq9 (fun _=>LK (by simp;omega)),Ag rq9,ym r5,Aa rq8,Bn [.slice ao ds.length cap] Tryz.func88 (by kernel_rfl) r7 ⟨(oy rfl rfl),ALg⟩ (Au fun W g=>ABU (hr.kn g) hc),Ag rq9,ALg⟩ fun a25 w25 g25 Co=>?_
   refine AX (v:=.bool true) Co r6 fun a26 Cp=>?_
   have GF:Sv _ _ [_] _:=Cp.dl [7,8,9,10,11,12,13,14,15,16,17,18,19,20,21,22,23,24,25,26,27,28,29,0,1,2]
   refine AE ?_
   refine k3 _ _ ?_
   replace hr:=hr.kn g25
   replace HG:=AA HG g25
   refine ALd ?_
   repeat refine AJ ?_
   refine Ar (fn:=Tryz.f41) GF (A7 (p:=6) Tryz.results41 GF rfl rfl) ?_
   exact⟨FE ((AAT h0 (.inl h2) (by omega) hc).symm),HG⟩
 · refine ALZ ?_
   refine AH sv2 23 [(7,.int .i64 addr),(8,.bool true),(9,.bool true),(10,.int .i64 addr),(11,.bool true),(12,.bool true),(13,.bool true),(14,.int .i64 joint),(15,.bool false),(16,.bool false),(17,.int .i64 joint),(18,.bool true),(19,.bool true),(20,.bool true),(21,.bool true),(22,.slice ao ds.length cap),(23,.int .i64 ((ds.length:Nat))),(24,.bool true),(25,.bool true),(26,.bool true),(27,.slice ao ds.length cap),(28,.bool true),(29,.bool true)]
    ⟨ym r5,Cm r6 (fun _=>DG (decide_eq_true (by omega))),ym r5,Aa rq8,Ap rq9 (fun _=>BE (decide_eq_true (by omega))),Ag rq9,ym r5,Aa rq8,Ap rq9 (fun _=>Bd (by simp;omega)),Aa rq8,Aa rq8,Ap rq9 (fun _=>Bd (by simp;omega)),EZ rfl rfl (gy rfl rfl rfl) (oy rfl rfl) (oy rfl rfl) (fun _=>rfl),Ag rq9,ym r5,Aa rq8,BI (Tryz.underlying28) rfl rfl (gy rfl rfl rfl) (oy rfl rfl) (fun _=>rfl),Ap rq9 (fun _=>LK (by simp;omega)),Ag rq9,ym r5,Aa rq8,Bn [.slice ao ds.length cap] Tryz.func88 (by kernel_rfl) r7 ⟨(oy rfl rfl),ALg⟩ (Au fun W g=>ABU (hr.kn g) hc),Ag rq9,ALg⟩ fun a28 w28 g28 Dp=>?_
   refine AX (v:=.bool true) Dp r6 fun a29 CU=>?_
   have Ds:Sv _ _ [_] _:=CU.dl [7,8,9,10,11,12,13,14,15,16,17,18,19,20,21,22,23,24,25,26,27,28,29,0,1,2]
   refine AE ?_
   refine k3 _ _ ?_
   replace HG:=AA HG g28
   refine ALd ?_
   repeat refine AJ ?_
   refine Ar (fn:=Tryz.f41) Ds (A7 (p:=6) Tryz.results41 Ds rfl rfl) ?_
   exact⟨FE ((AAT h0 (.inr h2) (by omega) hc).symm),HG⟩
end Go.Proofs.YtbfjfnbcmojpiaaGreat
