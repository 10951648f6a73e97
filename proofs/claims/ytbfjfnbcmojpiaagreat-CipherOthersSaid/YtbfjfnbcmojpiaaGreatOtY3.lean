import Derived.Test.YtbfjfnbcmojpiaaGreatOtY1
import Derived.Test.YtbfjfnbcmojpiaaGreatOtSG
import Derived.Test.YtbfjfnbcmojpiaaGreatOtSH
set_option linter.unusedSimpArgs false
set_option linter.unusedVariables false
set_option maxRecDepth 100000
set_option maxHeartbeats 4000000
namespace Go.Proofs.YtbfjfnbcmojpiaaGreat
open Go.RowKit Go.Shelf
structure DD where
 x:List Nat
 h:Dg x
def Lf (d:DD):List Value:=bv d.x
theorem G0 (d:DD):(Lf d).length=32:=by unfold Lf;rw[AI,d.h.1]
def RdD (w:World) (v:Value) (ds:List DD):Prop:=SlB w 32 v ds.length (ds.flatMap Lf)
section
variable {w w':World} {v:Value} {ds:List DD}
theorem RdD.kn (h:RdD w v ds) (g:w.grownBy w' none):RdD w' v ds:=SlB.kn h g
theorem RdD.lt (h:RdD w v ds):∀k,Bi v k→k<w.heap.size:=SlB.lt h
theorem RdD.offR (h:RdD w v ds) {row:Option Nat} (g:w.grownBy w' row) (hb:∀k,Bi v k→row≠some k):RdD w' v ds:=SlB.offR h g hb
theorem RdD.nil (w:World):RdD w (.slice none 0 0) []:=⟨Sl.nil w 32,fun k hk=>by simp[Bi,Value.ownBlock] at hk⟩
theorem RdD.shape (h:RdD w v ds):∃ao cap,v=.slice ao ds.length cap:=by
 obtain⟨ao,cap,rfl,_⟩:=h.1.shape
 exact⟨ao,cap,rfl⟩
end
theorem MG {ds:List DD} {j:Nat} (h:j<ds.length):IK (ds.map DD.x) j=ds[j].x:=by rw[Ol (by simpa using h),List.getElem_map]
theorem AIm {ds:List DD} {i:Nat} {x y:DD} (hi:i<ds.length) (hp:i-1<ds.length) (hx:ds[i]=x) (hy:ds[i-1]=y):AAM (ds.map DD.x) i=(decide (i=0)||Ej y.x x.x):=by
 unfold AAM
 rw[MG hi,MG hp,hx,hy]
theorem MW (v:Value) (h:v.oneCell'=true):TY Tryz.prog 28 [v] v:=TY.one' Tryz.underlying28 rfl (by kernel_rfl) h
def cb (n:Nat):List Value:=[.int .u8 (n:Int)]
theorem AAN (n:Nat):(cb n).length=1:=rfl
theorem Nf (l:List Nat):bv l=l.flatMap cb:=by
 induction l with
 | nil=>rfl
 | cons a l ih=>rw[List.flatMap_cons,←ih];rfl
theorem Xz {w:World} {n cap j:Nat} {ao:Option Addr} {l:List Nat} (h:Sl w 1 (.slice ao n cap) n (bv l)) (hj:j<l.length):w.rangeAt (bO ao) (oO ao+j*1) [.int .u8 (l[j]:Int)]:=by
 rw[Nf] at h
 exact DS h AAN hj (by decide)
theorem GF (x:Int):TY Tryz.prog 2 [.int .i64 x] (.int .i64 x):=TY.one' Tryz.underlying2 rfl (by kernel_rfl) rfl
theorem dsT:ET Tryz.prog 28 23 (AR AS) 32 32:=⟨Tryz.underlying28,info_parts (by kernel_rfl),rfl,by decide,by decide⟩
theorem ABJ {own:List (List Nat)} {joint addr:Int} (h:addr<0∨17179869184≤addr):hd own joint addr=false:=by
 have:Bn addr=false:=by unfold Bn;simp;omega
 unfold hd;rw[this];rfl
theorem AEq {own:List (List Nat)} {joint addr:Int} (h:joint≠0) (h1:joint≠1):hd own joint addr=false:=by unfold hd;simp[h,h1]
theorem AIn {own:List (List Nat)} {joint addr:Int} (h:16<own.length):hd own joint addr=false:=by
 have:decide (own.length≤16)=false:=decide_eq_false (by omega)
 unfold hd;rw[this];simp
theorem AIo {own:List (List Nat)} {joint addr:Int} (h:asc own=false):hd own joint addr=false:=by unfold hd;rw[h];simp
theorem AIp {own:List (List Nat)} {joint addr:Int} (h1:0≤addr∧addr<17179869184) (h2:joint=0∨joint=1) (h3:own.length≤16) (h4:asc own=true):hd own joint addr=true:=by
 have h5:Bn addr=true:=by unfold Bn;simp;omega
 unfold hd;rw[h5,h4];rcases h2 with rfl|rfl<;>simp[h3]
theorem AAO (ds:List DD) (ao:Option Addr) (cap:Nat) (joint addr:Int) (w:World) (hr:RdD w (.slice ao ds.length cap) ds) :
   Calls Tryz.prog 50 #[.slice ao ds.length cap,.int .i64 joint,.int .i64 addr] w fun e w'=>e=.returned (.bool (hd (ds.map DD.x) joint addr))∧w.grownBy w' none:=by
 have hmap:(ds.map DD.x).length=ds.length:=List.length_map _
 refine Be Tryz.func50 rfl Tryz.ntmps50 rfl fun a0 sv0=>?_
 have HG:=World.grownBy.refl w none
 replace sv0:Sv 46 [] [(0,.slice ao ds.length cap),(1,.int .i64 joint),(2,.int .i64 addr)] a0:=sv0
 refine ALl fun K1 k1=>?_
 refine ALk ?_
 refine Aa (v:=.bool false) sv0 r6 fun a2 sv2=>?_
 refine AE ?_
 refine k1 _ _ ?_
 refine ALl fun K3 k3=>?_
 suffices MG4:∀(a':Act) (w':World),Sv 46 [] [(0,.slice ao ds.length cap),(1,.int .i64 joint),(2,.int .i64 addr)] a'→(0≤addr∧addr<17179869184)→(joint=0∨joint=1)→w.grownBy w' none→(RdD w' (.slice ao ds.length cap) ds)→K3 a' w' by
   rcases(show addr<0∨(0≤addr∧17179869184≤addr)∨((0≤addr∧addr<17179869184)∧joint≠0∧joint≠1)∨((0≤addr∧addr<17179869184)∧joint=0)∨((0≤addr∧addr<17179869184)∧joint=1) by omega) with h1|⟨h0,h1⟩|⟨h0,h1,h2⟩|⟨h0,h2⟩|⟨h0,h2⟩
   · refine ALl fun K5 k5=>?_
     refine ALk ?_
     refine AK sv2 14 [(8,.int .i64 addr),(9,.bool true),(10,.bool true),(11,undef),(12,undef),(13,.bool true),(14,.bool true),(15,undef),(16,undef),(17,undef),(18,undef),(19,undef),(20,undef),(21,.bool true)]
       ⟨ym r5,Cq r6 (fun _=>Bk (decide_eq_true (by omega))),ym r5,Ab r6,Ab r6,CK r7,ym r5,Ab r6,Ab r6,Ab r6,BD ⟨17,rfl,rfl,fun _ _ h=>h⟩ rfl (fun _=>rfl),BD ⟨17,rfl,rfl,fun _ _ h=>h⟩ rfl (fun _=>rfl),Ab r6,CK r7,ALr⟩ fun a6 w6 g6 sv6=>?_
     refine AE ?_
     refine k5 _ _ ?_
     refine Ar sv6 rfl rfl ?_
     refine ALl fun K7 k7=>?_
     refine ALk ?_
     refine Aa (v:=.bool false) sv6 r6 fun a8 sv8=>?_
     refine AE ?_
     refine k7 _ _ ?_
     replace hr:=hr.kn g6
     replace HG:=AA HG g6
     refine ALo ?_
     repeat refine AM ?_
     refine BQ (fn:=Tryz.f50) sv8 (BT (p:=6) Tryz.results50 sv8 rfl rfl) ?_
     exact⟨IE ((ABJ (.inl h1)).symm),HG⟩
   · refine ALl fun K9 k9=>?_
     refine ALk ?_
     refine AK sv2 14 [(8,.int .i64 addr),(9,.bool false),(10,.bool false),(11,.int .i64 addr),(12,.bool true),(13,.bool true),(14,.bool true),(15,undef),(16,undef),(17,undef),(18,undef),(19,undef),(20,undef),(21,.bool true)]
       ⟨ym r5,Cq r6 (fun _=>Bk (decide_eq_false (by omega))),ym r5,A1 rq8,BZ rq9 (fun _=>FQ (decide_eq_true (by omega))),BC rq9,ym r5,Ab r6,Ab r6,Ab r6,BD ⟨17,rfl,rfl,fun _ _ h=>h⟩ rfl (fun _=>rfl),BD ⟨17,rfl,rfl,fun _ _ h=>h⟩ rfl (fun _=>rfl),Ab r6,CK r7,ALr⟩ fun a10 w10 g10 Cj=>?_
     refine AE ?_
     refine k9 _ _ ?_
     refine Ar Cj rfl rfl ?_
     refine ALl fun K11 k11=>?_
     refine ALk ?_
     refine Aa (v:=.bool false) Cj r6 fun a12 Df=>?_
     refine AE ?_
     refine k11 _ _ ?_
     replace hr:=hr.kn g10
     replace HG:=AA HG g10
     refine ALo ?_
     repeat refine AM ?_
     refine BQ (fn:=Tryz.f50) Df (BT (p:=6) Tryz.results50 Df rfl rfl) ?_
     exact⟨IE ((ABJ (.inr h1)).symm),HG⟩
   · refine ALl fun K13 k13=>?_
     refine ALk ?_
     refine AK sv2 14 [(8,.int .i64 addr),(9,.bool false),(10,.bool false),(11,.int .i64 addr),(12,.bool false),(13,.bool false),(14,.bool false),(15,.int .i64 joint),(16,.bool true),(17,.bool true),(18,.int .i64 joint),(19,.bool true),(20,.bool true),(21,.bool true)]
       ⟨ym r5,Cq r6 (fun _=>Bk (decide_eq_false (by omega))),ym r5,A1 rq8,BZ rq9 (fun _=>FQ (decide_eq_false (by omega))),BC rq9,ym r5,A1 rq8,BZ rq9 (fun _=>EU (by simp;omega)),A1 rq8,A1 rq8,BZ rq9 (fun _=>EU (by simp;omega)),JE rfl rfl (gy rfl rfl rfl) (oy rfl rfl) (oy rfl rfl) (fun _=>rfl),BC rq9,ALr⟩ fun a14 w14 g14 Dl=>?_
     refine AE ?_
     refine k13 _ _ ?_
     refine Ar Dl rfl rfl ?_
     refine ALl fun K15 k15=>?_
     refine ALk ?_
     refine Aa (v:=.bool false) Dl r6 fun a16 Cp=>?_
     refine AE ?_
     refine k15 _ _ ?_
     replace hr:=hr.kn g14
     replace HG:=AA HG g14
     refine ALo ?_
     repeat refine AM ?_
     refine BQ (fn:=Tryz.f50) Cp (BT (p:=6) Tryz.results50 Cp rfl rfl) ?_
     exact⟨IE ((AEq h1 h2).symm),HG⟩
   · refine ALl fun K17 k17=>?_
     refine ALk ?_
     refine AK sv2 14 [(8,.int .i64 addr),(9,.bool false),(10,.bool false),(11,.int .i64 addr),(12,.bool false),(13,.bool false),(14,.bool false),(15,.int .i64 joint),(16,.bool false),(17,.bool false),(18,undef),(19,undef),(20,.bool false),(21,.bool false)]
       ⟨ym r5,Cq r6 (fun _=>Bk (decide_eq_false (by omega))),ym r5,A1 rq8,BZ rq9 (fun _=>FQ (decide_eq_false (by omega))),BC rq9,ym r5,A1 rq8,BZ rq9 (fun _=>EU (by simp;omega)),A1 rq8,Ab r6,Ab r6,JE rfl rfl (gy rfl rfl rfl) (oy rfl rfl) rfl (fun _=>rfl),BC rq9,ALr⟩ fun a18 w18 g18 Ca=>?_
     refine AE ?_
     refine k17 _ _ ?_
     refine Av Ca rfl rfl ?_
     refine ALp ?_
     replace hr:=hr.kn g18
     replace HG:=AA HG g18
     have svm:Sv 46 [] [(0,_),(1,_),(2,_)] a18:=⟨Ca.1,Ca.2.1,(AH (AH Ca)).2.1,(AH (AH Ca)).2.2.1,(AH (AH Ca)).2.2.2.1,ALr⟩
     exact MG4 _ _ svm (h0) (.inl h2) HG hr
   · refine ALl fun K19 k19=>?_
     refine ALk ?_
     refine AK sv2 14 [(8,.int .i64 addr),(9,.bool false),(10,.bool false),(11,.int .i64 addr),(12,.bool false),(13,.bool false),(14,.bool false),(15,.int .i64 joint),(16,.bool true),(17,.bool true),(18,.int .i64 joint),(19,.bool false),(20,.bool false),(21,.bool false)]
       ⟨ym r5,Cq r6 (fun _=>Bk (decide_eq_false (by omega))),ym r5,A1 rq8,BZ rq9 (fun _=>FQ (decide_eq_false (by omega))),BC rq9,ym r5,A1 rq8,BZ rq9 (fun _=>EU (by simp;omega)),A1 rq8,A1 rq8,BZ rq9 (fun _=>EU (by simp;omega)),JE rfl rfl (gy rfl rfl rfl) (oy rfl rfl) (oy rfl rfl) (fun _=>rfl),BC rq9,ALr⟩ fun a20 w20 g20 E5=>?_
     refine AE ?_
     refine k19 _ _ ?_
     refine Av E5 rfl rfl ?_
     refine ALp ?_
     replace hr:=hr.kn g20
     replace HG:=AA HG g20
     have svm:Sv 46 [] [(0,_),(1,_),(2,_)] a20:=⟨E5.1,E5.2.1,(AH (AH E5)).2.1,(AH (AH E5)).2.2.1,(AH (AH E5)).2.2.2.1,ALr⟩
     exact MG4 _ _ svm (h0) (.inr h2) HG hr
 clear hr
 clear HG
 intro a4 w4 sv4 h0 h2 HG hr
 refine k3 _ _ ?_
 refine ALl fun K21 k21=>?_
 refine ALl fun K22 k22=>?_
 by_cases hbig:16<ds.length
 · refine ALk ?_
   refine AK sv4 3 [(22,.slice ao ds.length cap),(23,.int .i64 ((ds.length:Nat))),(24,.bool true)]
     ⟨ym r5,Bv (Tryz.underlying28) rfl rfl trivial (oy rfl rfl) (fun _=>rfl),Cq r6 (fun _=>DJ (by simp;omega)),ALr⟩ fun a23 w23 g23 Cy=>?_
   refine AE ?_
   refine k22 _ _ ?_
   refine Ar Cy rfl rfl ?_
   refine ALl fun K24 k24=>?_
   refine ALk ?_
   refine Aa (v:=.bool false) Cy r6 fun a25 DM=>?_
   refine AE ?_
   refine k24 _ _ ?_
   replace hr:=hr.kn g23
   replace HG:=AA HG g23
   refine ALo ?_
   repeat refine AM ?_
   refine BQ (fn:=Tryz.f50) DM (BT (p:=6) Tryz.results50 DM rfl rfl) ?_
   exact⟨IE ((AIn (by omega)).symm),HG⟩
 · refine ALk ?_
   refine AK sv4 3 [(22,.slice ao ds.length cap),(23,.int .i64 ((ds.length:Nat))),(24,.bool false)]
     ⟨ym r5,Bv (Tryz.underlying28) rfl rfl trivial (oy rfl rfl) (fun _=>rfl),Cq r6 (fun _=>DJ (by simp;omega)),ALr⟩ fun a26 w26 g26 Co=>?_
   refine AE ?_
   refine k22 _ _ ?_
   refine Av Co rfl rfl ?_
   refine ALp ?_
   refine k21 _ _ ?_
   refine ALl fun K27 k27=>?_
   refine ALl fun K28 k28=>?_
   refine ALk ?_
   refine AK Co 3 [(25,.slice ao ds.length cap),(26,.int .i64 ((ds.length:Nat))),(27,.int .i64 0)]
     ⟨ym r5,Bv (Tryz.underlying28) rfl rfl trivial (oy rfl rfl) (fun _=>rfl),E3 (.inl rfl) rfl trivial (fun _=>rfl),ALr⟩ fun a29 w29 g29 Cc=>?_
   have Gk:=AA g26 g29
   refine AE ?_
   refine k28 _ _ ?_
   refine BF fun Q30 x30 y30 rt30 o30=>?_
   replace hr:=hr.kn Gk
   replace HG:=AA HG Gk
   refine wp_loop (fun a w'=>∃(i:Nat),(i≤ds.length+1)∧(∀k,k<i→AAM (ds.map DD.x) k=true)∧Sv 46 [] [(27,.int .i64 ((i:Int))),(25,.slice ao ds.length cap),(26,.int .i64 ((ds.length:Nat))),(22,.slice ao ds.length cap),(23,.int .i64 ((ds.length:Nat))),(24,.bool false),(0,.slice ao ds.length cap),(1,.int .i64 joint),(2,.int .i64 addr)] a∧w.grownBy w' none∧RdD w' (.slice ao ds.length cap) ds) (fun a _=>(ds.length+1-intOf (a.tmps.getD 27 undef)).toNat) ⟨0,Nat.zero_le _,fun k hk=>by omega,⟨Cc.1,Cc.2.1,Cc.2.2.2.2.1,Cc.2.2.1,Cc.2.2.2.1,Cc.2.2.2.2.2.1,Cc.2.2.2.2.2.2.1,Cc.2.2.2.2.2.2.2.1,(AH Cc).1,(AH Cc).2.1,(AH Cc).2.2.1,ALr⟩,HG,hr⟩ fun a31 w31 hI31=>?_
   clear hr
   clear HG
   obtain⟨i,hin,hb,GO,HG,hr⟩:=hI31
   refine ALl fun K32 k32=>?_
   by_cases hi:i<ds.length
   · have hp:i-1<ds.length:=by omega
     obtain⟨x,hx_x⟩:∃x,ds[i]'hi=x:=⟨_,rfl⟩
     obtain⟨y,hx_y⟩:∃x,ds[(i-1)]'hp=x:=⟨_,rfl⟩
     have hchk:=AIm hi hp hx_x hx_y
     refine ALk ?_
     refine AK GO 1 [(28,.bool true)]
       ⟨Ho r7 (fun _=>Bk (by simp;omega)),ALr⟩ fun a33 w33 g33 Ku=>?_
     refine AE ?_
     refine k32 _ _ ?_
     refine ALl fun K34 k34=>?_
     refine Ar Ku rfl rfl ?_
     refine ALp ?_
     refine k34 _ _ ?_
     refine ALl fun K35 k35=>?_
     refine BF fun Q36 x36 y36 rt36 o36=>?_
     refine ALl fun K37 k37=>?_
     refine ALk ?_
     refine AK Ku 1 [(29,.int .i64 ((i:Int)))]
       ⟨ym r5,ALr⟩ fun a38 w38 g38 Zp=>?_
     have AJz:=AA g33 g38
     refine Aa (v:=.int .i64 ((i:Int))) Zp r6 fun a39 Js=>?_
     refine AE ?_
     refine k37 _ _ ?_
     refine ALl fun K40 k40=>?_
     replace hr:=hr.kn AJz
     replace HG:=AA HG AJz
     rcases(show i=0∨(0<i∧Ej y.x x.x=true)∨(0<i∧Ej y.x x.x=false) by
        rcases Nat.eq_zero_or_pos i with h|h<;>cases h3:Ej y.x x.x<;>simp[h]) with hz|⟨hz,hc⟩|⟨hz,hc⟩
     · have hok:(decide (i=0)||Ej y.x x.x)=true:=by simp[hz]
       refine DP Js [(30,.int .i64 ((i:Int))),(31,.bool false),(32,.bool false),(33,undef),(34,undef),(35,undef),(36,undef),(37,undef),(38,undef),(39,undef),(40,undef),(41,undef),(42,undef),(43,undef),(44,.bool false)]
        ⟨ym r5,Cq r6 (fun _=>DJ (by simp;omega)),ym r5,Ab r6,Ab r6,Ab r6,Ab r6,Ab r6,Ab r6,Ab r6,Ab r6,Ab r6,Ab r6,Ab r6,CK r7,ALr⟩ fun a41 w41 g41 Et=>?_
       refine k40 _ _ ?_
       refine Av Et rfl rfl ?_
       refine ALp ?_
       refine y36 _ _ ?_
       refine k35 _ _ ?_
       refine ALk ?_
       refine AK Et 1 [(45,.int .i64 (((i+1:Nat):Int)))]
        ⟨Cq r6 (fun _=>DK (by rw[BA (by omega) (by omega)];omega)),ALr⟩ fun a42 w42 g42 GR=>?_
       have Pp:=AA g41 g42
       refine AK (GR.dl [27]) 1 [(27,.int .i64 (((i+1:Nat):Int)))]
        ⟨ym r5,ALr⟩ fun a43 w43 g43 I6=>?_
       have AJ0:=AA Pp g43
       refine AE ?_
       replace hr:=hr.kn AJ0
       replace HG:=AA HG AJ0
       exact⟨⟨i+1,by omega,fun k hk=>if e:k=i then (by rw[e,hchk];exact hok) else hb k (by omega),⟨I6.1,I6.2.1,I6.2.2.1,(AH (AH I6)).2.2.2.2.2.2.1,(AH (AH I6)).2.2.2.2.2.2.2.1,(AH (AH (AH I6))).1,(AH (AH (AH I6))).2.1,(AH (AH (AH I6))).2.2.1,(AH (AH (AH I6))).2.2.2.1,(AH (AH (AH I6))).2.2.2.2.1,(AH (AH (AH I6))).2.2.2.2.2.1,ALr⟩,HG,hr⟩,by rw[show _=_ from I6.2.2.1,show _=_ from GO.2.2.1];simp[intOf];omega⟩
     · have hok:(decide (i=0)||Ej y.x x.x)=true:=by simp[hz,hc]
       refine DP Js [(30,.int .i64 ((i:Int))),(31,.bool true),(32,.bool true),(33,.slice ao ds.length cap),(34,.int .i64 ((i:Int))),(35,.int .i64 (((i-1:Nat):Int))),(36,pk ((bO ao)) (oO ao+(i-1)*32)),(37,.slice ((some ⟨(bO ao),oO ao+(i-1)*32,none⟩)) 32 32),(38,.slice ao ds.length cap),(39,.int .i64 ((i:Int))),(40,pk ((bO ao)) (oO ao+i*32)),(41,.slice ((some ⟨(bO ao),oO ao+i*32,none⟩)) 32 32),(42,.int .i64 ((Hf y.x x.x))),(43,.bool false),(44,.bool false)]
        ⟨ym r5,Cq r6 (fun _=>DJ (by simp;omega)),ym r5,A1 rq8,A1 rq8,BZ rq9 (fun _=>F5 (by rw[BA (by omega) (by omega)];omega)),C3 rfl rfl (gy rfl rfl rfl) (oy rfl rfl) (oy rfl rfl) (fun w=>CW Tryz.underlying28 (by kernel_rfl) (hr.1) (by omega) (rfl) w) (fun _=>rfl),He (l:=none) (u:=none) rfl rfl (gy rfl rfl rfl) (oy rfl rfl) trivial trivial (LS ((bO ao)) (oO ao+(i-1)*32)) (fun _=>rfl),A1 rq8,A1 rq8,C3 rfl rfl (gy rfl rfl rfl) (oy rfl rfl) (oy rfl rfl) (fun w=>CW Tryz.underlying28 (by kernel_rfl) (hr.1) (by omega) (rfl) w) (fun _=>rfl),He (l:=none) (u:=none) rfl rfl (gy rfl rfl rfl) (oy rfl rfl) trivial trivial (LS ((bO ao)) (oO ao+i*32)) (fun _=>rfl),CL [.slice ((some ⟨(bO ao),oO ao+(i-1)*32,none⟩)) 32 32,.slice ((some ⟨(bO ao),oO ao+i*32,none⟩)) 32 32] Tryz.func94 (by kernel_rfl) r7 ⟨(oy rfl rfl),(oy rfl rfl),ALr⟩ (As fun W g=>J9 y.h x.h (by have:=DS (hr.kn g).1 G0 hp (by decide);rw[hx_y] at this;exact this) (by have:=DS (hr.kn g).1 G0 hi (by decide);rw[hx_x] at this;exact this)),BZ rq9 (fun _=>FQ (by rw[MC,hc];rfl)),BC rq9,ALr⟩ fun a44 w44 g44 Pn=>?_
       refine k40 _ _ ?_
       refine Av Pn rfl rfl ?_
       refine ALp ?_
       refine y36 _ _ ?_
       refine k35 _ _ ?_
       refine ALk ?_
       refine AK Pn 1 [(45,.int .i64 (((i+1:Nat):Int)))]
        ⟨Cq r6 (fun _=>DK (by rw[BA (by omega) (by omega)];omega)),ALr⟩ fun a45 w45 g45 FT=>?_
       have Ra:=AA g44 g45
       refine AK (FT.dl [27]) 1 [(27,.int .i64 (((i+1:Nat):Int)))]
        ⟨ym r5,ALr⟩ fun a46 w46 g46 IH=>?_
       have AJ1:=AA Ra g46
       refine AE ?_
       replace hr:=hr.kn AJ1
       replace HG:=AA HG AJ1
       exact⟨⟨i+1,by omega,fun k hk=>if e:k=i then (by rw[e,hchk];exact hok) else hb k (by omega),⟨IH.1,IH.2.1,IH.2.2.1,(AH (AH IH)).2.2.2.2.2.2.1,(AH (AH IH)).2.2.2.2.2.2.2.1,(AH (AH (AH IH))).1,(AH (AH (AH IH))).2.1,(AH (AH (AH IH))).2.2.1,(AH (AH (AH IH))).2.2.2.1,(AH (AH (AH IH))).2.2.2.2.1,(AH (AH (AH IH))).2.2.2.2.2.1,ALr⟩,HG,hr⟩,by rw[show _=_ from IH.2.2.1,show _=_ from GO.2.2.1];simp[intOf];omega⟩
     · refine DP Js [(30,.int .i64 ((i:Int))),(31,.bool true),(32,.bool true),(33,.slice ao ds.length cap),(34,.int .i64 ((i:Int))),(35,.int .i64 (((i-1:Nat):Int))),(36,pk ((bO ao)) (oO ao+(i-1)*32)),(37,.slice ((some ⟨(bO ao),oO ao+(i-1)*32,none⟩)) 32 32),(38,.slice ao ds.length cap),(39,.int .i64 ((i:Int))),(40,pk ((bO ao)) (oO ao+i*32)),(41,.slice ((some ⟨(bO ao),oO ao+i*32,none⟩)) 32 32),(42,.int .i64 ((Hf y.x x.x))),(43,.bool true),(44,.bool true)]
        ⟨ym r5,Cq r6 (fun _=>DJ (by simp;omega)),ym r5,A1 rq8,A1 rq8,BZ rq9 (fun _=>F5 (by rw[BA (by omega) (by omega)];omega)),C3 rfl rfl (gy rfl rfl rfl) (oy rfl rfl) (oy rfl rfl) (fun w=>CW Tryz.underlying28 (by kernel_rfl) (hr.1) (by omega) (rfl) w) (fun _=>rfl),He (l:=none) (u:=none) rfl rfl (gy rfl rfl rfl) (oy rfl rfl) trivial trivial (LS ((bO ao)) (oO ao+(i-1)*32)) (fun _=>rfl),A1 rq8,A1 rq8,C3 rfl rfl (gy rfl rfl rfl) (oy rfl rfl) (oy rfl rfl) (fun w=>CW Tryz.underlying28 (by kernel_rfl) (hr.1) (by omega) (rfl) w) (fun _=>rfl),He (l:=none) (u:=none) rfl rfl (gy rfl rfl rfl) (oy rfl rfl) trivial trivial (LS ((bO ao)) (oO ao+i*32)) (fun _=>rfl),CL [.slice ((some ⟨(bO ao),oO ao+(i-1)*32,none⟩)) 32 32,.slice ((some ⟨(bO ao),oO ao+i*32,none⟩)) 32 32] Tryz.func94 (by kernel_rfl) r7 ⟨(oy rfl rfl),(oy rfl rfl),ALr⟩ (As fun W g=>J9 y.h x.h (by have:=DS (hr.kn g).1 G0 hp (by decide);rw[hx_y] at this;exact this) (by have:=DS (hr.kn g).1 G0 hi (by decide);rw[hx_x] at this;exact this)),BZ rq9 (fun _=>FQ (by rw[MC,hc];rfl)),BC rq9,ALr⟩ fun a47 w47 g47 MV=>?_
       refine k40 _ _ ?_
       refine Ar MV rfl rfl ?_
       refine ALl fun K48 k48=>?_
       refine ALk ?_
       refine Aa (v:=.bool false) MV r6 fun a49 KF=>?_
       refine AE ?_
       refine k48 _ _ ?_
       replace HG:=AA HG g47
       refine ALo ?_
       repeat refine AM ?_
       refine rt36 _ _ ?_
       repeat refine AM ?_
       refine rt30 _ _ ?_
       repeat refine AM ?_
       refine BQ (fn:=Tryz.f50) KF (BT (p:=6) Tryz.results50 KF rfl rfl) ?_
       exact⟨IE ((AIo (AIl (i:=i) (by rw[hmap];exact hi) (by rw[hchk];simp[hc,Nat.ne_of_gt hz]))).symm),HG⟩
   · refine ALk ?_
     refine AK GO 1 [(28,.bool false)]
       ⟨Ho r7 (fun _=>Bk (by simp;omega)),ALr⟩ fun a50 w50 g50 Po=>?_
     refine AE ?_
     refine k32 _ _ ?_
     refine ALl fun K51 k51=>?_
     refine Av Po rfl rfl ?_
     refine wp_exit ?_
     repeat refine CJ ?_
     refine x30 _ _ ?_
     refine k27 _ _ ?_
     refine ALl fun K52 k52=>?_
     refine ALk ?_
     refine Aa (v:=.bool true) Po r6 fun a53 Xo=>?_
     refine AE ?_
     refine k52 _ _ ?_
     replace HG:=AA HG g50
     refine ALo ?_
     repeat refine AM ?_
     refine BQ (fn:=Tryz.f50) Xo (BT (p:=6) Tryz.results50 Xo rfl rfl) ?_
     exact⟨IE ((AIp h0 h2 (by omega) (AGo fun k hk=>hb k (by omega))).symm),HG⟩
theorem X5 {x y sl:List Nat} {j a b:Nat} (hj:j<sl.length) (ha:x[j]?=some a) (hb:y[j]?=some b) (h:∀k,k<j→sl[k]?=(KP x y)[k]?):∀k,k<j+1→(sl.set j (a ^^^ b))[k]?=(KP x y)[k]?:=by
 intro k hk
 rw[List.getElem?_set]
 by_cases e:j=k
 · subst e
   rw[if_pos rfl,if_pos hj]
   unfold KP
   rw[List.getElem?_zipWith,ha,hb]
 · rw[if_neg e]
   exact h k (by omega)
theorem ABK {x y sl:List Nat} {n j:Nat} (hx:x.length=n) (hy:n≤y.length) (hs:sl.length=n) (hj:n≤j) (h:∀k,k<j→sl[k]?=(KP x y)[k]?):sl=KP x y:=by
 have hl:=Nc (a:=x) (b:=y) (by omega)
 refine List.ext_getElem? fun k=>?_
 by_cases hk:k<n
 · exact h k (by omega)
 · rw[List.getElem?_eq_none (by omega),List.getElem?_eq_none (by omega)]
theorem AGp {P:Program} {a b c:Int} {t:TypeId} {x y:Operand} {w:World} (h:bits .xor .u8 a b=c):(do eqGuard .xor t x y (.int .u8 a) (.int .u8 b);binOp .xor t (.int .u8 a) (.int .u8 b):Sem Value).run P w=.ok (.int .u8 c) w:=by
 subst h
 simp[eqGuard,binOp_xor]
 rfl
theorem ABL {P:Program} {a b:Nat} {t:TypeId} {x y:Operand} {w:World} (ha:a<256) (hb:b<256):(do eqGuard .xor t x y (.int .u8 (a:Int)) (.int .u8 (b:Int));binOp .xor t (.int .u8 (a:Int)) (.int .u8 (b:Int)):Sem Value).run P w=.ok (.int .u8 ((a ^^^ b:Nat):Int)) w:=AGp (u8_xor_nat a b ha hb)
section
variable {P:Program} {Q:Exit→Act→World→Prop} {ops:Array Oper} {rest:List Oper} {o:Oper} {a:Act} {w:World} {n:Nat} {D:List Deferred} {K:List (Nat×Value)}
theorem AIq {l:List Nat} {j x:Nat} (hj:j<l.length):bv (l.set j x)=bv (l.take j)++([.int .u8 (x:Int)]++bv (l.drop (j+1))):=by
 rw[Nf,Nf,Nf,AEB hj]
 rfl
theorem AEr {l:List Nat} {j:Nat} (hj:j<l.length):bv l=bv (l.take j)++([.int .u8 (l[j]:Int)]++bv (l.drop (j+1))):=by
 rw[Nf,Nf,Nf,LO hj]
 rfl
theorem ACl (sv:Sv n D K a) (hgd:o.guard=none) {T:TypeId} {x y:Operand} (ho:o.op=.store T x y) (hd:o.dst=none) {b j v:Nat} {l:List Nat} {t:TypeId} (hx:Mv K x=true) (hxv:Mw K x=.pointer (some ⟨b,j,none⟩)) (hy:Mv K y=true) (hyv:Mw K y=.int .u8 (v:Int)) (ty:TY P T [.int .u8 (v:Int)] (.int .u8 (v:Int)))
  (hb:w.heap[b]?=some (.cells (bv l).toArray t (0,0))) (hj:j<l.length)
  (h:∀w',w.grownBy w' (some b)→w'.heap[b]?=some (.cells (bv (l.set j v)).toArray t (0,0))→wpList P ops Q rest a w'):wpList P ops Q (o::rest) a w:=by
 rw[AEr hj] at hb
 refine Qx sv hgd ho hd hx hxv hy hyv ty hb (by rw[AI,List.length_take];omega) rfl fun w' g' hb'=>h w' g' ?_
 rw[hb',AIq hj]
end
theorem ACm (x y s0:List Nat) (hbx:By x) (hby:By y) (n:Nat) (hn63:n≤1000000) (hnx:x.length=n) (m:Nat) (hym:y.length=m) (hny:n≤m) (so ao bo:Option Addr) (sc ac bc:Nat) (w w1:World) (HG:w.grownBy w1 none) (hs:Own w1 5 1 (.slice so n sc) n (s0.flatMap cb)) (ha:SlB w1 1 (.slice ao n ac) n (bv x)) (hb:SlB w1 1 (.slice bo m bc) m (bv y)) (lo_hs:∀k,Bi (.slice so n sc) k→w.heap.size≤k) (ap_ha_hs:∀k,Bi (.slice ao n ac) k→¬Bi (.slice so n sc) k) (ap_hb_hs:∀k,Bi (.slice bo m bc) k→¬Bi (.slice so n sc) k) :
   Calls Tryz.prog 106 #[.slice so n sc,.slice ao n ac,.slice bo m bc] w1 fun e w'=>e=.returned (.slice so n sc)∧w.grownBy w' none∧Own w' 5 1 (.slice so n sc) n (bv (KP x y)):=by
 refine Be Tryz.func106 rfl Tryz.ntmps106 rfl fun a0 sv0=>?_
 have hs0:s0.length=n:=(AIP (Sl.of_own hs) AAN (by decide)).symm
 replace sv0:Sv 27 [] [(0,.slice so n sc),(1,.slice ao n ac),(2,.slice bo m bc)] a0:=sv0
 refine ALl fun K1 k1=>?_
 refine ALk ?_
 refine Aa (v:=.slice none 0 0) sv0 r6 fun a2 sv2=>?_
 refine AE ?_
 refine k1 _ _ ?_
 refine ALl fun K3 k3=>?_
 refine ALl fun K4 k4=>?_
 refine ALk ?_
 refine AK sv2 3 [(8,.slice so n sc),(9,.int .i64 ((n:Nat))),(10,.int .i64 0)]
   ⟨ym r5,Bv (Tryz.underlying29) rfl rfl trivial (oy rfl rfl) (fun _=>rfl),E3 (.inl rfl) rfl trivial (fun _=>rfl),ALr⟩ fun a5 w5 g5 sv5=>?_
 refine AE ?_
 refine k4 _ _ ?_
 refine BF fun Q6 x6 y6 rt6 o6=>?_
 replace ha:=ha.kn g5
 replace hb:=hb.kn g5
 replace hs:=hs.kn g5
 replace HG:=AA HG g5
 refine wp_loop (fun a w'=>∃(i:Nat) (sl:List Nat),(i≤n)∧(sl.length=n)∧(∀k,k<i→sl[k]?=(KP x y)[k]?)∧Sv 27 [] [(10,.int .i64 ((i:Int))),(8,.slice so n sc),(9,.int .i64 ((n:Nat))),(6,.slice none 0 0),(0,.slice so n sc),(1,.slice ao n ac),(2,.slice bo m bc)] a∧w.grownBy w' none∧SlB w' 1 (.slice ao n ac) n (bv x)∧SlB w' 1 (.slice bo m bc) m (bv y)∧Own w' 5 1 (.slice so n sc) n (sl.flatMap cb)∧(∀k,Bi (.slice ao n ac) k→¬Bi (.slice so n sc) k)∧(∀k,Bi (.slice bo m bc) k→¬Bi (.slice so n sc) k)∧(∀k,Bi (.slice so n sc) k→w.heap.size≤k)) (fun a _=>(n-intOf (a.tmps.getD 10 undef)).toNat) ⟨0,s0,Nat.zero_le _,hs0,fun k hk=>by omega,⟨sv5.1,sv5.2.1,sv5.2.2.2.2.1,sv5.2.2.1,sv5.2.2.2.1,sv5.2.2.2.2.2.1,sv5.2.2.2.2.2.2.1,sv5.2.2.2.2.2.2.2.1,(AH sv5).1,ALr⟩,HG,ha,hb,hs,ap_ha_hs,ap_hb_hs,lo_hs⟩ fun a7 w7 hI7=>?_
 clear ha
 clear hb
 clear hs
 clear HG
 obtain⟨i,sl,hin,hsl,hq,sv7,HG,ha,hb,hs,ap_ha_hs,ap_hb_hs,lo_hs⟩:=hI7
 refine ALl fun K8 k8=>?_
 by_cases hi:i<n
 · have hix:i<x.length:=by omega
   have hiy:i<y.length:=by omega
   have his:i<sl.length:=by omega
   obtain⟨xa,hx_xa⟩:∃zx,x[i]'hix=zx:=⟨_,rfl⟩
   obtain⟨xb,hx_xb⟩:∃zx,y[i]'hiy=zx:=⟨_,rfl⟩
   obtain⟨xs,hx_xs⟩:∃zx,sl[i]'his=zx:=⟨_,rfl⟩
   have hxa:x[i]?=some xa:=by rw[←hx_xa];exact List.getElem?_eq_getElem _
   have hxb:y[i]?=some xb:=by rw[←hx_xb];exact List.getElem?_eq_getElem _
   have ba:xa<256:=hbx _ (List.mem_of_getElem? hxa)
   have bb:xb<256:=hby _ (List.mem_of_getElem? hxb)
   refine ALk ?_
   refine AK sv7 1 [(11,.bool true)]
    ⟨Ho r7 (fun _=>Bk (by simp;omega)),ALr⟩ fun a9 w9 g9 sv9=>?_
   refine AE ?_
   refine k8 _ _ ?_
   refine ALl fun K10 k10=>?_
   refine Ar sv9 rfl rfl ?_
   refine ALp ?_
   refine k10 _ _ ?_
   refine ALl fun K11 k11=>?_
   refine BF fun Q12 x12 y12 rt12 o12=>?_
   refine ALl fun K13 k13=>?_
   refine ALk ?_
   refine AK sv9 1 [(12,.int .i64 ((i:Int)))]
    ⟨ym r5,ALr⟩ fun a14 w14 g14 Dl=>?_
   have XX:=AA g9 g14
   refine Aa (v:=.int .i64 ((i:Int))) Dl r6 fun a15 Pq=>?_
   refine AE ?_
   refine k13 _ _ ?_
   replace ha:=ha.kn XX
   replace hb:=hb.kn XX
   replace hs:=hs.kn XX
   refine DU (Pq.st w14) (by kernel_rfl) 12 [(13,Sp.is (.slice so n sc)),(14,Sp.is (.int .i64 ((i:Int)))),(15,Sp.is (.slice ao n ac)),(16,Sp.is (.int .i64 ((i:Int)))),(17,Sp.is (pk ((bO ao)) (oO ao+i*1))),(18,Sp.is (.int .u8 ((xa:Int)))),(19,Sp.is (.slice bo m bc)),(20,Sp.is (.int .i64 ((i:Int)))),(21,Sp.is (pk ((bO bo)) (oO bo+i*1))),(22,Sp.is (.int .u8 ((xb:Int)))),(23,Sp.is (.int .u8 (((xa ^^^ xb:Nat):Int)))),(24,Sp.is (pk ((bO so)) (oO so+i*1)))] rfl (by kernel_rfl) (by kernel_rfl) (by kernel_rfl) [] (by kernel_rfl)
    ⟨ym r5,ym r5,ym r5,ym r5,BJ rq8 (fun w=>CW Tryz.underlying29 (by kernel_rfl) (ha.1) (by omega) (rfl) w),CD r6 (fun _ g=>Ae (tyB ((xa:Int))) (by have:=Xz (ha.kn g).1 hix;rw[hx_xa] at this;exact this)),ym r5,ym r5,BJ rq8 (fun w=>CW Tryz.underlying29 (by kernel_rfl) (hb.1) (by omega) (rfl) w),CD r6 (fun _ g=>Ae (tyB ((xb:Int))) (by have:=Xz (hb.kn g).1 hiy;rw[hx_xb] at this;exact this)),Ho r7 (fun _=>ABL ba bb),BJ rq8 (fun w=>CW Tryz.underlying29 (by kernel_rfl) ((Sl.of_own hs)) (by omega) (rfl) w),ALr⟩ trivial
    [] (by kernel_rfl) trivial ⟨.inl rfl,.inl rfl,.inl rfl,.inl rfl,.inl rfl,.inl rfl,.inl rfl,.inl rfl,.inl rfl,.inl rfl,.inl rfl,.inl rfl,ALr⟩ (by kernel_rfl) fun a16 w16 g16 st16 nd16=>?_
   obtain⟨hn16,hd16,e16_13,e16_14,e16_15,e16_16,e16_17,e16_18,e16_19,e16_20,e16_21,e16_22,e16_23,e16_24,e16_7,e16_12,e16_11,e16_10,e16_8,e16_9,e16_6,e16_0,e16_1,e16_2,-⟩:=st16
   have Cp:Sv 27 [] [(7,_),(12,_),(11,_),(10,_),(8,_),(9,_),(6,_),(0,_),(1,_),(2,_),(23,_),(24,_)] a16:=⟨hn16,hd16,e16_7,e16_12,e16_11,e16_10,e16_8,e16_9,e16_6,e16_0,e16_1,e16_2,e16_23,e16_24,ALr⟩
   replace hs:=hs.kn g16
   refine J5 (c:=cb) (el:=(xa ^^^ xb)) Cp rfl rfl rfl rfl rfl rfl rfl (tyB (((xa ^^^ xb:Nat):Int))) hs AAN (by decide) (by first|omega|(simp only[List.length_set];omega)) rfl fun w17 g17 h17=>?_
   replace ha:=(ha.kn g16).offR g17 (fun k hk e=>ap_ha_hs k hk (Ct (j:=i) hs (by omega) e))
   replace hb:=(hb.kn g16).offR g17 (fun k hk e=>ap_hb_hs k hk (Ct (j:=i) hs (by omega) e))
   replace HG:=Bh (AA (AA HG XX) g16) g17 fun k e=>lo_hs k (Ct (j:=i) hs (by omega) e)
   refine AE ?_
   refine y12 _ _ ?_
   refine k11 _ _ ?_
   refine ALk ?_
   refine AK Cp 1 [(25,.int .i64 (((i+1:Nat):Int)))]
    ⟨Cq r6 (fun _=>DK (by rw[BA (by omega) (by omega)];omega)),ALr⟩ fun a18 w18 g18 Ca=>?_
   refine AK (Ca.dl [10]) 1 [(10,.int .i64 (((i+1:Nat):Int)))]
    ⟨ym r5,ALr⟩ fun a19 w19 g19 Er=>?_
   have AGq:=AA g18 g19
   refine AE ?_
   replace ha:=ha.kn AGq
   replace hb:=hb.kn AGq
   replace hs:=h17.kn AGq
   replace HG:=AA HG AGq
   exact⟨⟨i+1,sl.set i (xa ^^^ xb),by omega,by rw[List.length_set];exact hsl,X5 (by omega) hxa hxb hq,⟨Er.1,Er.2.1,Er.2.2.1,Er.2.2.2.2.2.2.2.1,(AH Er).1,(AH Er).2.1,(AH Er).2.2.1,(AH Er).2.2.2.1,(AH Er).2.2.2.2.1,ALr⟩,HG,ha,hb,hs,ap_ha_hs,ap_hb_hs,lo_hs⟩,by rw[show _=_ from Er.2.2.1,show _=_ from sv7.2.2.1];simp[intOf];omega⟩
 · have hfin:=ABK hnx (by omega) hsl (by omega) hq
   refine ALk ?_
   refine AK sv7 1 [(11,.bool false)]
    ⟨Ho r7 (fun _=>Bk (by simp;omega)),ALr⟩ fun a20 w20 g20 E5=>?_
   refine AE ?_
   refine k8 _ _ ?_
   refine ALl fun K21 k21=>?_
   refine Av E5 rfl rfl ?_
   refine wp_exit ?_
   repeat refine CJ ?_
   refine x6 _ _ ?_
   refine k3 _ _ ?_
   refine ALl fun K22 k22=>?_
   refine ALk ?_
   refine AK E5 1 [(26,.slice so n sc)]
    ⟨ym r5,ALr⟩ fun a23 w23 g23 Cy=>?_
   have AJ2:=AA g20 g23
   refine Aa (v:=.slice so n sc) Cy r6 fun a24 Cn=>?_
   refine AE ?_
   refine k22 _ _ ?_
   replace hs:=hs.kn AJ2
   replace HG:=AA HG AJ2
   refine ALo ?_
   repeat refine AM ?_
   rw[hfin,←Nf] at hs
   refine BQ (fn:=Tryz.f106) Cn (BT (p:=6) Tryz.results106 Cn rfl rfl) ?_
   exact⟨rfl,HG,hs⟩
theorem AEs {x y:List Nat} (hx:Dg x) (hy:Dg y):Dg (KP x y):=⟨by rw[Nc (by rw[hx.1,hy.1];omega),hx.1],ABH hx.2 hy.2⟩
theorem ACn (z0 x y:List Nat) (hz:Dg z0) (hx:Dg x) (hy:Dg y) (w:World) :
   Calls Tryz.prog 104 #[AR z0,AR x,AR y] w fun e w'=>e=.returned (AR (KP x y))∧w.grownBy w' none:=by
 have hz0:z0.length=32:=hz.1
 refine Be Tryz.func104 rfl Tryz.ntmps104 rfl fun a0 sv0=>?_
 have HG:=World.grownBy.refl w none
 replace sv0:Sv 24 [] [(0,AR z0),(1,AR x),(2,AR y)] a0:=sv0
 refine ALl fun K1 k1=>?_
 refine ALk ?_
 refine Bm sv0 r6 (CB z0 hz.1) fun a2 w2 Hh JL g2 z2 AZ sv2=>?_
 have U0:=B7 HG JL
 refine Bm sv2 r6 (CB x hx.1) fun a3 w3 II QL g3 z3 Am sv3=>?_
 have U7:=Au AZ QL
 replace AZ:=AC g3 AZ
 refine Bm sv3 r6 (CB y hy.1) fun a4 w4 AIr AGr g4 z4 Lg sv4=>?_
 have U8:=Au AZ AGr
 replace AZ:=AC g4 AZ
 replace HG:=AA (AA (AA HG g2) g3) g4
 refine Ax (T:=23) (Z:=(bv AS)) sv4 rfl rfl rfl (fun a w=>by kernel_rfl) fun a5 w5 AJ3 ABM g5 z5 Lh sv5=>?_
 have U9:=Au AZ ABM
 have AGs:=B7 HG ABM
 replace AZ:=AC g5 AZ
 refine AE ?_
 refine k1 _ _ ?_
 refine ALl fun K6 k6=>?_
 refine ALl fun K7 k7=>?_
 refine ALk ?_
 refine AK sv5 3 [(8,AR z0),(9,.int .i64 32),(10,.int .i64 0)]
   ⟨yl r6 (CB z0 hz.1) AZ,E3 (.inl rfl) rfl trivial (fun _=>rfl),E3 (.inl rfl) rfl trivial (fun _=>rfl),ALr⟩ fun a8 w8 g8 sv8=>?_
 refine AE ?_
 refine k7 _ _ ?_
 refine BF fun Q9 x9 y9 rt9 o9=>?_
 replace AZ:=AC g8 AZ
 replace Am:=AC g8 (AC g5 (AC g4 Am))
 replace Lg:=AC g8 (AC g5 Lg)
 replace Lh:=AC g8 Lh
 replace HG:=AA (AA HG g5) g8
 refine wp_loop (fun a w'=>∃(j:Nat) (sl:List Nat),(j≤32)∧(sl.length=32)∧(∀k,j≤k→sl[k]?=z0[k]?)∧(∀k,k<j→sl[k]?=(KP x y)[k]?)∧Sv 24 [] [(10,.int .i64 ((j:Int))),(8,AR z0),(9,.int .i64 32),(6,pt AJ3),(5,pt AIr),(4,pt II),(3,pt Hh),(0,AR z0),(1,AR x),(2,AR y)] a∧w.grownBy w' none∧w'.heap[Hh]?=some (.cells (bv sl).toArray 23 (0,0))∧w'.heap[II]?=some (.cells (bv x).toArray 23 (0,0))∧w'.heap[AIr]?=some (.cells (bv y).toArray 23 (0,0))∧w'.heap[AJ3]?=some (.cells ((bv AS)).toArray 23 (0,0))) (fun a _=>(32-intOf (a.tmps.getD 10 undef)).toNat) ⟨0,z0,by omega,hz0,fun k hk=>rfl,fun k hk=>by omega,⟨sv8.1,sv8.2.1,sv8.2.2.2.2.1,sv8.2.2.1,sv8.2.2.2.1,sv8.2.2.2.2.2.1,sv8.2.2.2.2.2.2.1,sv8.2.2.2.2.2.2.2.1,(AH sv8).1,(AH sv8).2.1,(AH sv8).2.2.1,(AH sv8).2.2.2.1,ALr⟩,HG,AZ,Am,Lg,Lh⟩ fun a10 w10 hI10=>?_
 clear AZ
 clear Am
 clear Lg
 clear Lh
 clear HG
 obtain⟨j,sl,hj32,hsl,hkeep,hq,Cj,HG,AZ,Am,Lg,Lh⟩:=hI10
 refine ALl fun K11 k11=>?_
 by_cases hj:j<32
 · obtain⟨xa,hxa⟩:∃a,x[j]?=some a:=⟨_,List.getElem?_eq_getElem (by rw[hx.1];exact hj)⟩
   obtain⟨xb,hxb⟩:∃b,y[j]?=some b:=⟨_,List.getElem?_eq_getElem (by rw[hy.1];exact hj)⟩
   have ba:xa<256:=hx.2 _ (List.mem_of_getElem? hxa)
   have bb:xb<256:=hy.2 _ (List.mem_of_getElem? hxb)
   refine ALk ?_
   refine AK Cj 1 [(11,.bool true)]
    ⟨Ho r7 (fun _=>Bk (by simp;omega)),ALr⟩ fun a12 w12 g12 Df=>?_
   refine AE ?_
   refine k11 _ _ ?_
   refine ALl fun K13 k13=>?_
   refine Ar Df rfl rfl ?_
   refine ALp ?_
   refine k13 _ _ ?_
   refine ALl fun K14 k14=>?_
   refine BF fun Q15 x15 y15 rt15 o15=>?_
   refine ALl fun K16 k16=>?_
   refine ALk ?_
   refine AK Df 1 [(12,.int .i64 ((j:Int)))]
    ⟨ym r5,ALr⟩ fun a17 w17 g17 Gh=>?_
   have Us:=AA g12 g17
   refine Aa (v:=.int .i64 ((j:Int))) Gh r6 fun a18 Ca=>?_
   refine AE ?_
   refine k16 _ _ ?_
   replace Am:=AC Us Am
   replace Lg:=AC Us Lg
   refine DU (Ca.st w17) (by kernel_rfl) 9 [(13,Sp.is (.int .i64 ((j:Int)))),(14,Sp.is (.int .i64 ((j:Int)))),(15,Sp.is (pk II j)),(16,Sp.is (.int .u8 ((xa:Int)))),(17,Sp.is (.int .i64 ((j:Int)))),(18,Sp.is (pk AIr j)),(19,Sp.is (.int .u8 ((xb:Int)))),(20,Sp.is (.int .u8 (((xa ^^^ xb:Nat):Int)))),(21,Sp.is (pk Hh j))] rfl (by kernel_rfl) (by kernel_rfl) (by kernel_rfl) [] (by kernel_rfl)
    ⟨ym r5,ym r5,BJ rq8 (fun w=>KD hj w),CD r6 (fun _ g=>Ae (Ur (xa:Int)) (by simpa using Hg (o:=0) (Ai (AF g Am (by simp))) hxa)),ym r5,BJ rq8 (fun w=>KD hj w),CD r6 (fun _ g=>Ae (Ur (xb:Int)) (by simpa using Hg (o:=0) (Ai (AF g Lg (by simp))) hxb)),Ho r7 (fun _=>ABL ba bb),BJ rq8 (fun w=>KD hj w),ALr⟩ trivial
    [] (by kernel_rfl) trivial ⟨.inl rfl,.inl rfl,.inl rfl,.inl rfl,.inl rfl,.inl rfl,.inl rfl,.inl rfl,.inl rfl,ALr⟩ (by kernel_rfl) fun a19 w19 g19 st19 nd19=>?_
   obtain⟨hn19,hd19,e19_13,e19_14,e19_15,e19_16,e19_17,e19_18,e19_19,e19_20,e19_21,e19_7,e19_12,e19_11,e19_10,e19_8,e19_9,e19_6,e19_5,e19_4,e19_3,e19_0,e19_1,e19_2,-⟩:=st19
   have Er:Sv 24 [] [(7,_),(12,_),(11,_),(10,_),(8,_),(9,_),(6,_),(5,_),(4,_),(3,_),(0,_),(1,_),(2,_),(20,_),(21,_)] a19:=⟨hn19,hd19,e19_7,e19_12,e19_11,e19_10,e19_8,e19_9,e19_6,e19_5,e19_4,e19_3,e19_0,e19_1,e19_2,e19_20,e19_21,ALr⟩
   replace AZ:=AC g19 (AC Us AZ)
   refine ACl Er rfl rfl rfl rfl rfl rfl rfl (Ur _) AZ (by omega) fun w20 g20 h20=>?_
   refine AE ?_
   refine y15 _ _ ?_
   refine k14 _ _ ?_
   refine ALk ?_
   refine AK Er 1 [(22,.int .i64 (((j+1:Nat):Int)))]
    ⟨Cq r6 (fun _=>DK (by rw[BA (by omega) (by omega)];omega)),ALr⟩ fun a21 w21 g21 Db=>?_
   refine AK (Db.dl [10]) 1 [(10,.int .i64 (((j+1:Nat):Int)))]
    ⟨ym r5,ALr⟩ fun a22 w22 g22 Cv=>?_
   have Ph:=AA g21 g22
   refine AE ?_
   replace AZ:=AC Ph h20
   replace Am:=AC Ph (AX g20 (AC g19 Am) U7)
   replace Lg:=AC Ph (AX g20 (AC g19 Lg) U8)
   replace Lh:=AC Ph (AX g20 (AC g19 (AC Us Lh)) U9)
   replace HG:=AA (AD (AA (AA HG Us) g19) g20 U0) Ph
   exact⟨⟨j+1,sl.set j (xa ^^^ xb),by omega,by rw[List.length_set];exact hsl,fun k hk=>by rw[List.getElem?_set_ne (by omega)];exact hkeep k (by omega),X5 (by omega) hxa hxb hq,⟨Cv.1,Cv.2.1,Cv.2.2.1,Cv.2.2.2.2.2.2.2.1,(AH Cv).1,(AH Cv).2.1,(AH Cv).2.2.1,(AH Cv).2.2.2.1,(AH Cv).2.2.2.2.1,(AH Cv).2.2.2.2.2.1,(AH Cv).2.2.2.2.2.2.1,(AH Cv).2.2.2.2.2.2.2.1,ALr⟩,HG,AZ,Am,Lg,Lh⟩,by rw[show _=_ from Cv.2.2.1,show _=_ from Cj.2.2.1];simp[intOf];omega⟩
 · have hfin:=ABK hx.1 (by rw[hy.1];omega) hsl (by omega) hq
   have hsn:Dg sl:=hfin▸AEs hx hy
   refine ALk ?_
   refine AK Cj 1 [(11,.bool false)]
    ⟨Ho r7 (fun _=>Bk (by simp;omega)),ALr⟩ fun a23 w23 g23 Cy=>?_
   refine AE ?_
   refine k11 _ _ ?_
   refine ALl fun K24 k24=>?_
   refine Av Cy rfl rfl ?_
   refine wp_exit ?_
   repeat refine CJ ?_
   refine x9 _ _ ?_
   refine k6 _ _ ?_
   refine ALl fun K25 k25=>?_
   refine ALk ?_
   refine AK Cy 1 [(23,AR sl)]
    ⟨yl r6 (CB sl hsn.1) (AC g23 AZ),ALr⟩ fun a26 w26 g26 Co=>?_
   have AJ4:=AA g23 g26
   refine Ap Co r7 (CB sl hsn.1) (AC AJ4 Lh) (Hq hsn) fun w27 g27 h27=>?_
   replace HG:=AD (AA HG AJ4) g27 AGs
   replace Lh:=h27
   refine AE ?_
   refine k25 _ _ ?_
   refine ALo ?_
   repeat refine AM ?_
   refine BQ (fn:=Tryz.f104) Co (E4 (p:=6) Tryz.results104 Co rfl rfl (CB sl hsn.1) Lh) ?_
   exact⟨by rw[hfin],HG⟩
theorem Ng (x k:List Nat) (hx:Dg x) (hk:Dg k) (w:World) :
  Calls Tryz.prog 56 #[AR x,AR k] w fun e w'=>e=.returned (AR (Md x k))∧w.grownBy w' none:=by
 refine Be Tryz.func56 rfl Tryz.ntmps56 rfl fun a0 sv0=>?_
 have HG:=World.grownBy.refl w none
 replace sv0:Sv 10 [] [(0,AR x),(1,AR k)] a0:=sv0
 refine ALl fun K1 k1=>?_
 refine ALk ?_
 refine Bm sv0 r6 (CB x hx.1) fun a2 w2 Cf DV g2 z2 AJ sv2=>?_
 refine Bm sv2 r6 (CB k hk.1) fun a3 w3 CX FI g3 z3 AL sv3=>?_
 replace HG:=AA (AA HG g2) g3
 refine Ax (T:=23) (Z:=(bv AS)) sv3 rfl rfl rfl (fun a w=>by kernel_rfl) fun a4 w4 Fa B9 g4 z4 AP sv4=>?_
 have CG:=B7 HG B9
 replace AJ:=AC g4 (AC g3 AJ)
 replace AL:=AC g4 AL
 refine AE ?_
 refine k1 _ _ ?_
 refine ALl fun K5 k5=>?_
 refine DU (sv4.st w4) (by kernel_rfl) 5 [(5,Sp.is (AR AS)),(6,Sp.is (AR x)),(7,Sp.is (AR k)),(8,Sp.is (AR ((msk k)))),(9,Sp.is (AR ((Md x k))))] rfl (by kernel_rfl) (by kernel_rfl) (by kernel_rfl) [] (by kernel_rfl)
  ⟨BV (vs:=[]) rfl rfl trivial trivial (fun _=>bD0 _) (fun _=>rfl),yl r6 (CB x hx.1) AJ,yl r6 (CB k hk.1) AL,Ad [.int .u64 283,AR k,.slice none 0 0] Tryz.func66 (by kernel_rfl) rq4 ⟨rfl,(oy rfl rfl),rfl,ALr⟩ (As fun W g=>NX (n:=283) (by decide) rfl hk W),Ad [AR AS,AR x,AR ((msk k))] Tryz.func104 (by kernel_rfl) rq4 ⟨(oy rfl rfl),(oy rfl rfl),(oy rfl rfl),ALr⟩ (As fun W g=>ACn AS x (msk k) AN hx (Bb 283 k) W),ALr⟩ trivial
  [] (by kernel_rfl) trivial ⟨.inl rfl,.inl rfl,.inl rfl,.inl rfl,.inl rfl,ALr⟩ (by kernel_rfl) fun a6 w6 g6 st6 nd6=>?_
 obtain⟨hn6,hd6,e6_5,e6_6,e6_7,e6_8,e6_9,e6_4,e6_3,e6_2,e6_0,e6_1,-⟩:=st6
 have sv6:Sv 10 [] [(4,_),(3,_),(2,_),(0,_),(1,_),(9,_)] a6:=⟨hn6,hd6,e6_4,e6_3,e6_2,e6_0,e6_1,e6_9,ALr⟩
 refine Ap sv6 r7 (CB ((Md x k)) (AEs hx (Bb 283 k)).1) (AC g6 AP) (Hq (AEs hx (Bb 283 k))) fun w7 g7 h7=>?_
 replace HG:=AD (AA (AA HG g4) g6) g7 CG
 replace AP:=h7
 refine AE ?_
 refine k5 _ _ ?_
 refine ALo ?_
 repeat refine AM ?_
 refine BQ (fn:=Tryz.f56) sv6 (E4 (p:=4) Tryz.results56 sv6 rfl rfl (CB ((Md x k)) (AEs hx (Bb 283 k)).1) AP) ?_
 exact⟨rfl,HG⟩
end Go.Proofs.YtbfjfnbcmojpiaaGreat
