import Derived.Test.YtbfjfnbcmojpiaaGreatBkY1
import Derived.Test.YtbfjfnbcmojpiaaGreatBkSG
import Derived.Test.YtbfjfnbcmojpiaaGreatBkSH
set_option linter.unusedSimpArgs false
set_option linter.unusedVariables false
set_option maxRecDepth 100000
set_option maxHeartbeats 4000000
namespace Go.Proofs.YtbfjfnbcmojpiaaGreat
open Go.RowKit Go.Shelf
structure DD where
 x:List Nat
 h:Dg x
def JW (d:DD):List Value:=bv d.x
theorem FX (d:DD):(JW d).length=32:=by unfold JW;rw[AI,d.h.1]
def RdD (w:World) (v:Value) (ds:List DD):Prop:=SlB w 32 v ds.length (ds.flatMap JW)
section
variable {w w':World} {v:Value} {ds:List DD}
theorem RdD.kn (h:RdD w v ds) (g:w.grownBy w' none):RdD w' v ds:=SlB.kn h g
theorem RdD.lt (h:RdD w v ds):∀k,BO v k→k<w.heap.size:=SlB.lt h
theorem RdD.offR (h:RdD w v ds) {row:Option Nat} (g:w.grownBy w' row) (hb:∀k,BO v k→row≠some k):RdD w' v ds:=SlB.offR h g hb
theorem RdD.nil (w:World):RdD w (.slice none 0 0) []:=⟨Sl.nil w 32,fun k hk=>by simp[BO,Value.ownBlock] at hk⟩
theorem RdD.shape (h:RdD w v ds):∃ao cap,v=.slice ao ds.length cap:=by
 obtain⟨ao,cap,rfl,_⟩:=h.1.shape
 exact⟨ao,cap,rfl⟩
end
theorem Jy {ds:List DD} {j:Nat} (h:j<ds.length):KH (ds.map DD.x) j=ds[j].x:=by rw[WG (by simpa using h),List.getElem_map]
theorem AE3 {ds:List DD} {i:Nat} {x y:DD} (hi:i<ds.length) (hp:i-1<ds.length) (hx:ds[i]=x) (hy:ds[i-1]=y):WH (ds.map DD.x) i=(decide (i=0)||Dk y.x x.x):=by
 unfold WH
 rw[Jy hi,Jy hp,hx,hy]
theorem J9 (v:Value) (h:v.oneCell'=true):TY Tryz.prog 28 [v] v:=TY.one' Tryz.underlying28 rfl (by kernel_rfl) h
def cb (n:Nat):List Value:=[.int .u8 (n:Int)]
theorem WI (n:Nat):(cb n).length=1:=rfl
theorem LZ (l:List Nat):bv l=l.flatMap cb:=by
 induction l with
 | nil=>rfl
 | cons a l ih=>rw[List.flatMap_cons,←ih];rfl
theorem UC {w:World} {n cap j:Nat} {ao:Option Addr} {l:List Nat} (h:Sl w 1 (.slice ao n cap) n (bv l)) (hj:j<l.length):w.rangeAt (bO ao) (oO ao+j*1) [.int .u8 (l[j]:Int)]:=by
 rw[LZ] at h
 exact Cw h WI hj (by decide)
theorem FY (x:Int):TY Tryz.prog 2 [.int .i64 x] (.int .i64 x):=TY.one' Tryz.underlying2 rfl (by kernel_rfl) rfl
theorem dsT:ET Tryz.prog 28 23 (AP AS) 32 32:=⟨Tryz.underlying28,info_parts (by kernel_rfl),rfl,by decide,by decide⟩
theorem XN {own:List (List Nat)} {joint addr:Int} (h:addr<0∨17179869184≤addr):hd own joint addr=false:=by
 have:CQ addr=false:=by unfold CQ;simp;omega
 unfold hd;rw[this];rfl
theorem AAw {own:List (List Nat)} {joint addr:Int} (h:joint≠0) (h1:joint≠1):hd own joint addr=false:=by unfold hd;simp[h,h1]
theorem AE4 {own:List (List Nat)} {joint addr:Int} (h:16<own.length):hd own joint addr=false:=by
 have:decide (own.length≤16)=false:=decide_eq_false (by omega)
 unfold hd;rw[this];simp
theorem AE5 {own:List (List Nat)} {joint addr:Int} (h:asc own=false):hd own joint addr=false:=by unfold hd;rw[h];simp
theorem AE6 {own:List (List Nat)} {joint addr:Int} (h1:0≤addr∧addr<17179869184) (h2:joint=0∨joint=1) (h3:own.length≤16) (h4:asc own=true):hd own joint addr=true:=by
 have h5:CQ addr=true:=by unfold CQ;simp;omega
 unfold hd;rw[h5,h4];rcases h2 with rfl|rfl<;>simp[h3]
theorem WJ (ds:List DD) (ao:Option Addr) (cap:Nat) (joint addr:Int) (w:World) (hr:RdD w (.slice ao ds.length cap) ds) :
   Calls Tryz.prog 50 #[.slice ao ds.length cap,.int .i64 joint,.int .i64 addr] w fun e w'=>e=.returned (.bool (hd (ds.map DD.x) joint addr))∧w.grownBy w' none:=by
 have hmap:(ds.map DD.x).length=ds.length:=List.length_map _
 refine BH Tryz.func50 rfl Tryz.ntmps50 rfl fun a0 sv0=>?_
 have HG:=World.grownBy.refl w none
 replace sv0:Sv 46 [] [(0,.slice ao ds.length cap),(1,.int .i64 joint),(2,.int .i64 addr)] a0:=sv0
 refine AH4 fun K1 k1=>?_
 refine AH3 ?_
 refine AZ (v:=.bool false) sv0 r6 fun a2 sv2=>?_
 refine AE ?_
 refine k1 _ _ ?_
 refine AH4 fun K3 k3=>?_
 suffices MG4:∀(a':Act) (w':World),Sv 46 [] [(0,.slice ao ds.length cap),(1,.int .i64 joint),(2,.int .i64 addr)] a'→(0≤addr∧addr<17179869184)→(joint=0∨joint=1)→w.grownBy w' none→(RdD w' (.slice ao ds.length cap) ds)→K3 a' w' by
   rcases(show addr<0∨(0≤addr∧17179869184≤addr)∨((0≤addr∧addr<17179869184)∧joint≠0∧joint≠1)∨((0≤addr∧addr<17179869184)∧joint=0)∨((0≤addr∧addr<17179869184)∧joint=1) by omega) with h1|⟨h0,h1⟩|⟨h0,h1,h2⟩|⟨h0,h2⟩|⟨h0,h2⟩
   · refine AH4 fun K5 k5=>?_
     refine AH3 ?_
     refine AK sv2 14 [(8,.int .i64 addr),(9,.bool true),(10,.bool true),(11,undef),(12,undef),(13,.bool true),(14,.bool true),(15,undef),(16,undef),(17,undef),(18,undef),(19,undef),(20,undef),(21,.bool true)]
       ⟨ym r5,Cm r6 (fun _=>Bb (decide_eq_true (by omega))),ym r5,AY r6,AY r6,CA r7,ym r5,AY r6,AY r6,AY r6,Az ⟨17,rfl,rfl,fun _ _ h=>h⟩ rfl (fun _=>rfl),Az ⟨17,rfl,rfl,fun _ _ h=>h⟩ rfl (fun _=>rfl),AY r6,CA r7,AIA⟩ fun a6 w6 g6 sv6=>?_
     refine AE ?_
     refine k5 _ _ ?_
     refine Aq sv6 rfl rfl ?_
     refine AH4 fun K7 k7=>?_
     refine AH3 ?_
     refine AZ (v:=.bool false) sv6 r6 fun a8 sv8=>?_
     refine AE ?_
     refine k7 _ _ ?_
     replace hr:=hr.kn g6
     replace HG:=AA HG g6
     refine AH7 ?_
     repeat refine AM ?_
     refine A3 (fn:=Tryz.f50) sv8 (A2 (p:=6) Tryz.results50 sv8 rfl rfl) ?_
     exact⟨Fj ((XN (.inl h1)).symm),HG⟩
   · refine AH4 fun K9 k9=>?_
     refine AH3 ?_
     refine AK sv2 14 [(8,.int .i64 addr),(9,.bool false),(10,.bool false),(11,.int .i64 addr),(12,.bool true),(13,.bool true),(14,.bool true),(15,undef),(16,undef),(17,undef),(18,undef),(19,undef),(20,undef),(21,.bool true)]
       ⟨ym r5,Cm r6 (fun _=>Bb (decide_eq_false (by omega))),ym r5,Ar rq8,BD rq9 (fun _=>EP (decide_eq_true (by omega))),A1 rq9,ym r5,AY r6,AY r6,AY r6,Az ⟨17,rfl,rfl,fun _ _ h=>h⟩ rfl (fun _=>rfl),Az ⟨17,rfl,rfl,fun _ _ h=>h⟩ rfl (fun _=>rfl),AY r6,CA r7,AIA⟩ fun a10 w10 g10 CG=>?_
     refine AE ?_
     refine k9 _ _ ?_
     refine Aq CG rfl rfl ?_
     refine AH4 fun K11 k11=>?_
     refine AH3 ?_
     refine AZ (v:=.bool false) CG r6 fun a12 Cr=>?_
     refine AE ?_
     refine k11 _ _ ?_
     replace hr:=hr.kn g10
     replace HG:=AA HG g10
     refine AH7 ?_
     repeat refine AM ?_
     refine A3 (fn:=Tryz.f50) Cr (A2 (p:=6) Tryz.results50 Cr rfl rfl) ?_
     exact⟨Fj ((XN (.inr h1)).symm),HG⟩
   · refine AH4 fun K13 k13=>?_
     refine AH3 ?_
     refine AK sv2 14 [(8,.int .i64 addr),(9,.bool false),(10,.bool false),(11,.int .i64 addr),(12,.bool false),(13,.bool false),(14,.bool false),(15,.int .i64 joint),(16,.bool true),(17,.bool true),(18,.int .i64 joint),(19,.bool true),(20,.bool true),(21,.bool true)]
       ⟨ym r5,Cm r6 (fun _=>Bb (decide_eq_false (by omega))),ym r5,Ar rq8,BD rq9 (fun _=>EP (decide_eq_false (by omega))),A1 rq9,ym r5,Ar rq8,BD rq9 (fun _=>Ez (by simp;omega)),Ar rq8,Ar rq8,BD rq9 (fun _=>Ez (by simp;omega)),Gu rfl rfl (gy rfl rfl rfl) (oy rfl rfl) (oy rfl rfl) (fun _=>rfl),A1 rq9,AIA⟩ fun a14 w14 g14 Cy=>?_
     refine AE ?_
     refine k13 _ _ ?_
     refine Aq Cy rfl rfl ?_
     refine AH4 fun K15 k15=>?_
     refine AH3 ?_
     refine AZ (v:=.bool false) Cy r6 fun a16 Ck=>?_
     refine AE ?_
     refine k15 _ _ ?_
     replace hr:=hr.kn g14
     replace HG:=AA HG g14
     refine AH7 ?_
     repeat refine AM ?_
     refine A3 (fn:=Tryz.f50) Ck (A2 (p:=6) Tryz.results50 Ck rfl rfl) ?_
     exact⟨Fj ((AAw h1 h2).symm),HG⟩
   · refine AH4 fun K17 k17=>?_
     refine AH3 ?_
     refine AK sv2 14 [(8,.int .i64 addr),(9,.bool false),(10,.bool false),(11,.int .i64 addr),(12,.bool false),(13,.bool false),(14,.bool false),(15,.int .i64 joint),(16,.bool false),(17,.bool false),(18,undef),(19,undef),(20,.bool false),(21,.bool false)]
       ⟨ym r5,Cm r6 (fun _=>Bb (decide_eq_false (by omega))),ym r5,Ar rq8,BD rq9 (fun _=>EP (decide_eq_false (by omega))),A1 rq9,ym r5,Ar rq8,BD rq9 (fun _=>Ez (by simp;omega)),Ar rq8,AY r6,AY r6,Gu rfl rfl (gy rfl rfl rfl) (oy rfl rfl) rfl (fun _=>rfl),A1 rq9,AIA⟩ fun a18 w18 g18 CF=>?_
     refine AE ?_
     refine k17 _ _ ?_
     refine Ax CF rfl rfl ?_
     refine AH8 ?_
     replace hr:=hr.kn g18
     replace HG:=AA HG g18
     have svm:Sv 46 [] [(0,_),(1,_),(2,_)] a18:=⟨CF.1,CF.2.1,(AJ (AJ CF)).2.1,(AJ (AJ CF)).2.2.1,(AJ (AJ CF)).2.2.2.1,AIA⟩
     exact MG4 _ _ svm (h0) (.inl h2) HG hr
   · refine AH4 fun K19 k19=>?_
     refine AH3 ?_
     refine AK sv2 14 [(8,.int .i64 addr),(9,.bool false),(10,.bool false),(11,.int .i64 addr),(12,.bool false),(13,.bool false),(14,.bool false),(15,.int .i64 joint),(16,.bool true),(17,.bool true),(18,.int .i64 joint),(19,.bool false),(20,.bool false),(21,.bool false)]
       ⟨ym r5,Cm r6 (fun _=>Bb (decide_eq_false (by omega))),ym r5,Ar rq8,BD rq9 (fun _=>EP (decide_eq_false (by omega))),A1 rq9,ym r5,Ar rq8,BD rq9 (fun _=>Ez (by simp;omega)),Ar rq8,Ar rq8,BD rq9 (fun _=>Ez (by simp;omega)),Gu rfl rfl (gy rfl rfl rfl) (oy rfl rfl) (oy rfl rfl) (fun _=>rfl),A1 rq9,AIA⟩ fun a20 w20 g20 Dl=>?_
     refine AE ?_
     refine k19 _ _ ?_
     refine Ax Dl rfl rfl ?_
     refine AH8 ?_
     replace hr:=hr.kn g20
     replace HG:=AA HG g20
     have svm:Sv 46 [] [(0,_),(1,_),(2,_)] a20:=⟨Dl.1,Dl.2.1,(AJ (AJ Dl)).2.1,(AJ (AJ Dl)).2.2.1,(AJ (AJ Dl)).2.2.2.1,AIA⟩
     exact MG4 _ _ svm (h0) (.inr h2) HG hr
 clear hr
 clear HG
 intro a4 w4 sv4 h0 h2 HG hr
 refine k3 _ _ ?_
 refine AH4 fun K21 k21=>?_
 refine AH4 fun K22 k22=>?_
 by_cases hbig:16<ds.length
 · refine AH3 ?_
   refine AK sv4 3 [(22,.slice ao ds.length cap),(23,.int .i64 ((ds.length:Nat))),(24,.bool true)]
     ⟨ym r5,Be (Tryz.underlying28) rfl rfl trivial (oy rfl rfl) (fun _=>rfl),Cm r6 (fun _=>Cj (by simp;omega)),AIA⟩ fun a23 w23 g23 CX=>?_
   refine AE ?_
   refine k22 _ _ ?_
   refine Aq CX rfl rfl ?_
   refine AH4 fun K24 k24=>?_
   refine AH3 ?_
   refine AZ (v:=.bool false) CX r6 fun a25 Cu=>?_
   refine AE ?_
   refine k24 _ _ ?_
   replace hr:=hr.kn g23
   replace HG:=AA HG g23
   refine AH7 ?_
   repeat refine AM ?_
   refine A3 (fn:=Tryz.f50) Cu (A2 (p:=6) Tryz.results50 Cu rfl rfl) ?_
   exact⟨Fj ((AE4 (by omega)).symm),HG⟩
 · refine AH3 ?_
   refine AK sv4 3 [(22,.slice ao ds.length cap),(23,.int .i64 ((ds.length:Nat))),(24,.bool false)]
     ⟨ym r5,Be (Tryz.underlying28) rfl rfl trivial (oy rfl rfl) (fun _=>rfl),Cm r6 (fun _=>Cj (by simp;omega)),AIA⟩ fun a26 w26 g26 CW=>?_
   refine AE ?_
   refine k22 _ _ ?_
   refine Ax CW rfl rfl ?_
   refine AH8 ?_
   refine k21 _ _ ?_
   refine AH4 fun K27 k27=>?_
   refine AH4 fun K28 k28=>?_
   refine AH3 ?_
   refine AK CW 3 [(25,.slice ao ds.length cap),(26,.int .i64 ((ds.length:Nat))),(27,.int .i64 0)]
     ⟨ym r5,Be (Tryz.underlying28) rfl rfl trivial (oy rfl rfl) (fun _=>rfl),D8 (.inl rfl) rfl trivial (fun _=>rfl),AIA⟩ fun a29 w29 g29 CK=>?_
   have Hz:=AA g26 g29
   refine AE ?_
   refine k28 _ _ ?_
   refine BB fun Q30 x30 y30 rt30 o30=>?_
   replace hr:=hr.kn Hz
   replace HG:=AA HG Hz
   refine wp_loop (fun a w'=>∃(i:Nat),(i≤ds.length+1)∧(∀k,k<i→WH (ds.map DD.x) k=true)∧Sv 46 [] [(27,.int .i64 ((i:Int))),(25,.slice ao ds.length cap),(26,.int .i64 ((ds.length:Nat))),(22,.slice ao ds.length cap),(23,.int .i64 ((ds.length:Nat))),(24,.bool false),(0,.slice ao ds.length cap),(1,.int .i64 joint),(2,.int .i64 addr)] a∧w.grownBy w' none∧RdD w' (.slice ao ds.length cap) ds) (fun a _=>(ds.length+1-intOf (a.tmps.getD 27 undef)).toNat) ⟨0,Nat.zero_le _,fun k hk=>by omega,⟨CK.1,CK.2.1,CK.2.2.2.2.1,CK.2.2.1,CK.2.2.2.1,CK.2.2.2.2.2.1,CK.2.2.2.2.2.2.1,CK.2.2.2.2.2.2.2.1,(AJ CK).1,(AJ CK).2.1,(AJ CK).2.2.1,AIA⟩,HG,hr⟩ fun a31 w31 hI31=>?_
   clear hr
   clear HG
   obtain⟨i,hin,hb,Hj,HG,hr⟩:=hI31
   refine AH4 fun K32 k32=>?_
   by_cases hi:i<ds.length
   · have hp:i-1<ds.length:=by omega
     obtain⟨x,hx_x⟩:∃x,ds[i]'hi=x:=⟨_,rfl⟩
     obtain⟨y,hx_y⟩:∃x,ds[(i-1)]'hp=x:=⟨_,rfl⟩
     have hchk:=AE3 hi hp hx_x hx_y
     refine AH3 ?_
     refine AK Hj 1 [(28,.bool true)]
       ⟨Gs r7 (fun _=>Bb (by simp;omega)),AIA⟩ fun a33 w33 g33 I9=>?_
     refine AE ?_
     refine k32 _ _ ?_
     refine AH4 fun K34 k34=>?_
     refine Aq I9 rfl rfl ?_
     refine AH8 ?_
     refine k34 _ _ ?_
     refine AH4 fun K35 k35=>?_
     refine BB fun Q36 x36 y36 rt36 o36=>?_
     refine AH4 fun K37 k37=>?_
     refine AH3 ?_
     refine AK I9 1 [(29,.int .i64 ((i:Int)))]
       ⟨ym r5,AIA⟩ fun a38 w38 g38 Vk=>?_
     have AF8:=AA g33 g38
     refine AZ (v:=.int .i64 ((i:Int))) Vk r6 fun a39 JP=>?_
     refine AE ?_
     refine k37 _ _ ?_
     refine AH4 fun K40 k40=>?_
     replace hr:=hr.kn AF8
     replace HG:=AA HG AF8
     rcases(show i=0∨(0<i∧Dk y.x x.x=true)∨(0<i∧Dk y.x x.x=false) by
        rcases Nat.eq_zero_or_pos i with h|h<;>cases h3:Dk y.x x.x<;>simp[h]) with hz|⟨hz,hc⟩|⟨hz,hc⟩
     · have hok:(decide (i=0)||Dk y.x x.x)=true:=by simp[hz]
       refine Cn JP [(30,.int .i64 ((i:Int))),(31,.bool false),(32,.bool false),(33,undef),(34,undef),(35,undef),(36,undef),(37,undef),(38,undef),(39,undef),(40,undef),(41,undef),(42,undef),(43,undef),(44,.bool false)]
        ⟨ym r5,Cm r6 (fun _=>Cj (by simp;omega)),ym r5,AY r6,AY r6,AY r6,AY r6,AY r6,AY r6,AY r6,AY r6,AY r6,AY r6,AY r6,CA r7,AIA⟩ fun a41 w41 g41 MS=>?_
       refine k40 _ _ ?_
       refine Ax MS rfl rfl ?_
       refine AH8 ?_
       refine y36 _ _ ?_
       refine k35 _ _ ?_
       refine AH3 ?_
       refine AK MS 1 [(45,.int .i64 (((i+1:Nat):Int)))]
        ⟨Cm r6 (fun _=>DH (by rw[A7 (by omega) (by omega)];omega)),AIA⟩ fun a42 w42 g42 Hk=>?_
       have NG:=AA g41 g42
       refine AK (Hk.dl [27]) 1 [(27,.int .i64 (((i+1:Nat):Int)))]
        ⟨ym r5,AIA⟩ fun a43 w43 g43 IX=>?_
       have AF9:=AA NG g43
       refine AE ?_
       replace hr:=hr.kn AF9
       replace HG:=AA HG AF9
       exact⟨⟨i+1,by omega,fun k hk=>if e:k=i then (by rw[e,hchk];exact hok) else hb k (by omega),⟨IX.1,IX.2.1,IX.2.2.1,(AJ (AJ IX)).2.2.2.2.2.2.1,(AJ (AJ IX)).2.2.2.2.2.2.2.1,(AJ (AJ (AJ IX))).1,(AJ (AJ (AJ IX))).2.1,(AJ (AJ (AJ IX))).2.2.1,(AJ (AJ (AJ IX))).2.2.2.1,(AJ (AJ (AJ IX))).2.2.2.2.1,(AJ (AJ (AJ IX))).2.2.2.2.2.1,AIA⟩,HG,hr⟩,by rw[show _=_ from IX.2.2.1,show _=_ from Hj.2.2.1];simp[intOf];omega⟩
     · have hok:(decide (i=0)||Dk y.x x.x)=true:=by simp[hz,hc]
       refine Cn JP [(30,.int .i64 ((i:Int))),(31,.bool true),(32,.bool true),(33,.slice ao ds.length cap),(34,.int .i64 ((i:Int))),(35,.int .i64 (((i-1:Nat):Int))),(36,pk ((bO ao)) (oO ao+(i-1)*32)),(37,.slice ((some ⟨(bO ao),oO ao+(i-1)*32,none⟩)) 32 32),(38,.slice ao ds.length cap),(39,.int .i64 ((i:Int))),(40,pk ((bO ao)) (oO ao+i*32)),(41,.slice ((some ⟨(bO ao),oO ao+i*32,none⟩)) 32 32),(42,.int .i64 ((Fh y.x x.x))),(43,.bool false),(44,.bool false)]
        ⟨ym r5,Cm r6 (fun _=>Cj (by simp;omega)),ym r5,Ar rq8,Ar rq8,BD rq9 (fun _=>E0 (by rw[A7 (by omega) (by omega)];omega)),CZ rfl rfl (gy rfl rfl rfl) (oy rfl rfl) (oy rfl rfl) (fun w=>CD Tryz.underlying28 (by kernel_rfl) (hr.1) (by omega) (rfl) w) (fun _=>rfl),Ff (l:=none) (u:=none) rfl rfl (gy rfl rfl rfl) (oy rfl rfl) trivial trivial (JN ((bO ao)) (oO ao+(i-1)*32)) (fun _=>rfl),Ar rq8,Ar rq8,CZ rfl rfl (gy rfl rfl rfl) (oy rfl rfl) (oy rfl rfl) (fun w=>CD Tryz.underlying28 (by kernel_rfl) (hr.1) (by omega) (rfl) w) (fun _=>rfl),Ff (l:=none) (u:=none) rfl rfl (gy rfl rfl rfl) (oy rfl rfl) trivial trivial (JN ((bO ao)) (oO ao+i*32)) (fun _=>rfl),Bq [.slice ((some ⟨(bO ao),oO ao+(i-1)*32,none⟩)) 32 32,.slice ((some ⟨(bO ao),oO ao+i*32,none⟩)) 32 32] Tryz.func94 (by kernel_rfl) r7 ⟨(oy rfl rfl),(oy rfl rfl),AIA⟩ (Ao fun W g=>IU y.h x.h (by have:=Cw (hr.kn g).1 FX hp (by decide);rw[hx_y] at this;exact this) (by have:=Cw (hr.kn g).1 FX hi (by decide);rw[hx_x] at this;exact this)),BD rq9 (fun _=>EP (by rw[Ju,hc];rfl)),A1 rq9,AIA⟩ fun a44 w44 g44 AC2=>?_
       refine k40 _ _ ?_
       refine Ax AC2 rfl rfl ?_
       refine AH8 ?_
       refine y36 _ _ ?_
       refine k35 _ _ ?_
       refine AH3 ?_
       refine AK AC2 1 [(45,.int .i64 (((i+1:Nat):Int)))]
        ⟨Cm r6 (fun _=>DH (by rw[A7 (by omega) (by omega)];omega)),AIA⟩ fun a45 w45 g45 EQ=>?_
       have OT:=AA g44 g45
       refine AK (EQ.dl [27]) 1 [(27,.int .i64 (((i+1:Nat):Int)))]
        ⟨ym r5,AIA⟩ fun a46 w46 g46 IY=>?_
       have AGA:=AA OT g46
       refine AE ?_
       replace hr:=hr.kn AGA
       replace HG:=AA HG AGA
       exact⟨⟨i+1,by omega,fun k hk=>if e:k=i then (by rw[e,hchk];exact hok) else hb k (by omega),⟨IY.1,IY.2.1,IY.2.2.1,(AJ (AJ IY)).2.2.2.2.2.2.1,(AJ (AJ IY)).2.2.2.2.2.2.2.1,(AJ (AJ (AJ IY))).1,(AJ (AJ (AJ IY))).2.1,(AJ (AJ (AJ IY))).2.2.1,(AJ (AJ (AJ IY))).2.2.2.1,(AJ (AJ (AJ IY))).2.2.2.2.1,(AJ (AJ (AJ IY))).2.2.2.2.2.1,AIA⟩,HG,hr⟩,by rw[show _=_ from IY.2.2.1,show _=_ from Hj.2.2.1];simp[intOf];omega⟩
     · refine Cn JP [(30,.int .i64 ((i:Int))),(31,.bool true),(32,.bool true),(33,.slice ao ds.length cap),(34,.int .i64 ((i:Int))),(35,.int .i64 (((i-1:Nat):Int))),(36,pk ((bO ao)) (oO ao+(i-1)*32)),(37,.slice ((some ⟨(bO ao),oO ao+(i-1)*32,none⟩)) 32 32),(38,.slice ao ds.length cap),(39,.int .i64 ((i:Int))),(40,pk ((bO ao)) (oO ao+i*32)),(41,.slice ((some ⟨(bO ao),oO ao+i*32,none⟩)) 32 32),(42,.int .i64 ((Fh y.x x.x))),(43,.bool true),(44,.bool true)]
        ⟨ym r5,Cm r6 (fun _=>Cj (by simp;omega)),ym r5,Ar rq8,Ar rq8,BD rq9 (fun _=>E0 (by rw[A7 (by omega) (by omega)];omega)),CZ rfl rfl (gy rfl rfl rfl) (oy rfl rfl) (oy rfl rfl) (fun w=>CD Tryz.underlying28 (by kernel_rfl) (hr.1) (by omega) (rfl) w) (fun _=>rfl),Ff (l:=none) (u:=none) rfl rfl (gy rfl rfl rfl) (oy rfl rfl) trivial trivial (JN ((bO ao)) (oO ao+(i-1)*32)) (fun _=>rfl),Ar rq8,Ar rq8,CZ rfl rfl (gy rfl rfl rfl) (oy rfl rfl) (oy rfl rfl) (fun w=>CD Tryz.underlying28 (by kernel_rfl) (hr.1) (by omega) (rfl) w) (fun _=>rfl),Ff (l:=none) (u:=none) rfl rfl (gy rfl rfl rfl) (oy rfl rfl) trivial trivial (JN ((bO ao)) (oO ao+i*32)) (fun _=>rfl),Bq [.slice ((some ⟨(bO ao),oO ao+(i-1)*32,none⟩)) 32 32,.slice ((some ⟨(bO ao),oO ao+i*32,none⟩)) 32 32] Tryz.func94 (by kernel_rfl) r7 ⟨(oy rfl rfl),(oy rfl rfl),AIA⟩ (Ao fun W g=>IU y.h x.h (by have:=Cw (hr.kn g).1 FX hp (by decide);rw[hx_y] at this;exact this) (by have:=Cw (hr.kn g).1 FX hi (by decide);rw[hx_x] at this;exact this)),BD rq9 (fun _=>EP (by rw[Ju,hc];rfl)),A1 rq9,AIA⟩ fun a47 w47 g47 LS=>?_
       refine k40 _ _ ?_
       refine Aq LS rfl rfl ?_
       refine AH4 fun K48 k48=>?_
       refine AH3 ?_
       refine AZ (v:=.bool false) LS r6 fun a49 J8=>?_
       refine AE ?_
       refine k48 _ _ ?_
       replace HG:=AA HG g47
       refine AH7 ?_
       repeat refine AM ?_
       refine rt36 _ _ ?_
       repeat refine AM ?_
       refine rt30 _ _ ?_
       repeat refine AM ?_
       refine A3 (fn:=Tryz.f50) J8 (A2 (p:=6) Tryz.results50 J8 rfl rfl) ?_
       exact⟨Fj ((AE5 (AE2 (i:=i) (by rw[hmap];exact hi) (by rw[hchk];simp[hc,Nat.ne_of_gt hz]))).symm),HG⟩
   · refine AH3 ?_
     refine AK Hj 1 [(28,.bool false)]
       ⟨Gs r7 (fun _=>Bb (by simp;omega)),AIA⟩ fun a50 w50 g50 Rd=>?_
     refine AE ?_
     refine k32 _ _ ?_
     refine AH4 fun K51 k51=>?_
     refine Ax Rd rfl rfl ?_
     refine wp_exit ?_
     repeat refine CH ?_
     refine x30 _ _ ?_
     refine k27 _ _ ?_
     refine AH4 fun K52 k52=>?_
     refine AH3 ?_
     refine AZ (v:=.bool true) Rd r6 fun a53 Yr=>?_
     refine AE ?_
     refine k52 _ _ ?_
     replace HG:=AA HG g50
     refine AH7 ?_
     repeat refine AM ?_
     refine A3 (fn:=Tryz.f50) Yr (A2 (p:=6) Tryz.results50 Yr rfl rfl) ?_
     exact⟨Fj ((AE6 h0 h2 (by omega) (AC1 fun k hk=>hb k (by omega))).symm),HG⟩
theorem UD {x y sl:List Nat} {j a b:Nat} (hj:j<sl.length) (ha:x[j]?=some a) (hb:y[j]?=some b) (h:∀k,k<j→sl[k]?=(Io x y)[k]?):∀k,k<j+1→(sl.set j (a ^^^ b))[k]?=(Io x y)[k]?:=by
 intro k hk
 rw[List.getElem?_set]
 by_cases e:j=k
 · subst e
   rw[if_pos rfl,if_pos hj]
   unfold Io
   rw[List.getElem?_zipWith,ha,hb]
 · rw[if_neg e]
   exact h k (by omega)
theorem XO {x y sl:List Nat} {n j:Nat} (hx:x.length=n) (hy:n≤y.length) (hs:sl.length=n) (hj:n≤j) (h:∀k,k<j→sl[k]?=(Io x y)[k]?):sl=Io x y:=by
 have hl:=LY (a:=x) (b:=y) (by omega)
 refine List.ext_getElem? fun k=>?_
 by_cases hk:k<n
 · exact h k (by omega)
 · rw[List.getElem?_eq_none (by omega),List.getElem?_eq_none (by omega)]
theorem AC3 {P:Program} {a b c:Int} {t:TypeId} {x y:Operand} {w:World} (h:bits .xor .u8 a b=c):(do eqGuard .xor t x y (.int .u8 a) (.int .u8 b);binOp .xor t (.int .u8 a) (.int .u8 b):Sem Value).run P w=.ok (.int .u8 c) w:=by
 subst h
 simp[eqGuard,binOp_xor]
 rfl
theorem XP {P:Program} {a b:Nat} {t:TypeId} {x y:Operand} {w:World} (ha:a<256) (hb:b<256):(do eqGuard .xor t x y (.int .u8 (a:Int)) (.int .u8 (b:Int));binOp .xor t (.int .u8 (a:Int)) (.int .u8 (b:Int)):Sem Value).run P w=.ok (.int .u8 ((a ^^^ b:Nat):Int)) w:=AC3 (u8_xor_nat a b ha hb)
section
variable {P:Program} {Q:Exit→Act→World→Prop} {ops:Array Oper} {rest:List Oper} {o:Oper} {a:Act} {w:World} {n:Nat} {D:List Deferred} {K:List (Nat×Value)}
theorem AE7 {l:List Nat} {j x:Nat} (hj:j<l.length):bv (l.set j x)=bv (l.take j)++([.int .u8 (x:Int)]++bv (l.drop (j+1))):=by
 rw[LZ,LZ,LZ,AAL hj]
 rfl
theorem AAx {l:List Nat} {j:Nat} (hj:j<l.length):bv l=bv (l.take j)++([.int .u8 (l[j]:Int)]++bv (l.drop (j+1))):=by
 rw[LZ,LZ,LZ,JK hj]
 rfl
theorem Yx (sv:Sv n D K a) (hgd:o.guard=none) {T:TypeId} {x y:Operand} (ho:o.op=.store T x y) (hd:o.dst=none) {b j v:Nat} {l:List Nat} {t:TypeId} (hx:KX K x=true) (hxv:KY K x=.pointer (some ⟨b,j,none⟩)) (hy:KX K y=true) (hyv:KY K y=.int .u8 (v:Int)) (ty:TY P T [.int .u8 (v:Int)] (.int .u8 (v:Int)))
  (hb:w.heap[b]?=some (.cells (bv l).toArray t (0,0))) (hj:j<l.length)
  (h:∀w',w.grownBy w' (some b)→w'.heap[b]?=some (.cells (bv (l.set j v)).toArray t (0,0))→wpList P ops Q rest a w'):wpList P ops Q (o::rest) a w:=by
 rw[AAx hj] at hb
 refine N3 sv hgd ho hd hx hxv hy hyv ty hb (by rw[AI,List.length_take];omega) rfl fun w' g' hb'=>h w' g' ?_
 rw[hb',AE7 hj]
end
theorem Yy (x y s0:List Nat) (hbx:By x) (hby:By y) (n:Nat) (hn63:n≤1000000) (hnx:x.length=n) (m:Nat) (hym:y.length=m) (hny:n≤m) (so ao bo:Option Addr) (sc ac bc:Nat) (w w1:World) (HG:w.grownBy w1 none) (hs:Own w1 5 1 (.slice so n sc) n (s0.flatMap cb)) (ha:SlB w1 1 (.slice ao n ac) n (bv x)) (hb:SlB w1 1 (.slice bo m bc) m (bv y)) (lo_hs:∀k,BO (.slice so n sc) k→w.heap.size≤k) (ap_ha_hs:∀k,BO (.slice ao n ac) k→¬BO (.slice so n sc) k) (ap_hb_hs:∀k,BO (.slice bo m bc) k→¬BO (.slice so n sc) k) :
   Calls Tryz.prog 106 #[.slice so n sc,.slice ao n ac,.slice bo m bc] w1 fun e w'=>e=.returned (.slice so n sc)∧w.grownBy w' none∧Own w' 5 1 (.slice so n sc) n (bv (Io x y)):=by
 refine BH Tryz.func106 rfl Tryz.ntmps106 rfl fun a0 sv0=>?_
 have hs0:s0.length=n:=(AEk (Sl.of_own hs) WI (by decide)).symm
 replace sv0:Sv 27 [] [(0,.slice so n sc),(1,.slice ao n ac),(2,.slice bo m bc)] a0:=sv0
 refine AH4 fun K1 k1=>?_
 refine AH3 ?_
 refine AZ (v:=.slice none 0 0) sv0 r6 fun a2 sv2=>?_
 refine AE ?_
 refine k1 _ _ ?_
 refine AH4 fun K3 k3=>?_
 refine AH4 fun K4 k4=>?_
 refine AH3 ?_
 refine AK sv2 3 [(8,.slice so n sc),(9,.int .i64 ((n:Nat))),(10,.int .i64 0)]
   ⟨ym r5,Be (Tryz.underlying29) rfl rfl trivial (oy rfl rfl) (fun _=>rfl),D8 (.inl rfl) rfl trivial (fun _=>rfl),AIA⟩ fun a5 w5 g5 sv5=>?_
 refine AE ?_
 refine k4 _ _ ?_
 refine BB fun Q6 x6 y6 rt6 o6=>?_
 replace ha:=ha.kn g5
 replace hb:=hb.kn g5
 replace hs:=hs.kn g5
 replace HG:=AA HG g5
 refine wp_loop (fun a w'=>∃(i:Nat) (sl:List Nat),(i≤n)∧(sl.length=n)∧(∀k,k<i→sl[k]?=(Io x y)[k]?)∧Sv 27 [] [(10,.int .i64 ((i:Int))),(8,.slice so n sc),(9,.int .i64 ((n:Nat))),(6,.slice none 0 0),(0,.slice so n sc),(1,.slice ao n ac),(2,.slice bo m bc)] a∧w.grownBy w' none∧SlB w' 1 (.slice ao n ac) n (bv x)∧SlB w' 1 (.slice bo m bc) m (bv y)∧Own w' 5 1 (.slice so n sc) n (sl.flatMap cb)∧(∀k,BO (.slice ao n ac) k→¬BO (.slice so n sc) k)∧(∀k,BO (.slice bo m bc) k→¬BO (.slice so n sc) k)∧(∀k,BO (.slice so n sc) k→w.heap.size≤k)) (fun a _=>(n-intOf (a.tmps.getD 10 undef)).toNat) ⟨0,s0,Nat.zero_le _,hs0,fun k hk=>by omega,⟨sv5.1,sv5.2.1,sv5.2.2.2.2.1,sv5.2.2.1,sv5.2.2.2.1,sv5.2.2.2.2.2.1,sv5.2.2.2.2.2.2.1,sv5.2.2.2.2.2.2.2.1,(AJ sv5).1,AIA⟩,HG,ha,hb,hs,ap_ha_hs,ap_hb_hs,lo_hs⟩ fun a7 w7 hI7=>?_
 clear ha
 clear hb
 clear hs
 clear HG
 obtain⟨i,sl,hin,hsl,hq,sv7,HG,ha,hb,hs,ap_ha_hs,ap_hb_hs,lo_hs⟩:=hI7
 refine AH4 fun K8 k8=>?_
 by_cases hi:i<n
 · have hix:i<x.length:=by omega
   have hiy:i<y.length:=by omega
   have his:i<sl.length:=by omega
   obtain⟨xa,hx_xa⟩:∃zx,x[i]'hix=zx:=⟨_,rfl⟩
   obtain⟨xb,hx_xb⟩:∃zx,y[i]'hiy=zx:=⟨_,rfl⟩
   obtain⟨xs,hx_xs⟩:∃zx,sl[i]'his=zx:=⟨_,rfl⟩
   have hxa:x[i]?=some xa:=by rw[←hx_xa];exact List.getElem?_eq_getElem _
   have hxb:y[i]?=some xb:=by rw[←hx_xb];exact List.getElem?_eq_getElem _
   have ba:xa<256:=hbx _ (List.mem_of_getElem? hxa)
   have bb:xb<256:=hby _ (List.mem_of_getElem? hxb)
   refine AH3 ?_
   refine AK sv7 1 [(11,.bool true)]
    ⟨Gs r7 (fun _=>Bb (by simp;omega)),AIA⟩ fun a9 w9 g9 sv9=>?_
   refine AE ?_
   refine k8 _ _ ?_
   refine AH4 fun K10 k10=>?_
   refine Aq sv9 rfl rfl ?_
   refine AH8 ?_
   refine k10 _ _ ?_
   refine AH4 fun K11 k11=>?_
   refine BB fun Q12 x12 y12 rt12 o12=>?_
   refine AH4 fun K13 k13=>?_
   refine AH3 ?_
   refine AK sv9 1 [(12,.int .i64 ((i:Int)))]
    ⟨ym r5,AIA⟩ fun a14 w14 g14 Cy=>?_
   have Tl:=AA g9 g14
   refine AZ (v:=.int .i64 ((i:Int))) Cy r6 fun a15 Ko=>?_
   refine AE ?_
   refine k13 _ _ ?_
   replace ha:=ha.kn Tl
   replace hb:=hb.kn Tl
   replace hs:=hs.kn Tl
   refine C6 (Ko.st w14) (by kernel_rfl) 12 [(13,Sp.is (.slice so n sc)),(14,Sp.is (.int .i64 ((i:Int)))),(15,Sp.is (.slice ao n ac)),(16,Sp.is (.int .i64 ((i:Int)))),(17,Sp.is (pk ((bO ao)) (oO ao+i*1))),(18,Sp.is (.int .u8 ((xa:Int)))),(19,Sp.is (.slice bo m bc)),(20,Sp.is (.int .i64 ((i:Int)))),(21,Sp.is (pk ((bO bo)) (oO bo+i*1))),(22,Sp.is (.int .u8 ((xb:Int)))),(23,Sp.is (.int .u8 (((xa ^^^ xb:Nat):Int)))),(24,Sp.is (pk ((bO so)) (oO so+i*1)))] rfl (by kernel_rfl) (by kernel_rfl) (by kernel_rfl) [] (by kernel_rfl)
    ⟨ym r5,ym r5,ym r5,ym r5,BA rq8 (fun w=>CD Tryz.underlying29 (by kernel_rfl) (ha.1) (by omega) (rfl) w),Bn r6 (fun _ g=>Ad (tyB ((xa:Int))) (by have:=UC (ha.kn g).1 hix;rw[hx_xa] at this;exact this)),ym r5,ym r5,BA rq8 (fun w=>CD Tryz.underlying29 (by kernel_rfl) (hb.1) (by omega) (rfl) w),Bn r6 (fun _ g=>Ad (tyB ((xb:Int))) (by have:=UC (hb.kn g).1 hiy;rw[hx_xb] at this;exact this)),Gs r7 (fun _=>XP ba bb),BA rq8 (fun w=>CD Tryz.underlying29 (by kernel_rfl) ((Sl.of_own hs)) (by omega) (rfl) w),AIA⟩ trivial
    [] (by kernel_rfl) trivial ⟨.inl rfl,.inl rfl,.inl rfl,.inl rfl,.inl rfl,.inl rfl,.inl rfl,.inl rfl,.inl rfl,.inl rfl,.inl rfl,.inl rfl,AIA⟩ (by kernel_rfl) fun a16 w16 g16 st16 nd16=>?_
   obtain⟨hn16,hd16,e16_13,e16_14,e16_15,e16_16,e16_17,e16_18,e16_19,e16_20,e16_21,e16_22,e16_23,e16_24,e16_7,e16_12,e16_11,e16_10,e16_8,e16_9,e16_6,e16_0,e16_1,e16_2,-⟩:=st16
   have Ck:Sv 27 [] [(7,_),(12,_),(11,_),(10,_),(8,_),(9,_),(6,_),(0,_),(1,_),(2,_),(23,_),(24,_)] a16:=⟨hn16,hd16,e16_7,e16_12,e16_11,e16_10,e16_8,e16_9,e16_6,e16_0,e16_1,e16_2,e16_23,e16_24,AIA⟩
   replace hs:=hs.kn g16
   refine IS (c:=cb) (el:=(xa ^^^ xb)) Ck rfl rfl rfl rfl rfl rfl rfl (tyB (((xa ^^^ xb:Nat):Int))) hs WI (by decide) (by first|omega|(simp only[List.length_set];omega)) rfl fun w17 g17 h17=>?_
   replace ha:=(ha.kn g16).offR g17 (fun k hk e=>ap_ha_hs k hk (Cx (j:=i) hs (by omega) e))
   replace hb:=(hb.kn g16).offR g17 (fun k hk e=>ap_hb_hs k hk (Cx (j:=i) hs (by omega) e))
   replace HG:=CN (AA (AA HG Tl) g16) g17 fun k e=>lo_hs k (Cx (j:=i) hs (by omega) e)
   refine AE ?_
   refine y12 _ _ ?_
   refine k11 _ _ ?_
   refine AH3 ?_
   refine AK Ck 1 [(25,.int .i64 (((i+1:Nat):Int)))]
    ⟨Cm r6 (fun _=>DH (by rw[A7 (by omega) (by omega)];omega)),AIA⟩ fun a18 w18 g18 CF=>?_
   refine AK (CF.dl [10]) 1 [(10,.int .i64 (((i+1:Nat):Int)))]
    ⟨ym r5,AIA⟩ fun a19 w19 g19 Dv=>?_
   have AC4:=AA g18 g19
   refine AE ?_
   replace ha:=ha.kn AC4
   replace hb:=hb.kn AC4
   replace hs:=h17.kn AC4
   replace HG:=AA HG AC4
   exact⟨⟨i+1,sl.set i (xa ^^^ xb),by omega,by rw[List.length_set];exact hsl,UD (by omega) hxa hxb hq,⟨Dv.1,Dv.2.1,Dv.2.2.1,Dv.2.2.2.2.2.2.2.1,(AJ Dv).1,(AJ Dv).2.1,(AJ Dv).2.2.1,(AJ Dv).2.2.2.1,(AJ Dv).2.2.2.2.1,AIA⟩,HG,ha,hb,hs,ap_ha_hs,ap_hb_hs,lo_hs⟩,by rw[show _=_ from Dv.2.2.1,show _=_ from sv7.2.2.1];simp[intOf];omega⟩
 · have hfin:=XO hnx (by omega) hsl (by omega) hq
   refine AH3 ?_
   refine AK sv7 1 [(11,.bool false)]
    ⟨Gs r7 (fun _=>Bb (by simp;omega)),AIA⟩ fun a20 w20 g20 Dl=>?_
   refine AE ?_
   refine k8 _ _ ?_
   refine AH4 fun K21 k21=>?_
   refine Ax Dl rfl rfl ?_
   refine wp_exit ?_
   repeat refine CH ?_
   refine x6 _ _ ?_
   refine k3 _ _ ?_
   refine AH4 fun K22 k22=>?_
   refine AH3 ?_
   refine AK Dl 1 [(26,.slice so n sc)]
    ⟨ym r5,AIA⟩ fun a23 w23 g23 CX=>?_
   have AGB:=AA g20 g23
   refine AZ (v:=.slice so n sc) CX r6 fun a24 Dw=>?_
   refine AE ?_
   refine k22 _ _ ?_
   replace hs:=hs.kn AGB
   replace HG:=AA HG AGB
   refine AH7 ?_
   repeat refine AM ?_
   rw[hfin,←LZ] at hs
   refine A3 (fn:=Tryz.f106) Dw (A2 (p:=6) Tryz.results106 Dw rfl rfl) ?_
   exact⟨rfl,HG,hs⟩
theorem AAy {x y:List Nat} (hx:Dg x) (hy:Dg y):Dg (Io x y):=⟨by rw[LY (by rw[hx.1,hy.1];omega),hx.1],XL hx.2 hy.2⟩
theorem Yz (z0 x y:List Nat) (hz:Dg z0) (hx:Dg x) (hy:Dg y) (w:World) :
   Calls Tryz.prog 104 #[AP z0,AP x,AP y] w fun e w'=>e=.returned (AP (Io x y))∧w.grownBy w' none:=by
 have hz0:z0.length=32:=hz.1
 refine BH Tryz.func104 rfl Tryz.ntmps104 rfl fun a0 sv0=>?_
 have HG:=World.grownBy.refl w none
 replace sv0:Sv 24 [] [(0,AP z0),(1,AP x),(2,AP y)] a0:=sv0
 refine AH4 fun K1 k1=>?_
 refine AH3 ?_
 refine BQ sv0 r6 (Bj z0 hz.1) fun a2 w2 Pd LQ g2 z2 BF sv2=>?_
 have AC5:=Bp HG LQ
 refine BQ sv2 r6 (Bj x hx.1) fun a3 w3 ACr XI g3 z3 DK sv3=>?_
 have Re:=As BF XI
 replace BF:=AC g3 BF
 refine BQ sv3 r6 (Bj y hy.1) fun a4 w4 AE8 AC6 g4 z4 JX sv4=>?_
 have Rf:=As BF AC6
 replace BF:=AC g4 BF
 replace HG:=AA (AA (AA HG g2) g3) g4
 refine Ap (T:=23) (Z:=(bv AS)) sv4 rfl rfl rfl (fun a w=>by kernel_rfl) fun a5 w5 AGC XQ g5 z5 JY sv5=>?_
 have Rg:=As BF XQ
 have AC7:=Bp HG XQ
 replace BF:=AC g5 BF
 refine AE ?_
 refine k1 _ _ ?_
 refine AH4 fun K6 k6=>?_
 refine AH4 fun K7 k7=>?_
 refine AH3 ?_
 refine AK sv5 3 [(8,AP z0),(9,.int .i64 32),(10,.int .i64 0)]
   ⟨yl r6 (Bj z0 hz.1) BF,D8 (.inl rfl) rfl trivial (fun _=>rfl),D8 (.inl rfl) rfl trivial (fun _=>rfl),AIA⟩ fun a8 w8 g8 sv8=>?_
 refine AE ?_
 refine k7 _ _ ?_
 refine BB fun Q9 x9 y9 rt9 o9=>?_
 replace BF:=AC g8 BF
 replace DK:=AC g8 (AC g5 (AC g4 DK))
 replace JX:=AC g8 (AC g5 JX)
 replace JY:=AC g8 JY
 replace HG:=AA (AA HG g5) g8
 refine wp_loop (fun a w'=>∃(j:Nat) (sl:List Nat),(j≤32)∧(sl.length=32)∧(∀k,j≤k→sl[k]?=z0[k]?)∧(∀k,k<j→sl[k]?=(Io x y)[k]?)∧Sv 24 [] [(10,.int .i64 ((j:Int))),(8,AP z0),(9,.int .i64 32),(6,pt AGC),(5,pt AE8),(4,pt ACr),(3,pt Pd),(0,AP z0),(1,AP x),(2,AP y)] a∧w.grownBy w' none∧w'.heap[Pd]?=some (.cells (bv sl).toArray 23 (0,0))∧w'.heap[ACr]?=some (.cells (bv x).toArray 23 (0,0))∧w'.heap[AE8]?=some (.cells (bv y).toArray 23 (0,0))∧w'.heap[AGC]?=some (.cells ((bv AS)).toArray 23 (0,0))) (fun a _=>(32-intOf (a.tmps.getD 10 undef)).toNat) ⟨0,z0,by omega,hz0,fun k hk=>rfl,fun k hk=>by omega,⟨sv8.1,sv8.2.1,sv8.2.2.2.2.1,sv8.2.2.1,sv8.2.2.2.1,sv8.2.2.2.2.2.1,sv8.2.2.2.2.2.2.1,sv8.2.2.2.2.2.2.2.1,(AJ sv8).1,(AJ sv8).2.1,(AJ sv8).2.2.1,(AJ sv8).2.2.2.1,AIA⟩,HG,BF,DK,JX,JY⟩ fun a10 w10 hI10=>?_
 clear BF
 clear DK
 clear JX
 clear JY
 clear HG
 obtain⟨j,sl,hj32,hsl,hkeep,hq,CG,HG,BF,DK,JX,JY⟩:=hI10
 refine AH4 fun K11 k11=>?_
 by_cases hj:j<32
 · obtain⟨xa,hxa⟩:∃a,x[j]?=some a:=⟨_,List.getElem?_eq_getElem (by rw[hx.1];exact hj)⟩
   obtain⟨xb,hxb⟩:∃b,y[j]?=some b:=⟨_,List.getElem?_eq_getElem (by rw[hy.1];exact hj)⟩
   have ba:xa<256:=hx.2 _ (List.mem_of_getElem? hxa)
   have bb:xb<256:=hy.2 _ (List.mem_of_getElem? hxb)
   refine AH3 ?_
   refine AK CG 1 [(11,.bool true)]
    ⟨Gs r7 (fun _=>Bb (by simp;omega)),AIA⟩ fun a12 w12 g12 Cr=>?_
   refine AE ?_
   refine k11 _ _ ?_
   refine AH4 fun K13 k13=>?_
   refine Aq Cr rfl rfl ?_
   refine AH8 ?_
   refine k13 _ _ ?_
   refine AH4 fun K14 k14=>?_
   refine BB fun Q15 x15 y15 rt15 o15=>?_
   refine AH4 fun K16 k16=>?_
   refine AH3 ?_
   refine AK Cr 1 [(12,.int .i64 ((j:Int)))]
    ⟨ym r5,AIA⟩ fun a17 w17 g17 E2=>?_
   have RV:=AA g12 g17
   refine AZ (v:=.int .i64 ((j:Int))) E2 r6 fun a18 CF=>?_
   refine AE ?_
   refine k16 _ _ ?_
   replace DK:=AC RV DK
   replace JX:=AC RV JX
   refine C6 (CF.st w17) (by kernel_rfl) 9 [(13,Sp.is (.int .i64 ((j:Int)))),(14,Sp.is (.int .i64 ((j:Int)))),(15,Sp.is (pk ACr j)),(16,Sp.is (.int .u8 ((xa:Int)))),(17,Sp.is (.int .i64 ((j:Int)))),(18,Sp.is (pk AE8 j)),(19,Sp.is (.int .u8 ((xb:Int)))),(20,Sp.is (.int .u8 (((xa ^^^ xb:Nat):Int)))),(21,Sp.is (pk Pd j))] rfl (by kernel_rfl) (by kernel_rfl) (by kernel_rfl) [] (by kernel_rfl)
    ⟨ym r5,ym r5,BA rq8 (fun w=>IV hj w),Bn r6 (fun _ g=>Ad (RU (xa:Int)) (by simpa using Fi (o:=0) (Aj (AF g DK (by simp))) hxa)),ym r5,BA rq8 (fun w=>IV hj w),Bn r6 (fun _ g=>Ad (RU (xb:Int)) (by simpa using Fi (o:=0) (Aj (AF g JX (by simp))) hxb)),Gs r7 (fun _=>XP ba bb),BA rq8 (fun w=>IV hj w),AIA⟩ trivial
    [] (by kernel_rfl) trivial ⟨.inl rfl,.inl rfl,.inl rfl,.inl rfl,.inl rfl,.inl rfl,.inl rfl,.inl rfl,.inl rfl,AIA⟩ (by kernel_rfl) fun a19 w19 g19 st19 nd19=>?_
   obtain⟨hn19,hd19,e19_13,e19_14,e19_15,e19_16,e19_17,e19_18,e19_19,e19_20,e19_21,e19_7,e19_12,e19_11,e19_10,e19_8,e19_9,e19_6,e19_5,e19_4,e19_3,e19_0,e19_1,e19_2,-⟩:=st19
   have Dv:Sv 24 [] [(7,_),(12,_),(11,_),(10,_),(8,_),(9,_),(6,_),(5,_),(4,_),(3,_),(0,_),(1,_),(2,_),(20,_),(21,_)] a19:=⟨hn19,hd19,e19_7,e19_12,e19_11,e19_10,e19_8,e19_9,e19_6,e19_5,e19_4,e19_3,e19_0,e19_1,e19_2,e19_20,e19_21,AIA⟩
   replace BF:=AC g19 (AC RV BF)
   refine Yx Dv rfl rfl rfl rfl rfl rfl rfl (RU _) BF (by omega) fun w20 g20 h20=>?_
   refine AE ?_
   refine y15 _ _ ?_
   refine k14 _ _ ?_
   refine AH3 ?_
   refine AK Dv 1 [(22,.int .i64 (((j+1:Nat):Int)))]
    ⟨Cm r6 (fun _=>DH (by rw[A7 (by omega) (by omega)];omega)),AIA⟩ fun a21 w21 g21 DL=>?_
   refine AK (DL.dl [10]) 1 [(10,.int .i64 (((j+1:Nat):Int)))]
    ⟨ym r5,AIA⟩ fun a22 w22 g22 CU=>?_
   have NE:=AA g21 g22
   refine AE ?_
   replace BF:=AC NE h20
   replace DK:=AC NE (Aa g20 (AC g19 DK) Re)
   replace JX:=AC NE (Aa g20 (AC g19 JX) Rf)
   replace JY:=AC NE (Aa g20 (AC g19 (AC RV JY)) Rg)
   replace HG:=AA (AD (AA (AA HG RV) g19) g20 AC5) NE
   exact⟨⟨j+1,sl.set j (xa ^^^ xb),by omega,by rw[List.length_set];exact hsl,fun k hk=>by rw[List.getElem?_set_ne (by omega)];exact hkeep k (by omega),UD (by omega) hxa hxb hq,⟨CU.1,CU.2.1,CU.2.2.1,CU.2.2.2.2.2.2.2.1,(AJ CU).1,(AJ CU).2.1,(AJ CU).2.2.1,(AJ CU).2.2.2.1,(AJ CU).2.2.2.2.1,(AJ CU).2.2.2.2.2.1,(AJ CU).2.2.2.2.2.2.1,(AJ CU).2.2.2.2.2.2.2.1,AIA⟩,HG,BF,DK,JX,JY⟩,by rw[show _=_ from CU.2.2.1,show _=_ from CG.2.2.1];simp[intOf];omega⟩
 · have hfin:=XO hx.1 (by rw[hy.1];omega) hsl (by omega) hq
   have hsn:Dg sl:=hfin▸AAy hx hy
   refine AH3 ?_
   refine AK CG 1 [(11,.bool false)]
    ⟨Gs r7 (fun _=>Bb (by simp;omega)),AIA⟩ fun a23 w23 g23 CX=>?_
   refine AE ?_
   refine k11 _ _ ?_
   refine AH4 fun K24 k24=>?_
   refine Ax CX rfl rfl ?_
   refine wp_exit ?_
   repeat refine CH ?_
   refine x9 _ _ ?_
   refine k6 _ _ ?_
   refine AH4 fun K25 k25=>?_
   refine AH3 ?_
   refine AK CX 1 [(23,AP sl)]
    ⟨yl r6 (Bj sl hsn.1) (AC g23 BF),AIA⟩ fun a26 w26 g26 CW=>?_
   have AGD:=AA g23 g26
   refine Am CW r7 (Bj sl hsn.1) (AC AGD JY) (Fu hsn) fun w27 g27 h27=>?_
   replace HG:=AD (AA HG AGD) g27 AC7
   replace JY:=h27
   refine AE ?_
   refine k25 _ _ ?_
   refine AH7 ?_
   repeat refine AM ?_
   refine A3 (fn:=Tryz.f104) CW (EA (p:=6) Tryz.results104 CW rfl rfl (Bj sl hsn.1) JY) ?_
   exact⟨by rw[hfin],HG⟩
theorem La (x k:List Nat) (hx:Dg x) (hk:Dg k) (w:World) :
  Calls Tryz.prog 56 #[AP x,AP k] w fun e w'=>e=.returned (AP (L8 x k))∧w.grownBy w' none:=by
 refine BH Tryz.func56 rfl Tryz.ntmps56 rfl fun a0 sv0=>?_
 have HG:=World.grownBy.refl w none
 replace sv0:Sv 10 [] [(0,AP x),(1,AP k)] a0:=sv0
 refine AH4 fun K1 k1=>?_
 refine AH3 ?_
 refine BQ sv0 r6 (Bj x hx.1) fun a2 w2 CJ Cs g2 z2 AH sv2=>?_
 refine BQ sv2 r6 (Bj k hk.1) fun a3 w3 Bw EH g3 z3 AL sv3=>?_
 replace HG:=AA (AA HG g2) g3
 refine Ap (T:=23) (Z:=(bv AS)) sv3 rfl rfl rfl (fun a w=>by kernel_rfl) fun a4 w4 FG Bz g4 z4 AN sv4=>?_
 have B7:=Bp HG Bz
 replace AH:=AC g4 (AC g3 AH)
 replace AL:=AC g4 AL
 refine AE ?_
 refine k1 _ _ ?_
 refine AH4 fun K5 k5=>?_
 refine C6 (sv4.st w4) (by kernel_rfl) 5 [(5,Sp.is (AP AS)),(6,Sp.is (AP x)),(7,Sp.is (AP k)),(8,Sp.is (AP ((msk k)))),(9,Sp.is (AP ((L8 x k))))] rfl (by kernel_rfl) (by kernel_rfl) (by kernel_rfl) [] (by kernel_rfl)
  ⟨BM (vs:=[]) rfl rfl trivial trivial (fun _=>bD0 _) (fun _=>rfl),yl r6 (Bj x hx.1) AH,yl r6 (Bj k hk.1) AL,Ah [.int .u64 283,AP k,.slice none 0 0] Tryz.func66 (by kernel_rfl) rq4 ⟨rfl,(oy rfl rfl),rfl,AIA⟩ (Ao fun W g=>LP (n:=283) (by decide) rfl hk W),Ah [AP AS,AP x,AP ((msk k))] Tryz.func104 (by kernel_rfl) rq4 ⟨(oy rfl rfl),(oy rfl rfl),(oy rfl rfl),AIA⟩ (Ao fun W g=>Yz AS x (msk k) AV hx (BE 283 k) W),AIA⟩ trivial
  [] (by kernel_rfl) trivial ⟨.inl rfl,.inl rfl,.inl rfl,.inl rfl,.inl rfl,AIA⟩ (by kernel_rfl) fun a6 w6 g6 st6 nd6=>?_
 obtain⟨hn6,hd6,e6_5,e6_6,e6_7,e6_8,e6_9,e6_4,e6_3,e6_2,e6_0,e6_1,-⟩:=st6
 have sv6:Sv 10 [] [(4,_),(3,_),(2,_),(0,_),(1,_),(9,_)] a6:=⟨hn6,hd6,e6_4,e6_3,e6_2,e6_0,e6_1,e6_9,AIA⟩
 refine Am sv6 r7 (Bj ((L8 x k)) (AAy hx (BE 283 k)).1) (AC g6 AN) (Fu (AAy hx (BE 283 k))) fun w7 g7 h7=>?_
 replace HG:=AD (AA (AA HG g4) g6) g7 B7
 replace AN:=h7
 refine AE ?_
 refine k5 _ _ ?_
 refine AH7 ?_
 repeat refine AM ?_
 refine A3 (fn:=Tryz.f56) sv6 (EA (p:=4) Tryz.results56 sv6 rfl rfl (Bj ((L8 x k)) (AAy hx (BE 283 k)).1) AN) ?_
 exact⟨rfl,HG⟩
end Go.Proofs.YtbfjfnbcmojpiaaGreat
