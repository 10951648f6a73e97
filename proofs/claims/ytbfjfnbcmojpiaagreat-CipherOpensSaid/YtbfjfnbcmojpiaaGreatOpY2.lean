import Derived.Test.YtbfjfnbcmojpiaaGreatOpY1
import Derived.Test.YtbfjfnbcmojpiaaGreatOpSG
import Derived.Test.YtbfjfnbcmojpiaaGreatOpSH
set_option linter.unusedSimpArgs false
set_option linter.unusedVariables false
set_option maxRecDepth 100000
set_option maxHeartbeats 4000000
namespace Go.Proofs.YtbfjfnbcmojpiaaGreat
open Go.RowKit Go.Shelf
structure DD where
 x:List Nat
 h:Dg x
def J4 (d:DD):List Value:=bv d.x
theorem DV (d:DD):(J4 d).length=32:=by unfold J4;rw[AO,d.h.1]
def RdD (w:World) (v:Value) (ds:List DD):Prop:=SlB w 32 v ds.length (ds.flatMap J4)
section
variable {w w':World} {v:Value} {ds:List DD}
theorem RdD.kn (h:RdD w v ds) (g:w.grownBy w' none):RdD w' v ds:=SlB.kn h g
theorem RdD.lt (h:RdD w v ds):∀k,Ba v k→k<w.heap.size:=SlB.lt h
theorem RdD.offR (h:RdD w v ds) {row:Option Nat} (g:w.grownBy w' row) (hb:∀k,Ba v k→row≠some k):RdD w' v ds:=SlB.offR h g hb
theorem RdD.nil (w:World):RdD w (.slice none 0 0) []:=⟨Sl.nil w 32,fun k hk=>by simp[Ba,Value.ownBlock] at hk⟩
theorem RdD.shape (h:RdD w v ds):∃ao cap,v=.slice ao ds.length cap:=by
 obtain⟨ao,cap,rfl,_⟩:=h.1.shape
 exact⟨ao,cap,rfl⟩
end
theorem Hp {ds:List DD} {j:Nat} (h:j<ds.length):MF (ds.map DD.x) j=ds[j].x:=by rw[ADY (by simpa using h),List.getElem_map]
theorem ADa {ds:List DD} {i:Nat} {x y:DD} (hi:i<ds.length) (hp:i-1<ds.length) (hx:ds[i]=x) (hy:ds[i-1]=y):TV (ds.map DD.x) i=(decide (i=0)||E6 y.x x.x):=by
 unfold TV
 rw[Hp hi,Hp hp,hx,hy]
theorem AHd {l:List (List Nat)} {k:Nat} (h:k=0):TV l k=true:=by subst h;rfl
theorem RdD.len {w:World} {v:Value} {ds:List DD} (h:RdD w v ds):(ds.length:Int)≤9223372036854775807:=by
 have h1:=h.1
 obtain⟨ao,cap,rfl⟩:=h.shape
 have:=(h1.shape)
 obtain⟨ao',cap',e,h2,h3⟩:=this
 omega
theorem D4 (v:Value) (h:v.oneCell'=true):TY Tryz.prog 28 [v] v:=TY.one' Tryz.underlying28 rfl (by kernel_rfl) h
def cb (n:Nat):List Value:=[.int .u8 (n:Int)]
theorem ZN (n:Nat):(cb n).length=1:=rfl
theorem Mh (l:List Nat):bv l=l.flatMap cb:=by
 induction l with
 | nil=>rfl
 | cons a l ih=>rw[List.flatMap_cons,←ih];rfl
theorem FK {w:World} {n cap j:Nat} {ao:Option Addr} {l:List Nat} (h:Sl w 1 (.slice ao n cap) n (bv l)) (hj:j<l.length):w.rangeAt (bO ao) (oO ao+j*1) [.int .u8 (l[j]:Int)]:=by
 rw[Mh] at h
 exact Cb h ZN hj (by decide)
theorem Dr (x:Int):TY Tryz.prog 2 [.int .i64 x] (.int .i64 x):=TY.one' Tryz.underlying2 rfl (by kernel_rfl) rfl
theorem dsT:ET Tryz.prog 28 23 (AQ AS) 32 32:=⟨Tryz.underlying28,info_parts (by kernel_rfl),rfl,by decide,by decide⟩
theorem Ob {own:List (List Nat)} {joint addr:Int} (h:addr<0∨17179869184≤addr):hd own joint addr=false:=by
 have:Ce addr=false:=by unfold Ce;simp;omega
 unfold hd;rw[this];rfl
theorem WL {own:List (List Nat)} {joint addr:Int} (h:joint≠0) (h1:joint≠1):hd own joint addr=false:=by unfold hd;simp[h,h1]
theorem ZO {own:List (List Nat)} {joint addr:Int} (h:16<own.length):hd own joint addr=false:=by
 have:decide (own.length≤16)=false:=decide_eq_false (by omega)
 unfold hd;rw[this];simp
theorem ZP {own:List (List Nat)} {joint addr:Int} (h:YJ own=false):hd own joint addr=false:=by unfold hd;rw[h];simp
theorem ZQ {own:List (List Nat)} {joint addr:Int} (h1:0≤addr∧addr<17179869184) (h2:joint=0∨joint=1) (h3:own.length≤16) (h4:YJ own=true):hd own joint addr=true:=by
 have h5:Ce addr=true:=by unfold Ce;simp;omega
 unfold hd;rw[h5,h4];rcases h2 with rfl|rfl<;>simp[h3]
theorem ZR (ds:List DD) (ao:Option Addr) (cap:Nat) (joint addr:Int) (w:World) (hr:RdD w (.slice ao ds.length cap) ds) :
   Calls Tryz.prog 50 #[.slice ao ds.length cap,.int .i64 joint,.int .i64 addr] w fun e w'=>e=.returned (.bool (hd (ds.map DD.x) joint addr))∧w.grownBy w' none:=by
 have hmap:(ds.map DD.x).length=ds.length:=List.length_map _
 refine BV Tryz.func50 rfl Tryz.ntmps50 rfl fun a0 sv0=>?_
 have HG:=World.grownBy.refl w none
 replace sv0:Sv 46 [] [(0,.slice ao ds.length cap),(1,.int .i64 joint),(2,.int .i64 addr)] a0:=sv0
 refine AKQ fun K1 k1=>?_
 refine AKP ?_
 refine AR (v:=.bool false) sv0 r6 fun a2 sv2=>?_
 refine AE ?_
 refine k1 _ _ ?_
 refine AKQ fun K3 k3=>?_
 suffices MG4:∀(a':Act) (w':World),Sv 46 [] [(0,.slice ao ds.length cap),(1,.int .i64 joint),(2,.int .i64 addr)] a'→(0≤addr∧addr<17179869184)→(joint=0∨joint=1)→w.grownBy w' none→(RdD w' (.slice ao ds.length cap) ds)→K3 a' w' by
   rcases(show addr<0∨(0≤addr∧17179869184≤addr)∨((0≤addr∧addr<17179869184)∧joint≠0∧joint≠1)∨((0≤addr∧addr<17179869184)∧joint=0)∨((0≤addr∧addr<17179869184)∧joint=1) by omega) with h1|⟨h0,h1⟩|⟨h0,h1,h2⟩|⟨h0,h2⟩|⟨h0,h2⟩
   · refine AKQ fun K5 k5=>?_
     refine AKP ?_
     refine AJ sv2 14 [(8,.int .i64 addr),(9,.bool true),(10,.bool true),(11,undef),(12,undef),(13,.bool true),(14,.bool true),(15,undef),(16,undef),(17,undef),(18,undef),(19,undef),(20,undef),(21,.bool true)]
       ⟨ym r5,Cp r6 (fun _=>BJ (decide_eq_true (by omega))),ym r5,AN r6,AN r6,A1 r7,ym r5,AN r6,AN r6,AN r6,BL ⟨17,rfl,rfl,fun _ _ h=>h⟩ rfl (fun _=>rfl),BL ⟨17,rfl,rfl,fun _ _ h=>h⟩ rfl (fun _=>rfl),AN r6,A1 r7,AKW⟩ fun a6 w6 g6 sv6=>?_
     refine AE ?_
     refine k5 _ _ ?_
     refine Ar sv6 rfl rfl ?_
     refine AKQ fun K7 k7=>?_
     refine AKP ?_
     refine AR (v:=.bool false) sv6 r6 fun a8 sv8=>?_
     refine AE ?_
     refine k7 _ _ ?_
     replace hr:=hr.kn g6
     replace HG:=AA HG g6
     refine AKT ?_
     repeat refine AK ?_
     refine Aw (fn:=Tryz.f50) sv8 (BC (p:=6) Tryz.results50 sv8 rfl rfl) ?_
     exact⟨D0 ((Ob (.inl h1)).symm),HG⟩
   · refine AKQ fun K9 k9=>?_
     refine AKP ?_
     refine AJ sv2 14 [(8,.int .i64 addr),(9,.bool false),(10,.bool false),(11,.int .i64 addr),(12,.bool true),(13,.bool true),(14,.bool true),(15,undef),(16,undef),(17,undef),(18,undef),(19,undef),(20,undef),(21,.bool true)]
       ⟨ym r5,Cp r6 (fun _=>BJ (decide_eq_false (by omega))),ym r5,Ad rq8,Af rq9 (fun _=>Da (decide_eq_true (by omega))),Aa rq9,ym r5,AN r6,AN r6,AN r6,BL ⟨17,rfl,rfl,fun _ _ h=>h⟩ rfl (fun _=>rfl),BL ⟨17,rfl,rfl,fun _ _ h=>h⟩ rfl (fun _=>rfl),AN r6,A1 r7,AKW⟩ fun a10 w10 g10 BF=>?_
     refine AE ?_
     refine k9 _ _ ?_
     refine Ar BF rfl rfl ?_
     refine AKQ fun K11 k11=>?_
     refine AKP ?_
     refine AR (v:=.bool false) BF r6 fun a12 Cq=>?_
     refine AE ?_
     refine k11 _ _ ?_
     replace hr:=hr.kn g10
     replace HG:=AA HG g10
     refine AKT ?_
     repeat refine AK ?_
     refine Aw (fn:=Tryz.f50) Cq (BC (p:=6) Tryz.results50 Cq rfl rfl) ?_
     exact⟨D0 ((Ob (.inr h1)).symm),HG⟩
   · refine AKQ fun K13 k13=>?_
     refine AKP ?_
     refine AJ sv2 14 [(8,.int .i64 addr),(9,.bool false),(10,.bool false),(11,.int .i64 addr),(12,.bool false),(13,.bool false),(14,.bool false),(15,.int .i64 joint),(16,.bool true),(17,.bool true),(18,.int .i64 joint),(19,.bool true),(20,.bool true),(21,.bool true)]
       ⟨ym r5,Cp r6 (fun _=>BJ (decide_eq_false (by omega))),ym r5,Ad rq8,Af rq9 (fun _=>Da (decide_eq_false (by omega))),Aa rq9,ym r5,Ad rq8,Af rq9 (fun _=>Db (by simp;omega)),Ad rq8,Ad rq8,Af rq9 (fun _=>Db (by simp;omega)),EL rfl rfl (gy rfl rfl rfl) (oy rfl rfl) (oy rfl rfl) (fun _=>rfl),Aa rq9,AKW⟩ fun a14 w14 g14 C6=>?_
     refine AE ?_
     refine k13 _ _ ?_
     refine Ar C6 rfl rfl ?_
     refine AKQ fun K15 k15=>?_
     refine AKP ?_
     refine AR (v:=.bool false) C6 r6 fun a16 Cr=>?_
     refine AE ?_
     refine k15 _ _ ?_
     replace hr:=hr.kn g14
     replace HG:=AA HG g14
     refine AKT ?_
     repeat refine AK ?_
     refine Aw (fn:=Tryz.f50) Cr (BC (p:=6) Tryz.results50 Cr rfl rfl) ?_
     exact⟨D0 ((WL h1 h2).symm),HG⟩
   · refine AKQ fun K17 k17=>?_
     refine AKP ?_
     refine AJ sv2 14 [(8,.int .i64 addr),(9,.bool false),(10,.bool false),(11,.int .i64 addr),(12,.bool false),(13,.bool false),(14,.bool false),(15,.int .i64 joint),(16,.bool false),(17,.bool false),(18,undef),(19,undef),(20,.bool false),(21,.bool false)]
       ⟨ym r5,Cp r6 (fun _=>BJ (decide_eq_false (by omega))),ym r5,Ad rq8,Af rq9 (fun _=>Da (decide_eq_false (by omega))),Aa rq9,ym r5,Ad rq8,Af rq9 (fun _=>Db (by simp;omega)),Ad rq8,AN r6,AN r6,EL rfl rfl (gy rfl rfl rfl) (oy rfl rfl) rfl (fun _=>rfl),Aa rq9,AKW⟩ fun a18 w18 g18 CQ=>?_
     refine AE ?_
     refine k17 _ _ ?_
     refine A2 CQ rfl rfl ?_
     refine AKU ?_
     replace hr:=hr.kn g18
     replace HG:=AA HG g18
     have svm:Sv 46 [] [(0,_),(1,_),(2,_)] a18:=⟨CQ.1,CQ.2.1,(AL (AL CQ)).2.1,(AL (AL CQ)).2.2.1,(AL (AL CQ)).2.2.2.1,AKW⟩
     exact MG4 _ _ svm (h0) (.inl h2) HG hr
   · refine AKQ fun K19 k19=>?_
     refine AKP ?_
     refine AJ sv2 14 [(8,.int .i64 addr),(9,.bool false),(10,.bool false),(11,.int .i64 addr),(12,.bool false),(13,.bool false),(14,.bool false),(15,.int .i64 joint),(16,.bool true),(17,.bool true),(18,.int .i64 joint),(19,.bool false),(20,.bool false),(21,.bool false)]
       ⟨ym r5,Cp r6 (fun _=>BJ (decide_eq_false (by omega))),ym r5,Ad rq8,Af rq9 (fun _=>Da (decide_eq_false (by omega))),Aa rq9,ym r5,Ad rq8,Af rq9 (fun _=>Db (by simp;omega)),Ad rq8,Ad rq8,Af rq9 (fun _=>Db (by simp;omega)),EL rfl rfl (gy rfl rfl rfl) (oy rfl rfl) (oy rfl rfl) (fun _=>rfl),Aa rq9,AKW⟩ fun a20 w20 g20 DH=>?_
     refine AE ?_
     refine k19 _ _ ?_
     refine A2 DH rfl rfl ?_
     refine AKU ?_
     replace hr:=hr.kn g20
     replace HG:=AA HG g20
     have svm:Sv 46 [] [(0,_),(1,_),(2,_)] a20:=⟨DH.1,DH.2.1,(AL (AL DH)).2.1,(AL (AL DH)).2.2.1,(AL (AL DH)).2.2.2.1,AKW⟩
     exact MG4 _ _ svm (h0) (.inr h2) HG hr
 clear hr
 clear HG
 intro a4 w4 sv4 h0 h2 HG hr
 refine k3 _ _ ?_
 refine AKQ fun K21 k21=>?_
 refine AKQ fun K22 k22=>?_
 by_cases hbig:16<ds.length
 · refine AKP ?_
   refine AJ sv4 3 [(22,.slice ao ds.length cap),(23,.int .i64 ((ds.length:Nat))),(24,.bool true)]
     ⟨ym r5,Au (Tryz.underlying28) rfl rfl trivial (oy rfl rfl) (fun _=>rfl),Cp r6 (fun _=>Bl (by simp;omega)),AKW⟩ fun a23 w23 g23 Cl=>?_
   refine AE ?_
   refine k22 _ _ ?_
   refine Ar Cl rfl rfl ?_
   refine AKQ fun K24 k24=>?_
   refine AKP ?_
   refine AR (v:=.bool false) Cl r6 fun a25 Bz=>?_
   refine AE ?_
   refine k24 _ _ ?_
   replace hr:=hr.kn g23
   replace HG:=AA HG g23
   refine AKT ?_
   repeat refine AK ?_
   refine Aw (fn:=Tryz.f50) Bz (BC (p:=6) Tryz.results50 Bz rfl rfl) ?_
   exact⟨D0 ((ZO (by omega)).symm),HG⟩
 · refine AKP ?_
   refine AJ sv4 3 [(22,.slice ao ds.length cap),(23,.int .i64 ((ds.length:Nat))),(24,.bool false)]
     ⟨ym r5,Au (Tryz.underlying28) rfl rfl trivial (oy rfl rfl) (fun _=>rfl),Cp r6 (fun _=>Bl (by simp;omega)),AKW⟩ fun a26 w26 g26 Cy=>?_
   refine AE ?_
   refine k22 _ _ ?_
   refine A2 Cy rfl rfl ?_
   refine AKU ?_
   refine k21 _ _ ?_
   refine AKQ fun K27 k27=>?_
   refine AKQ fun K28 k28=>?_
   refine AKP ?_
   refine AJ Cy 3 [(25,.slice ao ds.length cap),(26,.int .i64 ((ds.length:Nat))),(27,.int .i64 0)]
     ⟨ym r5,Au (Tryz.underlying28) rfl rfl trivial (oy rfl rfl) (fun _=>rfl),En (.inl rfl) rfl trivial (fun _=>rfl),AKW⟩ fun a29 w29 g29 CY=>?_
   have KR:=AA g26 g29
   refine AE ?_
   refine k28 _ _ ?_
   refine BI fun Q30 x30 y30 rt30 o30=>?_
   replace hr:=hr.kn KR
   replace HG:=AA HG KR
   refine wp_loop (fun a w'=>∃(i:Nat),(i≤ds.length+1)∧(∀k,k<i→TV (ds.map DD.x) k=true)∧Sv 46 [] [(27,.int .i64 ((i:Int))),(25,.slice ao ds.length cap),(26,.int .i64 ((ds.length:Nat))),(22,.slice ao ds.length cap),(23,.int .i64 ((ds.length:Nat))),(24,.bool false),(0,.slice ao ds.length cap),(1,.int .i64 joint),(2,.int .i64 addr)] a∧w.grownBy w' none∧RdD w' (.slice ao ds.length cap) ds) (fun a _=>(ds.length+1-intOf (a.tmps.getD 27 undef)).toNat) ⟨0,Nat.zero_le _,fun k hk=>by omega,⟨CY.1,CY.2.1,CY.2.2.2.2.1,CY.2.2.1,CY.2.2.2.1,CY.2.2.2.2.2.1,CY.2.2.2.2.2.2.1,CY.2.2.2.2.2.2.2.1,(AL CY).1,(AL CY).2.1,(AL CY).2.2.1,AKW⟩,HG,hr⟩ fun a31 w31 hI31=>?_
   clear hr
   clear HG
   obtain⟨i,hin,hb,Fp,HG,hr⟩:=hI31
   refine AKQ fun K32 k32=>?_
   by_cases hi:i<ds.length
   · have hp:i-1<ds.length:=by omega
     obtain⟨x,hx_x⟩:∃x,ds[i]'hi=x:=⟨_,rfl⟩
     obtain⟨y,hx_y⟩:∃x,ds[(i-1)]'hp=x:=⟨_,rfl⟩
     have hchk:=ADa hi hp hx_x hx_y
     refine AKP ?_
     refine AJ Fp 1 [(28,.bool true)]
       ⟨FG r7 (fun _=>BJ (by simp;omega)),AKW⟩ fun a33 w33 g33 Eu=>?_
     refine AE ?_
     refine k32 _ _ ?_
     refine AKQ fun K34 k34=>?_
     refine Ar Eu rfl rfl ?_
     refine AKU ?_
     refine k34 _ _ ?_
     refine AKQ fun K35 k35=>?_
     refine BI fun Q36 x36 y36 rt36 o36=>?_
     refine AKQ fun K37 k37=>?_
     refine AKP ?_
     refine AJ Eu 1 [(29,.int .i64 ((i:Int)))]
       ⟨ym r5,AKW⟩ fun a38 w38 g38 N6=>?_
     have OA:=AA g33 g38
     refine AR (v:=.int .i64 ((i:Int))) N6 r6 fun a39 LP=>?_
     refine AE ?_
     refine k37 _ _ ?_
     refine AKQ fun K40 k40=>?_
     replace hr:=hr.kn OA
     replace HG:=AA HG OA
     rcases(show i=0∨(0<i∧E6 y.x x.x=true)∨(0<i∧E6 y.x x.x=false) by
        rcases Nat.eq_zero_or_pos i with h|h<;>cases h3:E6 y.x x.x<;>simp[h]) with hz|⟨hz,hc⟩|⟨hz,hc⟩
     · have hok:(decide (i=0)||E6 y.x x.x)=true:=by simp[hz]
       refine DU LP [(30,.int .i64 ((i:Int))),(31,.bool false),(32,.bool false),(33,undef),(34,undef),(35,undef),(36,undef),(37,undef),(38,undef),(39,undef),(40,undef),(41,undef),(42,undef),(43,undef),(44,.bool false)]
        ⟨ym r5,Cp r6 (fun _=>Bl (by simp;omega)),ym r5,AN r6,AN r6,AN r6,AN r6,AN r6,AN r6,AN r6,AN r6,AN r6,AN r6,AN r6,A1 r7,AKW⟩ fun a41 w41 g41 Qb=>?_
       refine k40 _ _ ?_
       refine A2 Qb rfl rfl ?_
       refine AKU ?_
       refine y36 _ _ ?_
       refine k35 _ _ ?_
       refine AKP ?_
       refine AJ Qb 1 [(45,.int .i64 (((i+1:Nat):Int)))]
        ⟨Cp r6 (fun _=>DL (by rw[Bc (by omega) (by omega)];omega)),AKW⟩ fun a42 w42 g42 Gp=>?_
       have OB:=AA g41 g42
       refine AJ (Gp.dl [27]) 1 [(27,.int .i64 (((i+1:Nat):Int)))]
        ⟨ym r5,AKW⟩ fun a43 w43 g43 Hn=>?_
       have AIk:=AA OB g43
       refine AE ?_
       replace hr:=hr.kn AIk
       replace HG:=AA HG AIk
       exact⟨⟨i+1,by omega,fun k hk=>if e:k=i then (by rw[e,hchk];exact hok) else hb k (by omega),⟨Hn.1,Hn.2.1,Hn.2.2.1,(AL (AL Hn)).2.2.2.2.2.2.1,(AL (AL Hn)).2.2.2.2.2.2.2.1,(AL (AL (AL Hn))).1,(AL (AL (AL Hn))).2.1,(AL (AL (AL Hn))).2.2.1,(AL (AL (AL Hn))).2.2.2.1,(AL (AL (AL Hn))).2.2.2.2.1,(AL (AL (AL Hn))).2.2.2.2.2.1,AKW⟩,HG,hr⟩,by rw[show _=_ from Hn.2.2.1,show _=_ from Fp.2.2.1];simp[intOf];omega⟩
     · have hok:(decide (i=0)||E6 y.x x.x)=true:=by simp[hz,hc]
       refine DU LP [(30,.int .i64 ((i:Int))),(31,.bool true),(32,.bool true),(33,.slice ao ds.length cap),(34,.int .i64 ((i:Int))),(35,.int .i64 (((i-1:Nat):Int))),(36,pk ((bO ao)) (oO ao+(i-1)*32)),(37,.slice ((some ⟨(bO ao),oO ao+(i-1)*32,none⟩)) 32 32),(38,.slice ao ds.length cap),(39,.int .i64 ((i:Int))),(40,pk ((bO ao)) (oO ao+i*32)),(41,.slice ((some ⟨(bO ao),oO ao+i*32,none⟩)) 32 32),(42,.int .i64 ((Gn y.x x.x))),(43,.bool false),(44,.bool false)]
        ⟨ym r5,Cp r6 (fun _=>Bl (by simp;omega)),ym r5,Ad rq8,Ad rq8,Af rq9 (fun _=>Ix (by rw[Bc (by omega) (by omega)];omega)),Dj rfl rfl (gy rfl rfl rfl) (oy rfl rfl) (oy rfl rfl) (fun w=>CU Tryz.underlying28 (by kernel_rfl) (hr.1) (by omega) (rfl) w) (fun _=>rfl),Gl (l:=none) (u:=none) rfl rfl (gy rfl rfl rfl) (oy rfl rfl) trivial trivial (KP ((bO ao)) (oO ao+(i-1)*32)) (fun _=>rfl),Ad rq8,Ad rq8,Dj rfl rfl (gy rfl rfl rfl) (oy rfl rfl) (oy rfl rfl) (fun w=>CU Tryz.underlying28 (by kernel_rfl) (hr.1) (by omega) (rfl) w) (fun _=>rfl),Gl (l:=none) (u:=none) rfl rfl (gy rfl rfl rfl) (oy rfl rfl) trivial trivial (KP ((bO ao)) (oO ao+i*32)) (fun _=>rfl),B8 [.slice ((some ⟨(bO ao),oO ao+(i-1)*32,none⟩)) 32 32,.slice ((some ⟨(bO ao),oO ao+i*32,none⟩)) 32 32] Tryz.func94 (by kernel_rfl) r7 ⟨(oy rfl rfl),(oy rfl rfl),AKW⟩ (A7 fun W g=>Jd y.h x.h (by have:=Cb (hr.kn g).1 DV hp (by decide);rw[hx_y] at this;exact this) (by have:=Cb (hr.kn g).1 DV hi (by decide);rw[hx_x] at this;exact this)),Af rq9 (fun _=>Da (by rw[LC,hc];rfl)),Aa rq9,AKW⟩ fun a44 w44 g44 N8=>?_
       refine k40 _ _ ?_
       refine A2 N8 rfl rfl ?_
       refine AKU ?_
       refine y36 _ _ ?_
       refine k35 _ _ ?_
       refine AKP ?_
       refine AJ N8 1 [(45,.int .i64 (((i+1:Nat):Int)))]
        ⟨Cp r6 (fun _=>DL (by rw[Bc (by omega) (by omega)];omega)),AKW⟩ fun a45 w45 g45 E8=>?_
       have PU:=AA g44 g45
       refine AJ (E8.dl [27]) 1 [(27,.int .i64 (((i+1:Nat):Int)))]
        ⟨ym r5,AKW⟩ fun a46 w46 g46 I0=>?_
       have AIl:=AA PU g46
       refine AE ?_
       replace hr:=hr.kn AIl
       replace HG:=AA HG AIl
       exact⟨⟨i+1,by omega,fun k hk=>if e:k=i then (by rw[e,hchk];exact hok) else hb k (by omega),⟨I0.1,I0.2.1,I0.2.2.1,(AL (AL I0)).2.2.2.2.2.2.1,(AL (AL I0)).2.2.2.2.2.2.2.1,(AL (AL (AL I0))).1,(AL (AL (AL I0))).2.1,(AL (AL (AL I0))).2.2.1,(AL (AL (AL I0))).2.2.2.1,(AL (AL (AL I0))).2.2.2.2.1,(AL (AL (AL I0))).2.2.2.2.2.1,AKW⟩,HG,hr⟩,by rw[show _=_ from I0.2.2.1,show _=_ from Fp.2.2.1];simp[intOf];omega⟩
     · refine DU LP [(30,.int .i64 ((i:Int))),(31,.bool true),(32,.bool true),(33,.slice ao ds.length cap),(34,.int .i64 ((i:Int))),(35,.int .i64 (((i-1:Nat):Int))),(36,pk ((bO ao)) (oO ao+(i-1)*32)),(37,.slice ((some ⟨(bO ao),oO ao+(i-1)*32,none⟩)) 32 32),(38,.slice ao ds.length cap),(39,.int .i64 ((i:Int))),(40,pk ((bO ao)) (oO ao+i*32)),(41,.slice ((some ⟨(bO ao),oO ao+i*32,none⟩)) 32 32),(42,.int .i64 ((Gn y.x x.x))),(43,.bool true),(44,.bool true)]
        ⟨ym r5,Cp r6 (fun _=>Bl (by simp;omega)),ym r5,Ad rq8,Ad rq8,Af rq9 (fun _=>Ix (by rw[Bc (by omega) (by omega)];omega)),Dj rfl rfl (gy rfl rfl rfl) (oy rfl rfl) (oy rfl rfl) (fun w=>CU Tryz.underlying28 (by kernel_rfl) (hr.1) (by omega) (rfl) w) (fun _=>rfl),Gl (l:=none) (u:=none) rfl rfl (gy rfl rfl rfl) (oy rfl rfl) trivial trivial (KP ((bO ao)) (oO ao+(i-1)*32)) (fun _=>rfl),Ad rq8,Ad rq8,Dj rfl rfl (gy rfl rfl rfl) (oy rfl rfl) (oy rfl rfl) (fun w=>CU Tryz.underlying28 (by kernel_rfl) (hr.1) (by omega) (rfl) w) (fun _=>rfl),Gl (l:=none) (u:=none) rfl rfl (gy rfl rfl rfl) (oy rfl rfl) trivial trivial (KP ((bO ao)) (oO ao+i*32)) (fun _=>rfl),B8 [.slice ((some ⟨(bO ao),oO ao+(i-1)*32,none⟩)) 32 32,.slice ((some ⟨(bO ao),oO ao+i*32,none⟩)) 32 32] Tryz.func94 (by kernel_rfl) r7 ⟨(oy rfl rfl),(oy rfl rfl),AKW⟩ (A7 fun W g=>Jd y.h x.h (by have:=Cb (hr.kn g).1 DV hp (by decide);rw[hx_y] at this;exact this) (by have:=Cb (hr.kn g).1 DV hi (by decide);rw[hx_x] at this;exact this)),Af rq9 (fun _=>Da (by rw[LC,hc];rfl)),Aa rq9,AKW⟩ fun a47 w47 g47 NH=>?_
       refine k40 _ _ ?_
       refine Ar NH rfl rfl ?_
       refine AKQ fun K48 k48=>?_
       refine AKP ?_
       refine AR (v:=.bool false) NH r6 fun a49 LQ=>?_
       refine AE ?_
       refine k48 _ _ ?_
       replace HG:=AA HG g47
       refine AKT ?_
       repeat refine AK ?_
       refine rt36 _ _ ?_
       repeat refine AK ?_
       refine rt30 _ _ ?_
       repeat refine AK ?_
       refine Aw (fn:=Tryz.f50) LQ (BC (p:=6) Tryz.results50 LQ rfl rfl) ?_
       exact⟨D0 ((ZP (ADZ (i:=i) (by rw[hmap];exact hi) (by rw[hchk];simp[hc,Nat.ne_of_gt hz]))).symm),HG⟩
   · refine AKP ?_
     refine AJ Fp 1 [(28,.bool false)]
       ⟨FG r7 (fun _=>BJ (by simp;omega)),AKW⟩ fun a50 w50 g50 NI=>?_
     refine AE ?_
     refine k32 _ _ ?_
     refine AKQ fun K51 k51=>?_
     refine A2 NI rfl rfl ?_
     refine wp_exit ?_
     repeat refine CT ?_
     refine x30 _ _ ?_
     refine k27 _ _ ?_
     refine AKQ fun K52 k52=>?_
     refine AKP ?_
     refine AR (v:=.bool true) NI r6 fun a53 N9=>?_
     refine AE ?_
     refine k52 _ _ ?_
     replace HG:=AA HG g50
     refine AKT ?_
     repeat refine AK ?_
     refine Aw (fn:=Tryz.f50) N9 (BC (p:=6) Tryz.results50 N9 rfl rfl) ?_
     exact⟨D0 ((ZQ h0 h2 (by omega) (AAc fun k hk=>hb k (by omega))).symm),HG⟩
theorem ADb (ds:List DD) (ao:Option Addr) (cap:Nat) (w:World) (hr:RdD w (.slice ao ds.length cap) ds) :
   Calls Tryz.prog 88 #[.slice ao ds.length cap] w fun e w'=>e=.returned (.bool (YJ (ds.map DD.x)))∧w.grownBy w' none:=by
 have hmap:(ds.map DD.x).length=ds.length:=List.length_map _
 have hlen:=hr.len
 refine BV Tryz.func88 rfl Tryz.ntmps88 rfl fun a0 sv0=>?_
 have HG:=World.grownBy.refl w none
 replace sv0:Sv 21 [] [(0,.slice ao ds.length cap)] a0:=sv0
 refine AKQ fun K1 k1=>?_
 refine AKP ?_
 refine AR (v:=.bool false) sv0 r6 fun a2 sv2=>?_
 refine AE ?_
 refine k1 _ _ ?_
 refine AKQ fun K3 k3=>?_
 refine AKQ fun K4 k4=>?_
 refine AKP ?_
 refine AR (v:=.int .i64 1) sv2 r6 fun a5 sv5=>?_
 refine AE ?_
 refine k4 _ _ ?_
 refine BI fun Q6 x6 y6 rt6 o6=>?_
 refine wp_loop (fun a w'=>∃(i:Nat),(i≤ds.length+1)∧(0<i)∧(∀k,k<i→TV (ds.map DD.x) k=true)∧Sv 21 [] [(3,.int .i64 ((i:Int))),(0,.slice ao ds.length cap)] a∧w.grownBy w' none∧RdD w' (.slice ao ds.length cap) ds) (fun a _=>(ds.length+1-intOf (a.tmps.getD 3 undef)).toNat) ⟨1,by omega,by omega,fun k hk=>AHd (by omega),⟨sv5.1,sv5.2.1,sv5.2.2.1,sv5.2.2.2.2.1,AKW⟩,HG,hr⟩ fun a7 w7 hI7=>?_
 clear hr
 clear HG
 obtain⟨i,hin,hi1,hb,sv7,HG,hr⟩:=hI7
 refine AKQ fun K8 k8=>?_
 refine AKQ fun K9 k9=>?_
 by_cases hi:i<ds.length
 · have hp:i-1<ds.length:=by omega
   obtain⟨x,hx_x⟩:∃x,ds[i]'hi=x:=⟨_,rfl⟩
   obtain⟨y,hx_y⟩:∃x,ds[(i-1)]'hp=x:=⟨_,rfl⟩
   have hchk:=ADa hi hp hx_x hx_y
   refine AKP ?_
   refine AJ sv7 4 [(4,.int .i64 ((i:Int))),(5,.slice ao ds.length cap),(6,.int .i64 ((ds.length:Nat))),(7,.bool true)]
     ⟨ym r5,ym r5,Au (Tryz.underlying28) rfl rfl trivial (oy rfl rfl) (fun _=>rfl),FG r7 (fun _=>BJ (by simp;omega)),AKW⟩ fun a10 w10 g10 BF=>?_
   refine AE ?_
   refine k9 _ _ ?_
   refine Ar BF rfl rfl ?_
   refine AKU ?_
   refine k8 _ _ ?_
   refine AKQ fun K11 k11=>?_
   refine BI fun Q12 x12 y12 rt12 o12=>?_
   refine AKQ fun K13 k13=>?_
   replace hr:=hr.kn g10
   replace HG:=AA HG g10
   cases hc:E6 y.x x.x
   · refine DU BF [(10,.slice ao ds.length cap),(11,.int .i64 ((i:Int))),(12,.int .i64 (((i-1:Nat):Int))),(13,pk ((bO ao)) (oO ao+(i-1)*32)),(14,AQ y.x),(15,.slice ao ds.length cap),(16,.int .i64 ((i:Int))),(17,pk ((bO ao)) (oO ao+i*32)),(18,AQ x.x),(19,.bool false),(20,.bool true)]
      ⟨ym r5,ym r5,Cp r6 (fun _=>Ix (by rw[Bc (by omega) (by omega)];omega)),BH rq8 (fun w=>CU Tryz.underlying28 (by kernel_rfl) (hr.1) (by omega) (rfl) w),Bg r6 (fun _ g=>AY (Bb y.x y.h.1) (by have:=Cb (hr.kn g).1 DV hp (by decide);rw[hx_y] at this;exact this)),ym r5,ym r5,BH rq8 (fun w=>CU Tryz.underlying28 (by kernel_rfl) (hr.1) (by omega) (rfl) w),Bg r6 (fun _ g=>AY (Bb x.x x.h.1) (by have:=Cb (hr.kn g).1 DV hi (by decide);rw[hx_x] at this;exact this)),Al [AQ y.x,AQ x.x] Tryz.func86 (by kernel_rfl) rq4 ⟨(oy rfl rfl),(oy rfl rfl),AKW⟩ (A7 fun W g=>Jf hc y.h x.h W),C3 r6 (fun _=>Bi),AKW⟩ fun a14 w14 g14 C6=>?_
     refine k13 _ _ ?_
     refine Ar C6 rfl rfl ?_
     refine AKQ fun K15 k15=>?_
     refine AKP ?_
     refine AR (v:=.bool false) C6 r6 fun a16 Cr=>?_
     refine AE ?_
     refine k15 _ _ ?_
     replace hr:=hr.kn g14
     replace HG:=AA HG g14
     refine AKT ?_
     repeat refine AK ?_
     refine rt12 _ _ ?_
     repeat refine AK ?_
     refine rt6 _ _ ?_
     repeat refine AK ?_
     refine Aw (fn:=Tryz.f88) Cr (BC (p:=2) Tryz.results88 Cr rfl rfl) ?_
     exact⟨D0 ((ADZ (i:=i) (by rw[hmap];exact hi) (by rw[hchk];simp[hc,Nat.ne_of_gt hi1])).symm),HG⟩
   · have hok:(decide (i=0)||E6 y.x x.x)=true:=by simp[hc]
     refine DU BF [(10,.slice ao ds.length cap),(11,.int .i64 ((i:Int))),(12,.int .i64 (((i-1:Nat):Int))),(13,pk ((bO ao)) (oO ao+(i-1)*32)),(14,AQ y.x),(15,.slice ao ds.length cap),(16,.int .i64 ((i:Int))),(17,pk ((bO ao)) (oO ao+i*32)),(18,AQ x.x),(19,.bool true),(20,.bool false)]
      ⟨ym r5,ym r5,Cp r6 (fun _=>Ix (by rw[Bc (by omega) (by omega)];omega)),BH rq8 (fun w=>CU Tryz.underlying28 (by kernel_rfl) (hr.1) (by omega) (rfl) w),Bg r6 (fun _ g=>AY (Bb y.x y.h.1) (by have:=Cb (hr.kn g).1 DV hp (by decide);rw[hx_y] at this;exact this)),ym r5,ym r5,BH rq8 (fun w=>CU Tryz.underlying28 (by kernel_rfl) (hr.1) (by omega) (rfl) w),Bg r6 (fun _ g=>AY (Bb x.x x.h.1) (by have:=Cb (hr.kn g).1 DV hi (by decide);rw[hx_x] at this;exact this)),Al [AQ y.x,AQ x.x] Tryz.func86 (by kernel_rfl) rq4 ⟨(oy rfl rfl),(oy rfl rfl),AKW⟩ (A7 fun W g=>Jf hc y.h x.h W),C3 r6 (fun _=>Bi),AKW⟩ fun a17 w17 g17 De=>?_
     refine k13 _ _ ?_
     refine A2 De rfl rfl ?_
     refine AKU ?_
     refine y12 _ _ ?_
     refine k11 _ _ ?_
     refine AKP ?_
     refine AJ De 2 [(8,.int .i64 ((i:Int))),(9,.int .i64 (((i+1:Nat):Int)))]
      ⟨ym r5,Cp r6 (fun _=>DL (by rw[Bc (by omega) (by omega)];omega)),AKW⟩ fun a18 w18 g18 CQ=>?_
     have Yy:=AA g17 g18
     refine AR (v:=.int .i64 (((i+1:Nat):Int))) CQ r6 fun a19 Cs=>?_
     refine AE ?_
     replace hr:=hr.kn Yy
     replace HG:=AA HG Yy
     exact⟨⟨i+1,by omega,by omega,fun k hk=>if e:k=i then (by rw[e,hchk];exact hok) else hb k (by omega),⟨Cs.1,Cs.2.1,Cs.2.2.1,(AL (AL Cs)).2.2.2.2.1,AKW⟩,HG,hr⟩,by rw[show _=_ from Cs.2.2.1,show _=_ from sv7.2.2.1];simp[intOf];omega⟩
 · refine AKP ?_
   refine AJ sv7 4 [(4,.int .i64 ((i:Int))),(5,.slice ao ds.length cap),(6,.int .i64 ((ds.length:Nat))),(7,.bool false)]
     ⟨ym r5,ym r5,Au (Tryz.underlying28) rfl rfl trivial (oy rfl rfl) (fun _=>rfl),FG r7 (fun _=>BJ (by simp;omega)),AKW⟩ fun a20 w20 g20 DH=>?_
   refine AE ?_
   refine k9 _ _ ?_
   refine A2 DH rfl rfl ?_
   refine wp_exit ?_
   repeat refine CT ?_
   refine x6 _ _ ?_
   refine k3 _ _ ?_
   refine AKQ fun K21 k21=>?_
   refine AKP ?_
   refine AR (v:=.bool true) DH r6 fun a22 Bu=>?_
   refine AE ?_
   refine k21 _ _ ?_
   replace HG:=AA HG g20
   refine AKT ?_
   repeat refine AK ?_
   refine Aw (fn:=Tryz.f88) Bu (BC (p:=2) Tryz.results88 Bu rfl rfl) ?_
   exact⟨D0 ((AAc fun k hk=>hb k (by omega)).symm),HG⟩
theorem AAd {w:World} {ds:List DD} {ao:Option Addr} {cap:Nat} {b:Bool} (hr:RdD w (.slice ao ds.length cap) ds) (hb:YJ (ds.map DD.x)=b):Calls Tryz.prog 88 #[.slice ao ds.length cap] w fun e w'=>e=.returned (.bool b)∧w.grownBy w' none:=hb▸ADb ds ao cap w hr
theorem ZS (ds:List DD) (ao:Option Addr) (cap:Nat) (joint addr:Int) (w:World) (hr:RdD w (.slice ao ds.length cap) ds) :
   Calls Tryz.prog 41 #[.slice ao ds.length cap,.int .i64 joint,.int .i64 addr] w fun e w'=>e=.returned (.bool (hd (ds.map DD.x) joint addr))∧w.grownBy w' none:=by
 have hmap:(ds.map DD.x).length=ds.length:=List.length_map _
 refine BV Tryz.func41 rfl Tryz.ntmps41 rfl fun a0 sv0=>?_
 have HG:=World.grownBy.refl w none
 replace sv0:Sv 30 [] [(0,.slice ao ds.length cap),(1,.int .i64 joint),(2,.int .i64 addr)] a0:=sv0
 refine AKQ fun K1 k1=>?_
 refine AKP ?_
 refine AR (v:=.bool false) sv0 r6 fun a2 sv2=>?_
 refine AE ?_
 refine k1 _ _ ?_
 refine AKQ fun K3 k3=>?_
 rcases(show addr<0∨(0≤addr∧17179869184≤addr)∨((0≤addr∧addr<17179869184)∧joint≠0∧joint≠1)∨((0≤addr∧addr<17179869184)∧joint=0∧16<ds.length)∨((0≤addr∧addr<17179869184)∧joint=1∧16<ds.length)∨((0≤addr∧addr<17179869184)∧joint=0∧ds.length≤16∧YJ (ds.map DD.x)=false)∨((0≤addr∧addr<17179869184)∧joint=1∧ds.length≤16∧YJ (ds.map DD.x)=false)∨((0≤addr∧addr<17179869184)∧joint=0∧ds.length≤16∧YJ (ds.map DD.x)=true)∨((0≤addr∧addr<17179869184)∧joint=1∧ds.length≤16∧YJ (ds.map DD.x)=true) by cases YJ (ds.map DD.x)<;>simp<;>omega) with h1|⟨h0,h1⟩|⟨h0,h1,h2⟩|⟨h0,h2,h3⟩|⟨h0,h2,h3⟩|⟨h0,h2,h3,hc⟩|⟨h0,h2,h3,hc⟩|⟨h0,h2,h3,hc⟩|⟨h0,h2,h3,hc⟩
 · refine AKP ?_
   refine AJ sv2 23 [(7,.int .i64 addr),(8,.bool false),(9,.bool false),(10,undef),(11,undef),(12,.bool false),(13,.bool false),(14,undef),(15,undef),(16,undef),(17,undef),(18,undef),(19,undef),(20,.bool false),(21,.bool false),(22,undef),(23,undef),(24,undef),(25,.bool false),(26,.bool false),(27,undef),(28,undef),(29,.bool false)]
    ⟨ym r5,Cp r6 (fun _=>Da (decide_eq_false (by omega))),ym r5,AN r6,AN r6,A1 r7,ym r5,AN r6,AN r6,AN r6,BL ⟨16,rfl,rfl,fun _ _ h=>h⟩ rfl (fun _=>rfl),BL ⟨16,rfl,rfl,fun _ _ h=>h⟩ rfl (fun _=>rfl),AN r6,A1 r7,ym r5,AN r6,AN r6,AN r6,A1 r7,ym r5,AN r6,AN r6,A1 r7,AKW⟩ fun a4 w4 g4 sv4=>?_
   refine AR (v:=.bool false) sv4 r6 fun a5 sv5=>?_
   have sv6:Sv _ _ [_] _:=sv5.dl [7,8,9,10,11,12,13,14,15,16,17,18,19,20,21,22,23,24,25,26,27,28,29,0,1,2]
   refine AE ?_
   refine k3 _ _ ?_
   replace hr:=hr.kn g4
   replace HG:=AA HG g4
   refine AKT ?_
   repeat refine AK ?_
   refine Aw (fn:=Tryz.f41) sv6 (BC (p:=6) Tryz.results41 sv6 rfl rfl) ?_
   exact⟨D0 ((Ob (.inl h1)).symm),HG⟩
 · refine AKP ?_
   refine AJ sv2 23 [(7,.int .i64 addr),(8,.bool true),(9,.bool true),(10,.int .i64 addr),(11,.bool false),(12,.bool false),(13,.bool false),(14,undef),(15,undef),(16,undef),(17,undef),(18,undef),(19,undef),(20,.bool false),(21,.bool false),(22,undef),(23,undef),(24,undef),(25,.bool false),(26,.bool false),(27,undef),(28,undef),(29,.bool false)]
    ⟨ym r5,Cp r6 (fun _=>Da (decide_eq_true (by omega))),ym r5,Ad rq8,Af rq9 (fun _=>BJ (decide_eq_false (by omega))),Aa rq9,ym r5,AN r6,AN r6,AN r6,BL ⟨16,rfl,rfl,fun _ _ h=>h⟩ rfl (fun _=>rfl),BL ⟨16,rfl,rfl,fun _ _ h=>h⟩ rfl (fun _=>rfl),AN r6,A1 r7,ym r5,AN r6,AN r6,AN r6,A1 r7,ym r5,AN r6,AN r6,A1 r7,AKW⟩ fun a7 w7 g7 sv7=>?_
   refine AR (v:=.bool false) sv7 r6 fun a8 sv8=>?_
   have sv9:Sv _ _ [_] _:=sv8.dl [7,8,9,10,11,12,13,14,15,16,17,18,19,20,21,22,23,24,25,26,27,28,29,0,1,2]
   refine AE ?_
   refine k3 _ _ ?_
   replace hr:=hr.kn g7
   replace HG:=AA HG g7
   refine AKT ?_
   repeat refine AK ?_
   refine Aw (fn:=Tryz.f41) sv9 (BC (p:=6) Tryz.results41 sv9 rfl rfl) ?_
   exact⟨D0 ((Ob (.inr h1)).symm),HG⟩
 · refine AKP ?_
   refine AJ sv2 23 [(7,.int .i64 addr),(8,.bool true),(9,.bool true),(10,.int .i64 addr),(11,.bool true),(12,.bool true),(13,.bool true),(14,.int .i64 joint),(15,.bool false),(16,.bool false),(17,.int .i64 joint),(18,.bool false),(19,.bool false),(20,.bool false),(21,.bool false),(22,undef),(23,undef),(24,undef),(25,.bool false),(26,.bool false),(27,undef),(28,undef),(29,.bool false)]
    ⟨ym r5,Cp r6 (fun _=>Da (decide_eq_true (by omega))),ym r5,Ad rq8,Af rq9 (fun _=>BJ (decide_eq_true (by omega))),Aa rq9,ym r5,Ad rq8,Af rq9 (fun _=>BU (by simp;omega)),Ad rq8,Ad rq8,Af rq9 (fun _=>BU (by simp;omega)),EL rfl rfl (gy rfl rfl rfl) (oy rfl rfl) (oy rfl rfl) (fun _=>rfl),Aa rq9,ym r5,AN r6,AN r6,AN r6,A1 r7,ym r5,AN r6,AN r6,A1 r7,AKW⟩ fun a10 w10 g10 BF=>?_
   refine AR (v:=.bool false) BF r6 fun a11 Bv=>?_
   have Cq:Sv _ _ [_] _:=Bv.dl [7,8,9,10,11,12,13,14,15,16,17,18,19,20,21,22,23,24,25,26,27,28,29,0,1,2]
   refine AE ?_
   refine k3 _ _ ?_
   replace hr:=hr.kn g10
   replace HG:=AA HG g10
   refine AKT ?_
   repeat refine AK ?_
   refine Aw (fn:=Tryz.f41) Cq (BC (p:=6) Tryz.results41 Cq rfl rfl) ?_
   exact⟨D0 ((WL h1 h2).symm),HG⟩
 · refine AKP ?_
   refine AJ sv2 23 [(7,.int .i64 addr),(8,.bool true),(9,.bool true),(10,.int .i64 addr),(11,.bool true),(12,.bool true),(13,.bool true),(14,.int .i64 joint),(15,.bool true),(16,.bool true),(17,undef),(18,undef),(19,.bool true),(20,.bool true),(21,.bool true),(22,.slice ao ds.length cap),(23,.int .i64 ((ds.length:Nat))),(24,.bool false),(25,.bool false),(26,.bool false),(27,undef),(28,undef),(29,.bool false)]
    ⟨ym r5,Cp r6 (fun _=>Da (decide_eq_true (by omega))),ym r5,Ad rq8,Af rq9 (fun _=>BJ (decide_eq_true (by omega))),Aa rq9,ym r5,Ad rq8,Af rq9 (fun _=>BU (by simp;omega)),Ad rq8,AN r6,AN r6,EL rfl rfl (gy rfl rfl rfl) (oy rfl rfl) rfl (fun _=>rfl),Aa rq9,ym r5,Ad rq8,Au (Tryz.underlying28) rfl rfl (gy rfl rfl rfl) (oy rfl rfl) (fun _=>rfl),Af rq9 (fun _=>Jb (by simp;omega)),Aa rq9,ym r5,AN r6,AN r6,A1 r7,AKW⟩ fun a13 w13 g13 Cg=>?_
   refine AR (v:=.bool false) Cg r6 fun a14 C6=>?_
   have EE:Sv _ _ [_] _:=C6.dl [7,8,9,10,11,12,13,14,15,16,17,18,19,20,21,22,23,24,25,26,27,28,29,0,1,2]
   refine AE ?_
   refine k3 _ _ ?_
   replace hr:=hr.kn g13
   replace HG:=AA HG g13
   refine AKT ?_
   repeat refine AK ?_
   refine Aw (fn:=Tryz.f41) EE (BC (p:=6) Tryz.results41 EE rfl rfl) ?_
   exact⟨D0 ((ZO (by omega)).symm),HG⟩
 · refine AKP ?_
   refine AJ sv2 23 [(7,.int .i64 addr),(8,.bool true),(9,.bool true),(10,.int .i64 addr),(11,.bool true),(12,.bool true),(13,.bool true),(14,.int .i64 joint),(15,.bool false),(16,.bool false),(17,.int .i64 joint),(18,.bool true),(19,.bool true),(20,.bool true),(21,.bool true),(22,.slice ao ds.length cap),(23,.int .i64 ((ds.length:Nat))),(24,.bool false),(25,.bool false),(26,.bool false),(27,undef),(28,undef),(29,.bool false)]
    ⟨ym r5,Cp r6 (fun _=>Da (decide_eq_true (by omega))),ym r5,Ad rq8,Af rq9 (fun _=>BJ (decide_eq_true (by omega))),Aa rq9,ym r5,Ad rq8,Af rq9 (fun _=>BU (by simp;omega)),Ad rq8,Ad rq8,Af rq9 (fun _=>BU (by simp;omega)),EL rfl rfl (gy rfl rfl rfl) (oy rfl rfl) (oy rfl rfl) (fun _=>rfl),Aa rq9,ym r5,Ad rq8,Au (Tryz.underlying28) rfl rfl (gy rfl rfl rfl) (oy rfl rfl) (fun _=>rfl),Af rq9 (fun _=>Jb (by simp;omega)),Aa rq9,ym r5,AN r6,AN r6,A1 r7,AKW⟩ fun a16 w16 g16 Cr=>?_
   refine AR (v:=.bool false) Cr r6 fun a17 De=>?_
   have CQ:Sv _ _ [_] _:=De.dl [7,8,9,10,11,12,13,14,15,16,17,18,19,20,21,22,23,24,25,26,27,28,29,0,1,2]
   refine AE ?_
   refine k3 _ _ ?_
   replace hr:=hr.kn g16
   replace HG:=AA HG g16
   refine AKT ?_
   repeat refine AK ?_
   refine Aw (fn:=Tryz.f41) CQ (BC (p:=6) Tryz.results41 CQ rfl rfl) ?_
   exact⟨D0 ((ZO (by omega)).symm),HG⟩
 · refine AKP ?_
   refine AJ sv2 23 [(7,.int .i64 addr),(8,.bool true),(9,.bool true),(10,.int .i64 addr),(11,.bool true),(12,.bool true),(13,.bool true),(14,.int .i64 joint),(15,.bool true),(16,.bool true),(17,undef),(18,undef),(19,.bool true),(20,.bool true),(21,.bool true),(22,.slice ao ds.length cap),(23,.int .i64 ((ds.length:Nat))),(24,.bool true),(25,.bool true),(26,.bool true),(27,.slice ao ds.length cap),(28,.bool false),(29,.bool false)]
    ⟨ym r5,Cp r6 (fun _=>Da (decide_eq_true (by omega))),ym r5,Ad rq8,Af rq9 (fun _=>BJ (decide_eq_true (by omega))),Aa rq9,ym r5,Ad rq8,Af rq9 (fun _=>BU (by simp;omega)),Ad rq8,AN r6,AN r6,EL rfl rfl (gy rfl rfl rfl) (oy rfl rfl) rfl (fun _=>rfl),Aa rq9,ym r5,Ad rq8,Au (Tryz.underlying28) rfl rfl (gy rfl rfl rfl) (oy rfl rfl) (fun _=>rfl),Af rq9 (fun _=>Jb (by simp;omega)),Aa rq9,ym r5,Ad rq8,B8 [.slice ao ds.length cap] Tryz.func88 (by kernel_rfl) r7 ⟨(oy rfl rfl),AKW⟩ (A7 fun W g=>AAd (hr.kn g) hc),Aa rq9,AKW⟩ fun a19 w19 g19 Cs=>?_
   refine AR (v:=.bool false) Cs r6 fun a20 DH=>?_
   have CK:Sv _ _ [_] _:=DH.dl [7,8,9,10,11,12,13,14,15,16,17,18,19,20,21,22,23,24,25,26,27,28,29,0,1,2]
   refine AE ?_
   refine k3 _ _ ?_
   replace hr:=hr.kn g19
   replace HG:=AA HG g19
   refine AKT ?_
   repeat refine AK ?_
   refine Aw (fn:=Tryz.f41) CK (BC (p:=6) Tryz.results41 CK rfl rfl) ?_
   exact⟨D0 ((ZP hc).symm),HG⟩
 · refine AKP ?_
   refine AJ sv2 23 [(7,.int .i64 addr),(8,.bool true),(9,.bool true),(10,.int .i64 addr),(11,.bool true),(12,.bool true),(13,.bool true),(14,.int .i64 joint),(15,.bool false),(16,.bool false),(17,.int .i64 joint),(18,.bool true),(19,.bool true),(20,.bool true),(21,.bool true),(22,.slice ao ds.length cap),(23,.int .i64 ((ds.length:Nat))),(24,.bool true),(25,.bool true),(26,.bool true),(27,.slice ao ds.length cap),(28,.bool false),(29,.bool false)]
    ⟨ym r5,Cp r6 (fun _=>Da (decide_eq_true (by omega))),ym r5,Ad rq8,Af rq9 (fun _=>BJ (decide_eq_true (by omega))),Aa rq9,ym r5,Ad rq8,Af rq9 (fun _=>BU (by simp;omega)),Ad rq8,Ad rq8,Af rq9 (fun _=>BU (by simp;omega)),EL rfl rfl (gy rfl rfl rfl) (oy rfl rfl) (oy rfl rfl) (fun _=>rfl),Aa rq9,ym r5,Ad rq8,Au (Tryz.underlying28) rfl rfl (gy rfl rfl rfl) (oy rfl rfl) (fun _=>rfl),Af rq9 (fun _=>Jb (by simp;omega)),Aa rq9,ym r5,Ad rq8,B8 [.slice ao ds.length cap] Tryz.func88 (by kernel_rfl) r7 ⟨(oy rfl rfl),AKW⟩ (A7 fun W g=>AAd (hr.kn g) hc),Aa rq9,AKW⟩ fun a22 w22 g22 Bu=>?_
   refine AR (v:=.bool false) Bu r6 fun a23 Cl=>?_
   have Du:Sv _ _ [_] _:=Cl.dl [7,8,9,10,11,12,13,14,15,16,17,18,19,20,21,22,23,24,25,26,27,28,29,0,1,2]
   refine AE ?_
   refine k3 _ _ ?_
   replace hr:=hr.kn g22
   replace HG:=AA HG g22
   refine AKT ?_
   repeat refine AK ?_
   refine Aw (fn:=Tryz.f41) Du (BC (p:=6) Tryz.results41 Du rfl rfl) ?_
   exact⟨D0 ((ZP hc).symm),HG⟩
 · refine AKP ?_
   refine AJ sv2 23 [(7,.int .i64 addr),(8,.bool true),(9,.bool true),(10,.int .i64 addr),(11,.bool true),(12,.bool true),(13,.bool true),(14,.int .i64 joint),(15,.bool true),(16,.bool true),(17,undef),(18,undef),(19,.bool true),(20,.bool true),(21,.bool true),(22,.slice ao ds.length cap),(23,.int .i64 ((ds.length:Nat))),(24,.bool true),(25,.bool true),(26,.bool true),(27,.slice ao ds.length cap),(28,.bool true),(29,.bool true)]
    ⟨ym r5,Cp r6 (fun _=>Da (decide_eq_true (by omega))),ym r5,Ad rq8,Af rq9 (fun _=>BJ (decide_eq_true (by omega))),Aa rq9,ym r5,Ad rq8,Af rq9 (fun _=>BU (by simp;omega)),Ad rq8,AN r6,AN r6,EL rfl rfl (gy rfl rfl rfl) (oy rfl rfl) rfl (fun _=>rfl),Aa rq9,ym r5,Ad rq8,Au (Tryz.underlying28) rfl rfl (gy rfl rfl rfl) (oy rfl rfl) (fun _=>rfl),Af rq9 (fun _=>Jb (by simp;omega)),Aa rq9,ym r5,Ad rq8,B8 [.slice ao ds.length cap] Tryz.func88 (by kernel_rfl) r7 ⟨(oy rfl rfl),AKW⟩ (A7 fun W g=>AAd (hr.kn g) hc),Aa rq9,AKW⟩ fun a25 w25 g25 Bz=>?_
   refine AR (v:=.bool true) Bz r6 fun a26 Cy=>?_
   have F6:Sv _ _ [_] _:=Cy.dl [7,8,9,10,11,12,13,14,15,16,17,18,19,20,21,22,23,24,25,26,27,28,29,0,1,2]
   refine AE ?_
   refine k3 _ _ ?_
   replace hr:=hr.kn g25
   replace HG:=AA HG g25
   refine AKT ?_
   repeat refine AK ?_
   refine Aw (fn:=Tryz.f41) F6 (BC (p:=6) Tryz.results41 F6 rfl rfl) ?_
   exact⟨D0 ((ZQ h0 (.inl h2) (by omega) hc).symm),HG⟩
 · refine AKP ?_
   refine AJ sv2 23 [(7,.int .i64 addr),(8,.bool true),(9,.bool true),(10,.int .i64 addr),(11,.bool true),(12,.bool true),(13,.bool true),(14,.int .i64 joint),(15,.bool false),(16,.bool false),(17,.int .i64 joint),(18,.bool true),(19,.bool true),(20,.bool true),(21,.bool true),(22,.slice ao ds.length cap),(23,.int .i64 ((ds.length:Nat))),(24,.bool true),(25,.bool true),(26,.bool true),(27,.slice ao ds.length cap),(28,.bool true),(29,.bool true)]
    ⟨ym r5,Cp r6 (fun _=>Da (decide_eq_true (by omega))),ym r5,Ad rq8,Af rq9 (fun _=>BJ (decide_eq_true (by omega))),Aa rq9,ym r5,Ad rq8,Af rq9 (fun _=>BU (by simp;omega)),Ad rq8,Ad rq8,Af rq9 (fun _=>BU (by simp;omega)),EL rfl rfl (gy rfl rfl rfl) (oy rfl rfl) (oy rfl rfl) (fun _=>rfl),Aa rq9,ym r5,Ad rq8,Au (Tryz.underlying28) rfl rfl (gy rfl rfl rfl) (oy rfl rfl) (fun _=>rfl),Af rq9 (fun _=>Jb (by simp;omega)),Aa rq9,ym r5,Ad rq8,B8 [.slice ao ds.length cap] Tryz.func88 (by kernel_rfl) r7 ⟨(oy rfl rfl),AKW⟩ (A7 fun W g=>AAd (hr.kn g) hc),Aa rq9,AKW⟩ fun a28 w28 g28 GI=>?_
   refine AR (v:=.bool true) GI r6 fun a29 CY=>?_
   have Dl:Sv _ _ [_] _:=CY.dl [7,8,9,10,11,12,13,14,15,16,17,18,19,20,21,22,23,24,25,26,27,28,29,0,1,2]
   refine AE ?_
   refine k3 _ _ ?_
   replace HG:=AA HG g28
   refine AKT ?_
   repeat refine AK ?_
   refine Aw (fn:=Tryz.f41) Dl (BC (p:=6) Tryz.results41 Dl rfl rfl) ?_
   exact⟨D0 ((ZQ h0 (.inr h2) (by omega) hc).symm),HG⟩
end Go.Proofs.YtbfjfnbcmojpiaaGreat
