import Derived.Test.YtbfjfnbcmojpiaaGreatShYK
set_option linter.unusedSimpArgs false
set_option linter.unusedVariables false
set_option maxRecDepth 100000
set_option maxHeartbeats 4000000
namespace Go.Proofs.YtbfjfnbcmojpiaaGreat
open Go.RowKit Go.Shelf
theorem ADS {P:List VP} {sa po o:List Nat} {a:Int} {k:List Nat} {l t:List Nd} (ha:Br a=true) (hv:CH P=true) (h:IT P o=true∧tr P (pos P o)=l) (hl:tree k []=l) (ht:tree k [a]=t):QT (P,sa,po) o a=((Jo P o t,sa,po),0):=by
 have hp:F8 l a=(t,0):=by rw[←hl,Z6 (by simp) ha,ht]
 exact ABZ ha hv h.1 rfl h.2 hp rfl
theorem AKl {k:List Nat} {t:List Nd} {a:Int} (ht:tree k [a]=t) (ha:Br a=true):DM t a=(AQ,10):=by
 rw[←ht,UW k [a] a (JX _ _ (by simp)) ha,if_pos (by simp)]
def Tg (seed:List Nat) (g a:Int) (i j:Nat):List Nd:=if j<i∧FJ g j=1 then tree (kd 275 (QG seed j)) [a] else Tsd seed j
theorem Tg0 {seed:List Nat} {g a:Int} {P:List VP} (h:OV (Tsd seed) P 6):OV (Tg seed g a 0) P 6:=h.congr fun j _=>by unfold Tg;rw[if_neg (by omega)]
theorem AIK {seed:List Nat} {g a:Int} {P:List VP} {i:Nat} (h:OV (Tg seed g a i) P 6) (hb:¬FJ g i=1):OV (Tg seed g a (i+1)) P 6:=h.congr fun j _=>by
 unfold Tg
 by_cases e:j=i
 · subst e;rw[if_neg (by omega),if_neg (by simp[hb])]
 · by_cases h1:j<i∧FJ g j=1
   · rw[if_pos h1,if_pos ⟨by omega,h1.2⟩]
   · rw[if_neg h1,if_neg fun h2=>h1 ⟨by omega,h2.2⟩]
theorem AFs {seed:List Nat} {g a:Int} {P:List VP} {i:Nat} (h:OV (Tg seed g a i) P 6) (hi:i<6) (hb:FJ g i=1):OV (Tg seed g a (i+1)) (Jo P (EQ i) (tree (kd 275 (QG seed i)) [a])) 6:=(h.set hi (JX _ _ (by simp))).congr fun j _=>by
 unfold Tg
 by_cases e:j=i
 · subst e;simp[hb]
 · rw[if_neg e]
   by_cases h1:j<i∧FJ g j=1
   · rw[if_pos h1,if_pos ⟨by omega,h1.2⟩]
   · rw[if_neg h1,if_neg fun h2=>h1 ⟨by omega,h2.2⟩]
theorem AFt {seed sa po:List Nat} {g a:Int} {P:List VP} {i:Nat} (h:OV (Tg seed g a i) P 6) (hi:i<6) (ha:Br a=true):QT (P,sa,po) (EQ i) a=((Jo P (EQ i) (tree (kd 275 (QG seed i)) [a]),sa,po),0):=
 ADS ha h.1 (h.has hi) (by unfold Tg;rw[if_neg (by omega)];rfl) rfl
section
variable {seed:List Nat} {g a:Int} {P:List VP} (h:OV (Tg seed g (M5 a) 6) P 6)
include h
theorem Sz {j:Nat} (hj:j<6) (hb:FJ g j=1):(CP P (EQ j) (M5 a)).2≠0:=by
 rw[AHb h hj (De a)]
 unfold Tg
 rw[if_pos ⟨hj,hb⟩,AKl rfl (De a)]
 decide
theorem S4 {j:Nat} (hj:j<6) (hb:¬FJ g j=1):CP P (EQ j) (M5 a)=CP (V6 seed).1 (EQ j) (M5 a):=by
 rw[AHb h hj (De a),show(V6 seed).1=Qh seed 6 from rfl,AHb (JE seed 6 (Nat.le_refl _)) hj (De a)]
 unfold Tg
 rw[if_neg fun h2=>hb h2.2]
theorem Up {x:V} {n:Int} {b:Bool} (hn:bits .and .i64 n 63=0):DE P (KN (V6 seed).1 x n b a).1=(x.clean,0):=by
 unfold KN
 rw[AHe hn]
 exact Nr (AKk b a) (MX seed) h.1
theorem ADT {x:V} {n:Int} (hl:bits .and .i64 (bits .and .i64 n g) 63=0):DE P (KN (V6 seed).1 x n false a).1=(x.clean,0):=
 ADP (Sw n false a) (MX seed) h.1 (ZU seed n a) fun j hj=>by
  obtain⟨d,hd,e⟩:=List.mem_map.1 (Qx hj)
  obtain⟨k,hk,hb,rfl⟩:=JI hd
  rw[←e]
  exact S4 h hk ((Uo n g).1 hl k hk hb)
theorem ADU {x:V} {n:Int} (hl:¬bits .and .i64 (bits .and .i64 n g) 63=0):DE P (KN (V6 seed).1 x n false a).1=(V.nul,10):=by
 have hx:∃j,j<6∧FJ n j=1∧FJ g j=1:=Decidable.byContradiction fun hc=>hl ((Uo n g).2 fun j h1 h2 h3=>hc ⟨j,h1,h2,h3⟩)
 obtain⟨k,hk,hb,hg⟩:=hx
 obtain⟨i,hi,hik⟩:=List.mem_iff_getElem.1 (List.mem_map_of_mem (f:=DD.x) (O6 (i:=6) hk hb))
 exact AA5 (Sw n false a) (MX seed) (ZU seed n a) h.1 hi (by rw[MJ hi,hik];exact Sz h hk hg)
theorem ADV {x:V} {n:Int} (hl:¬bits .and .i64 (bits .and .i64 n g) 63=bits .and .i64 n 63):DE P (KN (V6 seed).1 x n true a).1=(x.clean,0):=by
 have hx:∃j,j<6∧FJ n j=1∧¬FJ g j=1:=Decidable.byContradiction fun hc=>hl ((ZW n g).2 fun j h1 h2=>Decidable.byContradiction fun h3=>hc ⟨j,h1,h2,h3⟩)
 obtain⟨k,hk,hb,hg⟩:=hx
 obtain⟨i,hi,hik⟩:=List.mem_iff_getElem.1 (List.mem_map_of_mem (f:=DD.x) (O6 (i:=6) hk hb))
 refine ADQ (Sw n true a) (MX seed) h.1 (ZU seed n a) (fun j hj=>?_) hi ?_
 · obtain⟨d,hd,e⟩:=List.mem_map.1 (Qx hj)
   obtain⟨m,hm,_,rfl⟩:=JI hd
   rw[←e]
   by_cases hgm:FJ g m=1
   · exact .inr (Sz h hm hgm)
   · exact .inl (S4 h hm hgm)
 · rw[MJ hi,hik,show(NJ k).x=EQ k from rfl,S4 h hk hg]
   exact ZT hk (De a)
theorem ADW {x:V} {n:Int} (hn:¬bits .and .i64 n 63=0) (hl:bits .and .i64 (bits .and .i64 n g) 63=bits .and .i64 n 63):DE P (KN (V6 seed).1 x n true a).1=(V.nul,10):=
 ADN (Sw n true a) (MX seed) (ZU seed n a) h.1 (AJR hn) fun j hj=>by
  obtain⟨d,hd,e⟩:=List.mem_map.1 (Qx hj)
  obtain⟨k,hk,hb,rfl⟩:=JI hd
  rw[←e]
  exact Sz h hk ((ZW n g).1 hl k hk hb)
end
theorem ZY (seed:List Nat) (hse:Dg seed) (x:V) (n:Int) (ca gg:Int) (w:World) :
   Calls Tryz.prog 9 #[AP seed,Dl x n true ca,.int .i64 gg] w fun e w'=>e=.returned (.bool true)∧w.grownBy w' none:=by
 obtain⟨vx,hvx⟩:∃v,V6 seed=v:=⟨_,rfl⟩
 have hvd:Dg vx.2.1∧Dg vx.2.2:=hvx▸AIJ seed
 have hvv:CH vx.1=true:=hvx▸MX seed
 obtain⟨r,hres⟩:∃r,KN vx.1 x n true ca=r:=⟨_,rfl⟩
 have hz:=(Un seed x n true ca).2.1
 rw[hvx,hres] at hz
 obtain⟨A,hA⟩:∃A,M5 ca=A:=⟨_,rfl⟩
 have hAa:Br A=true:=hA▸De ca
 have hO0:OV (Tg seed gg A 0) vx.1 6:=hvx▸Tg0 (JE seed 6 (Nat.le_refl _))
 refine Bg Tryz.func9 rfl Tryz.ntmps9 rfl fun a0 sv0=>?_
 have HG:=World.grownBy.refl w none
 replace sv0:Sv 119 [] [(0,AP seed),(1,Dl x n true ca),(2,.int .i64 gg)] a0:=sv0
 refine ALo fun K1 k1=>?_
 refine ALn ?_
 refine Bn sv0 r6 (CD seed hse.1) fun a2 w2 Ia Ib g2 z2 Ab sv2=>?_
 refine Bn sv2 r6 (Qg x n true ca) fun a3 w3 D9 OM g3 z3 AZ sv3=>?_
 replace Ab:=AC g3 Ab
 replace HG:=AA (AA HG g2) g3
 refine Aa (v:=.bool false) sv3 r6 fun a4 sv4=>?_
 refine AE ?_
 refine k1 _ _ ?_
 refine ALo fun K5 k5=>?_
 refine ALo fun K6 k6=>?_
 by_cases hsm:x.text.size≤100
 · refine ALn ?_
   refine AI sv4 4 [(18,pt D9),(19,BR x),(20,.bool true),(21,.bool false)]
     ⟨yf r6 (fun _=>by kernel_rfl),yp (i:=0) r6 (C6 x) AZ rfl rfl,Ae [BR x] Tryz.func12 (by kernel_rfl) rq4 ⟨(oy rfl rfl),ALu⟩ (Au fun W g=>(Qy x W).mono fun e w' ⟨h1,h2⟩=>⟨by rw[h1,decide_eq_true hsm],h2⟩),Cl r6 (fun _=>BJ),ALu⟩ fun a7 w7 g7 sv7=>?_
   refine AE ?_
   refine k6 _ _ ?_
   refine Az sv7 rfl rfl ?_
   refine ALs ?_
   refine k5 _ _ ?_
   refine ALo fun K8 k8=>?_
   refine ALn ?_
   replace Ab:=AC g7 Ab
   refine E6 (sv7.st w7) 2 [(23,Sp.is (AP seed)),(24,Sp.vv vx (fun _=>False))] rfl (by kernel_rfl) (by kernel_rfl) (by kernel_rfl)
     ⟨yl r6 (CD seed hse.1) Ab,Ae [AP seed] Tryz.func14 (by kernel_rfl) rq4 ⟨(oy rfl rfl),ALu⟩ (hvx▸ZX hse),ALu⟩ fun a9 w9 g9 st9=>?_
   obtain⟨hn9,hd9,e9_23,e9_24,e9_18,e9_19,e9_20,e9_21,e9_6,e9_4,e9_3,e9_0,e9_1,e9_2,-⟩:=st9
   obtain⟨ao10,cap10,ks10,e9_24q,hp10,hk10,hf10⟩:=e9_24
   replace Ab:=AC g9 Ab
   replace AZ:=AC g9 (AC g7 AZ)
   replace HG:=AA (AA HG g7) g9
   have El:=Gd hf10 Ab (by decide)
   have Em:=Gd hf10 AZ (by decide)
   have sv9:Sv 119 [] [(18,_),(19,_),(20,_),(21,_),(6,_),(4,_),(3,_),(0,_),(1,_),(2,_),(24,_)] a9:=⟨hn9,hd9,e9_18,e9_19,e9_20,e9_21,e9_6,e9_4,e9_3,e9_0,e9_1,e9_2,e9_24q,ALu⟩
   refine Av (T:=36) (Z:=([bv AQ,bv AQ,[.slice none 0 0]].flatten)) sv9 rfl rfl rfl (fun a w=>by kernel_rfl) fun a11 w11 S5 Gf g11 z11 Ah CV=>?_
   have Fg:=Ar Ab Gf
   have Fh:=Ar AZ Gf
   have MY:=Bt HG Gf
   have Cn:=A1 (hk10.lt) Gf
   refine As CV r7 (BX hvd.1 hvd.2 (.slice ao10 ks10.length cap10) rfl) Ah (by first|rfl|simp[Ag,AJ,AU,hvd.1.1,hvd.2.1]) fun w12 g12 h12=>?_
   replace AZ:=AY g12 (AC g11 AZ) (Ne.symm Fh)
   replace hk10:=(hk10.kn g11).offR g12 (AV Cn)
   replace Ah:=h12
   refine AE ?_
   refine k8 _ _ ?_
   refine ALo fun K13 k13=>?_
   refine ALn ?_
   refine E6 (CV.st w12) 6 [(26,Sp.is (Dl x n true ca)),(27,Sp.is (Ao vx.2.1 vx.2.2 (.slice ao10 ks10.length cap10))),(28,Sp.sr w12.heap.size r),(25,Sp.sr w12.heap.size r),(29,Sp.sl w12.heap.size r.1),(30,Sp.is (.int .i64 r.2))] rfl (by kernel_rfl) (by kernel_rfl) (by kernel_rfl)
     ⟨yl r6 (Qg x n true ca) AZ,yl r6 (BX hvd.1 hvd.2 (.slice ao10 ks10.length cap10) rfl) Ah,Ae [Dl x n true ca,Ao vx.2.1 vx.2.2 (.slice ao10 ks10.length cap10)] Tryz.func15 (by kernel_rfl) rq4 ⟨(oy rfl rfl),(oy rfl rfl),ALu⟩ (ZV hvd.1 hvd.2 hk10 hp10 hres),ym r5,BC rq4 (fun w u h=>ZP w u h),BC rq4 (fun w u h=>Np w u h),ALu⟩ fun a14 w14 g14 st14=>?_
   obtain⟨hn14,hd14,e14_26,e14_27,e14_28,e14_25,e14_29,e14_30,e14_7,e14_18,e14_19,e14_20,e14_21,e14_6,e14_4,e14_3,e14_0,e14_1,e14_2,e14_24,-⟩:=st14
   obtain⟨own15,wr15,ao15,wo15,bo15,ac15,wc15,bc15,e14_29q,hF,fr15⟩:=e14_29
   have MZ:=CK fr15 Ah
   replace Ab:=AC g14 (AY g12 (AC g11 Ab) (Ne.symm Fg))
   replace AZ:=AC g14 AZ
   replace Ah:=AC g14 Ah
   replace hk10:=hk10.kn g14
   replace HG:=AA (AD (AA HG g11) g12 MY) g14
   have Db:Sv 119 [] [(7,_),(18,_),(19,_),(20,_),(21,_),(6,_),(4,_),(3,_),(0,_),(1,_),(2,_),(24,_),(29,_),(30,_)] a14:=⟨hn14,hd14,e14_7,e14_18,e14_19,e14_20,e14_21,e14_6,e14_4,e14_3,e14_0,e14_1,e14_2,e14_24,e14_29q,e14_30,ALu⟩
   refine Av (T:=31) (Z:=([[.int .i64 0],[.slice none 0 0],[.int .i64 0],[.slice none 0 0],[.slice none 0 0],bv AQ].flatten)) Db rfl rfl rfl (fun a w=>by kernel_rfl) fun a16 w16 S6 ER g16 z16 Aq Cu=>?_
   have Jz:=Ar Ab ER
   have J0:=Ar AZ ER
   have FL:=Ar Ah ER
   have S7:=Bt HG ER
   have DI:=A1 (hk10.lt) ER
   have Ma:=A1 (hF.lt) ER
   replace hF:=hF.kn g16
   refine As Cu r7 (Dz _ _ hF.tg (.slice ao15 (List.length own15) ac15) (.slice wo15 (List.length wr15) wc15) (.slice bo15 r.1.body.length bc15) rfl rfl rfl) Aq (FS AO hF.tg) fun w17 g17 h17=>?_
   refine Aa (v:=.int .i64 r.2) Cu r6 fun a18 CU=>?_
   refine AE ?_
   refine k13 _ _ ?_
   refine ALo fun K19 k19=>?_
   refine ALo fun K20 k20=>?_
   refine ALn ?_
   refine AI CU 2 [(31,.int .i64 r.2),(32,.bool false)]
     ⟨ym r5,CQ r6 (fun _=>Dt (by rw[hz];rfl)),ALu⟩ fun a21 w21 g21 Da=>?_
   refine AE ?_
   refine k20 _ _ ?_
   refine Az Da rfl rfl ?_
   refine ALs ?_
   refine k19 _ _ ?_
   refine ALo fun K22 k22=>?_
   refine ALo fun K23 k23=>?_
   refine ALn ?_
   refine Aa (v:=.int .i64 0) Da r6 fun a24 CI=>?_
   refine AE ?_
   refine k23 _ _ ?_
   refine BM fun Q25 x25 y25 rt25 o25=>?_
   replace Ab:=AC g21 (AY g17 (AC g16 Ab) (Ne.symm Jz))
   replace AZ:=AC g21 (AY g17 (AC g16 AZ) (Ne.symm J0))
   replace Ah:=AC g21 (AY g17 (AC g16 Ah) (Ne.symm FL))
   replace Aq:=AC g21 h17
   replace hk10:=((hk10.kn g16).offR g17 (AV DI)).kn g21
   replace hF:=(hF.offR g17 (AV Ma)).kn g21
   replace HG:=AA (AD (AA HG g16) g17 S7) g21
   refine wp_loop (fun a w'=>∃(i:Nat) (ks:List VK) (ao:Option Addr) (cap:Nat),(i≤6)∧(OV (Tg seed gg A i) (ks.map VK.p) 6)∧Sv 119 [] [(10,.int .i64 ((i:Int))),(31,.int .i64 r.2),(32,.bool false),(9,.int .i64 r.2),(8,pt S6),(7,pt S5),(18,pt D9),(19,BR x),(20,.bool true),(21,.bool false),(4,pt D9),(3,pt Ia),(0,AP seed),(1,Dl x n true ca),(2,.int .i64 gg),(24,Ao vx.2.1 vx.2.2 (.slice ao10 ks10.length cap10)),(29,Bw r.1.addr (.slice ao15 (List.length own15) ac15) r.1.joint (.slice wo15 (List.length wr15) wc15) (.slice bo15 r.1.body.length bc15) r.1.tag),(30,.int .i64 r.2)] a∧w.grownBy w' none∧w'.heap[Ia]?=some (.cells (bv seed).toArray 23 (0,0))∧w'.heap[D9]?=some (.cells ([vc x,[.int .i64 n],[.bool true],[.int .i64 ca]].flatten).toArray 27 (0,0))∧w'.heap[S5]?=some (.cells ([bv vx.2.1,bv vx.2.2,[.slice ao ks.length cap]].flatten).toArray 36 (0,0))∧w'.heap[S6]?=some (.cells ([[.int .i64 r.1.addr],[.slice ao15 (List.length own15) ac15],[.int .i64 r.1.joint],[.slice wo15 (List.length wr15) wc15],[.slice bo15 r.1.body.length bc15],bv r.1.tag].flatten).toArray 31 (0,0))∧RdK w' (.slice ao ks.length cap) ks∧SdF w' r.1 own15 wr15 ao15 wo15 bo15 ac15 wc15 bc15∧(∀k,KX (.slice ao ks.length cap) ks k→k≠Ia)∧(∀k,KX (.slice ao ks.length cap) ks k→k≠D9)∧(∀k,KX (.slice ao ks.length cap) ks k→k≠S5)∧(∀k,KX (.slice ao ks.length cap) ks k→k≠S6)) (fun a _=>(6-intOf (a.tmps.getD 10 undef)).toNat) ⟨0,ks10,ao10,cap10,by omega,by rw[hp10];exact hO0,⟨CI.1,CI.2.1,CI.2.2.1,CI.2.2.2.1,CI.2.2.2.2.1,CI.2.2.2.2.2.1,CI.2.2.2.2.2.2.1,CI.2.2.2.2.2.2.2.1,(AH CI).1,(AH CI).2.1,(AH CI).2.2.1,(AH CI).2.2.2.1,(AH CI).2.2.2.2.2.1,(AH CI).2.2.2.2.2.2.1,(AH CI).2.2.2.2.2.2.2.1,(AH (AH CI)).1,(AH (AH CI)).2.1,(AH (AH CI)).2.2.1,(AH (AH CI)).2.2.2.1,(AH (AH CI)).2.2.2.2.1,ALu⟩,HG,Ab,AZ,Ah,Aq,hk10,hF,El,Em,Cn,DI⟩ fun a26 w26 hI26=>?_
   clear Ab
   clear AZ
   clear Ah
   clear Aq
   clear hk10
   clear hF
   clear HG
   obtain⟨i,ks,ao,cap,hi6,hO,Cj,HG,Ab,AZ,Ah,Aq,hk10,hF,El,Em,Cn,DI⟩:=hI26
   refine ALo fun K27 k27=>?_
   refine ALo fun K28 k28=>?_
   by_cases hi:i<6
   · refine ALn ?_
     refine AI Cj 2 [(33,.int .i64 ((i:Int))),(34,.bool true)]
       ⟨ym r5,CQ r6 (fun _=>Bv (decide_eq_true (by omega))),ALu⟩ fun a29 w29 g29 CR=>?_
     refine AE ?_
     refine k28 _ _ ?_
     refine Ay CR rfl rfl ?_
     refine ALs ?_
     refine k27 _ _ ?_
     refine ALo fun K30 k30=>?_
     refine BM fun Q31 x31 y31 rt31 o31=>?_
     refine ALo fun K32 k32=>?_
     replace Ab:=AC g29 Ab
     replace AZ:=AC g29 AZ
     replace Ah:=AC g29 Ah
     replace Aq:=AC g29 Aq
     replace hk10:=hk10.kn g29
     replace hF:=hF.kn g29
     replace HG:=AA HG g29
     by_cases hb:FJ gg i=1
     · refine ALn ?_
       refine AI CR 6 [(37,.int .i64 gg),(38,.int .i64 ((i:Int))),(39,.int .u64 ((i:Int))),(40,.int .i64 ((gg/2^i))),(41,.int .i64 ((FJ gg i))),(42,.bool true)]
        ⟨ym r5,ym r5,Hd r6 (fun _=>He Tryz.underlying3 Tryz.underlying48 (Gr (by omega) (by omega))),Hc r7 (fun _=>Mu i (by omega) rfl),CQ r6 (fun _=>DS rfl),CQ r6 (fun _=>Bi (by rw[hb];rfl)),ALu⟩ fun a33 w33 g33 IZ=>?_
       refine AE ?_
       refine k32 _ _ ?_
       refine Ay IZ rfl rfl ?_
       refine ALo fun K34 k34=>?_
       replace Ab:=AC g33 Ab
       replace AZ:=AC g33 AZ
       replace Ah:=AC g33 Ah
       replace Aq:=AC g33 Aq
       replace hk10:=hk10.kn g33
       replace hF:=hF.kn g33
       replace HG:=AA HG g33
       refine DZ (IZ.st w33) (by kernel_rfl) 10 [(44,Sp.is (Ao vx.2.1 vx.2.2 (.slice ao ks.length cap))),(45,Sp.is (.int .i64 ((i:Int)))),(46,Sp.is (AP ((EQ i)))),(47,Sp.is (Dl x n true ca)),(48,Sp.is (.int .i64 A)),(49,Sp.vt ((Jo (ks.map VK.p) (EQ i) (tree (kd 275 (QG seed i)) [A]),vx.2.1,vx.2.2),(0:Int)) ((fun _=>False))),(43,Sp.vt ((Jo (ks.map VK.p) (EQ i) (tree (kd 275 (QG seed i)) [A]),vx.2.1,vx.2.2),(0:Int)) ((fun _=>False))),(50,Sp.vv (Jo (ks.map VK.p) (EQ i) (tree (kd 275 (QG seed i)) [A]),vx.2.1,vx.2.2) ((fun _=>False))),(51,Sp.is (.int .i64 0)),(11,Sp.new w33.heap.size (([bv AQ,bv AQ,[.slice none 0 0]].flatten)) 36)] rfl (by kernel_rfl) (by kernel_rfl) (by kernel_rfl) [8] (by kernel_rfl)
        ⟨yl r6 (BX hvd.1 hvd.2 (.slice ao ks.length cap) rfl) Ah,ym r5,Ae [.int .i64 ((i:Int))] Tryz.func30 (by kernel_rfl) rq4 ⟨(oy rfl rfl),ALu⟩ (Au fun W g=>Ky i hi W),yl r6 (Qg x n true ca) AZ,Ae [Dl x n true ca] Tryz.func19 (by kernel_rfl) rq4 ⟨(oy rfl rfl),ALu⟩ (Au fun W g=>hA▸Pl x n true ca W),Ae [Ao vx.2.1 vx.2.2 (.slice ao ks.length cap),AP ((EQ i)),.int .i64 A] Tryz.func31 (by kernel_rfl) rq4 ⟨(oy rfl rfl),(oy rfl rfl),(oy rfl rfl),ALu⟩ (AE0 hvd.1 hvd.2 (Kx i) hk10 rfl (AFt hO hi hAa)),ym r5,BC rq4 (fun w u h=>Ov w u h),BC rq4 (fun w u h=>No w u h),L3 rfl trivial (Nat.le_refl _) (fun a w=>by kernel_rfl) (fun _ _ h=>h),ALu⟩ ⟨fun o ho=>by obtain rfl:=Option.some.inj ho;exact Iw rfl rfl rfl trivial (fun w u h=>No w u h),ALu⟩
        [11] (by kernel_rfl) ⟨Sp.new_lt,ALu⟩ ⟨.inl rfl,.inl rfl,.inl rfl,.inl rfl,.inl rfl,.inl rfl,.inl rfl,.inl rfl,.inl rfl,.inr ⟨rfl,(([bv AQ,bv AQ,[.slice none 0 0]].flatten)).toArray,36,fun a w=>by kernel_rfl⟩,ALu⟩ (by kernel_rfl) fun a35 w35 g35 st35 nd35=>?_
       obtain⟨hn35,hd35,e35_44,e35_45,e35_46,e35_47,e35_48,e35_49,e35_43,e35_50,e35_51,e35_11,e35_37,e35_38,e35_39,e35_40,e35_41,e35_42,e35_33,e35_34,e35_10,e35_31,e35_32,e35_9,e35_8,e35_7,e35_18,e35_19,e35_20,e35_21,e35_4,e35_3,e35_0,e35_1,e35_2,e35_24,e35_29,e35_30,-⟩:=st35
       obtain⟨ao36,cap36,ks36,e35_50q,hp36,hk36,hf36⟩:=e35_50
       obtain⟨AJS,e35_11q,DB,Ii⟩:=e35_11
       have JJ:=Gj Ab DB
       have JK:=Gj AZ DB
       have IH:=Gj Ah DB
       have II:=Gj Aq DB
       have Pn:=Ua HG DB
       have JL:=Ly (hk10.lt) DB
       have LC:=Ly (hF.lt) DB
       replace Ab:=AC g35 Ab
       replace AZ:=AC g35 AZ
       replace Ah:=AC g35 Ah
       replace Aq:=AC g35 Aq
       have LD:=Gd hf36 Ab (by decide)
       have LF:=Gd hf36 AZ (by decide)
       have Fi:=Gd hf36 Ah (by decide)
       have J1:=Gd hf36 Aq (by decide)
       have JM:=Gd hf36 Ii (by decide)
       have Js:Sv 119 [] [(37,_),(38,_),(39,_),(40,_),(41,_),(42,_),(33,_),(34,_),(10,_),(31,_),(32,_),(9,_),(8,_),(7,_),(18,_),(19,_),(20,_),(21,_),(4,_),(3,_),(0,_),(1,_),(2,_),(24,_),(29,_),(30,_),(50,_),(51,_),(11,_)] a35:=⟨hn35,hd35,e35_37,e35_38,e35_39,e35_40,e35_41,e35_42,e35_33,e35_34,e35_10,e35_31,e35_32,e35_9,e35_8,e35_7,e35_18,e35_19,e35_20,e35_21,e35_4,e35_3,e35_0,e35_1,e35_2,e35_24,e35_29,e35_30,e35_50q,e35_51,e35_11q,ALu⟩
       refine As Js r7 (BX hvd.1 hvd.2 (.slice ao36 ks36.length cap36) rfl) Ii (by first|rfl|simp[Ag,AJ,AU,hvd.1.1,hvd.2.1]) fun w37 g37 h37=>?_
       replace Ah:=AY g37 Ah (Ne.symm IH)
       replace Ii:=h37
       refine Aa (v:=.int .i64 0) Js r6 fun a38 Ro=>?_
       refine AE ?_
       refine k34 _ _ ?_
       refine ALo fun K39 k39=>?_
       refine ALo fun K40 k40=>?_
       refine ALn ?_
       refine AI Ro 2 [(52,.int .i64 0),(53,.bool false)]
        ⟨ym r5,CQ r6 (fun _=>Dt rfl),ALu⟩ fun a41 w41 g41 Kh=>?_
       refine AE ?_
       refine k40 _ _ ?_
       refine Az Kh rfl rfl ?_
       refine ALs ?_
       refine k39 _ _ ?_
       refine ALn ?_
       refine AI Kh 1 [(54,Ao vx.2.1 vx.2.2 (.slice ao36 ks36.length cap36))]
        ⟨yl r6 (BX hvd.1 hvd.2 (.slice ao36 ks36.length cap36) rfl) (AC g41 Ii),ALu⟩ fun a42 w42 g42 GK=>?_
       have F6:=AA g41 g42
       refine As GK r7 (BX hvd.1 hvd.2 (.slice ao36 ks36.length cap36) rfl) (AC F6 Ah) (by first|rfl|simp[Ag,AJ,AU,hvd.1.1,hvd.2.1,hvd.1.1,hvd.2.1]) fun w43 g43 h43=>?_
       refine AE ?_
       refine y31 _ _ ?_
       refine k30 _ _ ?_
       refine ALn ?_
       refine AI GK 2 [(35,.int .i64 ((i:Int))),(36,.int .i64 (((i+1:Nat):Int)))]
        ⟨ym r5,CQ r6 (fun _=>DV (by rw[BG (by omega) (by omega)];omega)),ALu⟩ fun a44 w44 g44 PZ=>?_
       refine Aa (v:=.int .i64 (((i+1:Nat):Int))) PZ r6 fun a45 CL=>?_
       refine AE ?_
       replace Ab:=AC g44 (Al F6 g43 (AY g37 Ab (Ne.symm JJ)) (Ne.symm Fg))
       replace AZ:=AC g44 (Al F6 g43 (AY g37 AZ (Ne.symm JK)) (Ne.symm Fh))
       replace Ah:=AC g44 h43
       replace Aq:=AC g44 (Al F6 g43 (AY g37 Aq (Ne.symm II)) FL)
       replace hk10:=((((hk10.kn g35).offR g37 (AV JL)).kn F6).offR g43 (AV Cn)).kn g44
       replace hF:=((((hF.kn g35).offR g37 (AV LC)).kn F6).offR g43 (AV MZ)).kn g44
       replace hk36:=(((hk36.offR g37 (AV JM)).kn F6).offR g43 (AV Fi)).kn g44
       replace HG:=AA (AD (AA (AD (AA HG g35) g37 Pn) F6) g43 MY) g44
       exact⟨⟨i+1,ks36,ao36,cap36,by omega,by rw[hp36];exact AFs hO hi hb,⟨CL.1,CL.2.1,CL.2.2.1,(AH (AH CL)).2.1,(AH (AH CL)).2.2.1,(AH (AH CL)).2.2.2.1,(AH (AH CL)).2.2.2.2.1,(AH (AH CL)).2.2.2.2.2.1,(AH (AH CL)).2.2.2.2.2.2.1,(AH (AH CL)).2.2.2.2.2.2.2.1,(AH (AH (AH CL))).1,(AH (AH (AH CL))).2.1,(AH (AH (AH CL))).2.2.1,(AH (AH (AH CL))).2.2.2.1,(AH (AH (AH CL))).2.2.2.2.1,(AH (AH (AH CL))).2.2.2.2.2.1,(AH (AH (AH CL))).2.2.2.2.2.2.1,(AH (AH (AH CL))).2.2.2.2.2.2.2.1,(AH (AH (AH (AH CL)))).1,(AH (AH (AH (AH CL)))).2.1,ALu⟩,HG,Ab,AZ,Ah,Aq,hk36,hF,LD,LF,Fi,J1⟩,by rw[show _=_ from CL.2.2.1,show _=_ from Cj.2.2.1];simp[intOf];omega⟩
     · refine ALn ?_
       refine AI CR 6 [(37,.int .i64 gg),(38,.int .i64 ((i:Int))),(39,.int .u64 ((i:Int))),(40,.int .i64 ((gg/2^i))),(41,.int .i64 ((FJ gg i))),(42,.bool false)]
        ⟨ym r5,ym r5,Hd r6 (fun _=>He Tryz.underlying3 Tryz.underlying48 (Gr (by omega) (by omega))),Hc r7 (fun _=>Mu i (by omega) rfl),CQ r6 (fun _=>DS rfl),CQ r6 (fun _=>Bi (by simpa using hb)),ALu⟩ fun a46 w46 g46 IC=>?_
       refine AE ?_
       refine k32 _ _ ?_
       refine Az IC rfl rfl ?_
       refine ALs ?_
       refine y31 _ _ ?_
       refine k30 _ _ ?_
       refine ALn ?_
       refine AI IC 2 [(35,.int .i64 ((i:Int))),(36,.int .i64 (((i+1:Nat):Int)))]
        ⟨ym r5,CQ r6 (fun _=>DV (by rw[BG (by omega) (by omega)];omega)),ALu⟩ fun a47 w47 g47 Ld=>?_
       have Nu:=AA g46 g47
       refine Aa (v:=.int .i64 (((i+1:Nat):Int))) Ld r6 fun a48 Dh=>?_
       refine AE ?_
       replace Ab:=AC Nu Ab
       replace AZ:=AC Nu AZ
       replace Ah:=AC Nu Ah
       replace Aq:=AC Nu Aq
       replace hk10:=hk10.kn Nu
       replace hF:=hF.kn Nu
       replace HG:=AA HG Nu
       exact⟨⟨i+1,ks,ao,cap,by omega,AIK hO hb,⟨Dh.1,Dh.2.1,Dh.2.2.1,(AH Dh).2.2.2.2.2.1,(AH Dh).2.2.2.2.2.2.1,(AH Dh).2.2.2.2.2.2.2.1,(AH (AH Dh)).1,(AH (AH Dh)).2.1,(AH (AH Dh)).2.2.1,(AH (AH Dh)).2.2.2.1,(AH (AH Dh)).2.2.2.2.1,(AH (AH Dh)).2.2.2.2.2.1,(AH (AH Dh)).2.2.2.2.2.2.1,(AH (AH Dh)).2.2.2.2.2.2.2.1,(AH (AH (AH Dh))).1,(AH (AH (AH Dh))).2.1,(AH (AH (AH Dh))).2.2.1,(AH (AH (AH Dh))).2.2.2.1,(AH (AH (AH Dh))).2.2.2.2.1,(AH (AH (AH Dh))).2.2.2.2.2.1,ALu⟩,HG,Ab,AZ,Ah,Aq,hk10,hF,El,Em,Cn,DI⟩,by rw[show _=_ from Dh.2.2.1,show _=_ from Cj.2.2.1];simp[intOf];omega⟩
   · obtain rfl:i=6:=by omega
     refine ALn ?_
     refine AI Cj 2 [(33,.int .i64 (((6:Nat):Int))),(34,.bool false)]
       ⟨ym r5,CQ r6 (fun _=>Bv (by simp)),ALu⟩ fun a49 w49 g49 GL=>?_
     refine AE ?_
     refine k28 _ _ ?_
     refine Az GL rfl rfl ?_
     refine wp_exit ?_
     repeat refine CW ?_
     refine x25 _ _ ?_
     refine k22 _ _ ?_
     refine ALo fun K50 k50=>?_
     replace AZ:=AC g49 AZ
     replace Ah:=AC g49 Ah
     replace Aq:=AC g49 Aq
     replace hk10:=hk10.kn g49
     replace hF:=hF.kn g49
     replace HG:=AA HG g49
     rw[←hA] at hO
     rcases(show(bits .and .i64 n 63=0)∨(¬bits .and .i64 n 63=0∧¬bits .and .i64 (bits .and .i64 n gg) 63=bits .and .i64 n 63)∨(¬bits .and .i64 n 63=0∧bits .and .i64 (bits .and .i64 n gg) 63=bits .and .i64 n 63) by by_cases h1:bits .and .i64 n 63=0<;>by_cases h2:bits .and .i64 (bits .and .i64 n gg) 63=bits .and .i64 n 63<;>simp[h1,h2]) with hn|⟨hn,hl⟩|⟨hn,hl⟩
     · have hq:DE (ks.map VK.p) r.1=(x.clean,0):=by rw[←hres,←hvx];exact Up hO hn
       refine Ck GL [(55,pk D9 3),(56,.int .i64 n),(57,.int .i64 ((bits .and .i64 n 63))),(58,pk D9 3),(59,.int .i64 n),(60,.int .i64 gg),(61,.int .i64 ((bits .and .i64 n gg))),(62,.int .i64 ((bits .and .i64 (bits .and .i64 n gg) 63))),(13,.int .i64 ((bits .and .i64 n 63))),(14,.int .i64 ((bits .and .i64 (bits .and .i64 n gg) 63)))]
        ⟨yf r6 (fun _=>by kernel_rfl),yp (i:=1) r6 (C3 n) AZ rfl rfl,CQ r6 (fun _=>DS rfl),yf r6 (fun _=>by kernel_rfl),yp (i:=1) r6 (C3 n) AZ rfl rfl,ym r5,Hc r7 (fun _=>DS rfl),CQ r6 (fun _=>DS rfl),Co 57 13 (.inr rfl) rfl rfl trivial (fun _ _ h=>h),Co 62 14 (.inr rfl) rfl rfl trivial (fun _ _ h=>h),ALu⟩ fun a51 w51 g51 ED=>?_
       refine k50 _ _ ?_
       refine ALo fun K52 k52=>?_
       refine ALn ?_
       refine AI ED 20 [(63,.int .i64 ((bits .and .i64 n 63))),(64,.bool true),(65,.bool true),(66,undef),(67,undef),(68,undef),(69,undef),(70,undef),(71,undef),(72,undef),(73,.bool true),(74,.bool true),(75,undef),(76,undef),(77,undef),(78,undef),(79,undef),(80,undef),(81,undef),(82,.bool true)]
        ⟨ym r5,CQ r6 (fun _=>Bi (by rw[hn];rfl)),ym r5,AX r6,AX r6,AX r6,AX r6,A3 ⟨69,rfl,rfl,fun _ _ h=>h⟩ rfl (fun _=>rfl),A3 ⟨69,rfl,rfl,fun _ _ h=>h⟩ rfl (fun _=>rfl),AX r6,B8 r7,ym r5,AX r6,AX r6,AX r6,A3 ⟨77,rfl,rfl,fun _ _ h=>h⟩ rfl (fun _=>rfl),A3 ⟨77,rfl,rfl,fun _ _ h=>h⟩ rfl (fun _=>rfl),A3 ⟨77,rfl,rfl,fun _ _ h=>h⟩ rfl (fun _=>rfl),AX r6,B8 r7,ALu⟩ fun a53 w53 g53 Td=>?_
       have Po:=AA g51 g53
       refine Aa (v:=.bool true) Td r6 fun a54 ME=>?_
       have AEs:Sv _ _ [_,_,_,_,_,_,_,_,_,_,_,_,_,_,_,_,_,_,_,_,_,_,_,_,_,_,_,_,_] _:=ME.dl [63,64,65,66,67,68,69,70,71,72,73,74,75,76,77,78,79,80,81,82,13,14]
       refine AE ?_
       refine k52 _ _ ?_
       refine ALo fun K56 k56=>?_
       refine ALn ?_
       replace Ah:=AC Po Ah
       replace Aq:=AC Po Aq
       replace hk10:=hk10.kn Po
       replace hF:=hF.kn Po
       refine AI AEs 6 [(84,Ao vx.2.1 vx.2.2 (.slice ao ks.length cap)),(85,Bw r.1.addr (.slice ao15 (List.length own15) ac15) r.1.joint (.slice wo15 (List.length wr15) wc15) (.slice bo15 r.1.body.length bc15) r.1.tag),(86,.tuple #[BR x.clean,.int .i64 0]),(83,.tuple #[BR x.clean,.int .i64 0]),(87,BR x.clean),(88,.int .i64 0)]
        ⟨yl r6 (BX hvd.1 hvd.2 (.slice ao ks.length cap) rfl) Ah,yl r6 (Dz _ _ hF.tg (.slice ao15 (List.length own15) ac15) (.slice wo15 (List.length wr15) wc15) (.slice bo15 r.1.body.length bc15) rfl rfl rfl) Aq,Ae [Ao vx.2.1 vx.2.2 (.slice ao ks.length cap),Bw r.1.addr (.slice ao15 (List.length own15) ac15) r.1.joint (.slice wo15 (List.length wr15) wc15) (.slice bo15 r.1.body.length bc15) r.1.tag] Tryz.func22 (by kernel_rfl) rq4 ⟨(oy rfl rfl),(oy rfl rfl),ALu⟩ (Au fun W g=>Nt (q:=(x.clean,0)) hvd.1 hvd.2 (hk10.kn g) rfl (hF.kn g) hq),ym r5,BC rq4 (fun _ _ h=>⟨_,_,h,rfl,rfl⟩),BC rq4 (fun _ _ h=>⟨_,_,h,rfl,rfl⟩),ALu⟩ fun a57 w57 g57 Ve=>?_
       replace AZ:=AC g57 (AC Po AZ)
       replace Ah:=AC g57 Ah
       replace Aq:=AC g57 Aq
       replace hk10:=hk10.kn g57
       replace hF:=hF.kn g57
       replace HG:=AA (AA HG Po) g57
       refine Av (T:=25) (Z:=[.int .i64 0,.int .i64 0,.string ⟨#[]⟩]) Ve rfl rfl rfl (fun a w=>by kernel_rfl) fun a58 w58 AJT Di g58 z58 LG Lf=>?_
       have JN:=Ar AZ Di
       have IJ:=Ar Ah Di
       have IK:=Ar Aq Di
       have Pp:=Bt HG Di
       have JO:=A1 (hk10.lt) Di
       have LH:=A1 (hF.lt) Di
       refine As Lf r7 (C6 x.clean) LG rfl fun w59 g59 h59=>?_
       refine Aa (v:=.int .i64 0) Lf r6 fun a60 YN=>?_
       have Lg:Sv _ _ [_,_,_,_,_,_,_,_,_,_,_,_,_,_,_,_,_,_,_,_,_,_,_,_,_,_,_,_,_,_,_] _:=YN.dl [84,85,86,83,87,88]
       refine AE ?_
       refine k56 _ _ ?_
       refine ALo fun K62 k62=>?_
       refine ALo fun K63 k63=>?_
       refine ALn ?_
       refine AI Lg 2 [(89,.bool true),(90,.bool false)]
        ⟨ym r5,Cl r6 (fun _=>BJ),ALu⟩ fun a64 w64 g64 Si=>?_
       refine AE ?_
       refine k63 _ _ ?_
       refine Az Si rfl rfl ?_
       refine ALs ?_
       refine k62 _ _ ?_
       refine ALo fun K65 k65=>?_
       replace AZ:=AC g64 (AY g59 (AC g58 AZ) (Ne.symm JN))
       replace LG:=AC g64 h59
       refine Ck Si [(107,.int .i64 0),(108,.bool true),(109,.bool true),(110,BR x.clean),(111,pt D9),(112,BR x),(113,BR x.clean),(114,.bool true),(115,.bool true),(116,.bool true),(117,.bool true),(118,.bool true),(6,.bool true)]
        ⟨ym r5,CQ r6 (fun _=>Bi rfl),ym r5,Ap rq9 (fun _ g=>Ac (C6 x.clean) (Af (AF g LG (by simp)))),BE rq9 (fun _=>by kernel_rfl),Ap rq9 (fun _ g=>Ac (C6 x) (BF (L:=[vc x,[.int .i64 n],[.bool true],[.int .i64 ca]]) (i:=0) (AF g AZ (by simp)) rfl rfl)),Bf [BR x] Tryz.func25 (by kernel_rfl) r7 ⟨(oy rfl rfl),ALu⟩ (Au fun W g=>Hm x W),Gn rfl rfl (gy rfl rfl rfl) (oy rfl rfl) (oy rfl rfl) (fun _=>LB (V.clean_ok x)) (fun _=>rfl),Ax rq9,ym r5,Bf [] Tryz.func13 (by kernel_rfl) r7 trivial (Au fun W g=>FK W),Ax rq9,Co 118 6 (.inr rfl) rfl rfl trivial (fun _ _ h=>h),ALu⟩ fun a66 w66 g66 WV=>?_
       refine k65 _ _ ?_
       replace AZ:=AC g66 AZ
       replace Ah:=AC g66 (AC g64 (AY g59 (AC g58 Ah) (Ne.symm IJ)))
       replace Aq:=AC g66 (AC g64 (AY g59 (AC g58 Aq) (Ne.symm IK)))
       replace hk10:=(((hk10.kn g58).offR g59 (AV JO)).kn g64).kn g66
       replace hF:=(((hF.kn g58).offR g59 (AV LH)).kn g64).kn g66
       replace HG:=AA (AA (AD (AA HG g58) g59 Pp) g64) g66
       refine ALr ?_
       repeat refine AL ?_
       refine BH (fn:=Tryz.f9) WV (BD (p:=6) Tryz.results9 WV rfl rfl) ?_
       exact⟨rfl,HG⟩
     · have hq:DE (ks.map VK.p) r.1=(x.clean,0):=by rw[←hres,←hvx];exact ADV hO hl
       refine Ck GL [(55,pk D9 3),(56,.int .i64 n),(57,.int .i64 ((bits .and .i64 n 63))),(58,pk D9 3),(59,.int .i64 n),(60,.int .i64 gg),(61,.int .i64 ((bits .and .i64 n gg))),(62,.int .i64 ((bits .and .i64 (bits .and .i64 n gg) 63))),(13,.int .i64 ((bits .and .i64 n 63))),(14,.int .i64 ((bits .and .i64 (bits .and .i64 n gg) 63)))]
        ⟨yf r6 (fun _=>by kernel_rfl),yp (i:=1) r6 (C3 n) AZ rfl rfl,CQ r6 (fun _=>DS rfl),yf r6 (fun _=>by kernel_rfl),yp (i:=1) r6 (C3 n) AZ rfl rfl,ym r5,Hc r7 (fun _=>DS rfl),CQ r6 (fun _=>DS rfl),Co 57 13 (.inr rfl) rfl rfl trivial (fun _ _ h=>h),Co 62 14 (.inr rfl) rfl rfl trivial (fun _ _ h=>h),ALu⟩ fun a67 w67 g67 Yx=>?_
       refine k50 _ _ ?_
       refine ALo fun K68 k68=>?_
       refine ALn ?_
       refine AI Yx 20 [(63,.int .i64 ((bits .and .i64 n 63))),(64,.bool false),(65,.bool false),(66,pk D9 4),(67,.bool true),(68,.bool false),(69,.bool false),(70,undef),(71,undef),(72,.bool false),(73,.bool false),(74,.bool false),(75,pk D9 4),(76,.bool true),(77,.bool true),(78,.int .i64 ((bits .and .i64 (bits .and .i64 n gg) 63))),(79,.int .i64 ((bits .and .i64 n 63))),(80,.bool true),(81,.bool true),(82,.bool true)]
        ⟨ym r5,CQ r6 (fun _=>Bi (by simpa using hn)),ym r5,BE rq9 (fun _=>by kernel_rfl),Ap rq9 (fun _ g=>Ac (N6 true) (BF (L:=[vc x,[.int .i64 n],[.bool true],[.int .i64 ca]]) (i:=2) (AF g (AC g67 AZ) (by simp)) rfl rfl)),Fc rfl rfl (gy rfl rfl rfl) (oy rfl rfl) (fun _=>BJ) (fun _=>rfl),Aw rq8,AX r6,AX r6,Ea rfl rfl (gy rfl rfl rfl) (oy rfl rfl) rfl (fun _=>rfl),Ax rq9,ym r5,BE rq9 (fun _=>by kernel_rfl),Ap rq9 (fun _ g=>Ac (N6 true) (BF (L:=[vc x,[.int .i64 n],[.bool true],[.int .i64 ca]]) (i:=2) (AF g (AC g67 AZ) (by simp)) rfl rfl)),Aw rq8,Aw rq8,Aw rq8,Gn rfl rfl (gy rfl rfl rfl) (oy rfl rfl) (oy rfl rfl) (fun _=>Dt (by simpa using hl)) (fun _=>rfl),Ea rfl rfl (gy rfl rfl rfl) (oy rfl rfl) (oy rfl rfl) (fun _=>rfl),Ax rq9,ALu⟩ fun a69 w69 g69 ADB=>?_
       have Pq:=AA g67 g69
       refine Aa (v:=.bool true) ADB r6 fun a70 Sj=>?_
       have AJU:Sv _ _ [_,_,_,_,_,_,_,_,_,_,_,_,_,_,_,_,_,_,_,_,_,_,_,_,_,_,_,_,_] _:=Sj.dl [63,64,65,66,67,68,69,70,71,72,73,74,75,76,77,78,79,80,81,82,13,14]
       refine AE ?_
       refine k68 _ _ ?_
       refine ALo fun K72 k72=>?_
       refine ALn ?_
       replace Ah:=AC Pq Ah
       replace Aq:=AC Pq Aq
       replace hk10:=hk10.kn Pq
       replace hF:=hF.kn Pq
       refine AI AJU 6 [(84,Ao vx.2.1 vx.2.2 (.slice ao ks.length cap)),(85,Bw r.1.addr (.slice ao15 (List.length own15) ac15) r.1.joint (.slice wo15 (List.length wr15) wc15) (.slice bo15 r.1.body.length bc15) r.1.tag),(86,.tuple #[BR x.clean,.int .i64 0]),(83,.tuple #[BR x.clean,.int .i64 0]),(87,BR x.clean),(88,.int .i64 0)]
        ⟨yl r6 (BX hvd.1 hvd.2 (.slice ao ks.length cap) rfl) Ah,yl r6 (Dz _ _ hF.tg (.slice ao15 (List.length own15) ac15) (.slice wo15 (List.length wr15) wc15) (.slice bo15 r.1.body.length bc15) rfl rfl rfl) Aq,Ae [Ao vx.2.1 vx.2.2 (.slice ao ks.length cap),Bw r.1.addr (.slice ao15 (List.length own15) ac15) r.1.joint (.slice wo15 (List.length wr15) wc15) (.slice bo15 r.1.body.length bc15) r.1.tag] Tryz.func22 (by kernel_rfl) rq4 ⟨(oy rfl rfl),(oy rfl rfl),ALu⟩ (Au fun W g=>Nt (q:=(x.clean,0)) hvd.1 hvd.2 (hk10.kn g) rfl (hF.kn g) hq),ym r5,BC rq4 (fun _ _ h=>⟨_,_,h,rfl,rfl⟩),BC rq4 (fun _ _ h=>⟨_,_,h,rfl,rfl⟩),ALu⟩ fun a73 w73 g73 WA=>?_
       replace AZ:=AC g73 (AC Pq AZ)
       replace Ah:=AC g73 Ah
       replace Aq:=AC g73 Aq
       replace hk10:=hk10.kn g73
       replace hF:=hF.kn g73
       replace HG:=AA (AA HG Pq) g73
       refine Av (T:=25) (Z:=[.int .i64 0,.int .i64 0,.string ⟨#[]⟩]) WA rfl rfl rfl (fun a w=>by kernel_rfl) fun a74 w74 AJV Dj g74 z74 LJ AFu=>?_
       have JP:=Ar AZ Dj
       have IL:=Ar Ah Dj
       have IM:=Ar Aq Dj
       have Pr:=Bt HG Dj
       have JQ:=A1 (hk10.lt) Dj
       have LK:=A1 (hF.lt) Dj
       refine As AFu r7 (C6 x.clean) LJ rfl fun w75 g75 h75=>?_
       refine Aa (v:=.int .i64 0) AFu r6 fun a76 Yf=>?_
       have AAr:Sv _ _ [_,_,_,_,_,_,_,_,_,_,_,_,_,_,_,_,_,_,_,_,_,_,_,_,_,_,_,_,_,_,_] _:=Yf.dl [84,85,86,83,87,88]
       refine AE ?_
       refine k72 _ _ ?_
       refine ALo fun K78 k78=>?_
       refine ALo fun K79 k79=>?_
       refine ALn ?_
       refine AI AAr 2 [(89,.bool true),(90,.bool false)]
        ⟨ym r5,Cl r6 (fun _=>BJ),ALu⟩ fun a80 w80 g80 AAk=>?_
       refine AE ?_
       refine k79 _ _ ?_
       refine Az AAk rfl rfl ?_
       refine ALs ?_
       refine k78 _ _ ?_
       refine ALo fun K81 k81=>?_
       replace AZ:=AC g80 (AY g75 (AC g74 AZ) (Ne.symm JP))
       replace LJ:=AC g80 h75
       refine Ck AAk [(107,.int .i64 0),(108,.bool true),(109,.bool true),(110,BR x.clean),(111,pt D9),(112,BR x),(113,BR x.clean),(114,.bool true),(115,.bool true),(116,.bool true),(117,.bool true),(118,.bool true),(6,.bool true)]
        ⟨ym r5,CQ r6 (fun _=>Bi rfl),ym r5,Ap rq9 (fun _ g=>Ac (C6 x.clean) (Af (AF g LJ (by simp)))),BE rq9 (fun _=>by kernel_rfl),Ap rq9 (fun _ g=>Ac (C6 x) (BF (L:=[vc x,[.int .i64 n],[.bool true],[.int .i64 ca]]) (i:=0) (AF g AZ (by simp)) rfl rfl)),Bf [BR x] Tryz.func25 (by kernel_rfl) r7 ⟨(oy rfl rfl),ALu⟩ (Au fun W g=>Hm x W),Gn rfl rfl (gy rfl rfl rfl) (oy rfl rfl) (oy rfl rfl) (fun _=>LB (V.clean_ok x)) (fun _=>rfl),Ax rq9,ym r5,Bf [] Tryz.func13 (by kernel_rfl) r7 trivial (Au fun W g=>FK W),Ax rq9,Co 118 6 (.inr rfl) rfl rfl trivial (fun _ _ h=>h),ALu⟩ fun a82 w82 g82 Qa=>?_
       refine k81 _ _ ?_
       replace AZ:=AC g82 AZ
       replace Ah:=AC g82 (AC g80 (AY g75 (AC g74 Ah) (Ne.symm IL)))
       replace Aq:=AC g82 (AC g80 (AY g75 (AC g74 Aq) (Ne.symm IM)))
       replace hk10:=(((hk10.kn g74).offR g75 (AV JQ)).kn g80).kn g82
       replace hF:=(((hF.kn g74).offR g75 (AV LK)).kn g80).kn g82
       replace HG:=AA (AA (AD (AA HG g74) g75 Pr) g80) g82
       refine ALr ?_
       repeat refine AL ?_
       refine BH (fn:=Tryz.f9) Qa (BD (p:=6) Tryz.results9 Qa rfl rfl) ?_
       exact⟨rfl,HG⟩
     · have hq:DE (ks.map VK.p) r.1=(V.nul,10):=by rw[←hres,←hvx];exact ADW hO hn hl
       refine Ck GL [(55,pk D9 3),(56,.int .i64 n),(57,.int .i64 ((bits .and .i64 n 63))),(58,pk D9 3),(59,.int .i64 n),(60,.int .i64 gg),(61,.int .i64 ((bits .and .i64 n gg))),(62,.int .i64 ((bits .and .i64 (bits .and .i64 n gg) 63))),(13,.int .i64 ((bits .and .i64 n 63))),(14,.int .i64 ((bits .and .i64 (bits .and .i64 n gg) 63)))]
        ⟨yf r6 (fun _=>by kernel_rfl),yp (i:=1) r6 (C3 n) AZ rfl rfl,CQ r6 (fun _=>DS rfl),yf r6 (fun _=>by kernel_rfl),yp (i:=1) r6 (C3 n) AZ rfl rfl,ym r5,Hc r7 (fun _=>DS rfl),CQ r6 (fun _=>DS rfl),Co 57 13 (.inr rfl) rfl rfl trivial (fun _ _ h=>h),Co 62 14 (.inr rfl) rfl rfl trivial (fun _ _ h=>h),ALu⟩ fun a83 w83 g83 Yi=>?_
       refine k50 _ _ ?_
       refine ALo fun K84 k84=>?_
       refine ALn ?_
       refine AI Yi 20 [(63,.int .i64 ((bits .and .i64 n 63))),(64,.bool false),(65,.bool false),(66,pk D9 4),(67,.bool true),(68,.bool false),(69,.bool false),(70,undef),(71,undef),(72,.bool false),(73,.bool false),(74,.bool false),(75,pk D9 4),(76,.bool true),(77,.bool true),(78,.int .i64 ((bits .and .i64 (bits .and .i64 n gg) 63))),(79,.int .i64 ((bits .and .i64 n 63))),(80,.bool false),(81,.bool false),(82,.bool false)]
        ⟨ym r5,CQ r6 (fun _=>Bi (by simpa using hn)),ym r5,BE rq9 (fun _=>by kernel_rfl),Ap rq9 (fun _ g=>Ac (N6 true) (BF (L:=[vc x,[.int .i64 n],[.bool true],[.int .i64 ca]]) (i:=2) (AF g (AC g83 AZ) (by simp)) rfl rfl)),Fc rfl rfl (gy rfl rfl rfl) (oy rfl rfl) (fun _=>BJ) (fun _=>rfl),Aw rq8,AX r6,AX r6,Ea rfl rfl (gy rfl rfl rfl) (oy rfl rfl) rfl (fun _=>rfl),Ax rq9,ym r5,BE rq9 (fun _=>by kernel_rfl),Ap rq9 (fun _ g=>Ac (N6 true) (BF (L:=[vc x,[.int .i64 n],[.bool true],[.int .i64 ca]]) (i:=2) (AF g (AC g83 AZ) (by simp)) rfl rfl)),Aw rq8,Aw rq8,Aw rq8,Gn rfl rfl (gy rfl rfl rfl) (oy rfl rfl) (oy rfl rfl) (fun _=>Dt (by rw[hl];simp)) (fun _=>rfl),Ea rfl rfl (gy rfl rfl rfl) (oy rfl rfl) (oy rfl rfl) (fun _=>rfl),Ax rq9,ALu⟩ fun a85 w85 g85 AAl=>?_
       have Ps:=AA g83 g85
       refine Aa (v:=.bool false) AAl r6 fun a86 EN=>?_
       have ADF:Sv _ _ [_,_,_,_,_,_,_,_,_,_,_,_,_,_,_,_,_,_,_,_,_,_,_,_,_,_,_,_,_] _:=EN.dl [63,64,65,66,67,68,69,70,71,72,73,74,75,76,77,78,79,80,81,82,13,14]
       refine AE ?_
       refine k84 _ _ ?_
       refine ALo fun K88 k88=>?_
       refine ALn ?_
       replace Ah:=AC Ps Ah
       replace Aq:=AC Ps Aq
       replace hk10:=hk10.kn Ps
       replace hF:=hF.kn Ps
       refine AI ADF 6 [(84,Ao vx.2.1 vx.2.2 (.slice ao ks.length cap)),(85,Bw r.1.addr (.slice ao15 (List.length own15) ac15) r.1.joint (.slice wo15 (List.length wr15) wc15) (.slice bo15 r.1.body.length bc15) r.1.tag),(86,.tuple #[BR V.nul,.int .i64 10]),(83,.tuple #[BR V.nul,.int .i64 10]),(87,BR V.nul),(88,.int .i64 10)]
        ⟨yl r6 (BX hvd.1 hvd.2 (.slice ao ks.length cap) rfl) Ah,yl r6 (Dz _ _ hF.tg (.slice ao15 (List.length own15) ac15) (.slice wo15 (List.length wr15) wc15) (.slice bo15 r.1.body.length bc15) rfl rfl rfl) Aq,Ae [Ao vx.2.1 vx.2.2 (.slice ao ks.length cap),Bw r.1.addr (.slice ao15 (List.length own15) ac15) r.1.joint (.slice wo15 (List.length wr15) wc15) (.slice bo15 r.1.body.length bc15) r.1.tag] Tryz.func22 (by kernel_rfl) rq4 ⟨(oy rfl rfl),(oy rfl rfl),ALu⟩ (Au fun W g=>Nt (q:=(V.nul,10)) hvd.1 hvd.2 (hk10.kn g) rfl (hF.kn g) hq),ym r5,BC rq4 (fun _ _ h=>⟨_,_,h,rfl,rfl⟩),BC rq4 (fun _ _ h=>⟨_,_,h,rfl,rfl⟩),ALu⟩ fun a89 w89 g89 Yj=>?_
       replace AZ:=AC g89 (AC Ps AZ)
       replace Ah:=AC g89 Ah
       replace Aq:=AC g89 Aq
       replace hk10:=hk10.kn g89
       replace hF:=hF.kn g89
       replace HG:=AA (AA HG Ps) g89
       refine Av (T:=25) (Z:=[.int .i64 0,.int .i64 0,.string ⟨#[]⟩]) Yj rfl rfl rfl (fun a w=>by kernel_rfl) fun a90 w90 AJW Dk g90 z90 LL AAt=>?_
       have JR:=Ar AZ Dk
       have IP:=Ar Ah Dk
       have IQ:=Ar Aq Dk
       have Pt:=Bt HG Dk
       have JS:=A1 (hk10.lt) Dk
       have LM:=A1 (hF.lt) Dk
       refine As AAt r7 (C6 V.nul) LL rfl fun w91 g91 h91=>?_
       refine Aa (v:=.int .i64 10) AAt r6 fun a92 WH=>?_
       have AJX:Sv _ _ [_,_,_,_,_,_,_,_,_,_,_,_,_,_,_,_,_,_,_,_,_,_,_,_,_,_,_,_,_,_,_] _:=WH.dl [84,85,86,83,87,88]
       refine AE ?_
       refine k88 _ _ ?_
       refine ALo fun K94 k94=>?_
       refine ALo fun K95 k95=>?_
       refine ALn ?_
       refine AI AJX 2 [(89,.bool false),(90,.bool true)]
        ⟨ym r5,Cl r6 (fun _=>BJ),ALu⟩ fun a96 w96 g96 Tm=>?_
       refine AE ?_
       refine k95 _ _ ?_
       refine Ay Tm rfl rfl ?_
       refine ALo fun K97 k97=>?_
       refine ALn ?_
       replace Ah:=AC g96 (AY g91 (AC g90 Ah) (Ne.symm IP))
       replace Aq:=AC g96 (AY g91 (AC g90 Aq) (Ne.symm IQ))
       replace LL:=AC g96 h91
       replace hk10:=((hk10.kn g90).offR g91 (AV JS)).kn g96
       replace hF:=((hF.kn g90).offR g91 (AV LM)).kn g96
       refine AI Tm 16 [(91,.int .i64 10),(92,.bool true),(93,.bool true),(94,BR V.nul),(95,BR V.nul),(96,.bool true),(97,.bool true),(98,.bool true),(99,Ao vx.2.1 vx.2.2 (.slice ao ks.length cap)),(100,Bw r.1.addr (.slice ao15 (List.length own15) ac15) r.1.joint (.slice wo15 (List.length wr15) wc15) (.slice bo15 r.1.body.length bc15) r.1.tag),(101,.bool false),(102,.bool true),(103,.bool true),(104,.bool true),(105,.bool true),(106,.bool true)]
        ⟨ym r5,CQ r6 (fun _=>Bi rfl),ym r5,Ap rq9 (fun _ g=>Ac (C6 V.nul) (Af (AF g LL (by simp)))),Ba (vs:=[]) rfl rfl (gy rfl rfl rfl) trivial (fun _=>NG _) (fun _=>rfl),Gn rfl rfl (gy rfl rfl rfl) (oy rfl rfl) (oy rfl rfl) (fun _=>LB V.nul_ok) (fun _=>rfl),Ax rq9,ym r5,Ap rq9 (fun _ g=>Ac (BX hvd.1 hvd.2 (.slice ao ks.length cap) rfl) (Af (AF g Ah (by simp)))),Ap rq9 (fun _ g=>Ac (Dz _ _ hF.tg (.slice ao15 (List.length own15) ac15) (.slice wo15 (List.length wr15) wc15) (.slice bo15 r.1.body.length bc15) rfl rfl rfl) (Af (AF g Aq (by simp)))),Bf [Ao vx.2.1 vx.2.2 (.slice ao ks.length cap),Bw r.1.addr (.slice ao15 (List.length own15) ac15) r.1.joint (.slice wo15 (List.length wr15) wc15) (.slice bo15 r.1.body.length bc15) r.1.tag] Tryz.func26 (by kernel_rfl) r7 ⟨(oy rfl rfl),(oy rfl rfl),ALu⟩ (Au fun W g=>Sy (q:=(V.nul,10)) hvd.1 hvd.2 (hk10.kn g) rfl (hF.kn g) hq rfl),Fc rfl rfl (gy rfl rfl rfl) (oy rfl rfl) (fun _=>BJ) (fun _=>rfl),Ax rq9,ym r5,Bf [] Tryz.func13 (by kernel_rfl) r7 trivial (Au fun W g=>FK W),Ax rq9,ALu⟩ fun a98 w98 g98 AFW=>?_
       refine Aa (v:=.bool true) AFW r6 fun a99 ADJ=>?_
       have ZZ:Sv _ _ [_,_,_,_,_,_,_,_,_,_,_,_,_,_,_,_,_,_,_,_,_,_,_,_,_,_,_,_,_,_,_,_,_,_] _:=ADJ.dl [91,92,93,94,95,96,97,98,99,100,101,102,103,104,105,106]
       refine AE ?_
       refine k97 _ _ ?_
       replace AZ:=AC g98 (AC g96 (AY g91 (AC g90 AZ) (Ne.symm JR)))
       replace hF:=hF.kn g98
       replace HG:=AA (AA (AD (AA HG g90) g91 Pt) g96) g98
       refine ALr ?_
       repeat refine AL ?_
       refine BH (fn:=Tryz.f9) ZZ (BD (p:=6) Tryz.results9 ZZ rfl rfl) ?_
       exact⟨rfl,HG⟩
 · refine ALn ?_
   refine AI sv4 4 [(18,pt D9),(19,BR x),(20,.bool false),(21,.bool true)]
     ⟨yf r6 (fun _=>by kernel_rfl),yp (i:=0) r6 (C6 x) AZ rfl rfl,Ae [BR x] Tryz.func12 (by kernel_rfl) rq4 ⟨(oy rfl rfl),ALu⟩ (Au fun W g=>(Qy x W).mono fun e w' ⟨h1,h2⟩=>⟨by rw[h1,decide_eq_false hsm],h2⟩),Cl r6 (fun _=>BJ),ALu⟩ fun a101 w101 g101 ND=>?_
   refine AE ?_
   refine k6 _ _ ?_
   refine Ay ND rfl rfl ?_
   refine ALo fun K102 k102=>?_
   refine ALn ?_
   refine AI ND 1 [(22,.bool true)]
     ⟨Ae [] Tryz.func13 (by kernel_rfl) rq4 trivial (Au fun W g=>FK W),ALu⟩ fun a103 w103 g103 QE=>?_
   refine Aa (v:=.bool true) QE r6 fun a104 Og=>?_
   refine AE ?_
   refine k102 _ _ ?_
   replace HG:=AA (AA HG g101) g103
   refine ALr ?_
   repeat refine AL ?_
   refine BH (fn:=Tryz.f9) Og (BD (p:=6) Tryz.results9 Og rfl rfl) ?_
   exact⟨rfl,HG⟩
theorem Wq (seed:List Nat) (hse:Dg seed) (x:V) (n:Int) (ca gg:Int) (w:World) :
   Calls Tryz.prog 9 #[AP seed,Dl x n false ca,.int .i64 gg] w fun e w'=>e=.returned (.bool true)∧w.grownBy w' none:=by
 obtain⟨vx,hvx⟩:∃v,V6 seed=v:=⟨_,rfl⟩
 have hvd:Dg vx.2.1∧Dg vx.2.2:=hvx▸AIJ seed
 have hvv:CH vx.1=true:=hvx▸MX seed
 obtain⟨r,hres⟩:∃r,KN vx.1 x n false ca=r:=⟨_,rfl⟩
 have hz:=(Un seed x n false ca).2.1
 rw[hvx,hres] at hz
 obtain⟨A,hA⟩:∃A,M5 ca=A:=⟨_,rfl⟩
 have hAa:Br A=true:=hA▸De ca
 have hO0:OV (Tg seed gg A 0) vx.1 6:=hvx▸Tg0 (JE seed 6 (Nat.le_refl _))
 refine Bg Tryz.func9 rfl Tryz.ntmps9 rfl fun a0 sv0=>?_
 have HG:=World.grownBy.refl w none
 replace sv0:Sv 119 [] [(0,AP seed),(1,Dl x n false ca),(2,.int .i64 gg)] a0:=sv0
 refine ALo fun K1 k1=>?_
 refine ALn ?_
 refine Bn sv0 r6 (CD seed hse.1) fun a2 w2 Ia Ib g2 z2 Ab sv2=>?_
 refine Bn sv2 r6 (Qg x n false ca) fun a3 w3 D9 OM g3 z3 AZ sv3=>?_
 replace Ab:=AC g3 Ab
 replace HG:=AA (AA HG g2) g3
 refine Aa (v:=.bool false) sv3 r6 fun a4 sv4=>?_
 refine AE ?_
 refine k1 _ _ ?_
 refine ALo fun K5 k5=>?_
 refine ALo fun K6 k6=>?_
 by_cases hsm:x.text.size≤100
 · refine ALn ?_
   refine AI sv4 4 [(18,pt D9),(19,BR x),(20,.bool true),(21,.bool false)]
     ⟨yf r6 (fun _=>by kernel_rfl),yp (i:=0) r6 (C6 x) AZ rfl rfl,Ae [BR x] Tryz.func12 (by kernel_rfl) rq4 ⟨(oy rfl rfl),ALu⟩ (Au fun W g=>(Qy x W).mono fun e w' ⟨h1,h2⟩=>⟨by rw[h1,decide_eq_true hsm],h2⟩),Cl r6 (fun _=>BJ),ALu⟩ fun a7 w7 g7 sv7=>?_
   refine AE ?_
   refine k6 _ _ ?_
   refine Az sv7 rfl rfl ?_
   refine ALs ?_
   refine k5 _ _ ?_
   refine ALo fun K8 k8=>?_
   refine ALn ?_
   replace Ab:=AC g7 Ab
   refine E6 (sv7.st w7) 2 [(23,Sp.is (AP seed)),(24,Sp.vv vx (fun _=>False))] rfl (by kernel_rfl) (by kernel_rfl) (by kernel_rfl)
     ⟨yl r6 (CD seed hse.1) Ab,Ae [AP seed] Tryz.func14 (by kernel_rfl) rq4 ⟨(oy rfl rfl),ALu⟩ (hvx▸ZX hse),ALu⟩ fun a9 w9 g9 st9=>?_
   obtain⟨hn9,hd9,e9_23,e9_24,e9_18,e9_19,e9_20,e9_21,e9_6,e9_4,e9_3,e9_0,e9_1,e9_2,-⟩:=st9
   obtain⟨ao10,cap10,ks10,e9_24q,hp10,hk10,hf10⟩:=e9_24
   replace Ab:=AC g9 Ab
   replace AZ:=AC g9 (AC g7 AZ)
   replace HG:=AA (AA HG g7) g9
   have El:=Gd hf10 Ab (by decide)
   have Em:=Gd hf10 AZ (by decide)
   have sv9:Sv 119 [] [(18,_),(19,_),(20,_),(21,_),(6,_),(4,_),(3,_),(0,_),(1,_),(2,_),(24,_)] a9:=⟨hn9,hd9,e9_18,e9_19,e9_20,e9_21,e9_6,e9_4,e9_3,e9_0,e9_1,e9_2,e9_24q,ALu⟩
   refine Av (T:=36) (Z:=([bv AQ,bv AQ,[.slice none 0 0]].flatten)) sv9 rfl rfl rfl (fun a w=>by kernel_rfl) fun a11 w11 S5 Gf g11 z11 Ah CV=>?_
   have Fg:=Ar Ab Gf
   have Fh:=Ar AZ Gf
   have MY:=Bt HG Gf
   have Cn:=A1 (hk10.lt) Gf
   refine As CV r7 (BX hvd.1 hvd.2 (.slice ao10 ks10.length cap10) rfl) Ah (by first|rfl|simp[Ag,AJ,AU,hvd.1.1,hvd.2.1]) fun w12 g12 h12=>?_
   replace AZ:=AY g12 (AC g11 AZ) (Ne.symm Fh)
   replace hk10:=(hk10.kn g11).offR g12 (AV Cn)
   replace Ah:=h12
   refine AE ?_
   refine k8 _ _ ?_
   refine ALo fun K13 k13=>?_
   refine ALn ?_
   refine E6 (CV.st w12) 6 [(26,Sp.is (Dl x n false ca)),(27,Sp.is (Ao vx.2.1 vx.2.2 (.slice ao10 ks10.length cap10))),(28,Sp.sr w12.heap.size r),(25,Sp.sr w12.heap.size r),(29,Sp.sl w12.heap.size r.1),(30,Sp.is (.int .i64 r.2))] rfl (by kernel_rfl) (by kernel_rfl) (by kernel_rfl)
     ⟨yl r6 (Qg x n false ca) AZ,yl r6 (BX hvd.1 hvd.2 (.slice ao10 ks10.length cap10) rfl) Ah,Ae [Dl x n false ca,Ao vx.2.1 vx.2.2 (.slice ao10 ks10.length cap10)] Tryz.func15 (by kernel_rfl) rq4 ⟨(oy rfl rfl),(oy rfl rfl),ALu⟩ (ZV hvd.1 hvd.2 hk10 hp10 hres),ym r5,BC rq4 (fun w u h=>ZP w u h),BC rq4 (fun w u h=>Np w u h),ALu⟩ fun a14 w14 g14 st14=>?_
   obtain⟨hn14,hd14,e14_26,e14_27,e14_28,e14_25,e14_29,e14_30,e14_7,e14_18,e14_19,e14_20,e14_21,e14_6,e14_4,e14_3,e14_0,e14_1,e14_2,e14_24,-⟩:=st14
   obtain⟨own15,wr15,ao15,wo15,bo15,ac15,wc15,bc15,e14_29q,hF,fr15⟩:=e14_29
   have MZ:=CK fr15 Ah
   replace Ab:=AC g14 (AY g12 (AC g11 Ab) (Ne.symm Fg))
   replace AZ:=AC g14 AZ
   replace Ah:=AC g14 Ah
   replace hk10:=hk10.kn g14
   replace HG:=AA (AD (AA HG g11) g12 MY) g14
   have Db:Sv 119 [] [(7,_),(18,_),(19,_),(20,_),(21,_),(6,_),(4,_),(3,_),(0,_),(1,_),(2,_),(24,_),(29,_),(30,_)] a14:=⟨hn14,hd14,e14_7,e14_18,e14_19,e14_20,e14_21,e14_6,e14_4,e14_3,e14_0,e14_1,e14_2,e14_24,e14_29q,e14_30,ALu⟩
   refine Av (T:=31) (Z:=([[.int .i64 0],[.slice none 0 0],[.int .i64 0],[.slice none 0 0],[.slice none 0 0],bv AQ].flatten)) Db rfl rfl rfl (fun a w=>by kernel_rfl) fun a16 w16 S6 ER g16 z16 Aq Cu=>?_
   have Jz:=Ar Ab ER
   have J0:=Ar AZ ER
   have FL:=Ar Ah ER
   have S7:=Bt HG ER
   have DI:=A1 (hk10.lt) ER
   have Ma:=A1 (hF.lt) ER
   replace hF:=hF.kn g16
   refine As Cu r7 (Dz _ _ hF.tg (.slice ao15 (List.length own15) ac15) (.slice wo15 (List.length wr15) wc15) (.slice bo15 r.1.body.length bc15) rfl rfl rfl) Aq (FS AO hF.tg) fun w17 g17 h17=>?_
   refine Aa (v:=.int .i64 r.2) Cu r6 fun a18 CU=>?_
   refine AE ?_
   refine k13 _ _ ?_
   refine ALo fun K19 k19=>?_
   refine ALo fun K20 k20=>?_
   refine ALn ?_
   refine AI CU 2 [(31,.int .i64 r.2),(32,.bool false)]
     ⟨ym r5,CQ r6 (fun _=>Dt (by rw[hz];rfl)),ALu⟩ fun a21 w21 g21 Da=>?_
   refine AE ?_
   refine k20 _ _ ?_
   refine Az Da rfl rfl ?_
   refine ALs ?_
   refine k19 _ _ ?_
   refine ALo fun K22 k22=>?_
   refine ALo fun K23 k23=>?_
   refine ALn ?_
   refine Aa (v:=.int .i64 0) Da r6 fun a24 CI=>?_
   refine AE ?_
   refine k23 _ _ ?_
   refine BM fun Q25 x25 y25 rt25 o25=>?_
   replace Ab:=AC g21 (AY g17 (AC g16 Ab) (Ne.symm Jz))
   replace AZ:=AC g21 (AY g17 (AC g16 AZ) (Ne.symm J0))
   replace Ah:=AC g21 (AY g17 (AC g16 Ah) (Ne.symm FL))
   replace Aq:=AC g21 h17
   replace hk10:=((hk10.kn g16).offR g17 (AV DI)).kn g21
   replace hF:=(hF.offR g17 (AV Ma)).kn g21
   replace HG:=AA (AD (AA HG g16) g17 S7) g21
   refine wp_loop (fun a w'=>∃(i:Nat) (ks:List VK) (ao:Option Addr) (cap:Nat),(i≤6)∧(OV (Tg seed gg A i) (ks.map VK.p) 6)∧Sv 119 [] [(10,.int .i64 ((i:Int))),(31,.int .i64 r.2),(32,.bool false),(9,.int .i64 r.2),(8,pt S6),(7,pt S5),(18,pt D9),(19,BR x),(20,.bool true),(21,.bool false),(4,pt D9),(3,pt Ia),(0,AP seed),(1,Dl x n false ca),(2,.int .i64 gg),(24,Ao vx.2.1 vx.2.2 (.slice ao10 ks10.length cap10)),(29,Bw r.1.addr (.slice ao15 (List.length own15) ac15) r.1.joint (.slice wo15 (List.length wr15) wc15) (.slice bo15 r.1.body.length bc15) r.1.tag),(30,.int .i64 r.2)] a∧w.grownBy w' none∧w'.heap[Ia]?=some (.cells (bv seed).toArray 23 (0,0))∧w'.heap[D9]?=some (.cells ([vc x,[.int .i64 n],[.bool false],[.int .i64 ca]].flatten).toArray 27 (0,0))∧w'.heap[S5]?=some (.cells ([bv vx.2.1,bv vx.2.2,[.slice ao ks.length cap]].flatten).toArray 36 (0,0))∧w'.heap[S6]?=some (.cells ([[.int .i64 r.1.addr],[.slice ao15 (List.length own15) ac15],[.int .i64 r.1.joint],[.slice wo15 (List.length wr15) wc15],[.slice bo15 r.1.body.length bc15],bv r.1.tag].flatten).toArray 31 (0,0))∧RdK w' (.slice ao ks.length cap) ks∧SdF w' r.1 own15 wr15 ao15 wo15 bo15 ac15 wc15 bc15∧(∀k,KX (.slice ao ks.length cap) ks k→k≠Ia)∧(∀k,KX (.slice ao ks.length cap) ks k→k≠D9)∧(∀k,KX (.slice ao ks.length cap) ks k→k≠S5)∧(∀k,KX (.slice ao ks.length cap) ks k→k≠S6)) (fun a _=>(6-intOf (a.tmps.getD 10 undef)).toNat) ⟨0,ks10,ao10,cap10,by omega,by rw[hp10];exact hO0,⟨CI.1,CI.2.1,CI.2.2.1,CI.2.2.2.1,CI.2.2.2.2.1,CI.2.2.2.2.2.1,CI.2.2.2.2.2.2.1,CI.2.2.2.2.2.2.2.1,(AH CI).1,(AH CI).2.1,(AH CI).2.2.1,(AH CI).2.2.2.1,(AH CI).2.2.2.2.2.1,(AH CI).2.2.2.2.2.2.1,(AH CI).2.2.2.2.2.2.2.1,(AH (AH CI)).1,(AH (AH CI)).2.1,(AH (AH CI)).2.2.1,(AH (AH CI)).2.2.2.1,(AH (AH CI)).2.2.2.2.1,ALu⟩,HG,Ab,AZ,Ah,Aq,hk10,hF,El,Em,Cn,DI⟩ fun a26 w26 hI26=>?_
   clear Ab
   clear AZ
   clear Ah
   clear Aq
   clear hk10
   clear hF
   clear HG
   obtain⟨i,ks,ao,cap,hi6,hO,Cj,HG,Ab,AZ,Ah,Aq,hk10,hF,El,Em,Cn,DI⟩:=hI26
   refine ALo fun K27 k27=>?_
   refine ALo fun K28 k28=>?_
   by_cases hi:i<6
   · refine ALn ?_
     refine AI Cj 2 [(33,.int .i64 ((i:Int))),(34,.bool true)]
       ⟨ym r5,CQ r6 (fun _=>Bv (decide_eq_true (by omega))),ALu⟩ fun a29 w29 g29 CR=>?_
     refine AE ?_
     refine k28 _ _ ?_
     refine Ay CR rfl rfl ?_
     refine ALs ?_
     refine k27 _ _ ?_
     refine ALo fun K30 k30=>?_
     refine BM fun Q31 x31 y31 rt31 o31=>?_
     refine ALo fun K32 k32=>?_
     replace Ab:=AC g29 Ab
     replace AZ:=AC g29 AZ
     replace Ah:=AC g29 Ah
     replace Aq:=AC g29 Aq
     replace hk10:=hk10.kn g29
     replace hF:=hF.kn g29
     replace HG:=AA HG g29
     by_cases hb:FJ gg i=1
     · refine ALn ?_
       refine AI CR 6 [(37,.int .i64 gg),(38,.int .i64 ((i:Int))),(39,.int .u64 ((i:Int))),(40,.int .i64 ((gg/2^i))),(41,.int .i64 ((FJ gg i))),(42,.bool true)]
        ⟨ym r5,ym r5,Hd r6 (fun _=>He Tryz.underlying3 Tryz.underlying48 (Gr (by omega) (by omega))),Hc r7 (fun _=>Mu i (by omega) rfl),CQ r6 (fun _=>DS rfl),CQ r6 (fun _=>Bi (by rw[hb];rfl)),ALu⟩ fun a33 w33 g33 IZ=>?_
       refine AE ?_
       refine k32 _ _ ?_
       refine Ay IZ rfl rfl ?_
       refine ALo fun K34 k34=>?_
       replace Ab:=AC g33 Ab
       replace AZ:=AC g33 AZ
       replace Ah:=AC g33 Ah
       replace Aq:=AC g33 Aq
       replace hk10:=hk10.kn g33
       replace hF:=hF.kn g33
       replace HG:=AA HG g33
       refine DZ (IZ.st w33) (by kernel_rfl) 10 [(44,Sp.is (Ao vx.2.1 vx.2.2 (.slice ao ks.length cap))),(45,Sp.is (.int .i64 ((i:Int)))),(46,Sp.is (AP ((EQ i)))),(47,Sp.is (Dl x n false ca)),(48,Sp.is (.int .i64 A)),(49,Sp.vt ((Jo (ks.map VK.p) (EQ i) (tree (kd 275 (QG seed i)) [A]),vx.2.1,vx.2.2),(0:Int)) ((fun _=>False))),(43,Sp.vt ((Jo (ks.map VK.p) (EQ i) (tree (kd 275 (QG seed i)) [A]),vx.2.1,vx.2.2),(0:Int)) ((fun _=>False))),(50,Sp.vv (Jo (ks.map VK.p) (EQ i) (tree (kd 275 (QG seed i)) [A]),vx.2.1,vx.2.2) ((fun _=>False))),(51,Sp.is (.int .i64 0)),(11,Sp.new w33.heap.size (([bv AQ,bv AQ,[.slice none 0 0]].flatten)) 36)] rfl (by kernel_rfl) (by kernel_rfl) (by kernel_rfl) [8] (by kernel_rfl)
        ⟨yl r6 (BX hvd.1 hvd.2 (.slice ao ks.length cap) rfl) Ah,ym r5,Ae [.int .i64 ((i:Int))] Tryz.func30 (by kernel_rfl) rq4 ⟨(oy rfl rfl),ALu⟩ (Au fun W g=>Ky i hi W),yl r6 (Qg x n false ca) AZ,Ae [Dl x n false ca] Tryz.func19 (by kernel_rfl) rq4 ⟨(oy rfl rfl),ALu⟩ (Au fun W g=>hA▸Pl x n false ca W),Ae [Ao vx.2.1 vx.2.2 (.slice ao ks.length cap),AP ((EQ i)),.int .i64 A] Tryz.func31 (by kernel_rfl) rq4 ⟨(oy rfl rfl),(oy rfl rfl),(oy rfl rfl),ALu⟩ (AE0 hvd.1 hvd.2 (Kx i) hk10 rfl (AFt hO hi hAa)),ym r5,BC rq4 (fun w u h=>Ov w u h),BC rq4 (fun w u h=>No w u h),L3 rfl trivial (Nat.le_refl _) (fun a w=>by kernel_rfl) (fun _ _ h=>h),ALu⟩ ⟨fun o ho=>by obtain rfl:=Option.some.inj ho;exact Iw rfl rfl rfl trivial (fun w u h=>No w u h),ALu⟩
        [11] (by kernel_rfl) ⟨Sp.new_lt,ALu⟩ ⟨.inl rfl,.inl rfl,.inl rfl,.inl rfl,.inl rfl,.inl rfl,.inl rfl,.inl rfl,.inl rfl,.inr ⟨rfl,(([bv AQ,bv AQ,[.slice none 0 0]].flatten)).toArray,36,fun a w=>by kernel_rfl⟩,ALu⟩ (by kernel_rfl) fun a35 w35 g35 st35 nd35=>?_
       obtain⟨hn35,hd35,e35_44,e35_45,e35_46,e35_47,e35_48,e35_49,e35_43,e35_50,e35_51,e35_11,e35_37,e35_38,e35_39,e35_40,e35_41,e35_42,e35_33,e35_34,e35_10,e35_31,e35_32,e35_9,e35_8,e35_7,e35_18,e35_19,e35_20,e35_21,e35_4,e35_3,e35_0,e35_1,e35_2,e35_24,e35_29,e35_30,-⟩:=st35
       obtain⟨ao36,cap36,ks36,e35_50q,hp36,hk36,hf36⟩:=e35_50
       obtain⟨AJS,e35_11q,DB,Ii⟩:=e35_11
       have JJ:=Gj Ab DB
       have JK:=Gj AZ DB
       have IH:=Gj Ah DB
       have II:=Gj Aq DB
       have Pn:=Ua HG DB
       have JL:=Ly (hk10.lt) DB
       have LC:=Ly (hF.lt) DB
       replace Ab:=AC g35 Ab
       replace AZ:=AC g35 AZ
       replace Ah:=AC g35 Ah
       replace Aq:=AC g35 Aq
       have LD:=Gd hf36 Ab (by decide)
       have LF:=Gd hf36 AZ (by decide)
       have Fi:=Gd hf36 Ah (by decide)
       have J1:=Gd hf36 Aq (by decide)
       have JM:=Gd hf36 Ii (by decide)
       have Js:Sv 119 [] [(37,_),(38,_),(39,_),(40,_),(41,_),(42,_),(33,_),(34,_),(10,_),(31,_),(32,_),(9,_),(8,_),(7,_),(18,_),(19,_),(20,_),(21,_),(4,_),(3,_),(0,_),(1,_),(2,_),(24,_),(29,_),(30,_),(50,_),(51,_),(11,_)] a35:=⟨hn35,hd35,e35_37,e35_38,e35_39,e35_40,e35_41,e35_42,e35_33,e35_34,e35_10,e35_31,e35_32,e35_9,e35_8,e35_7,e35_18,e35_19,e35_20,e35_21,e35_4,e35_3,e35_0,e35_1,e35_2,e35_24,e35_29,e35_30,e35_50q,e35_51,e35_11q,ALu⟩
       refine As Js r7 (BX hvd.1 hvd.2 (.slice ao36 ks36.length cap36) rfl) Ii (by first|rfl|simp[Ag,AJ,AU,hvd.1.1,hvd.2.1]) fun w37 g37 h37=>?_
       replace Ah:=AY g37 Ah (Ne.symm IH)
       replace Ii:=h37
       refine Aa (v:=.int .i64 0) Js r6 fun a38 Ro=>?_
       refine AE ?_
       refine k34 _ _ ?_
       refine ALo fun K39 k39=>?_
       refine ALo fun K40 k40=>?_
       refine ALn ?_
       refine AI Ro 2 [(52,.int .i64 0),(53,.bool false)]
        ⟨ym r5,CQ r6 (fun _=>Dt rfl),ALu⟩ fun a41 w41 g41 Kh=>?_
       refine AE ?_
       refine k40 _ _ ?_
       refine Az Kh rfl rfl ?_
       refine ALs ?_
       refine k39 _ _ ?_
       refine ALn ?_
       refine AI Kh 1 [(54,Ao vx.2.1 vx.2.2 (.slice ao36 ks36.length cap36))]
        ⟨yl r6 (BX hvd.1 hvd.2 (.slice ao36 ks36.length cap36) rfl) (AC g41 Ii),ALu⟩ fun a42 w42 g42 GK=>?_
       have F6:=AA g41 g42
       refine As GK r7 (BX hvd.1 hvd.2 (.slice ao36 ks36.length cap36) rfl) (AC F6 Ah) (by first|rfl|simp[Ag,AJ,AU,hvd.1.1,hvd.2.1,hvd.1.1,hvd.2.1]) fun w43 g43 h43=>?_
       refine AE ?_
       refine y31 _ _ ?_
       refine k30 _ _ ?_
       refine ALn ?_
       refine AI GK 2 [(35,.int .i64 ((i:Int))),(36,.int .i64 (((i+1:Nat):Int)))]
        ⟨ym r5,CQ r6 (fun _=>DV (by rw[BG (by omega) (by omega)];omega)),ALu⟩ fun a44 w44 g44 PZ=>?_
       refine Aa (v:=.int .i64 (((i+1:Nat):Int))) PZ r6 fun a45 CL=>?_
       refine AE ?_
       replace Ab:=AC g44 (Al F6 g43 (AY g37 Ab (Ne.symm JJ)) (Ne.symm Fg))
       replace AZ:=AC g44 (Al F6 g43 (AY g37 AZ (Ne.symm JK)) (Ne.symm Fh))
       replace Ah:=AC g44 h43
       replace Aq:=AC g44 (Al F6 g43 (AY g37 Aq (Ne.symm II)) FL)
       replace hk10:=((((hk10.kn g35).offR g37 (AV JL)).kn F6).offR g43 (AV Cn)).kn g44
       replace hF:=((((hF.kn g35).offR g37 (AV LC)).kn F6).offR g43 (AV MZ)).kn g44
       replace hk36:=(((hk36.offR g37 (AV JM)).kn F6).offR g43 (AV Fi)).kn g44
       replace HG:=AA (AD (AA (AD (AA HG g35) g37 Pn) F6) g43 MY) g44
       exact⟨⟨i+1,ks36,ao36,cap36,by omega,by rw[hp36];exact AFs hO hi hb,⟨CL.1,CL.2.1,CL.2.2.1,(AH (AH CL)).2.1,(AH (AH CL)).2.2.1,(AH (AH CL)).2.2.2.1,(AH (AH CL)).2.2.2.2.1,(AH (AH CL)).2.2.2.2.2.1,(AH (AH CL)).2.2.2.2.2.2.1,(AH (AH CL)).2.2.2.2.2.2.2.1,(AH (AH (AH CL))).1,(AH (AH (AH CL))).2.1,(AH (AH (AH CL))).2.2.1,(AH (AH (AH CL))).2.2.2.1,(AH (AH (AH CL))).2.2.2.2.1,(AH (AH (AH CL))).2.2.2.2.2.1,(AH (AH (AH CL))).2.2.2.2.2.2.1,(AH (AH (AH CL))).2.2.2.2.2.2.2.1,(AH (AH (AH (AH CL)))).1,(AH (AH (AH (AH CL)))).2.1,ALu⟩,HG,Ab,AZ,Ah,Aq,hk36,hF,LD,LF,Fi,J1⟩,by rw[show _=_ from CL.2.2.1,show _=_ from Cj.2.2.1];simp[intOf];omega⟩
     · refine ALn ?_
       refine AI CR 6 [(37,.int .i64 gg),(38,.int .i64 ((i:Int))),(39,.int .u64 ((i:Int))),(40,.int .i64 ((gg/2^i))),(41,.int .i64 ((FJ gg i))),(42,.bool false)]
        ⟨ym r5,ym r5,Hd r6 (fun _=>He Tryz.underlying3 Tryz.underlying48 (Gr (by omega) (by omega))),Hc r7 (fun _=>Mu i (by omega) rfl),CQ r6 (fun _=>DS rfl),CQ r6 (fun _=>Bi (by simpa using hb)),ALu⟩ fun a46 w46 g46 IC=>?_
       refine AE ?_
       refine k32 _ _ ?_
       refine Az IC rfl rfl ?_
       refine ALs ?_
       refine y31 _ _ ?_
       refine k30 _ _ ?_
       refine ALn ?_
       refine AI IC 2 [(35,.int .i64 ((i:Int))),(36,.int .i64 (((i+1:Nat):Int)))]
        ⟨ym r5,CQ r6 (fun _=>DV (by rw[BG (by omega) (by omega)];omega)),ALu⟩ fun a47 w47 g47 Ld=>?_
       have Nu:=AA g46 g47
       refine Aa (v:=.int .i64 (((i+1:Nat):Int))) Ld r6 fun a48 Dh=>?_
       refine AE ?_
       replace Ab:=AC Nu Ab
       replace AZ:=AC Nu AZ
       replace Ah:=AC Nu Ah
       replace Aq:=AC Nu Aq
       replace hk10:=hk10.kn Nu
       replace hF:=hF.kn Nu
       replace HG:=AA HG Nu
       exact⟨⟨i+1,ks,ao,cap,by omega,AIK hO hb,⟨Dh.1,Dh.2.1,Dh.2.2.1,(AH Dh).2.2.2.2.2.1,(AH Dh).2.2.2.2.2.2.1,(AH Dh).2.2.2.2.2.2.2.1,(AH (AH Dh)).1,(AH (AH Dh)).2.1,(AH (AH Dh)).2.2.1,(AH (AH Dh)).2.2.2.1,(AH (AH Dh)).2.2.2.2.1,(AH (AH Dh)).2.2.2.2.2.1,(AH (AH Dh)).2.2.2.2.2.2.1,(AH (AH Dh)).2.2.2.2.2.2.2.1,(AH (AH (AH Dh))).1,(AH (AH (AH Dh))).2.1,(AH (AH (AH Dh))).2.2.1,(AH (AH (AH Dh))).2.2.2.1,(AH (AH (AH Dh))).2.2.2.2.1,(AH (AH (AH Dh))).2.2.2.2.2.1,ALu⟩,HG,Ab,AZ,Ah,Aq,hk10,hF,El,Em,Cn,DI⟩,by rw[show _=_ from Dh.2.2.1,show _=_ from Cj.2.2.1];simp[intOf];omega⟩
   · obtain rfl:i=6:=by omega
     refine ALn ?_
     refine AI Cj 2 [(33,.int .i64 (((6:Nat):Int))),(34,.bool false)]
       ⟨ym r5,CQ r6 (fun _=>Bv (by simp)),ALu⟩ fun a49 w49 g49 GL=>?_
     refine AE ?_
     refine k28 _ _ ?_
     refine Az GL rfl rfl ?_
     refine wp_exit ?_
     repeat refine CW ?_
     refine x25 _ _ ?_
     refine k22 _ _ ?_
     refine ALo fun K50 k50=>?_
     replace AZ:=AC g49 AZ
     replace Ah:=AC g49 Ah
     replace Aq:=AC g49 Aq
     replace hk10:=hk10.kn g49
     replace hF:=hF.kn g49
     replace HG:=AA HG g49
     rw[←hA] at hO
     rcases(show(bits .and .i64 n 63=0)∨(¬bits .and .i64 n 63=0∧bits .and .i64 (bits .and .i64 n gg) 63=0)∨(¬bits .and .i64 n 63=0∧¬bits .and .i64 (bits .and .i64 n gg) 63=0) by by_cases h1:bits .and .i64 n 63=0<;>by_cases h2:bits .and .i64 (bits .and .i64 n gg) 63=0<;>simp[h1,h2]) with hn|⟨hn,hl⟩|⟨hn,hl⟩
     · have hq:DE (ks.map VK.p) r.1=(x.clean,0):=by rw[←hres,←hvx];exact Up hO hn
       refine Ck GL [(55,pk D9 3),(56,.int .i64 n),(57,.int .i64 ((bits .and .i64 n 63))),(58,pk D9 3),(59,.int .i64 n),(60,.int .i64 gg),(61,.int .i64 ((bits .and .i64 n gg))),(62,.int .i64 ((bits .and .i64 (bits .and .i64 n gg) 63))),(13,.int .i64 ((bits .and .i64 n 63))),(14,.int .i64 ((bits .and .i64 (bits .and .i64 n gg) 63)))]
        ⟨yf r6 (fun _=>by kernel_rfl),yp (i:=1) r6 (C3 n) AZ rfl rfl,CQ r6 (fun _=>DS rfl),yf r6 (fun _=>by kernel_rfl),yp (i:=1) r6 (C3 n) AZ rfl rfl,ym r5,Hc r7 (fun _=>DS rfl),CQ r6 (fun _=>DS rfl),Co 57 13 (.inr rfl) rfl rfl trivial (fun _ _ h=>h),Co 62 14 (.inr rfl) rfl rfl trivial (fun _ _ h=>h),ALu⟩ fun a51 w51 g51 ED=>?_
       refine k50 _ _ ?_
       refine ALo fun K52 k52=>?_
       refine ALn ?_
       refine AI ED 20 [(63,.int .i64 ((bits .and .i64 n 63))),(64,.bool true),(65,.bool true),(66,undef),(67,undef),(68,undef),(69,undef),(70,undef),(71,undef),(72,undef),(73,.bool true),(74,.bool true),(75,undef),(76,undef),(77,undef),(78,undef),(79,undef),(80,undef),(81,undef),(82,.bool true)]
        ⟨ym r5,CQ r6 (fun _=>Bi (by rw[hn];rfl)),ym r5,AX r6,AX r6,AX r6,AX r6,A3 ⟨69,rfl,rfl,fun _ _ h=>h⟩ rfl (fun _=>rfl),A3 ⟨69,rfl,rfl,fun _ _ h=>h⟩ rfl (fun _=>rfl),AX r6,B8 r7,ym r5,AX r6,AX r6,AX r6,A3 ⟨77,rfl,rfl,fun _ _ h=>h⟩ rfl (fun _=>rfl),A3 ⟨77,rfl,rfl,fun _ _ h=>h⟩ rfl (fun _=>rfl),A3 ⟨77,rfl,rfl,fun _ _ h=>h⟩ rfl (fun _=>rfl),AX r6,B8 r7,ALu⟩ fun a53 w53 g53 Td=>?_
       have Po:=AA g51 g53
       refine Aa (v:=.bool true) Td r6 fun a54 ME=>?_
       have AEs:Sv _ _ [_,_,_,_,_,_,_,_,_,_,_,_,_,_,_,_,_,_,_,_,_,_,_,_,_,_,_,_,_] _:=ME.dl [63,64,65,66,67,68,69,70,71,72,73,74,75,76,77,78,79,80,81,82,13,14]
       refine AE ?_
       refine k52 _ _ ?_
       refine ALo fun K56 k56=>?_
       refine ALn ?_
       replace Ah:=AC Po Ah
       replace Aq:=AC Po Aq
       replace hk10:=hk10.kn Po
       replace hF:=hF.kn Po
       refine AI AEs 6 [(84,Ao vx.2.1 vx.2.2 (.slice ao ks.length cap)),(85,Bw r.1.addr (.slice ao15 (List.length own15) ac15) r.1.joint (.slice wo15 (List.length wr15) wc15) (.slice bo15 r.1.body.length bc15) r.1.tag),(86,.tuple #[BR x.clean,.int .i64 0]),(83,.tuple #[BR x.clean,.int .i64 0]),(87,BR x.clean),(88,.int .i64 0)]
        ⟨yl r6 (BX hvd.1 hvd.2 (.slice ao ks.length cap) rfl) Ah,yl r6 (Dz _ _ hF.tg (.slice ao15 (List.length own15) ac15) (.slice wo15 (List.length wr15) wc15) (.slice bo15 r.1.body.length bc15) rfl rfl rfl) Aq,Ae [Ao vx.2.1 vx.2.2 (.slice ao ks.length cap),Bw r.1.addr (.slice ao15 (List.length own15) ac15) r.1.joint (.slice wo15 (List.length wr15) wc15) (.slice bo15 r.1.body.length bc15) r.1.tag] Tryz.func22 (by kernel_rfl) rq4 ⟨(oy rfl rfl),(oy rfl rfl),ALu⟩ (Au fun W g=>Nt (q:=(x.clean,0)) hvd.1 hvd.2 (hk10.kn g) rfl (hF.kn g) hq),ym r5,BC rq4 (fun _ _ h=>⟨_,_,h,rfl,rfl⟩),BC rq4 (fun _ _ h=>⟨_,_,h,rfl,rfl⟩),ALu⟩ fun a57 w57 g57 Ve=>?_
       replace AZ:=AC g57 (AC Po AZ)
       replace Ah:=AC g57 Ah
       replace Aq:=AC g57 Aq
       replace hk10:=hk10.kn g57
       replace hF:=hF.kn g57
       replace HG:=AA (AA HG Po) g57
       refine Av (T:=25) (Z:=[.int .i64 0,.int .i64 0,.string ⟨#[]⟩]) Ve rfl rfl rfl (fun a w=>by kernel_rfl) fun a58 w58 AJT Di g58 z58 LG Lf=>?_
       have JN:=Ar AZ Di
       have IJ:=Ar Ah Di
       have IK:=Ar Aq Di
       have Pp:=Bt HG Di
       have JO:=A1 (hk10.lt) Di
       have LH:=A1 (hF.lt) Di
       refine As Lf r7 (C6 x.clean) LG rfl fun w59 g59 h59=>?_
       refine Aa (v:=.int .i64 0) Lf r6 fun a60 YN=>?_
       have Lg:Sv _ _ [_,_,_,_,_,_,_,_,_,_,_,_,_,_,_,_,_,_,_,_,_,_,_,_,_,_,_,_,_,_,_] _:=YN.dl [84,85,86,83,87,88]
       refine AE ?_
       refine k56 _ _ ?_
       refine ALo fun K62 k62=>?_
       refine ALo fun K63 k63=>?_
       refine ALn ?_
       refine AI Lg 2 [(89,.bool true),(90,.bool false)]
        ⟨ym r5,Cl r6 (fun _=>BJ),ALu⟩ fun a64 w64 g64 Si=>?_
       refine AE ?_
       refine k63 _ _ ?_
       refine Az Si rfl rfl ?_
       refine ALs ?_
       refine k62 _ _ ?_
       refine ALo fun K65 k65=>?_
       replace AZ:=AC g64 (AY g59 (AC g58 AZ) (Ne.symm JN))
       replace LG:=AC g64 h59
       refine Ck Si [(107,.int .i64 0),(108,.bool true),(109,.bool true),(110,BR x.clean),(111,pt D9),(112,BR x),(113,BR x.clean),(114,.bool true),(115,.bool true),(116,.bool true),(117,.bool true),(118,.bool true),(6,.bool true)]
        ⟨ym r5,CQ r6 (fun _=>Bi rfl),ym r5,Ap rq9 (fun _ g=>Ac (C6 x.clean) (Af (AF g LG (by simp)))),BE rq9 (fun _=>by kernel_rfl),Ap rq9 (fun _ g=>Ac (C6 x) (BF (L:=[vc x,[.int .i64 n],[.bool false],[.int .i64 ca]]) (i:=0) (AF g AZ (by simp)) rfl rfl)),Bf [BR x] Tryz.func25 (by kernel_rfl) r7 ⟨(oy rfl rfl),ALu⟩ (Au fun W g=>Hm x W),Gn rfl rfl (gy rfl rfl rfl) (oy rfl rfl) (oy rfl rfl) (fun _=>LB (V.clean_ok x)) (fun _=>rfl),Ax rq9,ym r5,Bf [] Tryz.func13 (by kernel_rfl) r7 trivial (Au fun W g=>FK W),Ax rq9,Co 118 6 (.inr rfl) rfl rfl trivial (fun _ _ h=>h),ALu⟩ fun a66 w66 g66 WV=>?_
       refine k65 _ _ ?_
       replace AZ:=AC g66 AZ
       replace Ah:=AC g66 (AC g64 (AY g59 (AC g58 Ah) (Ne.symm IJ)))
       replace Aq:=AC g66 (AC g64 (AY g59 (AC g58 Aq) (Ne.symm IK)))
       replace hk10:=(((hk10.kn g58).offR g59 (AV JO)).kn g64).kn g66
       replace hF:=(((hF.kn g58).offR g59 (AV LH)).kn g64).kn g66
       replace HG:=AA (AA (AD (AA HG g58) g59 Pp) g64) g66
       refine ALr ?_
       repeat refine AL ?_
       refine BH (fn:=Tryz.f9) WV (BD (p:=6) Tryz.results9 WV rfl rfl) ?_
       exact⟨rfl,HG⟩
     · have hq:DE (ks.map VK.p) r.1=(x.clean,0):=by rw[←hres,←hvx];exact ADT hO hl
       refine Ck GL [(55,pk D9 3),(56,.int .i64 n),(57,.int .i64 ((bits .and .i64 n 63))),(58,pk D9 3),(59,.int .i64 n),(60,.int .i64 gg),(61,.int .i64 ((bits .and .i64 n gg))),(62,.int .i64 ((bits .and .i64 (bits .and .i64 n gg) 63))),(13,.int .i64 ((bits .and .i64 n 63))),(14,.int .i64 ((bits .and .i64 (bits .and .i64 n gg) 63)))]
        ⟨yf r6 (fun _=>by kernel_rfl),yp (i:=1) r6 (C3 n) AZ rfl rfl,CQ r6 (fun _=>DS rfl),yf r6 (fun _=>by kernel_rfl),yp (i:=1) r6 (C3 n) AZ rfl rfl,ym r5,Hc r7 (fun _=>DS rfl),CQ r6 (fun _=>DS rfl),Co 57 13 (.inr rfl) rfl rfl trivial (fun _ _ h=>h),Co 62 14 (.inr rfl) rfl rfl trivial (fun _ _ h=>h),ALu⟩ fun a67 w67 g67 Yx=>?_
       refine k50 _ _ ?_
       refine ALo fun K68 k68=>?_
       refine ALn ?_
       refine AI Yx 20 [(63,.int .i64 ((bits .and .i64 n 63))),(64,.bool false),(65,.bool false),(66,pk D9 4),(67,.bool false),(68,.bool true),(69,.bool true),(70,.int .i64 ((bits .and .i64 (bits .and .i64 n gg) 63))),(71,.bool true),(72,.bool true),(73,.bool true),(74,.bool true),(75,undef),(76,undef),(77,undef),(78,undef),(79,undef),(80,undef),(81,undef),(82,.bool true)]
        ⟨ym r5,CQ r6 (fun _=>Bi (by simpa using hn)),ym r5,BE rq9 (fun _=>by kernel_rfl),Ap rq9 (fun _ g=>Ac (N6 false) (BF (L:=[vc x,[.int .i64 n],[.bool false],[.int .i64 ca]]) (i:=2) (AF g (AC g67 AZ) (by simp)) rfl rfl)),Fc rfl rfl (gy rfl rfl rfl) (oy rfl rfl) (fun _=>BJ) (fun _=>rfl),Aw rq8,Aw rq8,Bc rq9 (fun _=>Bi (by rw[hl];rfl)),Ea rfl rfl (gy rfl rfl rfl) (oy rfl rfl) (oy rfl rfl) (fun _=>rfl),Ax rq9,ym r5,AX r6,AX r6,AX r6,A3 ⟨77,rfl,rfl,fun _ _ h=>h⟩ rfl (fun _=>rfl),A3 ⟨77,rfl,rfl,fun _ _ h=>h⟩ rfl (fun _=>rfl),A3 ⟨77,rfl,rfl,fun _ _ h=>h⟩ rfl (fun _=>rfl),AX r6,B8 r7,ALu⟩ fun a69 w69 g69 ADB=>?_
       have Pq:=AA g67 g69
       refine Aa (v:=.bool true) ADB r6 fun a70 Sj=>?_
       have AJU:Sv _ _ [_,_,_,_,_,_,_,_,_,_,_,_,_,_,_,_,_,_,_,_,_,_,_,_,_,_,_,_,_] _:=Sj.dl [63,64,65,66,67,68,69,70,71,72,73,74,75,76,77,78,79,80,81,82,13,14]
       refine AE ?_
       refine k68 _ _ ?_
       refine ALo fun K72 k72=>?_
       refine ALn ?_
       replace Ah:=AC Pq Ah
       replace Aq:=AC Pq Aq
       replace hk10:=hk10.kn Pq
       replace hF:=hF.kn Pq
       refine AI AJU 6 [(84,Ao vx.2.1 vx.2.2 (.slice ao ks.length cap)),(85,Bw r.1.addr (.slice ao15 (List.length own15) ac15) r.1.joint (.slice wo15 (List.length wr15) wc15) (.slice bo15 r.1.body.length bc15) r.1.tag),(86,.tuple #[BR x.clean,.int .i64 0]),(83,.tuple #[BR x.clean,.int .i64 0]),(87,BR x.clean),(88,.int .i64 0)]
        ⟨yl r6 (BX hvd.1 hvd.2 (.slice ao ks.length cap) rfl) Ah,yl r6 (Dz _ _ hF.tg (.slice ao15 (List.length own15) ac15) (.slice wo15 (List.length wr15) wc15) (.slice bo15 r.1.body.length bc15) rfl rfl rfl) Aq,Ae [Ao vx.2.1 vx.2.2 (.slice ao ks.length cap),Bw r.1.addr (.slice ao15 (List.length own15) ac15) r.1.joint (.slice wo15 (List.length wr15) wc15) (.slice bo15 r.1.body.length bc15) r.1.tag] Tryz.func22 (by kernel_rfl) rq4 ⟨(oy rfl rfl),(oy rfl rfl),ALu⟩ (Au fun W g=>Nt (q:=(x.clean,0)) hvd.1 hvd.2 (hk10.kn g) rfl (hF.kn g) hq),ym r5,BC rq4 (fun _ _ h=>⟨_,_,h,rfl,rfl⟩),BC rq4 (fun _ _ h=>⟨_,_,h,rfl,rfl⟩),ALu⟩ fun a73 w73 g73 WA=>?_
       replace AZ:=AC g73 (AC Pq AZ)
       replace Ah:=AC g73 Ah
       replace Aq:=AC g73 Aq
       replace hk10:=hk10.kn g73
       replace hF:=hF.kn g73
       replace HG:=AA (AA HG Pq) g73
       refine Av (T:=25) (Z:=[.int .i64 0,.int .i64 0,.string ⟨#[]⟩]) WA rfl rfl rfl (fun a w=>by kernel_rfl) fun a74 w74 AJV Dj g74 z74 LJ AFu=>?_
       have JP:=Ar AZ Dj
       have IL:=Ar Ah Dj
       have IM:=Ar Aq Dj
       have Pr:=Bt HG Dj
       have JQ:=A1 (hk10.lt) Dj
       have LK:=A1 (hF.lt) Dj
       refine As AFu r7 (C6 x.clean) LJ rfl fun w75 g75 h75=>?_
       refine Aa (v:=.int .i64 0) AFu r6 fun a76 Yf=>?_
       have AAr:Sv _ _ [_,_,_,_,_,_,_,_,_,_,_,_,_,_,_,_,_,_,_,_,_,_,_,_,_,_,_,_,_,_,_] _:=Yf.dl [84,85,86,83,87,88]
       refine AE ?_
       refine k72 _ _ ?_
       refine ALo fun K78 k78=>?_
       refine ALo fun K79 k79=>?_
       refine ALn ?_
       refine AI AAr 2 [(89,.bool true),(90,.bool false)]
        ⟨ym r5,Cl r6 (fun _=>BJ),ALu⟩ fun a80 w80 g80 AAk=>?_
       refine AE ?_
       refine k79 _ _ ?_
       refine Az AAk rfl rfl ?_
       refine ALs ?_
       refine k78 _ _ ?_
       refine ALo fun K81 k81=>?_
       replace AZ:=AC g80 (AY g75 (AC g74 AZ) (Ne.symm JP))
       replace LJ:=AC g80 h75
       refine Ck AAk [(107,.int .i64 0),(108,.bool true),(109,.bool true),(110,BR x.clean),(111,pt D9),(112,BR x),(113,BR x.clean),(114,.bool true),(115,.bool true),(116,.bool true),(117,.bool true),(118,.bool true),(6,.bool true)]
        ⟨ym r5,CQ r6 (fun _=>Bi rfl),ym r5,Ap rq9 (fun _ g=>Ac (C6 x.clean) (Af (AF g LJ (by simp)))),BE rq9 (fun _=>by kernel_rfl),Ap rq9 (fun _ g=>Ac (C6 x) (BF (L:=[vc x,[.int .i64 n],[.bool false],[.int .i64 ca]]) (i:=0) (AF g AZ (by simp)) rfl rfl)),Bf [BR x] Tryz.func25 (by kernel_rfl) r7 ⟨(oy rfl rfl),ALu⟩ (Au fun W g=>Hm x W),Gn rfl rfl (gy rfl rfl rfl) (oy rfl rfl) (oy rfl rfl) (fun _=>LB (V.clean_ok x)) (fun _=>rfl),Ax rq9,ym r5,Bf [] Tryz.func13 (by kernel_rfl) r7 trivial (Au fun W g=>FK W),Ax rq9,Co 118 6 (.inr rfl) rfl rfl trivial (fun _ _ h=>h),ALu⟩ fun a82 w82 g82 Qa=>?_
       refine k81 _ _ ?_
       replace AZ:=AC g82 AZ
       replace Ah:=AC g82 (AC g80 (AY g75 (AC g74 Ah) (Ne.symm IL)))
       replace Aq:=AC g82 (AC g80 (AY g75 (AC g74 Aq) (Ne.symm IM)))
       replace hk10:=(((hk10.kn g74).offR g75 (AV JQ)).kn g80).kn g82
       replace hF:=(((hF.kn g74).offR g75 (AV LK)).kn g80).kn g82
       replace HG:=AA (AA (AD (AA HG g74) g75 Pr) g80) g82
       refine ALr ?_
       repeat refine AL ?_
       refine BH (fn:=Tryz.f9) Qa (BD (p:=6) Tryz.results9 Qa rfl rfl) ?_
       exact⟨rfl,HG⟩
     · have hq:DE (ks.map VK.p) r.1=(V.nul,10):=by rw[←hres,←hvx];exact ADU hO hl
       refine Ck GL [(55,pk D9 3),(56,.int .i64 n),(57,.int .i64 ((bits .and .i64 n 63))),(58,pk D9 3),(59,.int .i64 n),(60,.int .i64 gg),(61,.int .i64 ((bits .and .i64 n gg))),(62,.int .i64 ((bits .and .i64 (bits .and .i64 n gg) 63))),(13,.int .i64 ((bits .and .i64 n 63))),(14,.int .i64 ((bits .and .i64 (bits .and .i64 n gg) 63)))]
        ⟨yf r6 (fun _=>by kernel_rfl),yp (i:=1) r6 (C3 n) AZ rfl rfl,CQ r6 (fun _=>DS rfl),yf r6 (fun _=>by kernel_rfl),yp (i:=1) r6 (C3 n) AZ rfl rfl,ym r5,Hc r7 (fun _=>DS rfl),CQ r6 (fun _=>DS rfl),Co 57 13 (.inr rfl) rfl rfl trivial (fun _ _ h=>h),Co 62 14 (.inr rfl) rfl rfl trivial (fun _ _ h=>h),ALu⟩ fun a83 w83 g83 Yi=>?_
       refine k50 _ _ ?_
       refine ALo fun K84 k84=>?_
       refine ALn ?_
       refine AI Yi 20 [(63,.int .i64 ((bits .and .i64 n 63))),(64,.bool false),(65,.bool false),(66,pk D9 4),(67,.bool false),(68,.bool true),(69,.bool true),(70,.int .i64 ((bits .and .i64 (bits .and .i64 n gg) 63))),(71,.bool false),(72,.bool false),(73,.bool false),(74,.bool false),(75,pk D9 4),(76,.bool false),(77,.bool false),(78,undef),(79,undef),(80,undef),(81,.bool false),(82,.bool false)]
        ⟨ym r5,CQ r6 (fun _=>Bi (by simpa using hn)),ym r5,BE rq9 (fun _=>by kernel_rfl),Ap rq9 (fun _ g=>Ac (N6 false) (BF (L:=[vc x,[.int .i64 n],[.bool false],[.int .i64 ca]]) (i:=2) (AF g (AC g83 AZ) (by simp)) rfl rfl)),Fc rfl rfl (gy rfl rfl rfl) (oy rfl rfl) (fun _=>BJ) (fun _=>rfl),Aw rq8,Aw rq8,Bc rq9 (fun _=>Bi (by simpa using hl)),Ea rfl rfl (gy rfl rfl rfl) (oy rfl rfl) (oy rfl rfl) (fun _=>rfl),Ax rq9,ym r5,BE rq9 (fun _=>by kernel_rfl),Ap rq9 (fun _ g=>Ac (N6 false) (BF (L:=[vc x,[.int .i64 n],[.bool false],[.int .i64 ca]]) (i:=2) (AF g (AC g83 AZ) (by simp)) rfl rfl)),Aw rq8,AX r6,AX r6,AX r6,Ea rfl rfl (gy rfl rfl rfl) (oy rfl rfl) rfl (fun _=>rfl),Ax rq9,ALu⟩ fun a85 w85 g85 AAl=>?_
       have Ps:=AA g83 g85
       refine Aa (v:=.bool false) AAl r6 fun a86 EN=>?_
       have ADF:Sv _ _ [_,_,_,_,_,_,_,_,_,_,_,_,_,_,_,_,_,_,_,_,_,_,_,_,_,_,_,_,_] _:=EN.dl [63,64,65,66,67,68,69,70,71,72,73,74,75,76,77,78,79,80,81,82,13,14]
       refine AE ?_
       refine k84 _ _ ?_
       refine ALo fun K88 k88=>?_
       refine ALn ?_
       replace Ah:=AC Ps Ah
       replace Aq:=AC Ps Aq
       replace hk10:=hk10.kn Ps
       replace hF:=hF.kn Ps
       refine AI ADF 6 [(84,Ao vx.2.1 vx.2.2 (.slice ao ks.length cap)),(85,Bw r.1.addr (.slice ao15 (List.length own15) ac15) r.1.joint (.slice wo15 (List.length wr15) wc15) (.slice bo15 r.1.body.length bc15) r.1.tag),(86,.tuple #[BR V.nul,.int .i64 10]),(83,.tuple #[BR V.nul,.int .i64 10]),(87,BR V.nul),(88,.int .i64 10)]
        ⟨yl r6 (BX hvd.1 hvd.2 (.slice ao ks.length cap) rfl) Ah,yl r6 (Dz _ _ hF.tg (.slice ao15 (List.length own15) ac15) (.slice wo15 (List.length wr15) wc15) (.slice bo15 r.1.body.length bc15) rfl rfl rfl) Aq,Ae [Ao vx.2.1 vx.2.2 (.slice ao ks.length cap),Bw r.1.addr (.slice ao15 (List.length own15) ac15) r.1.joint (.slice wo15 (List.length wr15) wc15) (.slice bo15 r.1.body.length bc15) r.1.tag] Tryz.func22 (by kernel_rfl) rq4 ⟨(oy rfl rfl),(oy rfl rfl),ALu⟩ (Au fun W g=>Nt (q:=(V.nul,10)) hvd.1 hvd.2 (hk10.kn g) rfl (hF.kn g) hq),ym r5,BC rq4 (fun _ _ h=>⟨_,_,h,rfl,rfl⟩),BC rq4 (fun _ _ h=>⟨_,_,h,rfl,rfl⟩),ALu⟩ fun a89 w89 g89 Yj=>?_
       replace AZ:=AC g89 (AC Ps AZ)
       replace Ah:=AC g89 Ah
       replace Aq:=AC g89 Aq
       replace hk10:=hk10.kn g89
       replace hF:=hF.kn g89
       replace HG:=AA (AA HG Ps) g89
       refine Av (T:=25) (Z:=[.int .i64 0,.int .i64 0,.string ⟨#[]⟩]) Yj rfl rfl rfl (fun a w=>by kernel_rfl) fun a90 w90 AJW Dk g90 z90 LL AAt=>?_
       have JR:=Ar AZ Dk
       have IP:=Ar Ah Dk
       have IQ:=Ar Aq Dk
       have Pt:=Bt HG Dk
       have JS:=A1 (hk10.lt) Dk
       have LM:=A1 (hF.lt) Dk
       refine As AAt r7 (C6 V.nul) LL rfl fun w91 g91 h91=>?_
       refine Aa (v:=.int .i64 10) AAt r6 fun a92 WH=>?_
       have AJX:Sv _ _ [_,_,_,_,_,_,_,_,_,_,_,_,_,_,_,_,_,_,_,_,_,_,_,_,_,_,_,_,_,_,_] _:=WH.dl [84,85,86,83,87,88]
       refine AE ?_
       refine k88 _ _ ?_
       refine ALo fun K94 k94=>?_
       refine ALo fun K95 k95=>?_
       refine ALn ?_
       refine AI AJX 2 [(89,.bool false),(90,.bool true)]
        ⟨ym r5,Cl r6 (fun _=>BJ),ALu⟩ fun a96 w96 g96 Tm=>?_
       refine AE ?_
       refine k95 _ _ ?_
       refine Ay Tm rfl rfl ?_
       refine ALo fun K97 k97=>?_
       refine ALn ?_
       replace Ah:=AC g96 (AY g91 (AC g90 Ah) (Ne.symm IP))
       replace Aq:=AC g96 (AY g91 (AC g90 Aq) (Ne.symm IQ))
       replace LL:=AC g96 h91
       replace hk10:=((hk10.kn g90).offR g91 (AV JS)).kn g96
       replace hF:=((hF.kn g90).offR g91 (AV LM)).kn g96
       refine AI Tm 16 [(91,.int .i64 10),(92,.bool true),(93,.bool true),(94,BR V.nul),(95,BR V.nul),(96,.bool true),(97,.bool true),(98,.bool true),(99,Ao vx.2.1 vx.2.2 (.slice ao ks.length cap)),(100,Bw r.1.addr (.slice ao15 (List.length own15) ac15) r.1.joint (.slice wo15 (List.length wr15) wc15) (.slice bo15 r.1.body.length bc15) r.1.tag),(101,.bool false),(102,.bool true),(103,.bool true),(104,.bool true),(105,.bool true),(106,.bool true)]
        ⟨ym r5,CQ r6 (fun _=>Bi rfl),ym r5,Ap rq9 (fun _ g=>Ac (C6 V.nul) (Af (AF g LL (by simp)))),Ba (vs:=[]) rfl rfl (gy rfl rfl rfl) trivial (fun _=>NG _) (fun _=>rfl),Gn rfl rfl (gy rfl rfl rfl) (oy rfl rfl) (oy rfl rfl) (fun _=>LB V.nul_ok) (fun _=>rfl),Ax rq9,ym r5,Ap rq9 (fun _ g=>Ac (BX hvd.1 hvd.2 (.slice ao ks.length cap) rfl) (Af (AF g Ah (by simp)))),Ap rq9 (fun _ g=>Ac (Dz _ _ hF.tg (.slice ao15 (List.length own15) ac15) (.slice wo15 (List.length wr15) wc15) (.slice bo15 r.1.body.length bc15) rfl rfl rfl) (Af (AF g Aq (by simp)))),Bf [Ao vx.2.1 vx.2.2 (.slice ao ks.length cap),Bw r.1.addr (.slice ao15 (List.length own15) ac15) r.1.joint (.slice wo15 (List.length wr15) wc15) (.slice bo15 r.1.body.length bc15) r.1.tag] Tryz.func26 (by kernel_rfl) r7 ⟨(oy rfl rfl),(oy rfl rfl),ALu⟩ (Au fun W g=>Sy (q:=(V.nul,10)) hvd.1 hvd.2 (hk10.kn g) rfl (hF.kn g) hq rfl),Fc rfl rfl (gy rfl rfl rfl) (oy rfl rfl) (fun _=>BJ) (fun _=>rfl),Ax rq9,ym r5,Bf [] Tryz.func13 (by kernel_rfl) r7 trivial (Au fun W g=>FK W),Ax rq9,ALu⟩ fun a98 w98 g98 AFW=>?_
       refine Aa (v:=.bool true) AFW r6 fun a99 ADJ=>?_
       have ZZ:Sv _ _ [_,_,_,_,_,_,_,_,_,_,_,_,_,_,_,_,_,_,_,_,_,_,_,_,_,_,_,_,_,_,_,_,_,_] _:=ADJ.dl [91,92,93,94,95,96,97,98,99,100,101,102,103,104,105,106]
       refine AE ?_
       refine k97 _ _ ?_
       replace AZ:=AC g98 (AC g96 (AY g91 (AC g90 AZ) (Ne.symm JR)))
       replace hF:=hF.kn g98
       replace HG:=AA (AA (AD (AA HG g90) g91 Pt) g96) g98
       refine ALr ?_
       repeat refine AL ?_
       refine BH (fn:=Tryz.f9) ZZ (BD (p:=6) Tryz.results9 ZZ rfl rfl) ?_
       exact⟨rfl,HG⟩
 · refine ALn ?_
   refine AI sv4 4 [(18,pt D9),(19,BR x),(20,.bool false),(21,.bool true)]
     ⟨yf r6 (fun _=>by kernel_rfl),yp (i:=0) r6 (C6 x) AZ rfl rfl,Ae [BR x] Tryz.func12 (by kernel_rfl) rq4 ⟨(oy rfl rfl),ALu⟩ (Au fun W g=>(Qy x W).mono fun e w' ⟨h1,h2⟩=>⟨by rw[h1,decide_eq_false hsm],h2⟩),Cl r6 (fun _=>BJ),ALu⟩ fun a101 w101 g101 ND=>?_
   refine AE ?_
   refine k6 _ _ ?_
   refine Ay ND rfl rfl ?_
   refine ALo fun K102 k102=>?_
   refine ALn ?_
   refine AI ND 1 [(22,.bool true)]
     ⟨Ae [] Tryz.func13 (by kernel_rfl) rq4 trivial (Au fun W g=>FK W),ALu⟩ fun a103 w103 g103 QE=>?_
   refine Aa (v:=.bool true) QE r6 fun a104 Og=>?_
   refine AE ?_
   refine k102 _ _ ?_
   replace HG:=AA (AA HG g101) g103
   refine ALr ?_
   repeat refine AL ?_
   refine BH (fn:=Tryz.f9) Og (BD (p:=6) Tryz.results9 Og rfl rfl) ?_
   exact⟨rfl,HG⟩
theorem Za (seed:List Nat) (hse:Dg seed) (x:V) (n:Int) (b:Bool) (ca gg:Int) (w:World):Calls Tryz.prog 9 #[AP seed,Dl x n b ca,.int .i64 gg] w fun e w'=>e=.returned (.bool true)∧w.grownBy w' none:=by
 cases b
 · exact Wq seed hse x n ca gg w
 · exact ZY seed hse x n ca gg w
end Go.Proofs.YtbfjfnbcmojpiaaGreat
