import Derived.Test.YtbfjfnbcmojpiaaGreatOtYA
import Derived.Test.YtbfjfnbcmojpiaaGreatOtY1
set_option linter.unusedSimpArgs false
set_option linter.unusedVariables false
set_option maxRecDepth 100000
set_option maxHeartbeats 4000000
namespace Go.Proofs.YtbfjfnbcmojpiaaGreat
open Go.RowKit Go.Shelf
theorem PS (w:World):(Instr.build 25 #[]).run Tryz.prog w=.ok (CE V.nul) w:=by kernel_rfl
theorem R4 {x:V} {c:Int} {y:V×Int} (h:y=(x,c)):Ending.returned (.tuple #[CE x,.int .i64 c])=Ending.returned (.tuple #[CE y.1,.int .i64 y.2]):=by rw[h]
theorem AHG {w:World} {b:List Nat} {v:Value} (hv:SlB w 1 v b.length (bv b)) (hb:By b) (hl:b.length≤100000):Calls Tryz.prog 107 #[v] w fun e w'=>∃u,e=.returned u∧(∃(x:V) (ao:Option Addr) (n cap:Nat) (er:Int),u=.tuple #[CE x,.slice ao n cap,.int .i64 er]∧w.grownBy w' none ∧
   ((er=0∧∃r,r.length=n∧pV b=.ok (x,r))∨(er≠0∧∃k,pV b=.error k))):=by
 refine(Sq v b w hv.1 (by omega) hb hv.2).mono ?_
 intro e w' h
 unfold ReadPost at h
 obtain⟨hg,h⟩:=h
 cases hp:pV b with
 | ok y =>
   obtain⟨x,r⟩:=y
   rw[hp] at h
   obtain⟨u,rv,rfl,hrep,hs,hlo⟩:=h
   obtain rfl:u=CE x:=hrep
   obtain⟨ao,cap,rfl,_⟩:=Sl.shape hs
   exact⟨_,rfl,x,ao,_,cap,0,rfl,hg,.inl ⟨rfl,r,rfl,rfl⟩⟩
 | error n =>
   rw[hp] at h
   obtain⟨rfl,hn⟩:=h
   exact⟨_,rfl,V.nul,none,0,0,n,rfl,hg,.inr ⟨by omega,n,rfl⟩⟩
theorem AHH {b:List Nat} {x:V} {n:Nat} {er:Int} (h:(er=0∧∃r,r.length=n∧pV b=.ok (x,r))∨(er≠0∧∃k,pV b=.error k)):(er≠0→KW b=(V.nul,101))∧(er=0→n=0→KW b=(x,0))∧(er=0→0<n→KW b=(V.nul,101)):=by
 rcases h with ⟨h0,r,rfl,hp⟩|⟨h0,k,hp⟩
 · exact⟨fun h=>absurd h0 h,fun _ h=>ABa (by rw[hp,List.eq_nil_of_length_eq_zero h]),fun _ h=>AC4 hp h⟩
 · exact⟨fun _=>AFD hp,fun h=>absurd h h0,fun h=>absurd h h0⟩
theorem Yp (b:List Nat) (hby:By b) (hl:b.length≤100000) (bo:Option Addr) (bc:Nat) (w:World) (hb:SlB w 1 (.slice bo b.length bc) b.length (bv b)) :
   Calls Tryz.prog 61 #[.slice bo b.length bc] w fun e w'=>e=.returned (.tuple #[CE (KW b).1,.int .i64 (KW b).2])∧w.grownBy w' none:=by
 refine Be Tryz.func61 rfl Tryz.ntmps61 rfl fun a0 sv0=>?_
 have HG:=World.grownBy.refl w none
 replace sv0:Sv 22 [] [(0,.slice bo b.length bc)] a0:=sv0
 refine ALl fun K1 k1=>?_
 refine ALk ?_
 refine Ax (T:=25) (Z:=[.int .i64 0,.int .i64 0,.string ⟨#[]⟩]) sv0 rfl rfl rfl (fun a w=>by kernel_rfl) fun a2 w2 Cf DV g2 z2 AJ sv2=>?_
 have Ey:=B7 HG DV
 refine Aa (v:=.int .i64 0) sv2 r6 fun a3 sv3=>?_
 refine AE ?_
 refine k1 _ _ ?_
 refine ALl fun K4 k4=>?_
 refine ALk ?_
 refine AK sv3 1 [(8,.slice bo b.length bc)]
   ⟨ym r5,ALr⟩ fun a5 w5 g5 sv5=>?_
 replace hb:=(hb.kn g2).kn g5
 refine Bo sv5 Tryz.func107 (by kernel_rfl) r6 (AHG hb hby hl) fun a6 v6 w6 hR6 sv6=>?_
 obtain⟨x,ro,rn,rc,er,rfl,g6,hcs⟩:=hR6
 obtain⟨hf1,hf2,hf3⟩:=AHH hcs
 refine AK sv6 4 [(7,.tuple #[CE x,.slice ro rn rc,.int .i64 er]),(10,CE x),(11,.slice ro rn rc),(12,.int .i64 er)]
   ⟨ym r5,BE rq4 (fun _ _ h=>⟨_,_,h,rfl,rfl⟩),BE rq4 (fun _ _ h=>⟨_,_,h,rfl,rfl⟩),BE rq4 (fun _ _ h=>⟨_,_,h,rfl,rfl⟩),ALr⟩ fun a7 w7 g7 sv7=>?_
 replace AJ:=AC g7 (AC g6 (AC g5 AJ))
 replace HG:=AA (AA (AA (AA HG g2) g5) g6) g7
 refine Ax (T:=25) (Z:=[.int .i64 0,.int .i64 0,.string ⟨#[]⟩]) sv7 rfl rfl rfl (fun a w=>by kernel_rfl) fun a8 w8 ALh ABb g8 z8 Yq sv8=>?_
 have Nv:=Au AJ ABb
 have AHI:=B7 HG ABb
 refine Ap sv8 r7 (EP x) Yq rfl fun w9 g9 h9=>?_
 replace AJ:=AX g9 (AC g8 AJ) (Ne.symm Nv)
 replace HG:=AD (AA HG g8) g9 AHI
 replace Yq:=h9
 refine Aa (v:=.slice ro rn rc) sv8 r6 fun a10 Cj=>?_
 refine Aa (v:=.int .i64 er) Cj r6 fun a11 CY=>?_
 have Df:Sv _ _ [_,_,_,_,_] _:=CY.dl [7,10,11,12,9,8,0]
 refine AE ?_
 refine k4 _ _ ?_
 refine ALl fun K13 k13=>?_
 refine ALl fun K14 k14=>?_
 rcases(show er≠0∨(er=0∧rn=0)∨(er=0∧0<rn) by omega) with h1|⟨h1,h2⟩|⟨h1,h2⟩
 · refine ALk ?_
   refine AK Df 7 [(13,.int .i64 er),(14,.bool true),(15,.bool true),(16,undef),(17,undef),(18,undef),(19,.bool true)]
    ⟨ym r5,Cq r6 (fun _=>EU (by simpa using h1)),ym r5,Ab r6,Ab r6,Ab r6,CK r7,ALr⟩ fun a15 w15 g15 Pq=>?_
   refine AE ?_
   refine k14 _ _ ?_
   refine Ar Pq rfl rfl ?_
   refine ALl fun K16 k16=>?_
   refine ALk ?_
   replace AJ:=AC g15 AJ
   refine AK Pq 1 [(20,CE V.nul)]
    ⟨BV (vs:=[]) rfl rfl trivial trivial (fun _=>PS _) (fun _=>rfl),ALr⟩ fun a17 w17 g17 Gh=>?_
   refine Ap Gh r7 (EP V.nul) (AC g17 AJ) rfl fun w18 g18 h18=>?_
   replace Yq:=Ah g17 g18 (AC g15 Yq) Nv
   replace HG:=AD (AA (AA HG g15) g17) g18 Ey
   replace AJ:=h18
   refine Aa (v:=.int .i64 101) Gh r6 fun a19 Er=>?_
   refine AE ?_
   refine k16 _ _ ?_
   refine ALo ?_
   repeat refine AM ?_
   refine BQ (fn:=Tryz.f61) Er (Gf (p:=2) (q:=3) Tryz.results61 Er rfl rfl rfl rfl (EP V.nul) AJ) ?_
   exact⟨R4 (hf1 h1),HG⟩
 · refine ALk ?_
   refine AK Df 7 [(13,.int .i64 er),(14,.bool false),(15,.bool false),(16,.slice ro rn rc),(17,.int .i64 ((rn:Nat))),(18,.bool false),(19,.bool false)]
    ⟨ym r5,Cq r6 (fun _=>EU (by simpa using h1)),ym r5,A1 rq8,Bv (Tryz.underlying29) rfl rfl (gy rfl rfl rfl) (oy rfl rfl) (fun _=>rfl),BZ rq9 (fun _=>DJ (decide_eq_false (by omega))),BC rq9,ALr⟩ fun a20 w20 g20 E5=>?_
   refine AE ?_
   refine k14 _ _ ?_
   refine Av E5 rfl rfl ?_
   refine ALp ?_
   refine k13 _ _ ?_
   refine ALl fun K21 k21=>?_
   refine ALk ?_
   refine AK E5 1 [(21,CE x)]
    ⟨yl r6 (EP x) (AC g20 Yq),ALr⟩ fun a22 w22 g22 Cv=>?_
   have Ph:=AA g20 g22
   refine Ap Cv r7 (EP x) (AC Ph AJ) rfl fun w23 g23 h23=>?_
   replace HG:=AD (AA HG Ph) g23 Ey
   replace AJ:=h23
   refine Aa (v:=.int .i64 0) Cv r6 fun a24 Cn=>?_
   refine AE ?_
   refine k21 _ _ ?_
   refine ALo ?_
   repeat refine AM ?_
   refine BQ (fn:=Tryz.f61) Cn (Gf (p:=2) (q:=3) Tryz.results61 Cn rfl rfl rfl rfl (EP x) AJ) ?_
   exact⟨R4 (hf2 h1 h2),HG⟩
 · refine ALk ?_
   refine AK Df 7 [(13,.int .i64 er),(14,.bool false),(15,.bool false),(16,.slice ro rn rc),(17,.int .i64 ((rn:Nat))),(18,.bool true),(19,.bool true)]
    ⟨ym r5,Cq r6 (fun _=>EU (by simpa using h1)),ym r5,A1 rq8,Bv (Tryz.underlying29) rfl rfl (gy rfl rfl rfl) (oy rfl rfl) (fun _=>rfl),BZ rq9 (fun _=>DJ (decide_eq_true (by omega))),BC rq9,ALr⟩ fun a25 w25 g25 DM=>?_
   refine AE ?_
   refine k14 _ _ ?_
   refine Ar DM rfl rfl ?_
   refine ALl fun K26 k26=>?_
   refine ALk ?_
   replace AJ:=AC g25 AJ
   refine AK DM 1 [(20,CE V.nul)]
    ⟨BV (vs:=[]) rfl rfl trivial trivial (fun _=>PS _) (fun _=>rfl),ALr⟩ fun a27 w27 g27 Gj=>?_
   refine Ap Gj r7 (EP V.nul) (AC g27 AJ) rfl fun w28 g28 h28=>?_
   replace HG:=AD (AA (AA HG g25) g27) g28 Ey
   replace AJ:=h28
   refine Aa (v:=.int .i64 101) Gj r6 fun a29 Cc=>?_
   refine AE ?_
   refine k26 _ _ ?_
   refine ALo ?_
   repeat refine AM ?_
   refine BQ (fn:=Tryz.f61) Cc (Gf (p:=2) (q:=3) Tryz.results61 Cc rfl rfl rfl rfl (EP V.nul) AJ) ?_
   exact⟨R4 (hf3 h1 h2),HG⟩
theorem AH0 {w:World} {b:List Nat} {q:V×Int} {v:Value} (hv:SlB w 1 v b.length (bv b)) (hb:By b) (hl:b.length≤100000) (hq:KW b=q):Calls Tryz.prog 61 #[v] w fun e w'=>e=.returned (.tuple #[CE q.1,.int .i64 q.2])∧w.grownBy w' none:=by
 subst hq
 obtain⟨ao,cap,rfl,_⟩:=Sl.shape hv.1
 exact Yp b hb hl ao cap w hv
theorem Oy {P:List VP} {s:Sd} (h:FK s=false∨CI P=false):Fd P s=(V.nul,1):=by
 unfold Fd
 rcases h with h|h<;>simp[h]
theorem PT {P:List VP} {s:Sd} (h1:FK s=true) (h2:CI P=true) (h3:s.own=[]):Fd P s=if tgC s.addr s.body=s.tag then KW s.body else (V.nul,101):=by
 unfold Fd
 simp[h1,h2,h3]
theorem AAa {P:List VP} {s:Sd} (h1:FK s=true) (h2:CI P=true) (h3:s.own≠[]) (h4:I8 P s=none):Fd P s=(V.nul,10):=by
 unfold Fd
 simp[h1,h2,h3,h4]
theorem MJ {P:List VP} {s:Sd} {c:List Nat} (h1:FK s=true) (h2:CI P=true) (h3:s.own≠[]) (h4:I8 P s=some c):Fd P s=if U6 c s.addr s.body=s.tag then KW (Jb s.body c) else (V.nul,101):=by
 unfold Fd
 simp[h1,h2,h3,h4]
theorem ABc {w:World} {ks:List VK} {vo:Option Addr} {vc:Nat} {sa po:List Nat} {P:List VP} {ad joint:Int} {od wd:List DD} {ao wo bo:Option Addr} {ac wc bc:Nat} {body tg:List Nat} {r:Option (List Nat)} {s:Sd} (hsa:Dg sa) (hpo:Dg po) (htg:Dg tg) (hr:RdK w (.slice vo ks.length vc) ks) (ho:RdD w (.slice ao od.length ac) od) (hw:RdD w (.slice wo wd.length wc) wd) (hb:SlB w 1 (.slice bo body.length bc) body.length (bv body)) (hP:ks.map VK.p=P) (hs:(⟨ad,od.map DD.x,joint,wd.map DD.x,body,tg⟩:Sd)=s) (hvs:FK s=true) (hres:I8 P s=r) :
  Calls Tryz.prog 62 #[Ao sa po (.slice vo ks.length vc),Ce ad (.slice ao od.length ac) joint (.slice wo wd.length wc) (.slice bo body.length bc) tg] w fun e w'=>∃u,e=.returned u∧(∃c,u=.tuple #[AR c,.bool r.isSome]∧Dg c∧(∀c',r=some c'→c'=c)∧w.grownBy w' none):=by
 subst hs hP hres
 exact(AAW ks vo vc sa po hsa hpo ad joint od wd ao wo bo ac wc bc body tg htg w hr ho hw hb hvs).mono fun e w' ⟨c,h1,h2⟩=>⟨_,h1,c,rfl,h2⟩
theorem QR {w:World} {ad joint:Int} {od wd:List DD} {ao wo bo:Option Addr} {ac wc bc:Nat} {body tg:List Nat} {b:Bool} {s:Sd} (htg:Dg tg) (ho:RdD w (.slice ao od.length ac) od) (hw:RdD w (.slice wo wd.length wc) wd) (hb:SlB w 1 (.slice bo body.length bc) body.length (bv body)) (hs:(⟨ad,od.map DD.x,joint,wd.map DD.x,body,tg⟩:Sd)=s) (hvs:FK s=b) :
  Calls Tryz.prog 27 #[Ce ad (.slice ao od.length ac) joint (.slice wo wd.length wc) (.slice bo body.length bc) tg] w fun e w'=>e=.returned (.bool b)∧w.grownBy w' none:=by
 subst hs hvs
 exact AG4 ad joint od wd ao wo bo ac wc bc body tg htg w ho hw hb
theorem AC6 (ks:List VK) (vo:Option Addr) (vc_:Nat) (sa po:List Nat) (hsa:Dg sa) (hpo:Dg po) (ad joint:Int) (od wd:List DD) (ao wo bo:Option Addr) (ac wc bc:Nat) (body tg:List Nat) (htg:Dg tg) (bby:By body) (w:World) (hr:RdK w (.slice vo ks.length vc_) ks) (ho:RdD w (.slice ao od.length ac) od) (hw:RdD w (.slice wo wd.length wc) wd) (hb:SlB w 1 (.slice bo body.length bc) body.length (bv body)) :
   Calls Tryz.prog 22 #[Ao sa po (.slice vo ks.length vc_),Ce ad (.slice ao od.length ac) joint (.slice wo wd.length wc) (.slice bo body.length bc) tg] w fun e w'=>e=.returned (.tuple #[CE (Fd (ks.map VK.p) ⟨ad,od.map DD.x,joint,wd.map DD.x,body,tg⟩).1,.int .i64 (Fd (ks.map VK.p) ⟨ad,od.map DD.x,joint,wd.map DD.x,body,tg⟩).2])∧w.grownBy w' none:=by
 obtain⟨P,hP⟩:∃P,ks.map VK.p=P:=⟨_,rfl⟩
 obtain⟨S,hS⟩:∃S:Sd,⟨ad,od.map DD.x,joint,wd.map DD.x,body,tg⟩=S:=⟨_,rfl⟩
 have s1:S.addr=ad:=by rw[←hS]
 have s2:S.own=od.map DD.x:=by rw[←hS]
 have s3:S.body=body:=by rw[←hS]
 have s4:S.tag=tg:=by rw[←hS]
 rw[hP,hS]
 refine Dn Tryz.func22 rfl Tryz.ntmps22 rfl fun a0 sv0=>?_
 have HG:=World.grownBy.refl w none
 replace sv0:Sv 62 [] [(0,Ao sa po (.slice vo ks.length vc_)),(1,Ce ad (.slice ao od.length ac) joint (.slice wo wd.length wc) (.slice bo body.length bc) tg)] a0:=sv0
 refine ALl fun K1 k1=>?_
 refine ALk ?_
 refine Bm sv0 r6 (BR hsa hpo (.slice vo ks.length vc_) rfl) fun a2 w2 Cf DV g2 z2 AJ sv2=>?_
 refine Bm sv2 r6 (FL _ _ htg (.slice ao od.length ac) (.slice wo wd.length wc) (.slice bo body.length bc) rfl rfl rfl) fun a3 w3 CX FI g3 z3 AL sv3=>?_
 replace AJ:=AC g3 AJ
 replace hr:=(hr.kn g2).kn g3
 replace ho:=(ho.kn g2).kn g3
 replace hw:=(hw.kn g2).kn g3
 replace hb:=(hb.kn g2).kn g3
 replace HG:=AA (AA HG g2) g3
 refine Ax (T:=25) (Z:=[.int .i64 0,.int .i64 0,.string ⟨#[]⟩]) sv3 rfl rfl rfl (fun a w=>by kernel_rfl) fun a4 w4 Fa B9 g4 z4 AP sv4=>?_
 have A3:=Au AJ B9
 have BO:=Au AL B9
 have CG:=B7 HG B9
 have Bw:=A2 (hr.lt) B9
 have D5:=A2 (ho.lt) B9
 have D8:=A2 (hw.lt) B9
 have Dk:=A2 (hb.lt) B9
 replace AJ:=AC g4 AJ
 replace AL:=AC g4 AL
 replace hr:=hr.kn g4
 replace ho:=ho.kn g4
 replace hw:=hw.kn g4
 replace hb:=hb.kn g4
 replace HG:=AA HG g4
 refine Ax (T:=38) (Z:=[.int .i64 0]) sv4 rfl rfl rfl (fun a w=>by kernel_rfl) fun a5 w5 Pk DQ g5 z5 Ak sv5=>?_
 have Br:=Au AJ DQ
 have CR:=Au AL DQ
 have Aq:=Au AP DQ
 have Dt:=B7 HG DQ
 have Di:=A2 (hr.lt) DQ
 have Gq:=A2 (ho.lt) DQ
 have Gr:=A2 (hw.lt) DQ
 have Fl:=A2 (hb.lt) DQ
 replace AJ:=AC g5 AJ
 replace AL:=AC g5 AL
 replace AP:=AC g5 AP
 replace hr:=hr.kn g5
 replace ho:=ho.kn g5
 replace hw:=hw.kn g5
 replace hb:=hb.kn g5
 replace HG:=AA HG g5
 refine AE ?_
 refine k1 _ _ ?_
 refine ALl fun K6 k6=>?_
 refine ALk ?_
 refine E2 sv5 rfl rfl rfl rfl rfl rfl fun a7 sv7=>?_
 refine Ei sv7 rfl (dd:={ target:=.fn (.func 60) #[pt Fa,pt Pk],args:=#[] }) rfl (by have e1:=sv7.ev (x:=.tmp 8) rfl rfl;simp[execOp,resolve,Deferred.ofValue,e1];try rfl) fun a8 sv8=>?_
 refine AE ?_
 refine k6 _ _ ?_
 refine ALl fun K9 k9=>?_
 refine ALl fun K10 k10=>?_
 rcases(show(FK S=false∧CI P=false)∨(FK S=false∧CI P=true)∨(FK S=true∧CI P=false)∨(FK S=true∧CI P=true) by cases FK S<;>cases CI P<;>simp) with ⟨hh,hv⟩|⟨hh,hv⟩|⟨hh,hv⟩|⟨hh,hv⟩
 · refine ALk ?_
   refine AK sv8 8 [(9,Ce ad (.slice ao od.length ac) joint (.slice wo wd.length wc) (.slice bo body.length bc) tg),(10,.bool false),(11,.bool true),(12,.bool true),(13,undef),(14,undef),(15,undef),(16,.bool true)]
     ⟨yl r6 (FL _ _ htg (.slice ao od.length ac) (.slice wo wd.length wc) (.slice bo body.length bc) rfl rfl rfl) AL,Ad [Ce ad (.slice ao od.length ac) joint (.slice wo wd.length wc) (.slice bo body.length bc) tg] Tryz.func27 (by kernel_rfl) rq4 ⟨(oy rfl rfl),ALr⟩ (As fun W g=>QR htg (ho.kn g) (hw.kn g) (hb.kn g) hS hh),Cu r6 (fun _=>Bc),ym r5,Ab r6,Ab r6,Ab r6,CK r7,ALr⟩ fun a11 w11 g11 CY=>?_
   refine AE ?_
   refine k10 _ _ ?_
   refine Ar CY rfl rfl ?_
   refine ALl fun K12 k12=>?_
   refine ALk ?_
   replace AP:=AC g11 AP
   refine AK CY 1 [(17,CE V.nul)]
     ⟨BV (vs:=[]) rfl rfl trivial trivial (fun _=>PS _) (fun _=>rfl),ALr⟩ fun a13 w13 g13 Dh=>?_
   refine Ap Dh r7 (EP V.nul) (AC g13 AP) rfl fun w14 g14 h14=>?_
   replace Ak:=Ah g13 g14 (AC g11 Ak) Aq
   refine Ap Dh r7 (Dy 1) Ak rfl fun w15 g15 h15=>?_
   replace AJ:=AX g15 (Ah g13 g14 (AC g11 AJ) (Ne.symm A3)) (Ne.symm Br)
   replace AL:=AX g15 (Ah g13 g14 (AC g11 AL) (Ne.symm BO)) (Ne.symm CR)
   replace AP:=AX g15 h14 (Ne.symm Aq)
   replace hr:=(((hr.kn g11).kn g13).offR g14 (AU Bw)).offR g15 (AU Di)
   replace ho:=(((ho.kn g11).kn g13).offR g14 (AU D5)).offR g15 (AU Gq)
   replace hw:=(((hw.kn g11).kn g13).offR g14 (AU D8)).offR g15 (AU Gr)
   replace hb:=(((hb.kn g11).kn g13).offR g14 (AU Dk)).offR g15 (AU Fl)
   replace HG:=AD (AD (AA (AA HG g11) g13) g14 CG) g15 Dt
   replace Ak:=h15
   refine AE ?_
   refine k12 _ _ ?_
   refine ALo ?_
   repeat refine AM ?_
   refine BK (fn:=Tryz.f22) Dh (BU (p:=4) (q:=5) Tryz.results22 Dh rfl rfl rfl rfl (EP V.nul) (Dy 1) AP Ak) (Bp Tryz.func60 (by kernel_rfl) rfl _ _) (Du _ _ _) ?_
   exact⟨R4 (Oy (.inl hh)),HG⟩
 · refine ALk ?_
   refine AK sv8 8 [(9,Ce ad (.slice ao od.length ac) joint (.slice wo wd.length wc) (.slice bo body.length bc) tg),(10,.bool false),(11,.bool true),(12,.bool true),(13,undef),(14,undef),(15,undef),(16,.bool true)]
     ⟨yl r6 (FL _ _ htg (.slice ao od.length ac) (.slice wo wd.length wc) (.slice bo body.length bc) rfl rfl rfl) AL,Ad [Ce ad (.slice ao od.length ac) joint (.slice wo wd.length wc) (.slice bo body.length bc) tg] Tryz.func27 (by kernel_rfl) rq4 ⟨(oy rfl rfl),ALr⟩ (As fun W g=>QR htg (ho.kn g) (hw.kn g) (hb.kn g) hS hh),Cu r6 (fun _=>Bc),ym r5,Ab r6,Ab r6,Ab r6,CK r7,ALr⟩ fun a16 w16 g16 Cp=>?_
   refine AE ?_
   refine k10 _ _ ?_
   refine Ar Cp rfl rfl ?_
   refine ALl fun K17 k17=>?_
   refine ALk ?_
   replace AP:=AC g16 AP
   refine AK Cp 1 [(17,CE V.nul)]
     ⟨BV (vs:=[]) rfl rfl trivial trivial (fun _=>PS _) (fun _=>rfl),ALr⟩ fun a18 w18 g18 Ca=>?_
   refine Ap Ca r7 (EP V.nul) (AC g18 AP) rfl fun w19 g19 h19=>?_
   replace Ak:=Ah g18 g19 (AC g16 Ak) Aq
   refine Ap Ca r7 (Dy 1) Ak rfl fun w20 g20 h20=>?_
   replace AJ:=AX g20 (Ah g18 g19 (AC g16 AJ) (Ne.symm A3)) (Ne.symm Br)
   replace AL:=AX g20 (Ah g18 g19 (AC g16 AL) (Ne.symm BO)) (Ne.symm CR)
   replace AP:=AX g20 h19 (Ne.symm Aq)
   replace hr:=(((hr.kn g16).kn g18).offR g19 (AU Bw)).offR g20 (AU Di)
   replace ho:=(((ho.kn g16).kn g18).offR g19 (AU D5)).offR g20 (AU Gq)
   replace hw:=(((hw.kn g16).kn g18).offR g19 (AU D8)).offR g20 (AU Gr)
   replace hb:=(((hb.kn g16).kn g18).offR g19 (AU Dk)).offR g20 (AU Fl)
   replace HG:=AD (AD (AA (AA HG g16) g18) g19 CG) g20 Dt
   replace Ak:=h20
   refine AE ?_
   refine k17 _ _ ?_
   refine ALo ?_
   repeat refine AM ?_
   refine BK (fn:=Tryz.f22) Ca (BU (p:=4) (q:=5) Tryz.results22 Ca rfl rfl rfl rfl (EP V.nul) (Dy 1) AP Ak) (Bp Tryz.func60 (by kernel_rfl) rfl _ _) (Du _ _ _) ?_
   exact⟨R4 (Oy (.inl hh)),HG⟩
 · refine ALk ?_
   refine AK sv8 8 [(9,Ce ad (.slice ao od.length ac) joint (.slice wo wd.length wc) (.slice bo body.length bc) tg),(10,.bool true),(11,.bool false),(12,.bool false),(13,Ao sa po (.slice vo ks.length vc_)),(14,.bool false),(15,.bool true),(16,.bool true)]
     ⟨yl r6 (FL _ _ htg (.slice ao od.length ac) (.slice wo wd.length wc) (.slice bo body.length bc) rfl rfl rfl) AL,Ad [Ce ad (.slice ao od.length ac) joint (.slice wo wd.length wc) (.slice bo body.length bc) tg] Tryz.func27 (by kernel_rfl) rq4 ⟨(oy rfl rfl),ALr⟩ (As fun W g=>QR htg (ho.kn g) (hw.kn g) (hb.kn g) hS hh),Cu r6 (fun _=>Bc),ym r5,A9 rq9 (fun _ g=>Ae (BR hsa hpo (.slice vo ks.length vc_) rfl) (Ai (AF g AJ (by simp)))),CL [Ao sa po (.slice vo ks.length vc_)] Tryz.func51 (by kernel_rfl) r7 ⟨(oy rfl rfl),ALr⟩ (As fun W g=>Nb hsa hpo (hr.kn g) hP hv),Ib rfl rfl (gy rfl rfl rfl) (oy rfl rfl) (fun _=>Bc) (fun _=>rfl),BC rq9,ALr⟩ fun a21 w21 g21 Db=>?_
   refine AE ?_
   refine k10 _ _ ?_
   refine Ar Db rfl rfl ?_
   refine ALl fun K22 k22=>?_
   refine ALk ?_
   replace AP:=AC g21 AP
   refine AK Db 1 [(17,CE V.nul)]
     ⟨BV (vs:=[]) rfl rfl trivial trivial (fun _=>PS _) (fun _=>rfl),ALr⟩ fun a23 w23 g23 Cy=>?_
   refine Ap Cy r7 (EP V.nul) (AC g23 AP) rfl fun w24 g24 h24=>?_
   replace Ak:=Ah g23 g24 (AC g21 Ak) Aq
   refine Ap Cy r7 (Dy 1) Ak rfl fun w25 g25 h25=>?_
   replace AJ:=AX g25 (Ah g23 g24 (AC g21 AJ) (Ne.symm A3)) (Ne.symm Br)
   replace AL:=AX g25 (Ah g23 g24 (AC g21 AL) (Ne.symm BO)) (Ne.symm CR)
   replace AP:=AX g25 h24 (Ne.symm Aq)
   replace hr:=(((hr.kn g21).kn g23).offR g24 (AU Bw)).offR g25 (AU Di)
   replace ho:=(((ho.kn g21).kn g23).offR g24 (AU D5)).offR g25 (AU Gq)
   replace hw:=(((hw.kn g21).kn g23).offR g24 (AU D8)).offR g25 (AU Gr)
   replace hb:=(((hb.kn g21).kn g23).offR g24 (AU Dk)).offR g25 (AU Fl)
   replace HG:=AD (AD (AA (AA HG g21) g23) g24 CG) g25 Dt
   replace Ak:=h25
   refine AE ?_
   refine k22 _ _ ?_
   refine ALo ?_
   repeat refine AM ?_
   refine BK (fn:=Tryz.f22) Cy (BU (p:=4) (q:=5) Tryz.results22 Cy rfl rfl rfl rfl (EP V.nul) (Dy 1) AP Ak) (Bp Tryz.func60 (by kernel_rfl) rfl _ _) (Du _ _ _) ?_
   exact⟨R4 (Oy (.inr hv)),HG⟩
 · have hb64:body.length≤64:=s3▸AI4 hh
   have hia:Qa ad:=by have:=(ABU (AFE hh)).1;rw[s1] at this;exact⟨by omega,by omega⟩
   refine ALk ?_
   refine AK sv8 8 [(9,Ce ad (.slice ao od.length ac) joint (.slice wo wd.length wc) (.slice bo body.length bc) tg),(10,.bool true),(11,.bool false),(12,.bool false),(13,Ao sa po (.slice vo ks.length vc_)),(14,.bool true),(15,.bool false),(16,.bool false)]
     ⟨yl r6 (FL _ _ htg (.slice ao od.length ac) (.slice wo wd.length wc) (.slice bo body.length bc) rfl rfl rfl) AL,Ad [Ce ad (.slice ao od.length ac) joint (.slice wo wd.length wc) (.slice bo body.length bc) tg] Tryz.func27 (by kernel_rfl) rq4 ⟨(oy rfl rfl),ALr⟩ (As fun W g=>QR htg (ho.kn g) (hw.kn g) (hb.kn g) hS hh),Cu r6 (fun _=>Bc),ym r5,A9 rq9 (fun _ g=>Ae (BR hsa hpo (.slice vo ks.length vc_) rfl) (Ai (AF g AJ (by simp)))),CL [Ao sa po (.slice vo ks.length vc_)] Tryz.func51 (by kernel_rfl) r7 ⟨(oy rfl rfl),ALr⟩ (As fun W g=>Nb hsa hpo (hr.kn g) hP hv),Ib rfl rfl (gy rfl rfl rfl) (oy rfl rfl) (fun _=>Bc) (fun _=>rfl),BC rq9,ALr⟩ fun a26 w26 g26 Co=>?_
   refine AE ?_
   refine k10 _ _ ?_
   refine Av Co rfl rfl ?_
   refine ALp ?_
   refine k9 _ _ ?_
   refine ALl fun K27 k27=>?_
   refine ALl fun K28 k28=>?_
   replace AJ:=AC g26 AJ
   replace AL:=AC g26 AL
   replace AP:=AC g26 AP
   replace Ak:=AC g26 Ak
   replace hr:=hr.kn g26
   replace ho:=ho.kn g26
   replace hw:=hw.kn g26
   replace hb:=hb.kn g26
   replace HG:=AA HG g26
   rcases Nat.eq_zero_or_pos od.length with hz|hz
   · have hnil:S.own=[]:=by rw[s2,List.eq_nil_of_length_eq_zero hz];rfl
     have hopen:=PT hh hv hnil
     rw[s1,s3,s4] at hopen
     refine ALk ?_
     refine AK Co 4 [(18,pk CX 1),(19,.slice ao od.length ac),(20,.int .i64 ((od.length:Nat))),(21,.bool true)]
       ⟨yf r6 (fun _=>by kernel_rfl),yp (i:=1) r6 (MW (.slice ao od.length ac) rfl) AL rfl rfl,Bv (Tryz.underlying28) rfl rfl trivial (oy rfl rfl) (fun _=>rfl),Cq r6 (fun _=>CQ (Pf (by omega))),ALr⟩ fun a29 w29 g29 Cc=>?_
     refine AE ?_
     refine k28 _ _ ?_
     refine Ar Cc rfl rfl ?_
     refine ALl fun K30 k30=>?_
     refine ALl fun K31 k31=>?_
     replace AJ:=AC g29 AJ
     replace AL:=AC g29 AL
     replace AP:=AC g29 AP
     replace Ak:=AC g29 Ak
     replace hr:=hr.kn g29
     replace ho:=ho.kn g29
     replace hw:=hw.kn g29
     replace hb:=hb.kn g29
     replace HG:=AA HG g29
     by_cases htt:tgC ad body=tg
     · rw[if_pos htt] at hopen
       obtain⟨dq,hdq⟩:∃q,KW body=q:=⟨_,rfl⟩
       rw[hdq] at hopen
       refine DP Cc [(22,pk CX 5),(23,AR tg),(24,pt CX),(25,.int .i64 ad),(26,pk CX 4),(27,.slice bo body.length bc),(28,AR ((tgC ad body))),(29,.bool false)]
         ⟨yf r6 (fun _=>by kernel_rfl),yp (i:=5) r6 (CB tg htg.1) AL rfl rfl,yf r6 (fun _=>by kernel_rfl),yp (i:=0) r6 (GF ad) AL rfl rfl,yf r6 (fun _=>by kernel_rfl),yp (i:=4) r6 (Hu (.slice bo body.length bc) rfl) AL rfl rfl,Ad [.int .i64 ad,.slice bo body.length bc] Tryz.func54 (by kernel_rfl) rq4 ⟨(oy rfl rfl),(oy rfl rfl),ALr⟩ (As fun W g=>Jc ad hia body bby (by omega) _ _ _ (hb.kn g)),Ho r7 (fun _=>(L5 htg (Hr ad body) _ _ _).2.trans (by rw[decide_eq_true (htt.symm)];rfl)),ALr⟩ fun a32 w32 g32 Ck=>?_
       refine k31 _ _ ?_
       refine Av Ck rfl rfl ?_
       refine ALp ?_
       refine k30 _ _ ?_
       refine ALl fun K33 k33=>?_
       refine ALk ?_
       refine AK Ck 2 [(31,pk CX 4),(32,.slice bo body.length bc)]
         ⟨yf r6 (fun _=>by kernel_rfl),yp (i:=4) r6 (Hu (.slice bo body.length bc) rfl) (AC g32 AL) rfl rfl,ALr⟩ fun a34 w34 g34 Kv=>?_
       have Vx:=AA g32 g34
       replace hb:=hb.kn Vx
       refine Bo Kv Tryz.func61 (by kernel_rfl) r6 (Rb (AH0 hb bby (by omega) hdq)) fun a35 v35 w35 hR35 Jr=>?_
       obtain⟨rfl,g35⟩:=hR35
       replace AP:=AC g35 (AC Vx AP)
       refine AK Jr 2 [(34,CE dq.1),(35,.int .i64 dq.2)]
         ⟨BE rq4 (fun _ _ h=>⟨_,_,h,rfl,rfl⟩),BE rq4 (fun _ _ h=>⟨_,_,h,rfl,rfl⟩),ALr⟩ fun a36 w36 g36 FS=>?_
       refine Ap FS r7 (EP dq.1) (AC g36 AP) rfl fun w37 g37 h37=>?_
       replace Ak:=Ah g36 g37 (AC g35 (AC Vx Ak)) Aq
       refine Ap FS r7 (Dy dq.2) Ak rfl fun w38 g38 h38=>?_
       replace AJ:=AX g38 (Ah g36 g37 (AC g35 (AC Vx AJ)) (Ne.symm A3)) (Ne.symm Br)
       replace AL:=AX g38 (Ah g36 g37 (AC g35 (AC Vx AL)) (Ne.symm BO)) (Ne.symm CR)
       replace AP:=AX g38 h37 (Ne.symm Aq)
       replace hr:=((((hr.kn Vx).kn g35).kn g36).offR g37 (AU Bw)).offR g38 (AU Di)
       replace ho:=((((ho.kn Vx).kn g35).kn g36).offR g37 (AU D5)).offR g38 (AU Gq)
       replace hw:=((((hw.kn Vx).kn g35).kn g36).offR g37 (AU D8)).offR g38 (AU Gr)
       replace hb:=(((hb.kn g35).kn g36).offR g37 (AU Dk)).offR g38 (AU Fl)
       replace HG:=AD (AD (AA (AA (AA HG Vx) g35) g36) g37 CG) g38 Dt
       replace Ak:=h38
       have Js:Sv _ _ [_,_,_,_,_,_,_,_,_,_,_,_,_,_,_,_,_,_,_,_,_,_,_,_,_,_,_] _:=FS.dl [34,35,33,31,32]
       refine AE ?_
       refine k33 _ _ ?_
       refine ALo ?_
       repeat refine AM ?_
       refine BK (fn:=Tryz.f22) Js (BU (p:=4) (q:=5) Tryz.results22 Js rfl rfl rfl rfl (EP dq.1) (Dy dq.2) AP Ak) (Bp Tryz.func60 (by kernel_rfl) rfl _ _) (Du _ _ _) ?_
       exact⟨R4 (hopen),HG⟩
     · rw[if_neg htt] at hopen
       refine DP Cc [(22,pk CX 5),(23,AR tg),(24,pt CX),(25,.int .i64 ad),(26,pk CX 4),(27,.slice bo body.length bc),(28,AR ((tgC ad body))),(29,.bool true)]
         ⟨yf r6 (fun _=>by kernel_rfl),yp (i:=5) r6 (CB tg htg.1) AL rfl rfl,yf r6 (fun _=>by kernel_rfl),yp (i:=0) r6 (GF ad) AL rfl rfl,yf r6 (fun _=>by kernel_rfl),yp (i:=4) r6 (Hu (.slice bo body.length bc) rfl) AL rfl rfl,Ad [.int .i64 ad,.slice bo body.length bc] Tryz.func54 (by kernel_rfl) rq4 ⟨(oy rfl rfl),(oy rfl rfl),ALr⟩ (As fun W g=>Jc ad hia body bby (by omega) _ _ _ (hb.kn g)),Ho r7 (fun _=>(L5 htg (Hr ad body) _ _ _).2.trans (by rw[decide_eq_false ((fun h=>htt h.symm))];rfl)),ALr⟩ fun a40 w40 g40 I3=>?_
       refine k31 _ _ ?_
       refine Ar I3 rfl rfl ?_
       refine ALl fun K41 k41=>?_
       refine ALk ?_
       replace AP:=AC g40 AP
       refine AK I3 1 [(30,CE V.nul)]
         ⟨BV (vs:=[]) rfl rfl trivial trivial (fun _=>PS _) (fun _=>rfl),ALr⟩ fun a42 w42 g42 GR=>?_
       refine Ap GR r7 (EP V.nul) (AC g42 AP) rfl fun w43 g43 h43=>?_
       replace Ak:=Ah g42 g43 (AC g40 Ak) Aq
       refine Ap GR r7 (Dy 101) Ak rfl fun w44 g44 h44=>?_
       replace AJ:=AX g44 (Ah g42 g43 (AC g40 AJ) (Ne.symm A3)) (Ne.symm Br)
       replace AL:=AX g44 (Ah g42 g43 (AC g40 AL) (Ne.symm BO)) (Ne.symm CR)
       replace AP:=AX g44 h43 (Ne.symm Aq)
       replace hr:=(((hr.kn g40).kn g42).offR g43 (AU Bw)).offR g44 (AU Di)
       replace ho:=(((ho.kn g40).kn g42).offR g43 (AU D5)).offR g44 (AU Gq)
       replace hw:=(((hw.kn g40).kn g42).offR g43 (AU D8)).offR g44 (AU Gr)
       replace hb:=(((hb.kn g40).kn g42).offR g43 (AU Dk)).offR g44 (AU Fl)
       replace HG:=AD (AD (AA (AA HG g40) g42) g43 CG) g44 Dt
       replace Ak:=h44
       refine AE ?_
       refine k41 _ _ ?_
       refine ALo ?_
       repeat refine AM ?_
       refine BK (fn:=Tryz.f22) GR (BU (p:=4) (q:=5) Tryz.results22 GR rfl rfl rfl rfl (EP V.nul) (Dy 101) AP Ak) (Bp Tryz.func60 (by kernel_rfl) rfl _ _) (Du _ _ _) ?_
       exact⟨R4 (hopen),HG⟩
   · have hne:S.own≠[]:=fun h=>by rw[s2] at h;have h2:od.length=0:=(List.length_map _).symm.trans (congrArg List.length h);omega
     refine ALk ?_
     refine AK Co 4 [(18,pk CX 1),(19,.slice ao od.length ac),(20,.int .i64 ((od.length:Nat))),(21,.bool false)]
       ⟨yf r6 (fun _=>by kernel_rfl),yp (i:=1) r6 (MW (.slice ao od.length ac) rfl) AL rfl rfl,Bv (Tryz.underlying28) rfl rfl trivial (oy rfl rfl) (fun _=>rfl),Cq r6 (fun _=>CQ (Mt (by omega))),ALr⟩ fun a45 w45 g45 FT=>?_
     refine AE ?_
     refine k28 _ _ ?_
     refine Av FT rfl rfl ?_
     refine ALp ?_
     refine k27 _ _ ?_
     refine ALl fun K46 k46=>?_
     replace AJ:=AC g45 AJ
     replace AL:=AC g45 AL
     replace AP:=AC g45 AP
     replace Ak:=AC g45 Ak
     replace hr:=hr.kn g45
     replace ho:=ho.kn g45
     replace hw:=hw.kn g45
     replace hb:=hb.kn g45
     replace HG:=AA HG g45
     rcases(show I8 P S=none∨∃c,I8 P S=some c by cases I8 P S<;>simp) with hrec|⟨c,hrec⟩
     · refine ALk ?_
       refine AK FT 2 [(37,Ao sa po (.slice vo ks.length vc_)),(38,Ce ad (.slice ao od.length ac) joint (.slice wo wd.length wc) (.slice bo body.length bc) tg)]
         ⟨yl r6 (BR hsa hpo (.slice vo ks.length vc_) rfl) AJ,yl r6 (FL _ _ htg (.slice ao od.length ac) (.slice wo wd.length wc) (.slice bo body.length bc) rfl rfl rfl) AL,ALr⟩ fun a47 w47 g47 MV=>?_
       replace hr:=hr.kn g47
       replace ho:=ho.kn g47
       replace hw:=hw.kn g47
       replace hb:=hb.kn g47
       refine Bo MV Tryz.func62 (by kernel_rfl) r6 (ABc hsa hpo htg hr ho hw hb hP hS hh hrec) fun a48 v48 w48 hR48 AHE=>?_
       obtain⟨cz,rfl,hcd,_,g48⟩:=hR48
       refine AK AHE 3 [(36,.tuple #[AR cz,.bool false]),(40,AR cz),(41,.bool false)]
         ⟨ym r5,BE rq4 (fun _ _ h=>⟨_,_,h,rfl,rfl⟩),BE rq4 (fun _ _ h=>⟨_,_,h,rfl,rfl⟩),ALr⟩ fun a49 w49 g49 KF=>?_
       replace AJ:=AC g49 (AC g48 (AC g47 AJ))
       replace AL:=AC g49 (AC g48 (AC g47 AL))
       replace AP:=AC g49 (AC g48 (AC g47 AP))
       replace Ak:=AC g49 (AC g48 (AC g47 Ak))
       replace hr:=(hr.kn g48).kn g49
       replace ho:=(ho.kn g48).kn g49
       replace hw:=(hw.kn g48).kn g49
       replace hb:=(hb.kn g48).kn g49
       replace HG:=AA (AA (AA HG g47) g48) g49
       refine Ax (T:=23) (Z:=(bv AS)) KF rfl rfl rfl (fun a w=>by kernel_rfl) fun a50 w50 ALX GM g50 z50 AJB Po=>?_
       have Te:=Au AJ GM
       have Tf:=Au AL GM
       have Tg:=Au AP GM
       have Th:=Au Ak GM
       have AFM:=B7 HG GM
       have Yr:=A2 (hr.lt) GM
       have Ys:=A2 (ho.lt) GM
       have Yt:=A2 (hw.lt) GM
       have Yu:=A2 (hb.lt) GM
       refine Ap Po r7 (CB cz hcd.1) AJB (Hq hcd) fun w51 g51 h51=>?_
       refine Aa (v:=.bool false) Po r6 fun a52 Uz=>?_
       have Xo:Sv _ _ [_,_,_,_,_,_,_,_,_,_,_,_,_,_,_,_,_,_,_,_,_] _:=Uz.dl [36,40,41,39,37,38]
       refine AE ?_
       refine k46 _ _ ?_
       refine ALl fun K54 k54=>?_
       refine ALl fun K55 k55=>?_
       refine ALk ?_
       refine AK Xo 2 [(42,.bool false),(43,.bool true)]
         ⟨ym r5,Cu r6 (fun _=>Bc),ALr⟩ fun a56 w56 g56 FU=>?_
       refine AE ?_
       refine k55 _ _ ?_
       refine Ar FU rfl rfl ?_
       refine ALl fun K57 k57=>?_
       refine ALk ?_
       replace AP:=AC g56 (AX g51 (AC g50 AP) (Ne.symm Tg))
       refine AK FU 1 [(44,CE V.nul)]
         ⟨BV (vs:=[]) rfl rfl trivial trivial (fun _=>PS _) (fun _=>rfl),ALr⟩ fun a58 w58 g58 Pm=>?_
       refine Ap Pm r7 (EP V.nul) (AC g58 AP) rfl fun w59 g59 h59=>?_
       replace Ak:=Ah g58 g59 (AC g56 (AX g51 (AC g50 Ak) (Ne.symm Th))) Aq
       refine Ap Pm r7 (Dy 10) Ak rfl fun w60 g60 h60=>?_
       replace AJ:=AX g60 (Ah g58 g59 (AC g56 (AX g51 (AC g50 AJ) (Ne.symm Te))) (Ne.symm A3)) (Ne.symm Br)
       replace AL:=AX g60 (Ah g58 g59 (AC g56 (AX g51 (AC g50 AL) (Ne.symm Tf))) (Ne.symm BO)) (Ne.symm CR)
       replace AP:=AX g60 h59 (Ne.symm Aq)
       replace hr:=(((((hr.kn g50).offR g51 (AU Yr)).kn g56).kn g58).offR g59 (AU Bw)).offR g60 (AU Di)
       replace ho:=(((((ho.kn g50).offR g51 (AU Ys)).kn g56).kn g58).offR g59 (AU D5)).offR g60 (AU Gq)
       replace hw:=(((((hw.kn g50).offR g51 (AU Yt)).kn g56).kn g58).offR g59 (AU D8)).offR g60 (AU Gr)
       replace hb:=(((((hb.kn g50).offR g51 (AU Yu)).kn g56).kn g58).offR g59 (AU Dk)).offR g60 (AU Fl)
       replace HG:=AD (AD (AA (AA (AD (AA HG g50) g51 AFM) g56) g58) g59 CG) g60 Dt
       replace Ak:=h60
       refine AE ?_
       refine k57 _ _ ?_
       refine ALo ?_
       repeat refine AM ?_
       refine BK (fn:=Tryz.f22) Pm (BU (p:=4) (q:=5) Tryz.results22 Pm rfl rfl rfl rfl (EP V.nul) (Dy 10) AP Ak) (Bp Tryz.func60 (by kernel_rfl) rfl _ _) (Du _ _ _) ?_
       exact⟨R4 (AAa hh hv hne hrec),HG⟩
     · have hopen:=MJ hh hv hne hrec
       rw[s1,s3,s4] at hopen
       refine ALk ?_
       refine AK FT 2 [(37,Ao sa po (.slice vo ks.length vc_)),(38,Ce ad (.slice ao od.length ac) joint (.slice wo wd.length wc) (.slice bo body.length bc) tg)]
         ⟨yl r6 (BR hsa hpo (.slice vo ks.length vc_) rfl) AJ,yl r6 (FL _ _ htg (.slice ao od.length ac) (.slice wo wd.length wc) (.slice bo body.length bc) rfl rfl rfl) AL,ALr⟩ fun a61 w61 g61 KM=>?_
       replace hr:=hr.kn g61
       replace ho:=ho.kn g61
       replace hw:=hw.kn g61
       replace hb:=hb.kn g61
       refine Bo KM Tryz.func62 (by kernel_rfl) r6 (ABc hsa hpo htg hr ho hw hb hP hS hh hrec) fun a62 v62 w62 hR62 ALD=>?_
       obtain⟨cz,rfl,hcd,hcc,g62⟩:=hR62
       obtain rfl:=hcc c rfl
       refine AK ALD 3 [(36,.tuple #[AR c,.bool true]),(40,AR c),(41,.bool true)]
         ⟨ym r5,BE rq4 (fun _ _ h=>⟨_,_,h,rfl,rfl⟩),BE rq4 (fun _ _ h=>⟨_,_,h,rfl,rfl⟩),ALr⟩ fun a63 w63 g63 ACx=>?_
       replace AL:=AC g63 (AC g62 (AC g61 AL))
       replace AP:=AC g63 (AC g62 (AC g61 AP))
       replace Ak:=AC g63 (AC g62 (AC g61 Ak))
       replace hb:=(hb.kn g62).kn g63
       replace HG:=AA (AA (AA HG g61) g62) g63
       refine Ax (T:=23) (Z:=(bv AS)) ACx rfl rfl rfl (fun a w=>by kernel_rfl) fun a64 w64 ALY Ln g64 z64 M6 Vq=>?_
       have Ti:=Au AL Ln
       have Mg:=Au AP Ln
       have Mh:=Au Ak Ln
       have AFN:=B7 HG Ln
       have Yv:=A2 (hb.lt) Ln
       refine Ap Vq r7 (CB c hcd.1) M6 (Hq hcd) fun w65 g65 h65=>?_
       refine Aa (v:=.bool true) Vq r6 fun a66 AI6=>?_
       have AHF:Sv _ _ [_,_,_,_,_,_,_,_,_,_,_,_,_,_,_,_,_,_,_,_,_] _:=AI6.dl [36,40,41,39,37,38]
       refine AE ?_
       refine k46 _ _ ?_
       refine ALl fun K68 k68=>?_
       refine ALl fun K69 k69=>?_
       refine ALk ?_
       refine AK AHF 2 [(42,.bool true),(43,.bool false)]
         ⟨ym r5,Cu r6 (fun _=>Bc),ALr⟩ fun a70 w70 g70 GJ=>?_
       refine AE ?_
       refine k69 _ _ ?_
       refine Av GJ rfl rfl ?_
       refine ALp ?_
       refine k68 _ _ ?_
       refine ALl fun K71 k71=>?_
       refine ALl fun K72 k72=>?_
       replace AL:=AC g70 (AX g65 (AC g64 AL) (Ne.symm Ti))
       replace AP:=AC g70 (AX g65 (AC g64 AP) (Ne.symm Mg))
       replace Ak:=AC g70 (AX g65 (AC g64 Ak) (Ne.symm Mh))
       replace M6:=AC g70 h65
       replace hb:=((hb.kn g64).offR g65 (AU Yv)).kn g70
       replace HG:=AA (AD (AA HG g64) g65 AFN) g70
       by_cases htt:U6 c ad body=tg
       · rw[if_pos htt] at hopen
         obtain⟨dq,hdq⟩:∃q,KW (Jb body c)=q:=⟨_,rfl⟩
         rw[hdq] at hopen
         refine DP GJ [(45,pk CX 5),(46,AR tg),(47,AR c),(48,pt CX),(49,.int .i64 ad),(50,pk CX 4),(51,.slice bo body.length bc),(52,AR ((U6 c ad body))),(53,.bool false)]
          ⟨yf r6 (fun _=>by kernel_rfl),yp (i:=5) r6 (CB tg htg.1) AL rfl rfl,yl r6 (CB c hcd.1) M6,yf r6 (fun _=>by kernel_rfl),yp (i:=0) r6 (GF ad) AL rfl rfl,yf r6 (fun _=>by kernel_rfl),yp (i:=4) r6 (Hu (.slice bo body.length bc) rfl) AL rfl rfl,Ad [AR c,.int .i64 ad,.slice bo body.length bc] Tryz.func58 (by kernel_rfl) rq4 ⟨(oy rfl rfl),(oy rfl rfl),(oy rfl rfl),ALr⟩ (As fun W g=>HH c hcd ad hia body bby (by omega) _ _ _ (hb.kn g)),Ho r7 (fun _=>(L5 htg (EY c ad body) _ _ _).2.trans (by rw[decide_eq_true (htt.symm)];rfl)),ALr⟩ fun a73 w73 g73 YP=>?_
         refine k72 _ _ ?_
         refine Av YP rfl rfl ?_
         refine ALp ?_
         refine k71 _ _ ?_
         refine ALl fun K74 k74=>?_
         refine ALk ?_
         refine AK YP 3 [(55,pk CX 4),(56,.slice bo body.length bc),(57,AR c)]
          ⟨yf r6 (fun _=>by kernel_rfl),yp (i:=4) r6 (Hu (.slice bo body.length bc) rfl) (AC g73 AL) rfl rfl,yl r6 (CB c hcd.1) (AC g73 M6),ALr⟩ fun a75 w75 g75 AIz=>?_
         have AC7:=AA g73 g75
         replace AP:=AC AC7 AP
         replace Ak:=AC AC7 Ak
         replace hb:=hb.kn AC7
         refine Bo AIz Tryz.func57 (by kernel_rfl) r6 (UK (KR body bby (by omega) _ _ c hcd _ hb)) fun a76 v76 w76 hR76 AC0=>?_
         obtain⟨ao76,cap76,rfl,_⟩:=(Sl.of_own hR76.1).shape
         obtain⟨ow76,fr76⟩:=hR76
         replace fr76:=Ef fr76
         have oy_:=ow76
         clear ow76
         have g76:=fr76.1
         replace fr76:=fr76.2
         have Yw:=CA fr76 AP
         have Yx:=CA fr76 Ak
         refine Bo AC0 Tryz.func61 (by kernel_rfl) r6 (Rb (AH0 (Own.sb oy_) (Re _ bby) (by rw[KQ];omega) hdq)) fun a77 v77 w77 hR77 AI7=>?_
         obtain⟨rfl,g77⟩:=hR77
         replace AP:=AC g77 (AC g76 AP)
         have AI8:Sv _ _ [_,_,_,_,_,_,_,_,_,_,_,_,_,_,_,_,_,_,_,_,_,_,_,_,_,_,_,_,_,_,_,_,_] _:=AI7.dl [58,55,56,57]
         refine AK AI8 2 [(60,CE dq.1),(61,.int .i64 dq.2)]
          ⟨BE rq4 (fun _ _ h=>⟨_,_,h,rfl,rfl⟩),BE rq4 (fun _ _ h=>⟨_,_,h,rfl,rfl⟩),ALr⟩ fun a79 w79 g79 Ou=>?_
         refine Ap Ou r7 (EP dq.1) (AC g79 AP) rfl fun w80 g80 h80=>?_
         replace Ak:=Ah g79 g80 (AC g77 (AC g76 Ak)) Aq
         refine Ap Ou r7 (Dy dq.2) Ak rfl fun w81 g81 h81=>?_
         replace AL:=AX g81 (Ah g79 g80 (AC g77 (AC g76 (AC AC7 AL))) (Ne.symm BO)) (Ne.symm CR)
         replace AP:=AX g81 h80 (Ne.symm Aq)
         replace M6:=AX g81 (Ah g79 g80 (AC g77 (AC g76 (AC AC7 M6))) Mg) Mh
         replace hb:=((((hb.kn g76).kn g77).kn g79).offR g80 (AU Dk)).offR g81 (AU Fl)
         replace oy_:=(((oy_.kn g77).kn g79).offR g80 (AU Yw)).offR g81 (AU Yx)
         replace HG:=AD (AD (AA (AA (AA (AA HG AC7) g76) g77) g79) g80 CG) g81 Dt
         replace Ak:=h81
         refine AE ?_
         refine k74 _ _ ?_
         refine ALo ?_
         repeat refine AM ?_
         refine BK (fn:=Tryz.f22) Ou (BU (p:=4) (q:=5) Tryz.results22 Ou rfl rfl rfl rfl (EP dq.1) (Dy dq.2) AP Ak) (Bp Tryz.func60 (by kernel_rfl) rfl _ _) (Du _ _ _) ?_
         exact⟨R4 (hopen),HG⟩
       · rw[if_neg htt] at hopen
         refine DP GJ [(45,pk CX 5),(46,AR tg),(47,AR c),(48,pt CX),(49,.int .i64 ad),(50,pk CX 4),(51,.slice bo body.length bc),(52,AR ((U6 c ad body))),(53,.bool true)]
          ⟨yf r6 (fun _=>by kernel_rfl),yp (i:=5) r6 (CB tg htg.1) AL rfl rfl,yl r6 (CB c hcd.1) M6,yf r6 (fun _=>by kernel_rfl),yp (i:=0) r6 (GF ad) AL rfl rfl,yf r6 (fun _=>by kernel_rfl),yp (i:=4) r6 (Hu (.slice bo body.length bc) rfl) AL rfl rfl,Ad [AR c,.int .i64 ad,.slice bo body.length bc] Tryz.func58 (by kernel_rfl) rq4 ⟨(oy rfl rfl),(oy rfl rfl),(oy rfl rfl),ALr⟩ (As fun W g=>HH c hcd ad hia body bby (by omega) _ _ _ (hb.kn g)),Ho r7 (fun _=>(L5 htg (EY c ad body) _ _ _).2.trans (by rw[decide_eq_false ((fun h=>htt h.symm))];rfl)),ALr⟩ fun a82 w82 g82 YQ=>?_
         refine k72 _ _ ?_
         refine Ar YQ rfl rfl ?_
         refine ALl fun K83 k83=>?_
         refine ALk ?_
         replace AP:=AC g82 AP
         refine AK YQ 1 [(54,CE V.nul)]
          ⟨BV (vs:=[]) rfl rfl trivial trivial (fun _=>PS _) (fun _=>rfl),ALr⟩ fun a84 w84 g84 Ve=>?_
         refine Ap Ve r7 (EP V.nul) (AC g84 AP) rfl fun w85 g85 h85=>?_
         replace Ak:=Ah g84 g85 (AC g82 Ak) Aq
         refine Ap Ve r7 (Dy 101) Ak rfl fun w86 g86 h86=>?_
         replace AP:=AX g86 h85 (Ne.symm Aq)
         replace HG:=AD (AD (AA (AA HG g82) g84) g85 CG) g86 Dt
         replace Ak:=h86
         refine AE ?_
         refine k83 _ _ ?_
         refine ALo ?_
         repeat refine AM ?_
         refine BK (fn:=Tryz.f22) Ve (BU (p:=4) (q:=5) Tryz.results22 Ve rfl rfl rfl rfl (EP V.nul) (Dy 101) AP Ak) (Bp Tryz.func60 (by kernel_rfl) rfl _ _) (Du _ _ _) ?_
         exact⟨R4 (hopen),HG⟩
theorem AJC {w:World} {ks:List VK} {vo:Option Addr} {vc_:Nat} {sa po:List Nat} {ad joint:Int} {od wd:List DD} {ao wo bo:Option Addr} {ac wc bc:Nat} {body tg:List Nat} {q:V×Int} (hsa:Dg sa) (hpo:Dg po) (htg:Dg tg) (bby:By body) (hr:RdK w (.slice vo ks.length vc_) ks) (ho:RdD w (.slice ao od.length ac) od) (hw:RdD w (.slice wo wd.length wc) wd) (hb:SlB w 1 (.slice bo body.length bc) body.length (bv body)) (hq:Fd (ks.map VK.p) ⟨ad,od.map DD.x,joint,wd.map DD.x,body,tg⟩=q) :
  Calls Tryz.prog 22 #[Ao sa po (.slice vo ks.length vc_),Ce ad (.slice ao od.length ac) joint (.slice wo wd.length wc) (.slice bo body.length bc) tg] w fun e w'=>e=.returned (.tuple #[CE q.1,.int .i64 q.2])∧w.grownBy w' none:=by
 subst hq
 exact AC6 ks vo vc_ sa po hsa hpo ad joint od wd ao wo bo ac wc bc body tg htg bby w hr ho hw hb
end Go.Proofs.YtbfjfnbcmojpiaaGreat
namespace Go.Proofs.YtbfjfnbcmojpiaaGreat
open Go.RowKit
theorem AIK {P:List VP} {i:Nat} (h:i<P.length):od P i∈P.map (·.1):=by rw[Qt h];exact List.mem_map.2 ⟨_,List.getElem_mem h,rfl⟩
theorem AGA {P:List VP} (hs:Srt P) {o:List Nat}:Gx P o=true↔o∈P.map (·.1):=by
 constructor
 · intro h
   obtain⟨h1,h2⟩:=Ia h
   rw[←h2]
   exact AIK h1
 · intro h
   obtain⟨x,hx,rfl⟩:=List.mem_map.1 h
   obtain⟨i,hi,rfl⟩:=List.getElem_of_mem hx
   exact(NO hs hi (Qt hi)).2
theorem AGB {P:List VP} (hs:Srt P) {o:List Nat} (h:o ∉ P.map (·.1)):Gx P o=false:=by
 cases e:Gx P o with
 | false=>rfl
 | true=>exact absurd ((AGA hs).1 e) h
theorem AA7 {P:List VP} {o:List Nat} {t:List Nd} {x:VP}:x∈Ms P o t↔x=(o,t)∨x∈P:=by
 unfold Ms
 rw[List.mem_append,List.mem_cons]
 constructor
 · rintro (h|h|h)
   · exact .inr (List.mem_of_mem_take h)
   · exact .inl h
   · exact .inr (List.mem_of_mem_drop h)
 · rintro (h|h)
   · exact .inr (.inl h)
   · rw[←List.take_append_drop (pos P o) P] at h
     exact(List.mem_append.1 h).imp id .inr
theorem AGC (P:List VP) (o:List Nat) (t:List Nd):(Ms P o t).length=P.length+1:=by rw[NP];exact OQ (Qu P o) _
theorem AGD {P:List VP} {o:List Nat} {x:VP} (h:x∈Hw P o):x∈P:=by rw[LK] at h;exact List.mem_of_mem_eraseIdx h
theorem AA8 {P:List VP} (hs:Srt P) {i j:Nat} (hi:i<P.length) (hj:j<P.length) (h:od P i=od P j):i=j:=by
 rcases Nat.lt_trichotomy i j with h1|h1|h1
 · have:=hs.lt h1 hj;rw[h,Fi] at this;cases this
 · exact h1
 · have:=hs.lt h1 hi;rw[h,Fi] at this;cases this
theorem PG {P:List VP} (hs:Srt P) {o:List Nat} (hf:Gx P o=true) {x:VP}:x∈Hw P o↔x∈P∧x.1≠o:=by
 obtain⟨hp,ho⟩:=Ia hf
 constructor
 · intro h
   refine⟨AGD h,?_⟩
   rw[LK] at h
   obtain⟨i,hi,he⟩:=List.getElem_of_mem h
   have h2:(P.eraseIdx (pos P o))[i]?=some x:=by rw[List.getElem?_eq_getElem hi,he]
   rw[List.getElem?_eraseIdx] at h2
   intro e
   split at h2
   · rename_i hlt
     have hil:i<P.length:=by omega
     have h3:od P i=o:=by rw[(JD h2).1,e]
     have:=AA8 hs hil hp (h3.trans ho.symm)
     omega
   · rename_i hlt
     have hil:=(List.getElem?_eq_some_iff.1 h2).1
     have h3:od P (i+1)=o:=by rw[(JD h2).1,e]
     have:=AA8 hs hil hp (h3.trans ho.symm)
     omega
 · rintro ⟨h,hne⟩
   obtain⟨i,hi,rfl⟩:=List.getElem_of_mem h
   unfold Hw
   rcases Nat.lt_trichotomy i (pos P o) with h1|h1|h1
   · refine List.mem_append.2 (.inl (List.mem_iff_getElem.2 ⟨i,?_,?_⟩))
     · rw[List.length_take];omega
     · rw[List.getElem_take]
   · exfalso
     apply hne
     rw[←Qt hi,h1,ho]
   · refine List.mem_append.2 (.inr (List.mem_iff_getElem.2 ⟨i-(pos P o+1),?_,?_⟩))
     · rw[List.length_drop];omega
     · rw[List.getElem_drop]
       congr 1
       omega
theorem NQ {P:List VP} (hs:Srt P) {o:List Nat} {t:List Nd} (h:(o,t)∈P):Gx P o=true∧tr P (pos P o)=t:=by
 obtain⟨i,hi,he⟩:=List.getElem_of_mem h
 have h1:od P i=o:=by rw[Qt hi,he]
 obtain⟨h2,h3⟩:=NO hs hi h1
 refine⟨h3,?_⟩
 rw[h2,AHb hi,he]
theorem AGE {P:List VP} (hs:Srt P) {o:List Nat} {t:List Nd} (hf:Gx P o=true) {x:VP}:x∈OT P o t↔x=(o,t)∨(x∈P∧x.1≠o):=by
 have h1:=PG hs hf (x:=x)
 unfold OT
 unfold Hw at h1
 rw[List.mem_append,List.mem_cons]
 rw[List.mem_append] at h1
 constructor
 · rintro (h|h|h)
   · exact .inr (h1.1 (.inl h))
   · exact .inl h
   · exact .inr (h1.1 (.inr h))
 · rintro (h|h)
   · exact .inr (.inl h)
   · exact(h1.2 h).imp id .inr
theorem AA9 {x:Int} (h1:0≤x) (h2:x<256):IntKind.u8.wrap x=x:=by simp[IntKind.wrap,IntKind.bits,IntKind.signed];omega
theorem IC (k:List Nat):GV (tree k [])=true:=JC k [] (by simp)
theorem XM {P:List VP} {sa po o nx:List Nat} {T:List Nd} (hv:CI P=true) (hf:Gx P o=false) (hl:P.length<64):MS (P,sa,po) o T nx=((Ms P o T,sa,nx),0):=by
 unfold MS
 rw[if_pos hv,if_neg (by rw[hf];simp),if_neg (by simpa using hl)]
theorem AD3 {P:List VP} {sa po o:List Nat} (hv:CI P=true) (hf:Gx P o=true):Zf (P,sa,po) o=((Hw P o,sa,po),0):=by
 unfold Zf
 rw[if_pos hv,if_pos hf]
theorem OU {P:Program} {a b c:Int} {t:TypeId} {x y:Operand} {w:World} (h:bits .and .i64 a b=c):(do eqGuard .and t x y (.int .i64 a) (.int .i64 b);binOp .and t (.int .i64 a) (.int .i64 b):Sem Value).run P w=.ok (.int .i64 c) w:=by
 subst h
 simp[eqGuard,binOp_and]
 rfl
end Go.Proofs.YtbfjfnbcmojpiaaGreat
namespace Go.Proofs.YtbfjfnbcmojpiaaGreat
open Go.RowKit Go.Shelf
theorem AK1 (a b:Nat) (w:World):(Instr.build 23 #[(0,.int .u8 (a:Int)),(31,.int .u8 (b:Int))]).run Tryz.prog w=.ok (AR (a::(zs 30++[b]))) w:=by kernel_rfl
section
variable {T:Nat→List Nd} {P:List VP} {i:Nat}
end
theorem U3 {P:List VP} {o:List Nat} {a:Int} {l:List Nd} {q:List Nat×Int} (ha:Bn a=true) (hv:CI P=true) (h:Gx P o=true∧tr P (pos P o)=l) (hq:C4 l a=q):Cb P o a=q:=(UI ha hv h.1 rfl h.2).trans hq
end Go.Proofs.YtbfjfnbcmojpiaaGreat
