import Derived.Test.YtbfjfnbcmojpiaaGreatOtV8
set_option linter.unusedSimpArgs false
set_option linter.unusedVariables false
set_option maxRecDepth 100000
set_option maxHeartbeats 4000000
namespace Go.Proofs.YtbfjfnbcmojpiaaGreat
open Go.RowKit Go.Shelf
theorem AGi {ms:List VK} {P:List VP} {o:List Nat} {T:List Nd} {z el:VK} {i:Nat} (h:ms.map VK.p=P) (hf:Gx P o=true) (hi:pos P o=i) (him:i<ms.length) (hz:ms[i]=z) (ho:el.o=z.o) (hl:el.l=T):(ms.set i el).map VK.p=OT P o T:=by
 rw[Xp T hf,List.map_set,h,hi]
 have h1:=(Ia hf).2
 rw[hi,←h,Oc him,hz] at h1
 unfold VK.p
 rw[ho,hl,h1]
theorem AGj {ms:List VK} {P:List VP} {o:List Nat} {i:Nat} (h:ms.map VK.p=P) (hi:pos P o=i):(ms.take i++ms.drop (i+1)).map VK.p=Hw P o:=by
 unfold Hw
 rw[hi,List.map_append,List.map_take,List.map_drop,h]
theorem KsT.del {w:World} {ms:List VK} (h:KsT w ms) (i:Nat):KsT w (ms.take i++ms.drop (i+1)):=by
 have hh:∀k,k∈ms.take i++ms.drop (i+1)→k∈ms:=fun k hk=>by
  rcases List.mem_append.1 hk with hk|hk
  · exact List.mem_of_mem_take hk
  · exact List.mem_of_mem_drop hk
 exact⟨fun k hk=>h.1 k (hh k hk),fun b ⟨k,hk,hb⟩=>h.2 b ⟨k,hh k hk,hb⟩⟩
theorem AEe {ms:List VK} {i A n:Nat} {w:World} (hn:n=ms.length) (hown:Own w 58 33 (.slice (some ⟨A,0,none⟩) n n) n (ms.flatMap AY)) (hi:i<n) (h64:n≤64) :
  Calls Tryz.prog 73 #[.slice (some ⟨A,0,none⟩) n n,.int .i64 (i:Int),.int .i64 ((i+1:Nat):Int)] w fun e w'=>∃v,e=.returned v∧∃ao cap,v=.slice ao (n-1) cap∧Own w' 58 33 (.slice ao (n-1) cap) (n-1) ((ms.take i++ms.drop (i+1)).flatMap AY)∧w.grownBy w' (some A)∧∀k,Bi (.slice ao (n-1) cap) k→k=A∨w.heap.size≤k:=by
 subst hn
 have e:((i+1:Nat):Int)=(i:Int)+1:=by omega
 have e2:(ms.take i++ms.drop (i+1)).length=ms.length-1:=by simp;omega
 rw[e]
 refine(Xb ms i _ w hown hi (by omega)).mono fun e W' ⟨v,h1,h2,h3,h4⟩=>?_
 rw[e2] at h2
 obtain⟨ao,cap,rfl,_⟩:=(Sl.of_own h2).shape
 exact⟨_,h1,ao,cap,rfl,h2,h3,fun k hk=>(h4 k hk).elim (fun h=>.inl (Option.some.inj h).symm) .inr⟩
theorem Xq {P:Program} {ops:Array Oper} {S:World→Prop} {K:Act→Prop} {o:Oper} {r:List Oper} {a:Act} {v:Value} (hg:o.guard=none) (T:TypeId) (ho:o.op=.build T #[]) (hr:∀w,(Instr.build T #[]).run P w=.ok v w) (h:Fy P ops S K r (a.put o.dst v)):Fy P ops S K (o::r) a:=
 XF hg (fun w _=>by simp only[execOp,ho,List.map_toArray,List.map_nil,Sem.run_bind,Sem.run_pure,Result.andThen_ok,hr w]) h
theorem Xr {v:VV} {o:List Nat} {a:Int} (h:Bn a=false∨CI v.1=false):RL v o a=(LZ,1):=by
 unfold RL
 rcases h with h|h<;>simp[h]
theorem ACc {v:VV} {o:List Nat} {a:Int} (h1:Bn a=true) (h2:CI v.1=true) (h3:Gx v.1 o=false):RL v o a=(LZ,10):=by
 unfold RL
 simp[h1,h2,h3]
theorem AEf {v:VV} {o:List Nat} {a:Int} (h1:Bn a=true) (h2:CI v.1=true) (h3:Gx v.1 o=true) {i:Nat} (hi:pos v.1 o=i) {l:List Nd} (hl:tr v.1 i=l) {q:List Nd×Int} (hq:GY l a=q) (h0:¬q.2=0):RL v o a=(LZ,q.2):=by
 unfold RL
 simp[h1,h2,h3,hi,hl,hq,h0]
theorem ABG {v:VV} {o:List Nat} {a:Int} (h1:Bn a=true) (h2:CI v.1=true) (h3:Gx v.1 o=true) {i:Nat} (hi:pos v.1 o=i) {l:List Nd} (hl:tr v.1 i=l) {q:List Nd×Int} (hq:GY l a=q) (h0:q.2=0):RL v o a=((OT v.1 o q.1,v.2.1,v.2.2),0):=by
 unfold RL
 simp[h1,h2,h3,hi,hl,hq,h0]
theorem AEg (ks:List VK) (ao:Option Addr) (cap:Nat) (sa po:List Nat) (hsa:Dg sa) (hpo:Dg po) (o:List Nat) (ho:Dg o) (a:Int) (w:World) (hr:RdK w (.slice ao ks.length cap) ks) :
   Calls Tryz.prog 31 #[Ao sa po (.slice ao ks.length cap),AR o,.int .i64 a] w fun e w'=>VRes w w' (RL (ks.map VK.p,sa,po) o a) (fun _=>False) e:=by
 refine Dn Tryz.func31 rfl Tryz.ntmps31 rfl fun a0 sv0=>?_
 have HG:=World.grownBy.refl w none
 replace sv0:Sv 54 [] [(0,Ao sa po (.slice ao ks.length cap)),(1,AR o),(2,.int .i64 a)] a0:=sv0
 refine ALl fun K1 k1=>?_
 refine ALk ?_
 refine Bm sv0 r6 (BR hsa hpo (.slice ao ks.length cap) rfl) fun a2 w2 Hh JL g2 z2 AZ sv2=>?_
 have U0:=B7 HG JL
 refine Bm sv2 r6 (CB o ho.1) fun a3 w3 II QL g3 z3 Am sv3=>?_
 replace AZ:=AC g3 AZ
 replace hr:=(hr.kn g2).kn g3
 replace HG:=AA (AA HG g2) g3
 refine Ax (T:=36) (Z:=([bv AS,bv AS,[.slice none 0 0]].flatten)) sv3 rfl rfl rfl (fun a w=>by kernel_rfl) fun a4 w4 Pj IJ g4 z4 Bj sv4=>?_
 have Dr:=Au AZ IJ
 have EV:=Au Am IJ
 have Gz:=B7 HG IJ
 have E6:=A2 (hr.lt) IJ
 replace AZ:=AC g4 AZ
 replace Am:=AC g4 Am
 replace hr:=hr.kn g4
 replace HG:=AA HG g4
 refine Ax (T:=38) (Z:=[.int .i64 0]) sv4 rfl rfl rfl (fun a w=>by kernel_rfl) fun a5 w5 NY F9 g5 z5 BM sv5=>?_
 have DW:=Au AZ F9
 have Ds:=Au Am F9
 have Bf:=Au Bj F9
 have GC:=B7 HG F9
 have EW:=A2 (hr.lt) F9
 replace AZ:=AC g5 AZ
 replace Am:=AC g5 Am
 replace Bj:=AC g5 Bj
 replace hr:=hr.kn g5
 replace HG:=AA HG g5
 refine AE ?_
 refine k1 _ _ ?_
 refine ALl fun K6 k6=>?_
 refine ALk ?_
 refine E2 sv5 rfl rfl rfl rfl rfl rfl fun a7 sv7=>?_
 refine Ei sv7 rfl (dd:={ target:=.fn (.func 74) #[pt Pj,pt NY],args:=#[] }) rfl (by have e1:=sv7.ev (x:=.tmp 11) rfl rfl;simp[execOp,resolve,Deferred.ofValue,e1];try rfl) fun a8 sv8=>?_
 refine AE ?_
 refine k6 _ _ ?_
 refine ALl fun K9 k9=>?_
 refine ALl fun K10 k10=>?_
 rcases(show Bn a=false∨(Bn a=true∧CI (ks.map VK.p)=false)∨(Bn a=true∧CI (ks.map VK.p)=true) by cases Bn a<;>cases CI (ks.map VK.p)<;>simp) with ha|⟨ha,hv⟩|⟨ha,hv⟩
 · refine ALk ?_
   refine AK sv8 8 [(12,.int .i64 a),(13,.bool false),(14,.bool true),(15,.bool true),(16,undef),(17,undef),(18,undef),(19,.bool true)]
     ⟨ym r5,Ad [.int .i64 a] Tryz.func75 (by kernel_rfl) rq4 ⟨(oy rfl rfl),ALr⟩ (As fun W g=>Jt ha W),Cu r6 (fun _=>Bc),ym r5,Ab r6,Ab r6,Ab r6,CK r7,ALr⟩ fun a11 w11 g11 CY=>?_
   refine AE ?_
   refine k10 _ _ ?_
   refine Ar CY rfl rfl ?_
   refine ALl fun K12 k12=>?_
   refine ALk ?_
   replace AZ:=AC g11 AZ
   replace Am:=AC g11 Am
   replace Bj:=AC g11 Bj
   replace BM:=AC g11 BM
   refine AK CY 1 [(20,Ao AS AS (.slice none 0 0))]
     ⟨BV (vs:=[]) rfl rfl trivial trivial (fun _=>bV0 _) (fun _=>rfl),ALr⟩ fun a13 w13 g13 Dh=>?_
   refine Ap Dh r7 (BR AN AN (.slice none 0 0) rfl) (AC g13 Bj) (by first|rfl|simp[AY,AI,AQ,AN.1,AN.1]) fun w14 g14 h14=>?_
   replace BM:=Ah g13 g14 BM Bf
   refine Ap Dh r7 (Dy 1) BM rfl fun w15 g15 h15=>?_
   replace AZ:=AX g15 (Ah g13 g14 AZ (Ne.symm Dr)) (Ne.symm DW)
   replace Am:=AX g15 (Ah g13 g14 Am (Ne.symm EV)) (Ne.symm Ds)
   replace Bj:=AX g15 h14 (Ne.symm Bf)
   replace hr:=(((hr.kn g11).kn g13).offR g14 (AU E6)).offR g15 (AU EW)
   replace HG:=AD (AD (AA (AA HG g11) g13) g14 Gz) g15 GC
   replace BM:=h15
   refine AE ?_
   refine k12 _ _ ?_
   refine ALo ?_
   repeat refine AM ?_
   refine BK (fn:=Tryz.f31) Dh (BU (p:=6) (q:=7) Tryz.results31 Dh rfl rfl rfl rfl (BR AN AN (.slice none 0 0) rfl) (Dy 1) Bj BM) (Bp Tryz.func74 (by kernel_rfl) rfl _ _) (FZ _ _ _) ?_
   exact VRes.zero (Xr (.inl ha)) HG
 · refine ALk ?_
   refine AK sv8 8 [(12,.int .i64 a),(13,.bool true),(14,.bool false),(15,.bool false),(16,Ao sa po (.slice ao ks.length cap)),(17,.bool false),(18,.bool true),(19,.bool true)]
     ⟨ym r5,Ad [.int .i64 a] Tryz.func75 (by kernel_rfl) rq4 ⟨(oy rfl rfl),ALr⟩ (As fun W g=>Jt ha W),Cu r6 (fun _=>Bc),ym r5,A9 rq9 (fun _ g=>Ae (BR hsa hpo (.slice ao ks.length cap) rfl) (Ai (AF g AZ (by simp)))),CL [Ao sa po (.slice ao ks.length cap)] Tryz.func51 (by kernel_rfl) r7 ⟨(oy rfl rfl),ALr⟩ (As fun W g=>F8 hsa hpo (hr.kn g) hv),Ib rfl rfl (gy rfl rfl rfl) (oy rfl rfl) (fun _=>Bc) (fun _=>rfl),BC rq9,ALr⟩ fun a16 w16 g16 Cp=>?_
   refine AE ?_
   refine k10 _ _ ?_
   refine Ar Cp rfl rfl ?_
   refine ALl fun K17 k17=>?_
   refine ALk ?_
   replace AZ:=AC g16 AZ
   replace Am:=AC g16 Am
   replace Bj:=AC g16 Bj
   replace BM:=AC g16 BM
   refine AK Cp 1 [(20,Ao AS AS (.slice none 0 0))]
     ⟨BV (vs:=[]) rfl rfl trivial trivial (fun _=>bV0 _) (fun _=>rfl),ALr⟩ fun a18 w18 g18 Ca=>?_
   refine Ap Ca r7 (BR AN AN (.slice none 0 0) rfl) (AC g18 Bj) (by first|rfl|simp[AY,AI,AQ,AN.1,AN.1]) fun w19 g19 h19=>?_
   replace BM:=Ah g18 g19 BM Bf
   refine Ap Ca r7 (Dy 1) BM rfl fun w20 g20 h20=>?_
   replace AZ:=AX g20 (Ah g18 g19 AZ (Ne.symm Dr)) (Ne.symm DW)
   replace Am:=AX g20 (Ah g18 g19 Am (Ne.symm EV)) (Ne.symm Ds)
   replace Bj:=AX g20 h19 (Ne.symm Bf)
   replace hr:=(((hr.kn g16).kn g18).offR g19 (AU E6)).offR g20 (AU EW)
   replace HG:=AD (AD (AA (AA HG g16) g18) g19 Gz) g20 GC
   replace BM:=h20
   refine AE ?_
   refine k17 _ _ ?_
   refine ALo ?_
   repeat refine AM ?_
   refine BK (fn:=Tryz.f31) Ca (BU (p:=6) (q:=7) Tryz.results31 Ca rfl rfl rfl rfl (BR AN AN (.slice none 0 0) rfl) (Dy 1) Bj BM) (Bp Tryz.func74 (by kernel_rfl) rfl _ _) (FZ _ _ _) ?_
   exact VRes.zero (Xr (.inr hv)) HG
 · obtain⟨i,hi⟩:∃i,pos (ks.map VK.p) o=i:=⟨_,rfl⟩
   have h64:ks.length≤64:=by have:=(Dq.1 hv).1;simpa using this
   refine ALk ?_
   refine AK sv8 8 [(12,.int .i64 a),(13,.bool true),(14,.bool false),(15,.bool false),(16,Ao sa po (.slice ao ks.length cap)),(17,.bool true),(18,.bool false),(19,.bool false)]
     ⟨ym r5,Ad [.int .i64 a] Tryz.func75 (by kernel_rfl) rq4 ⟨(oy rfl rfl),ALr⟩ (As fun W g=>Jt ha W),Cu r6 (fun _=>Bc),ym r5,A9 rq9 (fun _ g=>Ae (BR hsa hpo (.slice ao ks.length cap) rfl) (Ai (AF g AZ (by simp)))),CL [Ao sa po (.slice ao ks.length cap)] Tryz.func51 (by kernel_rfl) r7 ⟨(oy rfl rfl),ALr⟩ (As fun W g=>F8 hsa hpo (hr.kn g) hv),Ib rfl rfl (gy rfl rfl rfl) (oy rfl rfl) (fun _=>Bc) (fun _=>rfl),BC rq9,ALr⟩ fun a21 w21 g21 Db=>?_
   refine AE ?_
   refine k10 _ _ ?_
   refine Av Db rfl rfl ?_
   refine ALp ?_
   refine k9 _ _ ?_
   refine ALl fun K22 k22=>?_
   replace AZ:=AC g21 AZ
   replace Am:=AC g21 Am
   replace Bj:=AC g21 Bj
   replace BM:=AC g21 BM
   replace hr:=hr.kn g21
   replace HG:=AA HG g21
   cases hf:Gx (ks.map VK.p) o
   · refine ALk ?_
     refine AK Db 6 [(22,Ao sa po (.slice ao ks.length cap)),(23,AR o),(24,.tuple #[.int .i64 ((i:Int)),.bool false]),(21,.tuple #[.int .i64 ((i:Int)),.bool false]),(25,.int .i64 ((i:Int))),(26,.bool false)]
       ⟨yl r6 (BR hsa hpo (.slice ao ks.length cap) rfl) AZ,yl r6 (CB o ho.1) Am,Ad [Ao sa po (.slice ao ks.length cap),AR o] Tryz.func71 (by kernel_rfl) rq4 ⟨(oy rfl rfl),(oy rfl rfl),ALr⟩ (As fun W g=>M1 hsa hpo ho (hr.kn g) hv hf hi),ym r5,BE rq4 (fun _ _ h=>⟨_,_,h,rfl,rfl⟩),BE rq4 (fun _ _ h=>⟨_,_,h,rfl,rfl⟩),ALr⟩ fun a23 w23 g23 Cy=>?_
     refine Aa (v:=.int .i64 ((i:Int))) Cy r6 fun a24 Cn=>?_
     refine Aa (v:=.bool false) Cn r6 fun a25 DM=>?_
     have Co:Sv _ _ [_,_,_,_,_,_,_,_,_,_,_,_,_,_,_,_,_] _:=DM.dl [22,23,24,21,25,26,4]
     refine AE ?_
     refine k22 _ _ ?_
     refine ALl fun K27 k27=>?_
     refine ALl fun K28 k28=>?_
     refine ALk ?_
     refine AK Co 2 [(27,.bool false),(28,.bool true)]
       ⟨ym r5,Cu r6 (fun _=>Bc),ALr⟩ fun a29 w29 g29 Cc=>?_
     have Gk:=AA g23 g29
     refine AE ?_
     refine k28 _ _ ?_
     refine Ar Cc rfl rfl ?_
     refine ALl fun K30 k30=>?_
     refine ALk ?_
     replace AZ:=AC Gk AZ
     replace Am:=AC Gk Am
     replace Bj:=AC Gk Bj
     replace BM:=AC Gk BM
     refine AK Cc 1 [(29,Ao AS AS (.slice none 0 0))]
       ⟨BV (vs:=[]) rfl rfl trivial trivial (fun _=>bV0 _) (fun _=>rfl),ALr⟩ fun a31 w31 g31 GO=>?_
     refine Ap GO r7 (BR AN AN (.slice none 0 0) rfl) (AC g31 Bj) (by first|rfl|simp[AY,AI,AQ,AN.1,AN.1]) fun w32 g32 h32=>?_
     replace BM:=Ah g31 g32 BM Bf
     refine Ap GO r7 (Dy 10) BM rfl fun w33 g33 h33=>?_
     replace AZ:=AX g33 (Ah g31 g32 AZ (Ne.symm Dr)) (Ne.symm DW)
     replace Am:=AX g33 (Ah g31 g32 Am (Ne.symm EV)) (Ne.symm Ds)
     replace Bj:=AX g33 h32 (Ne.symm Bf)
     replace hr:=(((hr.kn Gk).kn g31).offR g32 (AU E6)).offR g33 (AU EW)
     replace HG:=AD (AD (AA (AA HG Gk) g31) g32 Gz) g33 GC
     replace BM:=h33
     refine AE ?_
     refine k30 _ _ ?_
     refine ALo ?_
     repeat refine AM ?_
     refine BK (fn:=Tryz.f31) GO (BU (p:=6) (q:=7) Tryz.results31 GO rfl rfl rfl rfl (BR AN AN (.slice none 0 0) rfl) (Dy 10) Bj BM) (Bp Tryz.func74 (by kernel_rfl) rfl _ _) (FZ _ _ _) ?_
     exact VRes.zero (ACc ha hv hf) HG
   · have hil:i<ks.length:=by have:=(Ia hf).1;rw[hi] at this;simpa using this
     obtain⟨x,hx_x⟩:∃x,ks[i]'hil=x:=⟨_,rfl⟩
     have htr:tr (ks.map VK.p) i=x.l:=by rw[RB hil,hx_x]
     obtain⟨q,hq⟩:∃q,GY x.l a=q:=⟨_,rfl⟩
     refine ALk ?_
     refine AK Db 6 [(22,Ao sa po (.slice ao ks.length cap)),(23,AR o),(24,.tuple #[.int .i64 ((i:Int)),.bool true]),(21,.tuple #[.int .i64 ((i:Int)),.bool true]),(25,.int .i64 ((i:Int))),(26,.bool true)]
       ⟨yl r6 (BR hsa hpo (.slice ao ks.length cap) rfl) AZ,yl r6 (CB o ho.1) Am,Ad [Ao sa po (.slice ao ks.length cap),AR o] Tryz.func71 (by kernel_rfl) rq4 ⟨(oy rfl rfl),(oy rfl rfl),ALr⟩ (As fun W g=>M1 hsa hpo ho (hr.kn g) hv hf hi),ym r5,BE rq4 (fun _ _ h=>⟨_,_,h,rfl,rfl⟩),BE rq4 (fun _ _ h=>⟨_,_,h,rfl,rfl⟩),ALr⟩ fun a34 w34 g34 Kv=>?_
     refine Aa (v:=.int .i64 ((i:Int))) Kv r6 fun a35 Jr=>?_
     refine Aa (v:=.bool true) Jr r6 fun a36 FS=>?_
     have IG:Sv _ _ [_,_,_,_,_,_,_,_,_,_,_,_,_,_,_,_,_] _:=FS.dl [22,23,24,21,25,26,4]
     refine AE ?_
     refine k22 _ _ ?_
     refine ALl fun K38 k38=>?_
     refine ALl fun K39 k39=>?_
     refine ALk ?_
     refine AK IG 2 [(27,.bool true),(28,.bool false)]
       ⟨ym r5,Cu r6 (fun _=>Bc),ALr⟩ fun a40 w40 g40 I3=>?_
     have Ja:=AA g34 g40
     refine AE ?_
     refine k39 _ _ ?_
     refine Av I3 rfl rfl ?_
     refine ALp ?_
     refine k38 _ _ ?_
     refine ALl fun K41 k41=>?_
     refine ALk ?_
     replace AZ:=AC Ja AZ
     replace Am:=AC Ja Am
     replace Bj:=AC Ja Bj
     replace BM:=AC Ja BM
     replace hr:=hr.kn Ja
     refine FH (I3.st w40) 11 [(31,Sp.is (pk Hh 64)),(32,Sp.is (.slice ao ks.length cap)),(33,Sp.is (.int .i64 ((i:Int)))),(34,Sp.is (pk ((bO ao)) (oO ao+i*33))),(35,Sp.is (pk ((bO ao)) (oO ao+i*33+32))),(36,Sp.is (.agg #[VK.s x])),(37,Sp.is (.int .i64 a)),(38,Sp.puncF w40.heap.size q),(30,Sp.puncF w40.heap.size q),(39,Sp.ct w40.heap.size q.1),(40,Sp.is (.int .i64 q.2))] rfl (by kernel_rfl) (by kernel_rfl) (by kernel_rfl)
       ⟨yf r6 (fun _=>by kernel_rfl),yp (i:=2) r6 (EC (.slice ao ks.length cap) rfl) AZ rfl (by simp[AI,AQ,hsa.1,hpo.1]),ym r5,BJ rq8 (fun w=>CW Tryz.underlying34 (by kernel_rfl) (hr.1.1) (by omega) (rfl) w),yf r6 (fun _=>by kernel_rfl),CD r6 (fun _ g=>Ae (Pc (VK.s x) rfl) (RdK.treeX (hr.kn g) rfl hil hx_x)),ym r5,Ad [.agg #[VK.s x],.int .i64 a] Tryz.func76 (by kernel_rfl) rq4 ⟨(oy rfl rfl),(oy rfl rfl),ALr⟩ (ACQ hq (hr.kt hil hx_x)),ym r5,BE rq4 (fun w u h=>Zn w u h),BE rq4 (fun w u h=>ACP w u h),ALr⟩ fun a42 w42 g42 st42=>?_
     obtain⟨hn42,hd42,e42_31,e42_32,e42_33,e42_34,e42_35,e42_36,e42_37,e42_38,e42_30,e42_39,e42_40,e42_27,e42_28,e42_9,e42_8,e42_12,e42_13,e42_14,e42_15,e42_16,e42_17,e42_18,e42_19,e42_11,e42_7,e42_6,e42_3,e42_0,e42_1,e42_2,-⟩:=st42
     obtain⟨ao43,cap43,e42_39q,rt,frT⟩:=e42_39
     have RM:=CA frT AZ
     have AAA:=CA frT Am
     have RN:=CA frT Bj
     have M2:=CA frT BM
     replace AZ:=AC g42 AZ
     replace Am:=AC g42 Am
     replace Bj:=AC g42 Bj
     replace BM:=AC g42 BM
     replace hr:=hr.kn g42
     replace HG:=AA (AA HG Ja) g42
     have GR:Sv 54 [{ target:=.fn (.func 74) #[pt Pj,pt NY],args:=#[] }] [(27,_),(28,_),(9,_),(8,_),(12,_),(13,_),(14,_),(15,_),(16,_),(17,_),(18,_),(19,_),(11,_),(7,_),(6,_),(3,_),(0,_),(1,_),(2,_),(39,_),(40,_)] a42:=⟨hn42,hd42,e42_27,e42_28,e42_9,e42_8,e42_12,e42_13,e42_14,e42_15,e42_16,e42_17,e42_18,e42_19,e42_11,e42_7,e42_6,e42_3,e42_0,e42_1,e42_2,e42_39q,e42_40,ALr⟩
     refine Ax (T:=56) (Z:=[.slice none 0 0]) GR rfl rfl rfl (fun a w=>by kernel_rfl) fun a44 w44 AAB Gm g44 z44 JM Pn=>?_
     have La:=Au AZ Gm
     have RO:=Au Am Gm
     have RP:=Au Bj Gm
     have Lb:=Au BM Gm
     have ACd:=B7 HG Gm
     have U1:=A2 (hr.lt) Gm
     have NZ:=A2 (rt.lt) Gm
     refine Ap Pn r7 (Pc (.slice ao43 q.1.length cap43) rfl) JM rfl fun w45 g45 h45=>?_
     replace BM:=AX g45 (AC g44 BM) (Ne.symm Lb)
     refine Ap Pn r7 (Dy q.2) BM rfl fun w46 g46 h46=>?_
     replace AZ:=AX g46 (AX g45 (AC g44 AZ) (Ne.symm La)) (Ne.symm DW)
     replace Am:=AX g46 (AX g45 (AC g44 Am) (Ne.symm RO)) (Ne.symm Ds)
     replace Bj:=AX g46 (AX g45 (AC g44 Bj) (Ne.symm RP)) (Ne.symm Bf)
     replace JM:=AX g46 h45 Lb
     replace hr:=((hr.kn g44).offR g45 (AU U1)).offR g46 (AU EW)
     replace rt:=((rt.kn g44).offR g45 (AU NZ)).offR g46 (AU M2)
     replace HG:=AD (AD (AA HG g44) g45 ACd) g46 GC
     replace BM:=h46
     refine AE ?_
     refine k41 _ _ ?_
     refine ALl fun K47 k47=>?_
     refine ALl fun K48 k48=>?_
     by_cases hq0:q.2=0
     · refine ALk ?_
       refine AK Pn 2 [(41,.int .i64 q.2),(42,.bool false)]
        ⟨yl r6 (Dy q.2) BM,Cq r6 (fun _=>EU (by rw[hq0];rfl)),ALr⟩ fun a49 w49 g49 KF=>?_
       refine AE ?_
       refine k48 _ _ ?_
       refine Av KF rfl rfl ?_
       refine ALp ?_
       refine k47 _ _ ?_
       refine ALl fun K50 k50=>?_
       refine ALk ?_
       replace AZ:=AC g49 AZ
       replace Am:=AC g49 Am
       replace Bj:=AC g49 Bj
       replace BM:=AC g49 BM
       replace JM:=AC g49 JM
       replace hr:=hr.kn g49
       replace rt:=rt.kn g49
       replace HG:=AA HG g49
       refine FH (KF.st w49) 2 [(45,Sp.is (Ao sa po (.slice ao ks.length cap))),(46,Sp.cln w49.heap.size sa po ks.length (ks.map VK.p))] rfl (by kernel_rfl) (by kernel_rfl) (by kernel_rfl)
        ⟨yl r6 (BR hsa hpo (.slice ao ks.length cap) rfl) AZ,Ad [Ao sa po (.slice ao ks.length cap)] Tryz.func72 (by kernel_rfl) rq4 ⟨(oy rfl rfl),ALr⟩ (Oh hsa hpo hr h64),ALr⟩ fun a51 w51 g51 st51=>?_
       obtain⟨hn51,hd51,e51_45,e51_46,e51_41,e51_42,e51_10,e51_27,e51_28,e51_9,e51_8,e51_12,e51_13,e51_14,e51_15,e51_16,e51_17,e51_18,e51_19,e51_11,e51_7,e51_6,e51_3,e51_0,e51_1,e51_2,e51_39,e51_40,-⟩:=st51
       obtain⟨A,ms,e51_46q,hmp,ow,kr,frA,frK⟩:=e51_46
       have fr_ow:∀k,Bi (.slice ((some ⟨A,0,none⟩)) ks.length ks.length) k→w49.heap.size≤k:=fun k hk=>(Option.some.inj hk)▸frA
       have fr_kr:∀k,DI ms k→w49.heap.size≤k:=fun k hk=>(frK k hk).1
       have ap_kr_ow:∀k,DI ms k→¬Bi (.slice ((some ⟨A,0,none⟩)) ks.length ks.length) k:=fun k hk e=>(frK k hk).2 (Option.some.inj e).symm
       have RQ:=CA fr_ow AZ
       have RU:=CA fr_ow Bj
       have RV:=CA fr_ow BM
       have ap_rt_ow:=AEG (rt.lt) fr_ow
       have lo_ow:=Jp HG fr_ow
       have RX:=CA fr_kr AZ
       have AAC:=CA fr_kr Am
       have AAD:=CA fr_kr Bj
       have AAE:=CA fr_kr BM
       have U2:=CA fr_kr JM
       replace AZ:=AC g51 AZ
       have EE:Sv 54 [{ target:=.fn (.func 74) #[pt Pj,pt NY],args:=#[] }] [(41,_),(42,_),(10,_),(27,_),(28,_),(9,_),(8,_),(12,_),(13,_),(14,_),(15,_),(16,_),(17,_),(18,_),(19,_),(11,_),(7,_),(6,_),(3,_),(0,_),(1,_),(2,_),(39,_),(40,_),(46,_)] a51:=⟨hn51,hd51,e51_41,e51_42,e51_10,e51_27,e51_28,e51_9,e51_8,e51_12,e51_13,e51_14,e51_15,e51_16,e51_17,e51_18,e51_19,e51_11,e51_7,e51_6,e51_3,e51_0,e51_1,e51_2,e51_39,e51_40,e51_46q,ALr⟩
       refine Ap EE r7 (BR hsa hpo (.slice ((some ⟨A,0,none⟩)) ks.length ks.length) rfl) AZ (by first|rfl|simp[AY,AI,AQ,hsa.1,hpo.1,hsa.1,hpo.1]) fun w52 g52 h52=>?_
       replace JM:=AX g52 (AC g51 JM) La
       replace ow:=ow.offR g52 (AU RQ)
       replace AZ:=h52
       refine AE ?_
       refine k50 _ _ ?_
       refine ALl fun K53 k53=>?_
       have hml:ks.length=ms.length:=Own.rdk ow
       have him:i<ms.length:=by omega
       obtain⟨z,hx_z⟩:∃x,ms[i]'him=x:=⟨_,rfl⟩
       refine ALk ?_
       refine AK EE 6 [(47,pk Hh 64),(48,.slice ((some ⟨A,0,none⟩)) ks.length ks.length),(49,.int .i64 ((i:Int))),(50,.agg #[.slice ao43 q.1.length cap43]),(51,pk ((bO ((some ⟨A,0,none⟩)))) (oO ((some ⟨A,0,none⟩))+i*33)),(52,pk ((bO ((some ⟨A,0,none⟩)))) (oO ((some ⟨A,0,none⟩))+i*33+32))]
        ⟨yf r6 (fun _=>by kernel_rfl),yp (i:=2) r6 (EC (.slice ((some ⟨A,0,none⟩)) ks.length ks.length) rfl) AZ rfl (by simp[AI,AQ,hsa.1,hpo.1]),ym r5,yl r6 (Pc (.slice ao43 q.1.length cap43) rfl) JM,BJ rq8 (fun w=>CW Tryz.underlying34 (by kernel_rfl) (Sl.of_own ow) (by omega) (rfl) w),yf r6 (fun _=>by kernel_rfl),ALr⟩ fun a54 w54 g54 E8=>?_
       replace ow:=ow.kn g54
       refine T9 (c:=AY) (el:=(⟨z.o,z.ho,ao43,cap43,q.1⟩:VK)) (A:=bv z.o) (B:=[z.s]) (C:=[]) E8 rfl rfl rfl rfl rfl rfl rfl (Pc (.slice ao43 q.1.length cap43) rfl) ow C6 (by decide) (him) (by rw[hx_z];rfl) rfl rfl (by rw[AI,z.ho.1]) fun w55 g55 h55=>?_
       replace AZ:=AF g55 (AC g54 AZ) (fun e=>RQ _ (Ct (j:=i) ow (by omega) rfl) (Option.some.inj e).symm)
       replace Bj:=AF g55 (AC g54 (AX g52 (AC g51 Bj) Dr)) (fun e=>RU _ (Ct (j:=i) ow (by omega) rfl) (Option.some.inj e).symm)
       replace BM:=AF g55 (AC g54 (AX g52 (AC g51 BM) DW)) (fun e=>RV _ (Ct (j:=i) ow (by omega) rfl) (Option.some.inj e).symm)
       replace rt:=(((rt.kn g51).offR g52 (AU RM)).kn g54).offR g55 (fun k hk e=>ap_rt_ow k hk (Ct (j:=i) ow (by omega) e))
       replace kr:=((kr.offR g52 (AU RX)).kn g54).offR g55 (fun k hk e=>ap_kr_ow k hk (Ct (j:=i) ow (by omega) e))
       replace HG:=Bh (AA (AD (AA HG g51) g52 U0) g54) g55 fun k e=>lo_ow k (Ct (j:=i) ow (by omega) e)
       have FU:Sv _ _ [_,_,_,_,_,_,_,_,_,_,_,_,_,_,_,_,_,_,_,_,_,_,_,_,_] _:=E8.dl [47,48,49,50,51,52]
       refine AE ?_
       have kr2:=KsT.set kr (x:=(⟨z.o,z.ho,ao43,cap43,q.1⟩:VK)) rt i
       have AHi:∀k,DI (ms.set i (⟨z.o,z.ho,ao43,cap43,q.1⟩:VK)) k→k≠Hh:=fun k hk=>(Eh hk).elim (RX k) (RM k)
       have AHj:∀k,DI (ms.set i (⟨z.o,z.ho,ao43,cap43,q.1⟩:VK)) k→k≠II:=fun k hk=>(Eh hk).elim (AAC k) (AAA k)
       have Xs:∀k,DI (ms.set i (⟨z.o,z.ho,ao43,cap43,q.1⟩:VK)) k→k≠Pj:=fun k hk=>(Eh hk).elim (AAD k) (RN k)
       have Xt:∀k,DI (ms.set i (⟨z.o,z.ho,ao43,cap43,q.1⟩:VK)) k→k≠NY:=fun k hk=>(Eh hk).elim (AAE k) (M2 k)
       have AFj:∀k,DI (ms.set i (⟨z.o,z.ho,ao43,cap43,q.1⟩:VK)) k→k≠AAB:=fun k hk=>(Eh hk).elim (U2 k) (NZ k)
       have ap_kr2_ow:∀k,DI (ms.set i (⟨z.o,z.ho,ao43,cap43,q.1⟩:VK)) k→¬Bi (.slice ((some ⟨A,0,none⟩)) ks.length ks.length) k:=fun k hk=>(Eh hk).elim (ap_kr_ow k) (ap_rt_ow k)
       refine k53 _ _ ?_
       refine ALl fun K57 k57=>?_
       refine ALk ?_
       refine AK FU 1 [(53,Ao sa po (.slice ((some ⟨A,0,none⟩)) ks.length ks.length))]
        ⟨yl r6 (BR hsa hpo (.slice ((some ⟨A,0,none⟩)) ks.length ks.length) rfl) AZ,ALr⟩ fun a58 w58 g58 Pm=>?_
       refine Ap Pm r7 (BR hsa hpo (.slice ((some ⟨A,0,none⟩)) ks.length ks.length) rfl) (AC g58 Bj) (by first|rfl|simp[AY,AI,AQ,hsa.1,hpo.1]) fun w59 g59 h59=>?_
       replace BM:=Ah g58 g59 BM Bf
       refine Ap Pm r7 (Dy 0) BM rfl fun w60 g60 h60=>?_
       replace Bj:=AX g60 h59 (Ne.symm Bf)
       replace ow:=((h55.kn g58).offR g59 (AU RU)).offR g60 (AU RV)
       replace kr2:=((kr2.kn g58).offR g59 (AU Xs)).offR g60 (AU Xt)
       replace HG:=AD (AD (AA HG g58) g59 Gz) g60 GC
       replace BM:=h60
       refine AE ?_
       refine k57 _ _ ?_
       refine ALo ?_
       repeat refine AM ?_
       refine BK (fn:=Tryz.f31) Pm (BU (p:=6) (q:=7) Tryz.results31 Pm rfl rfl rfl rfl (BR hsa hpo (.slice ((some ⟨A,0,none⟩)) ks.length ks.length) rfl) (Dy 0) Bj BM) (Bp Tryz.func74 (by kernel_rfl) rfl _ _) (FZ _ _ _) ?_
       exact VRes.mk (P:=OT (ks.map VK.p) o q.1) (ABG ha hv hf hi htr hq hq0) (AGi (el:=(⟨z.o,z.ho,ao43,cap43,q.1⟩:VK)) hmp hf hi him hx_z rfl rfl) ow kr2 HG
     · refine ALk ?_
       refine AK Pn 2 [(41,.int .i64 q.2),(42,.bool true)]
        ⟨yl r6 (Dy q.2) BM,Cq r6 (fun _=>EU (by simpa using hq0)),ALr⟩ fun a61 w61 g61 KM=>?_
       refine AE ?_
       refine k48 _ _ ?_
       refine Ar KM rfl rfl ?_
       refine ALl fun K62 k62=>?_
       have gd63:=CP w61
       replace Bj:=AC gd63 (AC g61 Bj)
       replace BM:=AC gd63 (AC g61 BM)
       refine wp_region_noPanic ?_
       refine Ma (fun w'=>w'.heap[NY]?=some (.cells [.int .i64 q.2].toArray 38 (0,0))) [0,1] [2,3] (by kernel_rfl) (by kernel_rfl) (fun _ _ d _ _ h=>by cases d<;>exact h) rfl (by kernel_rfl) BM ?_
       simp only[List.filterMap_cons,List.filterMap_nil,List.getElem?_toArray,List.getElem?_cons_succ,List.getElem?_cons_zero]
       refine Xq rfl 36 rfl bV0 ?_
       have sv63A:Sv 54 [{ target:=.fn (.func 74) #[pt Pj,pt NY],args:=#[] }] [(43,Ao AS AS (.slice none 0 0)),(41,.int .i64 q.2),(42,.bool true),(10,pt AAB),(27,.bool true),(28,.bool false),(9,.bool true),(8,.int .i64 ((i:Int))),(12,.int .i64 a),(13,.bool true),(14,.bool false),(15,.bool false),(16,Ao sa po (.slice ao ks.length cap)),(17,.bool true),(18,.bool false),(19,.bool false),(11,.func (.func 74) #[] #[pt Pj,pt NY]),(7,pt NY),(6,pt Pj),(3,pt Hh),(0,Ao sa po (.slice ao ks.length cap)),(1,AR o),(2,.int .i64 a),(39,.agg #[.slice ao43 q.1.length cap43]),(40,.int .i64 q.2)] (Act.put a61 (some 43) (Ao AS AS (.slice none 0 0))):=KM.put (by decide) _
       refine Tz rfl 38 (.tmp 7) (p:=.pointer (some ⟨NY,0,none⟩)) rfl (sv63A.ev rfl rfl) (fun _ h=>Ae (Dy q.2) (Ai h)) ?_
       have sv63B:Sv 54 [{ target:=.fn (.func 74) #[pt Pj,pt NY],args:=#[] }] [(44,.int .i64 q.2),(43,Ao AS AS (.slice none 0 0)),(41,.int .i64 q.2),(42,.bool true),(10,pt AAB),(27,.bool true),(28,.bool false),(9,.bool true),(8,.int .i64 ((i:Int))),(12,.int .i64 a),(13,.bool true),(14,.bool false),(15,.bool false),(16,Ao sa po (.slice ao ks.length cap)),(17,.bool true),(18,.bool false),(19,.bool false),(11,.func (.func 74) #[] #[pt Pj,pt NY]),(7,pt NY),(6,pt Pj),(3,pt Hh),(0,Ao sa po (.slice ao ks.length cap)),(1,AR o),(2,.int .i64 a),(39,.agg #[.slice ao43 q.1.length cap43]),(40,.int .i64 q.2)] (Act.put (Act.put a61 (some 43) (Ao AS AS (.slice none 0 0))) (some 44) (.int .i64 q.2)):=sv63A.put (by decide) _
       generalize hcl:Act.put (Act.put a61 (some 43) (Ao AS AS (.slice none 0 0))) (some 44) (.int .i64 q.2)=a63 at sv63B
       change wpList _ _ _ _ a63 _
       refine Ap sv63B r7 (BR AN AN (.slice none 0 0) rfl) Bj (by first|rfl|simp[AY,AI,AQ,AN.1,AN.1]) fun w64 g64 h64=>?_
       replace BM:=AX g64 BM Bf
       refine AE ⟨BM,?_⟩
       change wpList _ _ _ _ _ _
       refine Ap sv63B r7 (Dy q.2) BM rfl fun w65 g65 h65=>?_
       replace Bj:=AX g65 h64 (Ne.symm Bf)
       replace rt:=(((rt.kn g61).kn gd63).offR g64 (AU RN)).offR g65 (AU M2)
       replace HG:=AD (AD (AA (AA HG g61) gd63) g64 Gz) g65 GC
       replace BM:=h65
       refine AE ⟨BM,?_⟩
       refine NoPanic.normal ?_
       refine k62 _ _ ?_
       refine ALo ?_
       repeat refine AM ?_
       refine BK (fn:=Tryz.f31) sv63B (BU (p:=6) (q:=7) Tryz.results31 sv63B rfl rfl rfl rfl (BR AN AN (.slice none 0 0) rfl) (Dy q.2) Bj BM) (Bp Tryz.func74 (by kernel_rfl) rfl _ _) (FZ _ _ _) ?_
       exact VRes.zero (AEf ha hv hf hi htr hq hq0) HG
theorem AEh (ks:List VK) (ao:Option Addr) (cap:Nat) (sa po:List Nat) (hsa:Dg sa) (hpo:Dg po) (o:List Nat) (ho:Dg o) (w:World) (hr:RdK w (.slice ao ks.length cap) ks) :
   Calls Tryz.prog 29 #[Ao sa po (.slice ao ks.length cap),AR o] w fun e w'=>VRes w w' (Zf (ks.map VK.p,sa,po) o) (fun _=>False) e:=by
 refine Dn Tryz.func29 rfl Tryz.ntmps29 rfl fun a0 sv0=>?_
 have HG:=World.grownBy.refl w none
 replace sv0:Sv 32 [] [(0,Ao sa po (.slice ao ks.length cap)),(1,AR o)] a0:=sv0
 refine ALl fun K1 k1=>?_
 refine ALk ?_
 refine Bm sv0 r6 (BR hsa hpo (.slice ao ks.length cap) rfl) fun a2 w2 Cf DV g2 z2 AJ sv2=>?_
 have Ey:=B7 HG DV
 refine Bm sv2 r6 (CB o ho.1) fun a3 w3 CX FI g3 z3 AL sv3=>?_
 have GD:=Au AJ FI
 replace AJ:=AC g3 AJ
 replace hr:=(hr.kn g2).kn g3
 replace HG:=AA (AA HG g2) g3
 refine Ax (T:=36) (Z:=([bv AS,bv AS,[.slice none 0 0]].flatten)) sv3 rfl rfl rfl (fun a w=>by kernel_rfl) fun a4 w4 Fa B9 g4 z4 AP sv4=>?_
 have A3:=Au AJ B9
 have BO:=Au AL B9
 have CG:=B7 HG B9
 have Bw:=A2 (hr.lt) B9
 replace AJ:=AC g4 AJ
 replace AL:=AC g4 AL
 replace hr:=hr.kn g4
 replace HG:=AA HG g4
 refine Ax (T:=38) (Z:=[.int .i64 0]) sv4 rfl rfl rfl (fun a w=>by kernel_rfl) fun a5 w5 Pk DQ g5 z5 Ak sv5=>?_
 have Br:=Au AJ DQ
 have CR:=Au AL DQ
 have Aq:=Au AP DQ
 have Dt:=B7 HG DQ
 have Di:=A2 (hr.lt) DQ
 replace AJ:=AC g5 AJ
 replace AL:=AC g5 AL
 replace AP:=AC g5 AP
 replace hr:=hr.kn g5
 replace HG:=AA HG g5
 refine AE ?_
 refine k1 _ _ ?_
 refine ALl fun K6 k6=>?_
 refine ALk ?_
 refine E2 sv5 rfl rfl rfl rfl rfl rfl fun a7 sv7=>?_
 refine Ei sv7 rfl (dd:={ target:=.fn (.func 70) #[pt Fa,pt Pk],args:=#[] }) rfl (by have e1:=sv7.ev (x:=.tmp 8) rfl rfl;simp[execOp,resolve,Deferred.ofValue,e1];try rfl) fun a8 sv8=>?_
 refine AE ?_
 refine k6 _ _ ?_
 refine ALl fun K9 k9=>?_
 refine ALl fun K10 k10=>?_
 cases hv:CI (ks.map VK.p)
 · refine ALk ?_
   refine AK sv8 3 [(9,Ao sa po (.slice ao ks.length cap)),(10,.bool false),(11,.bool true)]
     ⟨yl r6 (BR hsa hpo (.slice ao ks.length cap) rfl) AJ,Ad [Ao sa po (.slice ao ks.length cap)] Tryz.func51 (by kernel_rfl) rq4 ⟨(oy rfl rfl),ALr⟩ (As fun W g=>F8 hsa hpo (hr.kn g) hv),Cu r6 (fun _=>Bc),ALr⟩ fun a11 w11 g11 CY=>?_
   refine AE ?_
   refine k10 _ _ ?_
   refine Ar CY rfl rfl ?_
   refine ALl fun K12 k12=>?_
   refine ALk ?_
   replace AJ:=AC g11 AJ
   replace AL:=AC g11 AL
   replace AP:=AC g11 AP
   replace Ak:=AC g11 Ak
   refine AK CY 1 [(12,Ao AS AS (.slice none 0 0))]
     ⟨BV (vs:=[]) rfl rfl trivial trivial (fun _=>bV0 _) (fun _=>rfl),ALr⟩ fun a13 w13 g13 Dh=>?_
   refine Ap Dh r7 (BR AN AN (.slice none 0 0) rfl) (AC g13 AP) (by first|rfl|simp[AY,AI,AQ,AN.1,AN.1]) fun w14 g14 h14=>?_
   replace Ak:=Ah g13 g14 Ak Aq
   refine Ap Dh r7 (Dy 1) Ak rfl fun w15 g15 h15=>?_
   replace AJ:=AX g15 (Ah g13 g14 AJ (Ne.symm A3)) (Ne.symm Br)
   replace AL:=AX g15 (Ah g13 g14 AL (Ne.symm BO)) (Ne.symm CR)
   replace AP:=AX g15 h14 (Ne.symm Aq)
   replace hr:=(((hr.kn g11).kn g13).offR g14 (AU Bw)).offR g15 (AU Di)
   replace HG:=AD (AD (AA (AA HG g11) g13) g14 CG) g15 Dt
   replace Ak:=h15
   refine AE ?_
   refine k12 _ _ ?_
   refine ALo ?_
   repeat refine AM ?_
   refine BK (fn:=Tryz.f29) Dh (BU (p:=4) (q:=5) Tryz.results29 Dh rfl rfl rfl rfl (BR AN AN (.slice none 0 0) rfl) (Dy 1) AP Ak) (Bp Tryz.func70 (by kernel_rfl) rfl _ _) (KE _ _ _) ?_
   exact VRes.zero (by unfold Zf;rw[if_neg (by rw[hv];simp)]) HG
 · obtain⟨i,hi⟩:∃i,pos (ks.map VK.p) o=i:=⟨_,rfl⟩
   have h64:ks.length≤64:=by have:=(Dq.1 hv).1;simpa using this
   refine ALk ?_
   refine AK sv8 3 [(9,Ao sa po (.slice ao ks.length cap)),(10,.bool true),(11,.bool false)]
     ⟨yl r6 (BR hsa hpo (.slice ao ks.length cap) rfl) AJ,Ad [Ao sa po (.slice ao ks.length cap)] Tryz.func51 (by kernel_rfl) rq4 ⟨(oy rfl rfl),ALr⟩ (As fun W g=>F8 hsa hpo (hr.kn g) hv),Cu r6 (fun _=>Bc),ALr⟩ fun a16 w16 g16 Cp=>?_
   refine AE ?_
   refine k10 _ _ ?_
   refine Av Cp rfl rfl ?_
   refine ALp ?_
   refine k9 _ _ ?_
   refine ALl fun K17 k17=>?_
   replace AJ:=AC g16 AJ
   replace AL:=AC g16 AL
   replace AP:=AC g16 AP
   replace Ak:=AC g16 Ak
   replace hr:=hr.kn g16
   replace HG:=AA HG g16
   cases hf:Gx (ks.map VK.p) o
   · refine ALk ?_
     refine AK Cp 6 [(14,Ao sa po (.slice ao ks.length cap)),(15,AR o),(16,.tuple #[.int .i64 ((i:Int)),.bool false]),(13,.tuple #[.int .i64 ((i:Int)),.bool false]),(17,.int .i64 ((i:Int))),(18,.bool false)]
      ⟨yl r6 (BR hsa hpo (.slice ao ks.length cap) rfl) AJ,yl r6 (CB o ho.1) AL,Ad [Ao sa po (.slice ao ks.length cap),AR o] Tryz.func71 (by kernel_rfl) rq4 ⟨(oy rfl rfl),(oy rfl rfl),ALr⟩ (As fun W g=>M1 hsa hpo ho (hr.kn g) hv hf hi),ym r5,BE rq4 (fun _ _ h=>⟨_,_,h,rfl,rfl⟩),BE rq4 (fun _ _ h=>⟨_,_,h,rfl,rfl⟩),ALr⟩ fun a18 w18 g18 Ca=>?_
     refine Aa (v:=.int .i64 ((i:Int))) Ca r6 fun a19 Er=>?_
     refine Aa (v:=.bool false) Er r6 fun a20 E5=>?_
     have Db:Sv _ _ [_,_,_,_,_,_,_,_,_,_,_] _:=E5.dl [14,15,16,13,17,18,3]
     refine AE ?_
     refine k17 _ _ ?_
     refine ALl fun K22 k22=>?_
     refine ALl fun K23 k23=>?_
     refine ALk ?_
     refine AK Db 2 [(19,.bool false),(20,.bool true)]
      ⟨ym r5,Cu r6 (fun _=>Bc),ALr⟩ fun a24 w24 g24 Cn=>?_
     have ACe:=AA g18 g24
     refine AE ?_
     refine k23 _ _ ?_
     refine Ar Cn rfl rfl ?_
     refine ALl fun K25 k25=>?_
     refine ALk ?_
     replace AJ:=AC ACe AJ
     replace AL:=AC ACe AL
     replace AP:=AC ACe AP
     replace Ak:=AC ACe Ak
     refine AK Cn 1 [(21,Ao AS AS (.slice none 0 0))]
      ⟨BV (vs:=[]) rfl rfl trivial trivial (fun _=>bV0 _) (fun _=>rfl),ALr⟩ fun a26 w26 g26 Co=>?_
     refine Ap Co r7 (BR AN AN (.slice none 0 0) rfl) (AC g26 AP) (by first|rfl|simp[AY,AI,AQ,AN.1,AN.1]) fun w27 g27 h27=>?_
     replace Ak:=Ah g26 g27 Ak Aq
     refine Ap Co r7 (Dy 10) Ak rfl fun w28 g28 h28=>?_
     replace AJ:=AX g28 (Ah g26 g27 AJ (Ne.symm A3)) (Ne.symm Br)
     replace AL:=AX g28 (Ah g26 g27 AL (Ne.symm BO)) (Ne.symm CR)
     replace AP:=AX g28 h27 (Ne.symm Aq)
     replace hr:=(((hr.kn ACe).kn g26).offR g27 (AU Bw)).offR g28 (AU Di)
     replace HG:=AD (AD (AA (AA HG ACe) g26) g27 CG) g28 Dt
     replace Ak:=h28
     refine AE ?_
     refine k25 _ _ ?_
     refine ALo ?_
     repeat refine AM ?_
     refine BK (fn:=Tryz.f29) Co (BU (p:=4) (q:=5) Tryz.results29 Co rfl rfl rfl rfl (BR AN AN (.slice none 0 0) rfl) (Dy 10) AP Ak) (Bp Tryz.func70 (by kernel_rfl) rfl _ _) (KE _ _ _) ?_
     exact VRes.zero (by unfold Zf;rw[if_pos hv,if_neg (by rw[hf];simp)]) HG
   · have hil:i<ks.length:=by have:=(Ia hf).1;rw[hi] at this;simpa using this
     obtain⟨x,hx_x⟩:∃x,ks[i]'hil=x:=⟨_,rfl⟩
     have htr:tr (ks.map VK.p) i=x.l:=by rw[RB hil,hx_x]
     refine ALk ?_
     refine AK Cp 6 [(14,Ao sa po (.slice ao ks.length cap)),(15,AR o),(16,.tuple #[.int .i64 ((i:Int)),.bool true]),(13,.tuple #[.int .i64 ((i:Int)),.bool true]),(17,.int .i64 ((i:Int))),(18,.bool true)]
      ⟨yl r6 (BR hsa hpo (.slice ao ks.length cap) rfl) AJ,yl r6 (CB o ho.1) AL,Ad [Ao sa po (.slice ao ks.length cap),AR o] Tryz.func71 (by kernel_rfl) rq4 ⟨(oy rfl rfl),(oy rfl rfl),ALr⟩ (As fun W g=>M1 hsa hpo ho (hr.kn g) hv hf hi),ym r5,BE rq4 (fun _ _ h=>⟨_,_,h,rfl,rfl⟩),BE rq4 (fun _ _ h=>⟨_,_,h,rfl,rfl⟩),ALr⟩ fun a29 w29 g29 Cc=>?_
     refine Aa (v:=.int .i64 ((i:Int))) Cc r6 fun a30 Es=>?_
     refine Aa (v:=.bool true) Es r6 fun a31 GO=>?_
     have Ck:Sv _ _ [_,_,_,_,_,_,_,_,_,_,_] _:=GO.dl [14,15,16,13,17,18,3]
     refine AE ?_
     refine k17 _ _ ?_
     refine ALl fun K33 k33=>?_
     refine ALl fun K34 k34=>?_
     refine ALk ?_
     refine AK Ck 2 [(19,.bool true),(20,.bool false)]
      ⟨ym r5,Cu r6 (fun _=>Bc),ALr⟩ fun a35 w35 g35 Jr=>?_
     have XZ:=AA g29 g35
     refine AE ?_
     refine k34 _ _ ?_
     refine Av Jr rfl rfl ?_
     refine ALp ?_
     refine k33 _ _ ?_
     refine ALl fun K36 k36=>?_
     refine ALk ?_
     replace AJ:=AC XZ AJ
     replace AL:=AC XZ AL
     replace AP:=AC XZ AP
     replace Ak:=AC XZ Ak
     replace hr:=hr.kn XZ
     replace HG:=AA HG XZ
     refine FH (Jr.st w35) 2 [(22,Sp.is (Ao sa po (.slice ao ks.length cap))),(23,Sp.cln w35.heap.size sa po ks.length (ks.map VK.p))] rfl (by kernel_rfl) (by kernel_rfl) (by kernel_rfl)
      ⟨yl r6 (BR hsa hpo (.slice ao ks.length cap) rfl) AJ,Ad [Ao sa po (.slice ao ks.length cap)] Tryz.func72 (by kernel_rfl) rq4 ⟨(oy rfl rfl),ALr⟩ (Oh hsa hpo hr h64),ALr⟩ fun a37 w37 g37 st37=>?_
     obtain⟨hn37,hd37,e37_22,e37_23,e37_19,e37_20,e37_7,e37_6,e37_9,e37_10,e37_11,e37_8,e37_5,e37_4,e37_2,e37_0,e37_1,-⟩:=st37
     obtain⟨A,ms,e37_23q,hmp,ow,kr,frA,frK⟩:=e37_23
     have fr_ow:∀k,Bi (.slice ((some ⟨A,0,none⟩)) ks.length ks.length) k→w35.heap.size≤k:=fun k hk=>(Option.some.inj hk)▸frA
     have fr_kr:∀k,DI ms k→w35.heap.size≤k:=fun k hk=>(frK k hk).1
     have ap_kr_ow:∀k,DI ms k→¬Bi (.slice ((some ⟨A,0,none⟩)) ks.length ks.length) k:=fun k hk e=>(frK k hk).2 (Option.some.inj e).symm
     have D1:=CA fr_ow AJ
     have KN:=CA fr_ow AL
     have EX:=CA fr_ow AP
     have Gl:=CA fr_ow Ak
     have lo_ow:=Jp HG fr_ow
     have D4:=CA fr_kr AJ
     have Dj:=CA fr_kr AP
     have Ii:=CA fr_kr Ak
     replace AJ:=AC g37 AJ
     have IG:Sv 32 [{ target:=.fn (.func 70) #[pt Fa,pt Pk],args:=#[] }] [(19,_),(20,_),(7,_),(6,_),(9,_),(10,_),(11,_),(8,_),(5,_),(4,_),(2,_),(0,_),(1,_),(23,_)] a37:=⟨hn37,hd37,e37_19,e37_20,e37_7,e37_6,e37_9,e37_10,e37_11,e37_8,e37_5,e37_4,e37_2,e37_0,e37_1,e37_23q,ALr⟩
     refine Ap IG r7 (BR hsa hpo (.slice ((some ⟨A,0,none⟩)) ks.length ks.length) rfl) AJ (by first|rfl|simp[AY,AI,AQ,hsa.1,hpo.1,hsa.1,hpo.1]) fun w38 g38 h38=>?_
     replace AJ:=h38
     refine AE ?_
     refine k36 _ _ ?_
     refine ALl fun K39 k39=>?_
     refine ALk ?_
     refine AK IG 5 [(24,pk Cf 64),(25,.slice ((some ⟨A,0,none⟩)) ks.length ks.length),(26,.int .i64 ((i:Int))),(27,.int .i64 ((i:Int))),(28,.int .i64 (((i+1:Nat):Int)))]
      ⟨yf r6 (fun _=>by kernel_rfl),yp (i:=2) r6 (EC (.slice ((some ⟨A,0,none⟩)) ks.length ks.length) rfl) AJ rfl (by simp[AI,AQ,hsa.1,hpo.1]),ym r5,ym r5,Cq r6 (fun _=>DK (by rw[BA (by omega) (by omega)];omega)),ALr⟩ fun a40 w40 g40 I3=>?_
     replace AJ:=AC g40 AJ
     replace AL:=AC g40 (AX g38 (AC g37 AL) GD)
     replace AP:=AC g40 (AX g38 (AC g37 AP) A3)
     replace Ak:=AC g40 (AX g38 (AC g37 Ak) Br)
     replace ow:=(ow.offR g38 (AU D1)).kn g40
     replace HG:=AA (AD (AA HG g37) g38 Ey) g40
     have hml:ks.length=ms.length:=Own.rdk ow
     refine Bo I3 Tryz.func73 (by kernel_rfl) r6 (AEe hml ow hil h64) fun a41 v41 w41 hD Et=>?_
     obtain⟨aoD,capD,rfl,od,gD,frD⟩:=hD
     have AAF:∀k,Bi (.slice aoD (ks.length-1) capD) k→k≠Cf:=fun k hk=>(frD k hk).elim (fun e=>e▸D1 A rfl) (fun h=>Nat.ne_of_gt (Nat.lt_of_lt_of_le (Array.getElem?_eq_some_iff.1 AJ).1 h))
     have AIg:∀k,Bi (.slice aoD (ks.length-1) capD) k→k≠CX:=fun k hk=>(frD k hk).elim (fun e=>e▸KN A rfl) (fun h=>Nat.ne_of_gt (Nat.lt_of_lt_of_le (Array.getElem?_eq_some_iff.1 AL).1 h))
     have AAG:∀k,Bi (.slice aoD (ks.length-1) capD) k→k≠Fa:=fun k hk=>(frD k hk).elim (fun e=>e▸EX A rfl) (fun h=>Nat.ne_of_gt (Nat.lt_of_lt_of_le (Array.getElem?_eq_some_iff.1 AP).1 h))
     have AAH:∀k,Bi (.slice aoD (ks.length-1) capD) k→k≠Pk:=fun k hk=>(frD k hk).elim (fun e=>e▸Gl A rfl) (fun h=>Nat.ne_of_gt (Nat.lt_of_lt_of_le (Array.getElem?_eq_some_iff.1 Ak).1 h))
     have lo_od:∀k,Bi (.slice aoD (ks.length-1) capD) k→w.heap.size≤k:=fun k hk=>(frD k hk).elim (fun e=>e▸lo_ow A rfl) (fun h=>Nat.le_trans HG.size h)
     replace AJ:=AF gD AJ (fun e=>D1 _ (rfl) (Option.some.inj e).symm)
     replace AP:=AF gD AP (fun e=>EX _ (rfl) (Option.some.inj e).symm)
     replace Ak:=AF gD Ak (fun e=>Gl _ (rfl) (Option.some.inj e).symm)
     replace kr:=((kr.offR g38 (AU D4)).kn g40).offR gD (fun k hk e=>ap_kr_ow k hk (e))
     replace HG:=Bh HG gD fun k e=>lo_ow k (e)
     have GR:Sv _ _ [_,_,_,_,_,_,_,_,_,_,_,_,_,_] _:=Et.dl [24,25,26,27,28,6]
     refine AK GR 1 [(30,pk Cf 64)]
      ⟨yf r6 (fun _=>by kernel_rfl),ALr⟩ fun a43 w43 g43 I6=>?_
     refine LP (L:=[bv sa,bv po,[.slice ((some ⟨A,0,none⟩)) ks.length ks.length]]) (i:=2) I6 r7 (EC (.slice aoD (ks.length-1) capD) rfl) (AC g43 AJ) rfl (by simp[AI,AQ,hsa.1,hpo.1]) rfl fun w44 g44 h44=>?_
     replace AP:=Ah g43 g44 AP A3
     replace AJ:=h44
     refine AE ?_
     refine k39 _ _ ?_
     refine ALl fun K45 k45=>?_
     refine ALk ?_
     refine AK I6 1 [(31,Ao sa po (.slice aoD (ks.length-1) capD))]
      ⟨yl r6 (BR hsa hpo (.slice aoD (ks.length-1) capD) rfl) AJ,ALr⟩ fun a46 w46 g46 IH=>?_
     refine Ap IH r7 (BR hsa hpo (.slice aoD (ks.length-1) capD) rfl) (AC g46 AP) (by first|rfl|simp[AY,AI,AQ,hsa.1,hpo.1]) fun w47 g47 h47=>?_
     replace Ak:=Ah g46 g47 (Ah g43 g44 Ak Br) Aq
     refine Ap IH r7 (Dy 0) Ak rfl fun w48 g48 h48=>?_
     replace AP:=AX g48 h47 (Ne.symm Aq)
     replace kr:=((((kr.kn g43).offR g44 (AU D4)).kn g46).offR g47 (AU Dj)).offR g48 (AU Ii)
     replace od:=((((od.kn g43).offR g44 (AU AAF)).kn g46).offR g47 (AU AAG)).offR g48 (AU AAH)
     replace HG:=AD (AD (AA (AD (AA HG g43) g44 Ey) g46) g47 CG) g48 Dt
     replace Ak:=h48
     refine AE ?_
     refine k45 _ _ ?_
     refine ALo ?_
     repeat refine AM ?_
     refine BK (fn:=Tryz.f29) IH (BU (p:=4) (q:=5) Tryz.results29 IH rfl rfl rfl rfl (BR hsa hpo (.slice aoD (ks.length-1) capD) rfl) (Dy 0) AP Ak) (Bp Tryz.func70 (by kernel_rfl) rfl _ _) (KE _ _ _) ?_
     exact VRes.mk (P:=Hw (ks.map VK.p) o) (by unfold Zf;rw[if_pos hv,if_pos hf]) (AGj hmp hi) od (KsT.del kr i) HG
end Go.Proofs.YtbfjfnbcmojpiaaGreat
