import Derived.Test.YtbfjfnbcmojpiaaGreatDaR1
set_option linter.unusedSimpArgs false
set_option linter.unusedVariables false
set_option maxRecDepth 100000
set_option maxHeartbeats 1000000
namespace Go.Proofs.YtbfjfnbcmojpiaaGreat
open Go.RowKit
attribute [local go_sem] Oper.semAt_some
theorem G0 (R:Nat) (v:Value) (er e:Int) (w:World) (h:w.heap[R]?=some (.cells #[v,.int .i64 er] 94 (0,0))) :
   Calls Tryz.prog 110 #[.pointer (some ⟨R,0,none⟩),.int .i64 e] w fun en w'=>en=.returned (.tuple #[])∧w'=if er=0 then w.setCell ⟨R,1,none⟩ (.int .i64 e) else w:=by
 obtain⟨h0,h1,h2,h3⟩:=D8 h
 by_cases hz:er=0
 · subst hz
   go_enter Tryz.func110,Tryz.ntmps110
   go_wp2
   go_end0
   exact⟨rfl,by simp⟩
 · go_enter Tryz.func110,Tryz.ntmps110
   go_wp2
   go_end0
   exact⟨rfl,rfl⟩
theorem AJU {Z:Nat} (h:Z<18446744073709551616) (hm:Z%2=1):wrap64 (bits .xor .u64 IntKind.u64.max ((Z:Int)/2))=Ey Z:=by
 have hx:=Wu (Z/2) (by omega)
 rw[Int.natCast_ediv] at hx
 have hx:bits .xor .u64 IntKind.u64.max ((Z:Int)/2)=((18446744073709551615-Z/2:Nat):Int):=hx
 rw[hx]
 unfold Ey wrap64
 rw[if_pos hm]
 omega
theorem AHG {Z:Nat} (h:Z<18446744073709551616) (hm:Z%2=0):wrap64 ((Z:Int)/2)=Ey Z:=by
 unfold Ey wrap64
 rw[if_neg (by omega)]
 omega
theorem Pn {L:Nat} (R:Nat) (s:FO) (w:World) (h:RSt 94 L w R s) :
   Calls Tryz.prog 109 #[.pointer (some ⟨R,0,none⟩)] w (GR 94 L w R KQ s Mn):=by
 have hst:=h
 obtain⟨v,l,hs,hv,hvb,hb,hl⟩:=h
 cases s with
 | error er =>
   obtain⟨he,he2,hrow⟩:=hs
   obtain⟨c0,c1,f0,f1⟩:=D8 hrow
   have he':((er:Int) == 0)=false:=by simp;omega
   have he3:((er:Int) != 0)=true:=by simp;omega
   go_enter Tryz.func109,Tryz.ntmps109
   go_wp2
   refine wp_loop_rounds 1 ?_
   rw[rounds_succ]
   go_wp2
   go_ret
   exact⟨_,0,_,rfl,⟨rfl,by decide,by decide⟩,World.grownBy.refl _ _,hst,rfl⟩
 | ok l' =>
   obtain⟨rfl,hrow⟩:=hs
   obtain⟨c0,c1,f0,f1⟩:=D8 hrow
   obtain⟨ao,cap,rfl,hnc,hcm⟩:=hv.shape
   go_enter Tryz.func109,Tryz.ntmps109
   go_wp2
   go_loop [3,4] (fun x i=>∃(k X:Nat),k≤9∧k≤l'.length∧X<2^(7*k)∧Qq (l'.drop k) k X=Qq l' 0 0∧i=.int .i64 k∧x=.int .u64 X) (fun _ i=>10-(intOf i).toNat)
   case atStart=>exact⟨0,0,by omega,by omega,by decide,rfl,rfl,rfl⟩
   case round =>
     obtain⟨k,X,hk9,hkl,hX,hrd,rfl,rfl⟩:=hrel
     by_cases hlt:k<l'.length
     · obtain⟨blk,off,rfl,hc⟩:=hv.at k (by simpa [bv] using hlt)
       have hcell:w.cell? ⟨blk,off+k,none⟩=some (.int .u8 (l'[k]:Nat)):=(hc k (by simpa [bv] using hlt)).trans (by simp[bv])
       have hdrop:l'.drop k=l'[k]::l'.drop (k+1):=List.drop_eq_getElem_cons hlt
       have hcb:=hb l'[k] (List.getElem_mem hlt)
       rw[hdrop] at hrd
       generalize l'[k]=c at *
       have HR:=AK hrd
       clear hdrop hrd hc
       have HX:=AK hX
       clear hX
       have hbad:(k=9∧1<c)∨(0<k∧c=0)→Qq l' 0 0=.error 1:=by
         intro h;rw[←HR.out,Qq,if_pos h]
       rcases(show((k=9∧1<c)∨(0<k∧k<9∧c≤0)∨(k=9∧c≤0))∨((k=9∧c≤1∧0<c)∨k=0∨(0<k∧k<9∧0<c)) from by omega) with hA|hC
       · have HE:=AK (hbad (by omega))
         clear hbad HR HX
         rcases hA with hA|hA|hA
         all_goals
           try have b9:((k:Int) == 9)=true:=Ks (by omega)
           try have b9:((k:Int) == 9)=false:=I2 (by omega)
           try have b1:decide (1<(c:Int))=true:=decide_eq_true (by omega)
           try have b1:decide (1<(c:Int))=false:=decide_eq_false (by omega)
           try have b0:decide (0<k)=true:=decide_eq_true (by omega)
           try have b0:decide (0<k)=false:=decide_eq_false (by omega)
           try have bc:((c:Int) == 0)=true:=Ks (by omega)
           try have bc:((c:Int) == 0)=false:=I2 (by omega)
           clear hA
           go_wp2_with (go_at_call 110;refine(G0 _ _ _ _ _ hrow).mono ?_;rintro e w' ⟨rfl,rfl⟩)
           go_ret
           exact⟨_,0,.error 1,rfl,⟨rfl,by decide,by decide⟩,BE w ⟨R,1,none⟩ _,RSt.fail hrow hv hvb hb hl 1 (by decide) (by decide),Rel.of_err (by unfold KQ;rw[HE.out])⟩
       · clear hbad
         have hok:¬((k=9∧1<c)∨(0<k∧c=0)):=by omega
         obtain⟨st1,st2,st3,st4,st5⟩:=Z9 X k hk9 HX.out c hcb hok
         have HN:Hid (Qq l' 0 0=if c<128 then .ok (X+c%128*2^(7*k),l'.drop (k+1)) else Qq (l'.drop (k+1)) (k+1) (X+c%128*2^(7*k))):=by
           rw[←HR.out,Qq,if_neg hok];exact AK rfl
         clear hok HR HX
         obtain⟨y,hy,hy2⟩:∃y:Nat,IntKind.u64.wrap ((c:Int)%128*2^(7*k))=(y:Int)∧y=c%128*2^(7*k):=by
           refine⟨_,?_,rfl⟩
           rw[IntKind.wrap_u64,show(c:Int)%128*2^(7*k)=((c%128*2^(7*k):Nat):Int) by rw[Int.natCast_mul,Int.natCast_pow];rfl]
           omega
         obtain⟨Z,hZ,hZ2⟩:∃Z:Nat,bits BinOp.or IntKind.u64 (X:Int) (y:Int)=(Z:Int)∧Z=X+y:=⟨_,u64_or_nat X y st4 (by omega),by rw[hy2];exact st1⟩
         rw[←hy2,←hZ2] at HN st2 st5
         have HZ:=AK st5
         clear st1 st3 st4 st5 hy2 hZ2
         have hx:=Wu (Z/2) (by omega)
         rw[Int.natCast_ediv] at hx
         have HX2:=AK (show bits .xor .u64 IntKind.u64.max ((Z:Int)/2)=((18446744073709551615-Z/2:Nat):Int) from hx)
         clear hx
         have hcut:=fun ao=>Sl.cut (k:=k+1) hv rfl (by omega) ao
         have HC:=AK hcut
         clear hcut
         have fin:∀(ao:Option Addr),c<128→(¬cap=k+1→ao=some ⟨blk,off+(k+1),none⟩)→(∃o,ao=some ⟨blk,o,none⟩)→∀n:Int,n=Ey Z →
             GR 94 L w R KQ (.ok l') Mn (.returned (.int .i64 n)) (w.setCell ⟨R,0,none⟩ (.slice ao (l'.length-(k+1)) (cap-(k+1)))):=by
           intro ao hc1 h1 h2 n hn
           obtain⟨h3,h4⟩:=HC.out ao h1 h2
           have hpi:KQ l'=.ok (Ey Z,l'.drop (k+1)):=by unfold KQ;rw[HN.out,if_pos hc1]
           have hr:=SC hb hpi
           refine⟨_,n,.ok (l'.drop (k+1)),rfl,⟨rfl,by rw[hn];exact hr.1,by rw[hn];exact hr.2⟩,BE w ⟨R,0,none⟩ _,RSt.next hrow h3 (LoR.of_eq (h4.trans rfl) hvb) (fun b hb'=>hb b (List.mem_of_mem_drop hb')) (by rw[List.length_drop];omega),?_⟩
           rw[hn]
           exact Rel.of_ok hpi
         have FIN:=AK fin
         have HS2:=AK st2
         clear fin st2
         by_cases hc1:c<128
         · rcases(show Z%2=0∨Z%2=1 by omega) with hm|hm
           all_goals
             try have bm:(((Z:Int)%2) == 1)=false:=I2 (by omega)
             try have bm:(((Z:Int)%2) == 1)=true:=Ks (by omega)
             by_cases hcap:cap=k+1
           all_goals
             have hn:Z%2=1→wrap64 (bits .xor .u64 IntKind.u64.max ((Z:Int)/2))=Ey Z:=fun h=>AJU HS2.out h
             have hn2:Z%2=0→wrap64 ((Z:Int)/2)=Ey Z:=fun h=>AHG HS2.out h
             have HNN:=AK hn
             have HN2:=AK hn2
             have HM:=AK hm
             clear hn hn2 hm
             rcases hC with hC|hC|hC
           all_goals
             try have b9:((k:Int) == 9)=true:=Ks (by omega)
             try have b9:((k:Int) == 9)=false:=I2 (by omega)
             try have b1:decide (1<(c:Int))=true:=decide_eq_true (by omega)
             try have b1:decide (1<(c:Int))=false:=decide_eq_false (by omega)
             try have b0:decide (0<k)=true:=decide_eq_true (by omega)
             try have b0:decide (0<k)=false:=decide_eq_false (by omega)
             try have bc:((c:Int) == 0)=true:=Ks (by omega)
             try have bc:((c:Int) == 0)=false:=I2 (by omega)
             clear hC
             first
               | (obtain rfl:=hcap
                  have F:=FIN.out (some ⟨blk,off,none⟩) hc1 (by intro h;simp at h) ⟨_,rfl⟩
                  rw[Nat.sub_self,show l'.length-(k+1)=0 by omega] at F
                  have FF:=AK F
                  clear F
                  go_wp2
                  all_goals go_ret
                  all_goals first|exact FF.out _ (HNN.out HM.out)|exact FF.out _ (HN2.out HM.out))
               | (go_wp2
                  all_goals go_ret
                  all_goals first|exact FIN.out (some ⟨blk,off+(k+1),none⟩) hc1 (fun _=>rfl) ⟨_,rfl⟩ _ (HNN.out HM.out)|exact FIN.out (some ⟨blk,off+(k+1),none⟩) hc1 (fun _=>rfl) ⟨_,rfl⟩ _ (HN2.out HM.out))
         · have h8:=(HZ.out hc1).1
           rcases hC with hC|hC|hC
           · exfalso;omega
           all_goals
             try have b9:((k:Int) == 9)=true:=Ks (by omega)
             try have b9:((k:Int) == 9)=false:=I2 (by omega)
             try have b1:decide (1<(c:Int))=true:=decide_eq_true (by omega)
             try have b1:decide (1<(c:Int))=false:=decide_eq_false (by omega)
             try have b0:decide (0<k)=true:=decide_eq_true (by omega)
             try have b0:decide (0<k)=false:=decide_eq_false (by omega)
             try have bc:((c:Int) == 0)=true:=Ks (by omega)
             try have bc:((c:Int) == 0)=false:=I2 (by omega)
             clear hC
             go_wp2
             go_round
             case rel=>exact⟨k+1,Z,by omega,by omega,(HZ.out hc1).2,by rw[HN.out,if_neg hc1],by go_num,by go_num⟩
             case measure=>simp[intOf];omega
     · obtain rfl:k=l'.length:=by omega
       go_wp2_with (go_at_call 110;refine(G0 _ _ _ _ _ hrow).mono ?_;rintro e w' ⟨rfl,rfl⟩)
       go_ret
       exact⟨_,0,.error 100,rfl,⟨rfl,by decide,by decide⟩,BE w ⟨R,1,none⟩ _,RSt.fail hrow hv hvb hb hl 100 (by decide) (by decide),Rel.of_err (by unfold KQ;rw[←hrd,List.drop_length];rfl)⟩
theorem AAE {L:Nat} (R:Nat) (s:FO) (most:Int) (w:World) (h:RSt 94 L w R s) :
  Calls Tryz.prog 108 #[.pointer (some ⟨R,0,none⟩),.int .i64 most] w (GR 94 L w R (Dn 0 most) s Mn):=by
 go_enter Tryz.func108,Tryz.ntmps108
 go_wp2_with fail
 refine(Pn R s _ h).mono ?_
 rintro e w1 ⟨v,n,s1,rfl,⟨rfl,hn⟩,hg,hst,hrel⟩
 obtain⟨r1,r2,r3⟩:=hrel.inIn (a:=0) (b:=most)
 have HG:=AK hg
 have HST:=AK hst
 cases s1 with
 | error er =>
  obtain⟨v3,l3,⟨he,he2,hrow⟩,_⟩:=hst
  obtain⟨c0,c1,f0,f1⟩:=D8 hrow
  have be:((er:Int) == 0)=false:=I2 (by omega)
  have H3:=AK (r3 er rfl)
  have hne:(er:Int)≠0:=by omega
  clear r1 r2 r3 hrel hg he he2
  by_cases hb:n<0∨most<n
  · have d1:(decide (n<0)=true)∨(decide (n<0)=false∧decide (most<n)=true):=by
     rcases hb with hb|hb
     · exact .inl (decide_eq_true hb)
     · by_cases h0:n<0
       · exact .inl (decide_eq_true h0)
       · exact .inr ⟨decide_eq_false h0,decide_eq_true hb⟩
    clear hb
    rcases d1 with d1|⟨d1,d2⟩
    all_goals
     go_wp2_with (go_at_call 110;refine(G0 _ _ _ _ _ hrow).mono ?_;rintro e w' ⟨rfl,rfl⟩)
     all_goals go_ret
     all_goals first|(exfalso;omega)|exact⟨_,0,_,rfl,⟨rfl,by decide,by decide⟩,HG.out,HST.out,H3.out 0⟩
  · have d1:decide (n<0)=false:=decide_eq_false (by omega)
    have d2:decide (most<n)=false:=decide_eq_false (by omega)
    clear hb
    go_wp2
    go_ret
    exact⟨_,n,_,rfl,⟨rfl,hn⟩,HG.out,HST.out,H3.out n⟩
 | ok l =>
  obtain⟨v3,l3,⟨rfl,hrow⟩,_⟩:=hst
  obtain⟨c0,c1,f0,f1⟩:=D8 hrow
  have H1:=AK (r1 l rfl)
  have H2:=AK (r2 l rfl)
  clear r1 r2 r3 hrel hg
  by_cases hb:n<0∨most<n
  · have fin:GR 94 L w R (Dn 0 most) s Mn (.returned (.int .i64 0)) (w1.setCell ⟨R,1,none⟩ (.int .i64 1)):=
     ⟨_,0,.error 1,rfl,⟨rfl,by decide,by decide⟩,AA HG.out (BE w1 ⟨R,1,none⟩ _),HST.out.fail' 1 (by decide) (by decide),H2.out hb 0⟩
    have FIN:=AK fin
    clear fin
    have d1:(decide (n<0)=true)∨(decide (n<0)=false∧decide (most<n)=true):=by
     rcases hb with hb|hb
     · exact .inl (decide_eq_true hb)
     · by_cases h0:n<0
       · exact .inl (decide_eq_true h0)
       · exact .inr ⟨decide_eq_false h0,decide_eq_true hb⟩
    clear hb
    rcases d1 with d1|⟨d1,d2⟩
    all_goals
     go_wp2_with (go_at_call 110;refine(G0 _ _ _ _ _ hrow).mono ?_;rintro e w' ⟨rfl,rfl⟩)
     go_ret
     exact FIN.out
  · have d1:decide (n<0)=false:=decide_eq_false (by omega)
    have d2:decide (most<n)=false:=decide_eq_false (by omega)
    have H4:=AK (H1.out (by omega))
    clear hb
    go_wp2
    go_ret
    exact⟨_,n,_,rfl,⟨rfl,hn⟩,HG.out,HST.out,H4.out⟩
attribute [local go_sem] Oper.semAt_some
theorem ACv {L:Nat} (R:Nat) (s:FO) (n:Int) (w:World) (h:RSt 94 L w R s) (hn:-9223372036854775808≤n∧n≤9223372036854775807) (hs:∀l,s=.ok l→0≤n) :
  Calls Tryz.prog 142 #[.pointer (some ⟨R,0,none⟩),.int .i64 n] w (GR 94 L w R (JF n.toNat) s AAC):=by
 have HST:=AK h
 cases s with
 | error er =>
  obtain⟨v3,l3,⟨he,he2,hrow⟩,_⟩:=h
  obtain⟨c0,c1,f0,f1⟩:=D8 hrow
  have be:((er:Int) == 0)=false:=I2 (by omega)
  have be':((er:Int) != 0)=true:=by simp;omega
  clear hrow he he2 hs hn
  go_enter Tryz.func142,Tryz.ntmps142
  go_wp2
  go_ret
  exact⟨_,[],_,rfl,⟨Sl.nil _ _,by simp⟩,World.grownBy.refl _ _,HST.out,rfl⟩
 | ok l =>
  obtain⟨v3,l3,⟨rfl,hrow⟩,hsl,hvb,hb,hl⟩:=h
  obtain⟨c0,c1,f0,f1⟩:=D8 hrow
  obtain⟨k,rfl⟩:=Int.eq_ofNat_of_zero_le (hs _ rfl)
  clear hs
  rw[Int.toNat_natCast]
  obtain⟨ao,cap,rfl,hnc,hcm⟩:=hsl.shape
  by_cases hk:l.length<k
  · have d1:decide (l.length<k)=true:=decide_eq_true hk
    have HE:=AK hk
    clear hk
    go_enter Tryz.func142,Tryz.ntmps142
    go_wp2_with (go_at_call 110;refine(G0 _ _ _ _ _ hrow).mono ?_;rintro e w' ⟨rfl,rfl⟩)
    go_ret
    exact⟨_,[],.error 100,rfl,⟨Sl.nil _ _,by simp⟩,BE w ⟨R,1,none⟩ _,HST.out.fail' 100 (by decide) (by decide),Rel.of_err (by unfold JF;rw[if_neg (by have:=HE.out;omega)])⟩
  · have d1:decide (l.length<k)=false:=decide_eq_false hk
    have hkl:k≤l.length:=by omega
    clear hk
    have hR:R<w.heap.size:=(Array.getElem?_eq_some_iff.1 hrow).1
    have ga:=World.grownBy_alloc w (.cells #[] 5) none
    have hrA:=AF ga hrow (by simp)
    obtain⟨a0,a1,b0,b1⟩:=D8 hrA
    obtain⟨ao8,cp8,r8,s8,q8⟩:=JQ Tryz.underlying29 Rn (hsl.kn ga) 0 k none (some (.int .i64 k)) (.inr ⟨rfl,rfl⟩) (.inl rfl) (by omega) (by omega)
    obtain⟨ao9,cp9,r9,s9,q9⟩:=JQ Tryz.underlying29 Rn hsl k l.length (some (.int .i64 k)) none (.inl rfl) (.inr ⟨rfl,rfl⟩) hkl (Nat.le_refl _)
    rw[Nat.zero_mul,Nat.mul_one,List.drop_zero,Nat.sub_zero,show(bv l).take k=bv (l.take k) by unfold bv;rw[List.map_take]] at s8
    rw[Nat.sub_zero] at r8
    rw[Nat.mul_one,Nat.mul_one,show((bv l).drop k).take (l.length-k)=bv (l.drop k) by rw[List.take_of_length_le (by rw[List.length_drop,AO];omega)];unfold bv;rw[List.map_drop]] at s9
    have S8:=AK s8
    have R8:=AK r8
    have S9:=AK s9
    have R9:=AK r9
    have Q9:=AK q9
    have GA:=AK ga
    have HRA:=AK hrA
    clear s8 r8 s9 r9 q8 q9 ga hrA
    go_enter Tryz.func142,Tryz.ntmps142
    go_wp2_with (first
     | (refine Ip rfl 29 (.tmp 31) none (some (.tmp 32)) rfl _ rfl none (some (.int .i64 k)) rfl rfl (R8.out _) ?_)
     | (refine Ea Di rfl (.tmp 27) (.tmp 33) rfl _ 0 [] rfl (Own.empty w) _ k (bv (l.take k)) rfl S8.out (Dk _) (by omega) ?_;intro v3 w3 o3 s3;have hr3:=AF s3.1 HRA.out (fun e=>absurd (Option.some.inj (show some R=some w.heap.size from e)) (by omega));obtain⟨p0,p1,p2,p3⟩:=D8 hr3;have O3:=AK o3;have S3:=AK s3;have HR3:=AK hr3;clear o3 s3 hr3)
     | (refine Ip rfl 29 (.tmp 39) (some (.tmp 40)) none rfl _ rfl (some (.int .i64 k)) none rfl rfl (R9.out _) ?_)
     | fail)
    go_ret
    have hb2:∀b∈l.drop k,b<256:=fun b hb'=>hb b (List.mem_of_mem_drop hb')
    have hb1:∀b∈l.take k,b<256:=fun b hb'=>hb b (List.mem_of_mem_take hb')
    have hlt:(l.take k).length=k:=by rw[List.length_take];omega
    have g3:w.grownBy w3 none:=AE GA.out S3.out.1 (Nat.le_refl _)
    have gs:=BE w3 ⟨R,0,none⟩ (.slice ao9 (l.length-k) cp9)
    have hne:v3.ownBlock≠some R:=fun e=>by
     rcases S3.out.2 R e with h|h
     · have h:some w.heap.size=some R:=h
       have:=Option.some.inj h
       omega
     · have:=h
       simp at this
       omega
    have hs3:=Sl.of_own O3.out
    rw[Nat.zero_add,List.nil_append] at hs3
    refine⟨_,l.take k,.ok (l.drop k),rfl,⟨by rw[hlt];exact hs3.kept gs (.inr hne),hb1,by omega⟩,AA (On g3) gs,RSt.next HR3.out (by rw[List.length_drop];exact S9.out.kn g3) ⟨fun b hb'=>hvb.1 b (Q9.out b hb'),hvb.2⟩ hb2 (by rw[List.length_drop];omega),Rel.of_ok (by unfold JF;rw[if_pos hkl])⟩
theorem Rel.dead' {α:Type} {p:DU α} (e:Nat) (x:α):Rel p (.error e) x (.error e):=rfl
theorem ACw {L:Nat} (R:Nat) (s:FO) (most:Int) (w:World) (h:RSt 94 L w R s) (hm:most≤1000000) :
   Calls Tryz.prog 111 #[.pointer (some ⟨R,0,none⟩),.int .i64 most] w (GR 94 L w R (AAB most) s XH):=by
 go_enter Tryz.func111,Tryz.ntmps111
 go_wp2_with fail
 refine(Pn R s _ h).mono ?_
 rintro e w1 ⟨v,n,s1,rfl,⟨rfl,hn⟩,hg,hst,hrel⟩
 obtain⟨r1,r2,r3⟩:=hrel.inIn (a:=0) (b:=most)
 have HG:=AK hg
 have HST:=AK hst
 by_cases hb:n<0∨most<n
 · have fin:∀w',(∀er,s1=.error er→w'=w1)→(∀l,s1=.ok l→w'=w1.setCell ⟨R,1,none⟩ (.int .i64 1))→GR 94 L w R (AAB most) s XH (.returned (.string ⟨#[]⟩)) w':=by
    intro w' he ho
    cases s1 with
    | error er =>
      obtain rfl:=he er rfl
      exact⟨_,⟨#[]⟩,_,rfl,⟨rfl,by decide⟩,HG.out,HST.out,(r3 er rfl 0).bind (Rel.dead' _ _)⟩
    | ok l =>
      obtain rfl:=ho l rfl
      exact⟨_,⟨#[]⟩,.error 1,rfl,⟨rfl,by decide⟩,AA HG.out (BE w1 ⟨R,1,none⟩ _),HST.out.fail' 1 (by decide) (by decide),(r2 l rfl hb 0).bind (Rel.dead' _ _)⟩
   have FIN:=AK fin
   clear fin r1 r2 r3 hrel hg
   have d1:(decide (n<0)=true)∨(decide (n<0)=false∧decide (most<n)=true):=by
    rcases hb with hb|hb
    · exact .inl (decide_eq_true hb)
    · by_cases h0:n<0
      · exact .inl (decide_eq_true h0)
      · exact .inr ⟨decide_eq_false h0,decide_eq_true hb⟩
   clear hb
   obtain⟨v3,er,hrow,hcase⟩:∃v3 er,w1.heap[R]?=some (.cells #[v3,.int .i64 er] 94 (0,0))∧((er=0∧∃l,s1=.ok l)∨(er≠0∧∃x,s1=.error x)):=by
    obtain⟨v3,l3,hc,_⟩:=hst
    cases s1 with
    | error er=>exact⟨v3,er,hc.2.2,.inr ⟨by have:=hc.1;omega,_,rfl⟩⟩
    | ok l=>exact⟨v3,0,hc.2,.inl ⟨rfl,_,rfl⟩⟩
   have HC:=AK hcase
   clear hcase hst
   rcases d1 with d1|⟨d1,d2⟩
   all_goals
    go_wp2_with (go_at_call 110;refine(G0 _ _ _ _ _ hrow).mono ?_;rintro e w' ⟨rfl,hw'⟩;have HW:=AK hw';clear hw')
    go_ret
    refine FIN.out _ (fun x hx=>?_) (fun l hl=>?_)
    · rcases HC.out with ⟨_,l,hl⟩|⟨h0,_⟩
      · rw[hx] at hl;cases hl
      · rw[HW.out,if_neg h0]
    · rcases HC.out with ⟨h0,_⟩|⟨_,x,hx⟩
      · rw[HW.out,if_pos h0]
      · rw[hx] at hl;cases hl
 · have d1:decide (n<0)=false:=decide_eq_false (by omega)
   have d2:decide (most<n)=false:=decide_eq_false (by omega)
   have hrel1:Rel (Dn 0 most) s n s1:=by
    cases s1 with
    | error er=>exact r3 er rfl n
    | ok l=>exact r1 l rfl (by omega)
   have HR:=AK hrel1
   have hpos:∀l,s1=.ok l→0≤n:=fun l hl=>by omega
   clear r1 r2 r3 hrel hg hb hrel1
   go_wp2_with fail
   refine(ACv R s1 n _ hst hn hpos).mono ?_
   rintro e w2 ⟨v2,x,s2,rfl,⟨hx,hxb,hxl⟩,hg2,hst2,hrel2⟩
   have hc:=SB (P:=Tryz.prog) 29 9 5 Tryz.underlying29 Tryz.underlying5 Tryz.underlying9 hx
   have H2:=AK hrel2
   have HG2:=AK hg2
   have HST2:=AK hst2
   have HX:=AK hx
   clear hrel2 hg2 hst2 hx hpos hst
   go_wp2
   go_ret
   exact⟨_,bs x,s2,rfl,⟨rfl,by rw[XG];exact hxl⟩,AA HG.out HG2.out,HST2.out,HR.out.bind (H2.out.bind (Rel.pure _ _))⟩
attribute [local go_sem] Oper.semAt_some
theorem AFW {L:Nat} (R:Nat) (s:FO) (w:World) (h:RSt 94 L w R s) :
   Calls Tryz.prog 64 #[.pointer (some ⟨R,0,none⟩)] w (GR 94 L w R pV s AHF):=by
 have hR:=h.lt
 have ga:=World.grownBy_alloc w (.cells #[.int .i64 0,.int .i64 0,.string ⟨#[]⟩] 25) none
 have hst:=h.kept ga
 have GA:=AK ga
 have HST:=AK hst
 clear ga hst h
 go_enter Tryz.func64,Tryz.ntmps64
 go_wp2_with fail
 refine(AAE R s 2 _ HST.out).mono ?_
 rintro e w1 ⟨v1,k,s1,rfl,⟨rfl,hk⟩,hg1,hst1,hrel1⟩
 have hA:=AF hg1 (Ak rfl) (by simp;omega)
 have hsz:=hg1.size
 have hR1:w.heap.size<w1.heap.size:=by simp at hsz;omega
 have hgW:w.grownBy (w1.alloc (.cells #[.int .i64 k,.int .i64 0,.string ⟨#[]⟩] 25)) (some R):=AA (AA (On GA.out) hg1) (World.grownBy_alloc _ _ _)
 have hAW:=(BZ (w:=w1) (o:=.cells #[.int .i64 k,.int .i64 0,.string ⟨#[]⟩] 25) hR1).trans hA
 have hBW:=Ak (w:=w1) (o:=.cells #[.int .i64 k,.int .i64 0,.string ⟨#[]⟩] 25) (n:=w1.heap.size) rfl
 have hstW:=hst1.kept (World.grownBy_alloc w1 (.cells #[.int .i64 k,.int .i64 0,.string ⟨#[]⟩] 25) none)
 have REL1:=AK hrel1
 have HA1:=AK hA
 have G1:=AK hg1
 have ST1:=AK hst1
 have GW:=AK hgW
 have AW:=AK hAW
 have BW:=AK hBW
 have SW:=AK hstW
 clear hg1 hst1 hrel1 hA hsz hgW hAW hBW hstW
 by_cases hk1:k=1
 · subst hk1
   go_wp2_with fail
   generalize w1.alloc (.cells #[.int .i64 1,.int .i64 0,.string ⟨#[]⟩] 25)=W at *
   refine(Pn R s1 _ SW.out).mono ?_
   rintro e w2 ⟨v2,n,s2,rfl,⟨rfl,hn⟩,hg2,hst2,hrel2⟩
   have hA2:=AF hg2 AW.out (by simp;omega)
   have hB2:=AF hg2 BW.out (by simp;omega)
   have a1:∀j,w2.cell? ⟨w.heap.size,j,none⟩=(#[Value.int .i64 0,.int .i64 0,.string ⟨#[]⟩]:Array Value)[j]?:=fun j=>AOS w2 _ j _ _ _ hA2
   have a2:∀j,w2.frozen? ⟨w.heap.size,j,none⟩=false:=fun j=>AOV w2 _ j _ _ hA2
   have b1:∀j,w2.cell? ⟨w1.heap.size,j,none⟩=(#[Value.int .i64 1,.int .i64 0,.string ⟨#[]⟩]:Array Value)[j]?:=fun j=>AOS w2 _ j _ _ _ hB2
   have b2:∀j,w2.frozen? ⟨w1.heap.size,j,none⟩=false:=fun j=>AOV w2 _ j _ _ hB2
   have HA2:=AK hA2
   have G2:=AK hg2
   have gX:=BE w2 ⟨w1.heap.size,1,none⟩ (.int .i64 n)
   have hAX:=AF gX hA2 (by simp;omega)
   have hBX:(w2.setCell ⟨w1.heap.size,1,none⟩ (.int .i64 n)).heap[w1.heap.size]?=some (.cells #[.int .i64 1,.int .i64 n,.string ⟨#[]⟩] 25 (0,0)):=by simpa using heap_setCell_same w2 w1.heap.size 1 _ _ _ hB2
   have hsX:=hst2.past gX (by simp;omega)
   obtain⟨r1,r2,r3⟩:=hrel2.inIn (a:=-4294967296) (b:=4294967296)
   by_cases hb:n < -4294967296∨4294967296<n
   · obtain⟨v3,er,hrow,hcase⟩:∃v3 er,(w2.setCell ⟨w1.heap.size,1,none⟩ (.int .i64 n)).heap[R]?=some (.cells #[v3,.int .i64 er] 94 (0,0))∧((er=0∧∃l,s2=.ok l)∨(er≠0∧∃x,s2=.error x)):=by
      obtain⟨v3,l3,hc,_⟩:=hsX
      cases s2 with
      | error er=>exact⟨v3,er,hc.2.2,.inr ⟨by have:=hc.1;omega,_,rfl⟩⟩
      | ok l=>exact⟨v3,0,hc.2,.inl ⟨rfl,_,rfl⟩⟩
     have d1:(decide (n < -4294967296)=true)∨(decide (n < -4294967296)=false∧decide (4294967296<n)=true):=by
      rcases hb with hb|hb
      · exact .inl (decide_eq_true hb)
      · by_cases h0:n < -4294967296
        · exact .inl (decide_eq_true h0)
        · exact .inr ⟨decide_eq_false h0,decide_eq_true hb⟩
     have HB:=AK hb
     have HC:=AK hcase
     have SX:=AK hsX
     have GX:=AK gX
     have AX:=AK hAX
     have BX:=AK hBX
     have HRW:=AK hrow
     have R2:=AK r2
     have R3:=AK r3
     clear hb hcase hsX hrow r1 r2 r3 hA2 hB2 hg2 hst2 hrel2 gX hAX hBX
     rcases d1 with d1|⟨d1,d2⟩
     all_goals
      go_wp2_with (go_at_call 110;refine(G0 _ _ _ _ _ HRW.out).mono ?_;rintro e w' ⟨rfl,hw'⟩;have g4:World.grownBy _ w' (some R):=(by rw[hw'];split;exact BE _ ⟨R,1,none⟩ _;exact World.grownBy.refl _ _);have hA4:=AF g4 AX.out (by simp;omega);have hB4:=AF g4 BX.out (by simp;omega);have c1:=(fun j=>AOS w' _ j _ _ _ hA4);have c2:=(fun j=>AOV w' _ j _ _ hA4);have c3:=(fun j=>AOS w' _ j _ _ _ hB4);have c4:=(fun j=>AOV w' _ j _ _ hB4);have HW:=AK hw';have G4:=AK g4;have A4:=AK hA4;clear hw' g4 hA4 hB4)
      obtain⟨q1,q2⟩:=Ct [.int .i64 1,.int .i64 n,.string ⟨#[]⟩] A4.out rfl
      refine CU rfl rfl (tyV ⟨1,n,ByteArray.empty⟩) q2 rfl ⟨_,⟨1,n,ByteArray.empty⟩,.error (match s2 with|.error e=>e|.ok _=>1),rfl,rfl,Gv (AA (Gv (AA GW.out G2.out) GX.out (by omega)) G4.out) q1 (by simp),?_,?_⟩
      · refine RSt.past ?_ q1 (by omega)
        rcases HC.out with ⟨h0,l,hl⟩|⟨h0,x,hx⟩
        · subst hl
          rw[HW.out,if_pos h0]
          exact SX.out.fail' 1 (by decide) (by decide)
        · subst hx
          rw[HW.out,if_neg h0]
          exact SX.out
      · unfold pV
        refine Rel.bind REL1.out ?_
        rw[if_pos rfl]
        rcases HC.out with ⟨h0,l,hl⟩|⟨h0,x,hx⟩
        · subst hl
          exact Rel.bind (R2.out l rfl HB.out 0) (Rel.dead' _ _)
        · subst hx
          exact Rel.bind (R3.out x rfl 0) (Rel.dead' _ _)
   · have d1:decide (n < -4294967296)=false:=decide_eq_false (by omega)
     have d2:decide (4294967296<n)=false:=decide_eq_false (by omega)
     have hin:Rel (Dn (-4294967296) 4294967296) s1 n s2:=by
      cases s2 with
      | error er=>exact r3 er rfl n
      | ok l=>exact r1 l rfl (by omega)
     have R2:=AK hin
     have SX:=AK hsX
     have GX:=AK gX
     have AX:=AK hAX
     clear hb hsX r1 r2 r3 hA2 hB2 hg2 hst2 hrel2 gX hAX hBX hin
     go_wp2
     obtain⟨q1,q2⟩:=Ct [.int .i64 1,.int .i64 n,.string ⟨#[]⟩] AX.out rfl
     exact CU rfl rfl (tyV ⟨1,n,ByteArray.empty⟩) q2 rfl ⟨_,⟨1,n,ByteArray.empty⟩,s2,rfl,rfl,Gv (Gv (AA GW.out G2.out) GX.out (by omega)) q1 (by simp),SX.out.past q1 (by omega),
      (by unfold pV;refine Rel.bind REL1.out ?_;rw[if_pos rfl];exact Rel.bind R2.out (Rel.pure _ _))⟩
 by_cases hk2:k=2
 · subst hk2
   go_wp2_with fail
   generalize w1.alloc (.cells #[.int .i64 2,.int .i64 0,.string ⟨#[]⟩] 25)=W at *
   refine(ACw R s1 32 _ SW.out (by decide)).mono ?_
   rintro e w2 ⟨v2,n,s2,rfl,⟨rfl,hn⟩,hg2,hst2,hrel2⟩
   have hA2:=AF hg2 AW.out (by simp;omega)
   have hB2:=AF hg2 BW.out (by simp;omega)
   have a1:∀j,w2.cell? ⟨w.heap.size,j,none⟩=(#[Value.int .i64 0,.int .i64 0,.string ⟨#[]⟩]:Array Value)[j]?:=fun j=>AOS w2 _ j _ _ _ hA2
   have a2:∀j,w2.frozen? ⟨w.heap.size,j,none⟩=false:=fun j=>AOV w2 _ j _ _ hA2
   have b1:∀j,w2.cell? ⟨w1.heap.size,j,none⟩=(#[Value.int .i64 2,.int .i64 0,.string ⟨#[]⟩]:Array Value)[j]?:=fun j=>AOS w2 _ j _ _ _ hB2
   have b2:∀j,w2.frozen? ⟨w1.heap.size,j,none⟩=false:=fun j=>AOV w2 _ j _ _ hB2
   have HA2:=AK hA2
   have G2:=AK hg2
   have S2:=AK hst2
   have R2:=AK hrel2
   clear hA2 hB2 hg2 hst2 hrel2
   go_wp2
   have gX:=BE w2 ⟨w1.heap.size,2,none⟩ (.string n)
   have hAX:=AF gX HA2.out (by simp;omega)
   obtain⟨q1,q2⟩:=Ct [.int .i64 2,.int .i64 0,.string n] hAX rfl
   exact CU rfl rfl (tyV ⟨2,0,n⟩) q2 rfl ⟨_,⟨2,0,n⟩,s2,rfl,rfl,Gv (Gv (AA GW.out G2.out) gX (by simp;omega)) q1 (by simp),(S2.out.past gX (by simp;omega)).past q1 (by omega),
     (by unfold pV;refine Rel.bind REL1.out ?_;rw[if_neg (by decide),if_pos rfl];exact Rel.bind R2.out (Rel.pure _ _))⟩
 have e1:(k == 1)=false:=by simpa using hk1
 have e2:(k == 2)=false:=by simpa using hk2
 have HK:=AK (And.intro hk1 hk2)
 have hA2:=HA1.out
 have a1:∀j,w1.cell? ⟨w.heap.size,j,none⟩=(#[Value.int .i64 0,.int .i64 0,.string ⟨#[]⟩]:Array Value)[j]?:=fun j=>AOS _ _ j _ _ _ hA2
 have a2:∀j,w1.frozen? ⟨w.heap.size,j,none⟩=false:=fun j=>AOV _ _ j _ _ hA2
 clear hk1 hk2 hA2
 go_wp2
 obtain⟨q1,q2⟩:=Ct [.int .i64 k,.int .i64 0,.string ⟨#[]⟩] HA1.out rfl
 have q3:=BZ (w:=w1.setCells w.heap.size 0 [.int .i64 k,.int .i64 0,.string ⟨#[]⟩]) (o:=.cells #[.int .i64 k,.int .i64 0,.string ⟨#[]⟩] 25) (Array.getElem?_eq_some_iff.1 q2).1
 have gA:=World.grownBy_alloc (w1.setCells w.heap.size 0 [.int .i64 k,.int .i64 0,.string ⟨#[]⟩]) (.cells #[.int .i64 k,.int .i64 0,.string ⟨#[]⟩] 25)
 exact CU rfl rfl (tyV ⟨k,0,ByteArray.empty⟩) (q3.trans q2) rfl ⟨_,⟨k,0,ByteArray.empty⟩,s1,rfl,rfl,AA (Gv (AA (On GA.out) G1.out) q1 (Nat.le_refl _)) (gA _),(ST1.out.past q1 (by omega)).kept (gA _),
   (by unfold pV;refine Rel.bind REL1.out ?_;rw[if_neg HK.out.1,if_neg HK.out.2];exact Rel.pure _ _)⟩
end Go.Proofs.YtbfjfnbcmojpiaaGreat
