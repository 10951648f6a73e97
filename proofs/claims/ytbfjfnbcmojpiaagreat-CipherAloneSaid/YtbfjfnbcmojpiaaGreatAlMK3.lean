import Derived.Test.YtbfjfnbcmojpiaaGreatAlPP
import Derived.Test.YtbfjfnbcmojpiaaGreatAlMQ
set_option linter.unusedSimpArgs false
set_option linter.unusedVariables false
set_option maxRecDepth 100000
set_option maxHeartbeats 4000000
namespace Go.Proofs.YtbfjfnbcmojpiaaGreat
section
open Go.RowKit Go.Shelf
theorem IK {l:List Nd} (h:∀n∈l,Dg n.k):(Ay l).length=l.length*34:=by
 induction l with
 | nil=>rfl
 | cons x l ih =>
  unfold Ay at *
  rw[List.flatMap_cons,List.length_append,ih (fun n hn=>h n (List.mem_cons_of_mem _ hn)),Ax _ (h x (List.mem_cons_self ..)).1,List.length_cons]
  omega
theorem ACF {l:List Nd} (h:∀n∈l,Dg n.k) {i:Nat} (hi:i<l.length):((Ay l).drop (i*34)).take 34=BD l[i]:=by
 induction l generalizing i with
 | nil=>simp at hi
 | cons x l ih =>
  have hx:=Ax _ (h x (List.mem_cons_self ..)).1
  unfold Ay at *
  rw[List.flatMap_cons]
  cases i with
  | zero=>rw[Nat.zero_mul,List.drop_zero,List.take_left' hx];rfl
  | succ i =>
   rw[show(i+1)*34=34+i*34 by omega,←List.drop_drop,List.drop_left' hx]
   exact ih (fun n hn=>h n (List.mem_cons_of_mem _ hn)) (by simpa using hi)
theorem Gr (l m:List Nd):Ay (l++m)=Ay l++Ay m:=by unfold Ay;rw[List.flatMap_append]
theorem Ma (n:Nd):Ay [n]=BD n:=by unfold Ay;simp
theorem QZ {l:List Nd} (h:∀n∈l,Dg n.k) (Z:List Value) {i:Nat} (hi:i<l.length) (x:Nd) (hx:Dg x.k) :
  (Ay l++Z).take (i*34)++(BD x++(Ay l++Z).drop (i*34+(BD x).length))=Ay (l.set i x)++Z:=by
 have hn:=Ax x hx.1
 rw[hn]
 induction l generalizing i with
 | nil=>simp at hi
 | cons y l ih =>
  have hy:=Ax _ (h y (List.mem_cons_self ..)).1
  have e1:Ay (y::l)=BD y++Ay l:=by unfold Ay;rw[List.flatMap_cons]
  rw[e1,List.append_assoc]
  cases i with
  | zero =>
   have e2:Ay ((y::l).set 0 x)=BD x++Ay l:=by unfold Ay;rw[List.set_cons_zero,List.flatMap_cons]
   rw[e2,Nat.zero_mul,List.take_zero,List.nil_append,Nat.zero_add,List.drop_left' hy,List.append_assoc]
  | succ i =>
   have e2:Ay ((y::l).set (i+1) x)=BD y++Ay (l.set i x):=by unfold Ay;rw[List.set_cons_succ,List.flatMap_cons]
   rw[e2,show(i+1)*34=34+i*34 by omega,show 34+i*34+34=34+(i*34+34) by omega,List.append_assoc,←ih (fun n hn=>h n (List.mem_cons_of_mem _ hn)) (by simpa using hi)]
   have t1:(BD y++(Ay l++Z)).take (34+i*34)=BD y++(Ay l++Z).take (i*34):=by
    rw[←hy,List.take_length_add_append]
   have t2:(BD y++(Ay l++Z)).drop (34+(i*34+34))=(Ay l++Z).drop (i*34+34):=by
    rw[←List.drop_drop,List.drop_left' hy]
   rw[t1,t2,List.append_assoc]
def Rvd (R L:List Nd) (k:Nat):Prop:=L.length=R.length∧∀j,L[j]?=if j<k∨(R.length-k≤j) then R.reverse[j]? else R[j]?
theorem Rvd.zero (R:List Nd):Rvd R R 0:=⟨rfl,fun j=>by
 by_cases h:R.length≤j
 · rw[if_pos (.inr (by omega)),List.getElem?_eq_none (by simpa using h),List.getElem?_eq_none (by simpa using h)]
 · rw[if_neg (by omega)]⟩
theorem Rvd.step {R L:List Nd} {k:Nat} (h:Rvd R L k) (hk:k+1<R.length-k) (hi:k<L.length) (hj:R.length-1-k<L.length):Rvd R ((L.set k L[R.length-1-k]).set (R.length-1-k) L[k]) (k+1):=by
 obtain⟨h1,h2⟩:=h
 refine⟨by simp[h1],fun j=>?_⟩
 have a1:=h2 k
 have a2:=h2 (R.length-1-k)
 rw[if_neg (by omega),List.getElem?_eq_getElem hi,List.getElem?_eq_getElem (show k<R.length by omega)] at a1
 rw[if_neg (by omega),List.getElem?_eq_getElem hj,List.getElem?_eq_getElem (show R.length-1-k<R.length by omega)] at a2
 have b1:=Option.some.inj a1
 have b2:=Option.some.inj a2
 rw[List.getElem?_set,List.getElem?_set]
 by_cases e1:R.length-1-k=j
 · subst e1
   rw[if_pos rfl,if_pos (by simp;omega),if_pos (.inr (by omega)),List.getElem?_reverse (by omega),b1,show R.length-1-(R.length-1-k)=k by omega,List.getElem?_eq_getElem (by omega)]
 · rw[if_neg e1]
   by_cases e2:k=j
   · subst e2
     rw[if_pos rfl,if_pos hi,if_pos (.inl (by omega)),List.getElem?_reverse (by omega),b2,List.getElem?_eq_getElem (by omega)]
   · rw[if_neg e2,h2 j]
     by_cases e3:j<k∨R.length-k≤j
     · rw[if_pos e3,if_pos (by omega)]
     · rw[if_neg e3,if_neg (by omega)]
theorem Rvd.done {R L:List Nd} {k:Nat} (h:Rvd R L k) (hk:R.length≤2*k+1):L=R.reverse:=by
 obtain⟨h1,h2⟩:=h
 refine List.ext_getElem? fun j=>?_
 rw[h2 j]
 split
 · rfl
 · rename_i hn
   by_cases hj:j<R.length
   · rw[List.getElem?_reverse hj,show R.length-1-j=j by omega]
   · omega
theorem Rvd.mem {R L:List Nd} {k:Nat} (h:Rvd R L k):∀n∈L,n∈R:=fun n hn=>by
 obtain⟨j,hj⟩:=List.getElem?_of_mem hn
 rw[h.2 j] at hj
 split at hj
 · exact List.mem_reverse.1 (List.mem_of_getElem? hj)
 · exact List.mem_of_getElem? hj
theorem Qa {l:List Nd} (h:∀n∈l,Dg n.k) (Z:List Value) {i:Nat} (hi:i<l.length):(((Ay l++Z).toArray.toList.drop (i*34)).take (BD l[i]).length)=BD l[i]:=by
 have hl:=IK h
 rw[Ax _ (h l[i] (List.getElem_mem hi)).1,List.toList_toArray,List.drop_append_of_le_length (by rw[hl];omega),List.take_append_of_le_length (by rw[List.length_drop,hl];omega)]
 exact ACF h hi
theorem ADs (R:List Nd) (hR:∀n∈R,Dg n.k) (v:Value) (w:World) (hb:R.length≤1000000) (hO:Own w 132 34 v R.length (Ay R)) :
   Calls Tryz.prog 145 #[v] w fun e w'=>e=.returned (.tuple #[])∧Own w' 132 34 v R.length (Ay R.reverse)∧w.grownBy w' v.ownBlock:=by
 have HR:=AH hR
 obtain⟨m,hm⟩:∃m,m=R.length:=⟨_,rfl⟩
 have HM:=AH hm
 rw[←hm] at hb
 obtain⟨ho1,ho2⟩:=hO
 rcases ho2 with ⟨rfl,hx⟩|⟨g,cap,cur,rfl,hgb,hg,hcap,hcap2,hsz,htk⟩
 · have hnil:=List.eq_nil_of_length_eq_zero hx
   subst hnil
   clear HR HM hb hm hx ho1 hR
   go_enter Tryz.func145,Tryz.ntmps145
   go_wp2
   refine wp_loop_rounds 1 ?_
   rw[rounds_succ]
   go_wp2
   go_end0
   exact⟨rfl,World.ownsRow_nil _ _ _ _,World.grownBy.refl _ _⟩
 · obtain⟨Z,hZ⟩:∃Z,Z=cur.toList.drop (R.length*34):=⟨_,rfl⟩
   have hcur:cur=(Ay R++Z).toArray:=by
    apply Array.ext'
    rw[List.toList_toArray,hZ,←htk,List.take_append_drop]
   have HG:=AH (show w.heap[g]?=some (.cells (Ay R++Z).toArray 132 (0,0)) by rw[←hcur];exact hg)
   have HF:=AH (show ∀L:List Nd,L.length=R.length→(∀n∈L,Dg n.k)→∀w',w'.heap[g]?=some (.cells (Ay L++Z).toArray 132 (0,0))→Own w' 132 34 (.slice (some ⟨g,0,none⟩) R.length cap) R.length (Ay L) from fun L hL hLd w' hw=>by
    have e1:=IK hLd
    have e2:=IK HR.out
    refine⟨by rw[e1,hL],.inr ⟨g,cap,_,rfl,Nat.zero_le _,hw,hcap,hcap2,?_,?_⟩⟩
    · have e3:(Ay R++Z).length=cap*34:=by rw[←hsz,hcur,List.size_toArray]
      rw[List.length_append] at e3
      rw[List.size_toArray,List.length_append,e1,hL,←e2]
      exact e3
    · rw[List.toList_toArray,←hL,←e1,List.take_left])
   have p1:m≤cap:=by rw[hm];exact hcap
   rw[←hm] at HF ⊢
   clear hR hm hgb hg hcap hcap2 hsz htk hZ hcur ho1
   go_enter Tryz.func145,Tryz.ntmps145
   go_wp2
   go_loopw [2,3] (fun i j wr=>∃(k:Nat) (L:List Nd),k≤m∧i=.int .i64 k∧j=.int .i64 ((m:Int)-1-k)∧Hid (Rvd R L k)∧Hid (w.grownBy wr (some g))∧Hid (wr.heap[g]?=some (.cells (Ay L++Z).toArray 132 (0,0)))) (fun i _ _=>(m-intOf i).toNat)
   case atStart=>exact⟨0,R,by omega,rfl,by simp,AH (Rvd.zero R),AH (World.grownBy.refl _ _),HG⟩
   case round =>
    clear HG
    obtain⟨k,L,hk,rfl,rfl,HV,HGR,HG⟩:=hrel
    by_cases hlt:k+1<m-k
    · obtain⟨jn,hjn⟩:∃jn:Nat,jn=m-1-k:=⟨_,rfl⟩
      have hj1:(m:Int)-1-(k:Int)=(jn:Int):=by omega
      have HJ:=AH hjn
      have HLT:=AH hlt
      have hLl:L.length=m:=by rw[HV.out.1,HM.out]
      have HLL:=AH hLl
      have kl:k<L.length:=by omega
      have jl:jn<L.length:=by omega
      have HLD:=AH (show ∀n∈L,Dg n.k from fun n hn=>HR.out n (HV.out.mem n hn))
      obtain⟨xk,hxk⟩:∃x,x=L[k]:=⟨_,rfl⟩
      obtain⟨xj,hxj⟩:∃x,x=L[jn]:=⟨_,rfl⟩
      have dk:Dg xk.k:=by rw[hxk];exact HLD.out _ (List.getElem_mem kl)
      have dj:Dg xj.k:=by rw[hxj];exact HLD.out _ (List.getElem_mem jl)
      have HDK:=AH dk
      have HDJ:=AH dj
      have TK:=AH (Np xk dk.1)
      have TJ:=AH (Np xj dj.1)
      have RK:=AH (show wr.rangeAt g (k*34) (BD xk) by rw[hxk];exact Nt HG.out _ _ (Qa HLD.out Z kl))
      have RJ:=AH (show wr.rangeAt g (jn*34) (BD xj) by rw[hxj];exact Nt HG.out _ _ (Qa HLD.out Z jl))
      have HST:=AH (show Rvd R ((L.set k xj).set jn xk) (k+1) by
       subst hxk hxj hjn
       have e:m-1-k=R.length-1-k:=by rw[HM.out]
       have:=HV.out.step (by rw[←HM.out];exact hlt) kl (by rw[←e];exact jl)
       simp only[e]
       exact this)
      have i0:(0:Int)≤(k:Int):=by omega
      have i1:(k:Int)<(m:Int):=by omega
      have i2:(0:Int)≤(jn:Int):=by omega
      have i3:(jn:Int)<(m:Int):=by omega
      have t1:decide (k<jn)=true:=by simp;omega
      rw[hj1]
      clear hjn hlt hLl kl jl hxk hxj dk dj
      go_wp2
      refine wp_region_any (by kernel_rfl) ?_
      change wpAny _ _ _ _ 16 (Array.replicate 16 false) _ _
      refine Jk (i:=0) rfl (by kernel_rfl) (by kernel_rfl) (by kernel_rfl) (fun _ _ _ h=>h) rfl _ rfl rfl ?_
      refine Jk (i:=1) rfl (by kernel_rfl) (by kernel_rfl) (by kernel_rfl) (fun _ _ _ h=>h) rfl _ rfl rfl ?_
      refine Jk (i:=2) rfl (by kernel_rfl) (by kernel_rfl) (by kernel_rfl) (fun _ _ _ h=>h) rfl _ rfl rfl ?_
      refine Jk (i:=3) rfl (by kernel_rfl) (by kernel_rfl) (by kernel_rfl) (fun _ _ _ h=>h) rfl _ rfl rfl ?_
      simp only[Act.put,List.setIfInBounds_toArray,List.set_cons_zero,List.set_cons_succ]
      obtain⟨w5,hw5⟩:∃x,x=({ wr with drawn:=wr.drawn+1 }:World):=⟨_,rfl⟩
      have g5:wr.grownBy w5 none:=by rw[hw5];exact CR wr
      rw[←hw5]
      have HG5:=AH g5
      have RK:=AH (Hq RK.out g5)
      have RJ:=AH (Hq RJ.out g5)
      clear hw5 g5
      refine XN 12 [4,5,6,7,8,9,10,11] (by kernel_rfl) (by decide) (by kernel_rfl) (by kernel_rfl) (by kernel_rfl) (by kernel_rfl) (by kernel_rfl) ?_
      simp only[List.filterMap_cons,List.filterMap_nil,List.getElem?_toArray,List.getElem?_cons_succ,List.getElem?_cons_zero,List.drop_succ_cons,List.drop_zero]
      have HL1:=AH (show ∀w',(∃s:Gw w5,w'=s.val)→(Instr.loadAt 132 (.pointer (some ⟨g,k*34,none⟩))).run Tryz.prog w'=.ok (DK xk) w' from fun w' ⟨s,e⟩=>by subst e;exact Ab TK.out (Hq RK.out s.g))
      have HL2:=AH (show ∀w',(∃s:Gw w5,w'=s.val)→(Instr.loadAt 132 (.pointer (some ⟨g,jn*34,none⟩))).run Tryz.prog w'=.ok (DK xj) w' from fun w' ⟨s,e⟩=>by subst e;exact Ab TJ.out (Hq RJ.out s.g))
      iterate 3 (quiet_step (fail))
      refine EO rfl 132 (.tmp 20) rfl rfl HL2.out ?_
      iterate 3 (quiet_step (fail))
      refine EO rfl 132 (.tmp 24) rfl rfl HL1.out ?_
      refine wpQuiet_nil ?_
      rintro _ ⟨s,rfl⟩
      have B2:=AH (AF s.g (AF HG5.out HG.out (by simp)) (by simp))
      have GS:=AH (AA HG5.out s.g)
      generalize s.val=W3 at *
      clear HL1 HL2
      go_wp2_with (first
       | (refine CS rfl 132 (.tmp 26) (.tmp 21) rfl rfl rfl TJ.out B2.out (by have:=HLL.out;have:=HLT.out;rw[List.length_append,IK HLD.out,Ax _ HDJ.out.1];omega) ?_;intro W5 g5 h5;rw[QZ HLD.out Z (by have:=HLL.out;have:=HLT.out;omega) xj HDJ.out] at h5;have H5:=AH h5;have G5:=AH g5;clear g5 h5)
       | (refine CS rfl 132 (.tmp 27) (.tmp 25) rfl rfl rfl TK.out H5.out (by have:=HLL.out;have:=HLT.out;have:=HJ.out;rw[List.length_append,IK (l:=L.set k xj) (fun n hn=>(List.mem_or_eq_of_mem_set hn).elim (HLD.out n) (fun e=>e▸HDJ.out)),List.length_set,Ax _ HDK.out.1];omega) ?_;intro W6 g6 h6;rw[QZ (l:=L.set k xj) (fun n hn=>(List.mem_or_eq_of_mem_set hn).elim (HLD.out n) (fun e=>e▸HDJ.out)) Z (by have:=HLL.out;have:=HLT.out;have:=HJ.out;rw[List.length_set];omega) xk HDK.out] at h6;have H6:=AH h6;have G6:=AH g6;clear g6 h6)
       | fail)
      go_roundw
      case rel=>exact⟨k+1,_,by omega,by go_num,congrArg _ (by omega),HST,AH (AA (AA HGR.out (EL GS.out)) (AA G5.out G6.out)),H6⟩
      case measure=>simp[intOf];omega
    · have t1:decide ((k:Int)<(m:Int)-1-(k:Int))=false:=by simp;omega
      go_wp2
      go_end0
      obtain rfl:=HV.out.done (by rw[←HM.out];omega)
      exact⟨rfl,HF.out R.reverse (by rw[List.length_reverse,←HM.out]) (fun n hn=>HR.out n (List.mem_reverse.1 hn)) _ HG.out,HGR.out⟩
end
section
open Go.RowKit Go.Shelf
attribute [local go_sem] Oper.semAt_some
theorem Nz:ET Tryz.prog 54 132 (DK ⟨0,0,zs 32⟩) 34 48:=⟨Tryz.underlying54,info_parts (by kernel_rfl),rfl,by decide,by decide⟩
theorem IL (n:Nd):(BD n).all Value.oneCell'=true:=by
 unfold BD
 rw[List.all_cons,List.all_cons,List.all_eq_true.2 (fun v hv=>Hs n.k v hv)]
 rfl
structure OI (w:World) (B:Nat) (a:Int) (n0:Nd) (n:Nd) (L R:List Nd) (s g:Value) (wr:World):Prop where
 ok:M5 n=true
 dg:Dg n.k
 dn:MH a (34-n.d).toNat n L R=MH a (34-n0.d).toNat n0 [] []
 len:L.length+R.length+(34-n.d).toNat≤34
 dl:∀x∈L,Dg x.k
 dr:∀x∈R,Dg x.k
 gr:w.grownBy wr none
 hb:wr.heap[B]?=some (.cells (BD n).toArray 132 (0,0))
 os:Own wr 132 34 s L.length (Ay L)
 og:Own wr 132 34 g R.length (Ay R)
 bs:∀k,s.ownBlock=some k→w.heap.size≤k∧k≠B
 bg:∀k,g.ownBlock=some k→w.heap.size≤k∧k≠B
 sg:∀k,s.ownBlock=some k→g.ownBlock≠some k
theorem Own.skip {w w':World} {e:TypeId} {sz:Nat} {v:Value} {n:Nat} {xs:List Value} {row:Option Nat} (h:Own w e sz v n xs) (g:w.grownBy w' row) (hne:∀k,v.ownBlock=some k→row≠some k):Own w' e sz v n xs:=
 h.kept g (by
  cases hv:v.ownBlock with
  | none=>exact .inl rfl
  | some k=>exact .inr (fun e=>hne k hv e.symm))
theorem OI.kn {w wr W:World} {B:Nat} {a:Int} {n0 n:Nd} {L R:List Nd} {s g:Value} (h:OI w B a n0 n L R s g wr) (k:wr.grownBy W none):OI w B a n0 n L R s g W:=
 ⟨h.ok,h.dg,h.dn,h.len,h.dl,h.dr,AA h.gr k,AF k h.hb (by simp),h.os.kn k,h.og.kn k,h.bs,h.bg,h.sg⟩
theorem OI.right {w wr W4 W5:World} {B:Nat} {a:Int} {n0 n:Nd} {L R:List Nd} {s g s':Value} (hB:w.heap.size≤B) (h:OI w B a n0 n L R s g wr) (hbit:Pz n a=true) (hd:n.d<34)
   (o4:Own W4 132 34 s' (L.length+1) (Ay L++BD (A9 n false))) (s4:Step wr s W4 s') (g5:W4.grownBy W5 (some B)) (h5:W5.heap[B]?=some (.cells (BD (A9 n true)).toArray 132 (0,0))) :
   OI w B a n0 (A9 n true) (L++[A9 n false]) R s' g W5:=by
 have hB2:B<wr.heap.size:=(IH h.hb).2.2
 have hs':∀k,s'.ownBlock=some k→s.ownBlock=some k∨wr.heap.size≤k:=s4.2
 obtain⟨o1,o2,o3,o4'⟩:=Ep.1 h.ok
 have hk:(34-n.d).toNat=(34-(A9 n true).d).toNat+1:=by simp[A9];omega
 refine⟨D4 _ h.ok (by omega),FV _ _,?_,?_,?_,h.dr,?_,h5,?_,?_,?_,h.bg,?_⟩
 · rw[←h.dn,hk,MH,if_pos hbit]
 · have:=h.len;rw[hk] at this;rw[List.length_append,List.length_singleton];omega
 · intro x hx
   rcases List.mem_append.1 hx with hx|hx
   · exact h.dl x hx
   · obtain rfl:=List.mem_singleton.1 hx;exact FV _ _
 · refine Bi (Bi h.gr s4.1 fun r e=>(h.bs r e).1) g5 fun r e=>by cases e;exact hB
 · rw[List.length_append,List.length_singleton,Gr,Ma]
   refine o4.skip g5 fun k hk e=>?_
   cases e
   rcases hs' _ hk with h0|h0
   · exact(h.bs _ h0).2 rfl
   · omega
 · refine(h.og.skip s4.1 fun k hk e=>h.sg k e hk).skip g5 fun k hk e=>?_
   cases e
   exact(h.bg _ hk).2 rfl
 · intro k hk
   rcases hs' k hk with h0|h0
   · exact h.bs k h0
   · have:=h.gr.size;omega
 · intro k hk e
   rcases hs' k hk with h0|h0
   · exact h.sg k h0 e
   · have:=Own.lt h.og k e;omega
theorem OI.left {w wr W4 W5:World} {B:Nat} {a:Int} {n0 n:Nd} {L R:List Nd} {s g g':Value} (hB:w.heap.size≤B) (h:OI w B a n0 n L R s g wr) (hbit:Pz n a=false) (hd:n.d<34)
   (o4:Own W4 132 34 g' (R.length+1) (Ay R++BD (A9 n true))) (s4:Step wr g W4 g') (g5:W4.grownBy W5 (some B)) (h5:W5.heap[B]?=some (.cells (BD (A9 n false)).toArray 132 (0,0))) :
   OI w B a n0 (A9 n false) L (R++[A9 n true]) s g' W5:=by
 have hB2:B<wr.heap.size:=(IH h.hb).2.2
 have hs':∀k,g'.ownBlock=some k→g.ownBlock=some k∨wr.heap.size≤k:=s4.2
 obtain⟨o1,o2,o3,o4'⟩:=Ep.1 h.ok
 have hk:(34-n.d).toNat=(34-(A9 n false).d).toNat+1:=by simp[A9];omega
 refine⟨D4 _ h.ok (by omega),FV _ _,?_,?_,h.dl,?_,?_,h5,?_,?_,h.bs,?_,?_⟩
 · rw[←h.dn,hk,MH,if_neg (by rw[hbit];decide)]
 · have:=h.len;rw[hk] at this;rw[List.length_append,List.length_singleton];omega
 · intro x hx
   rcases List.mem_append.1 hx with hx|hx
   · exact h.dr x hx
   · obtain rfl:=List.mem_singleton.1 hx;exact FV _ _
 · refine Bi (Bi h.gr s4.1 fun r e=>(h.bg r e).1) g5 fun r e=>by cases e;exact hB
 · refine(h.os.skip s4.1 fun k hk e=>h.sg k hk e).skip g5 fun k hk e=>?_
   cases e
   exact(h.bs _ hk).2 rfl
 · rw[List.length_append,List.length_singleton,Gr,Ma]
   refine o4.skip g5 fun k hk e=>?_
   cases e
   rcases hs' _ hk with h0|h0
   · exact(h.bg _ h0).2 rfl
   · omega
 · intro k hk
   rcases hs' k hk with h0|h0
   · exact h.bg k h0
   · have:=h.gr.size;omega
 · intro k hk e
   rcases hs' k e with h0|h0
   · exact h.sg k hk h0
   · have:=Own.lt h.os k hk;omega
theorem XO (n:Nd) (a:Int) (hk:Dg n.k) (ho:M5 n=true) (ha:0≤a∧a<17179869184) (w:World) :
   Calls Tryz.prog 118 #[DK n,.int .i64 a] w fun e w'=>∃v,e=.returned v∧Own w' 132 34 v (PR a (34-n.d).toNat n).length (Ay (PR a (34-n.d).toNat n))∧Fresh w w' v:=by
 obtain⟨C,hC⟩:∃C,C=BD n:=⟨_,rfl⟩
 have HC:=AH hC
 have AB:=AH ha
 obtain⟨o1,o2,o3,o4⟩:=Ep.1 ho
 have HS:=AH (ACG a (34-n.d).toNat n [] [])
 obtain⟨B,hB⟩:∃B,B=w.heap.size:=⟨_,rfl⟩
 have HBq:=AH hB
 obtain⟨w1,hw1⟩:∃x,x=w.alloc (.cells C.toArray 132):=⟨_,rfl⟩
 have HW1:=AH (show OI w B a n n [] [] (.slice none 0 0) (.slice none 0 0) w1 from
   ⟨ho,hk,rfl,by simp;omega,by simp,by simp,by rw[hw1];exact World.grownBy_alloc _ _ _,by rw[hw1,hB,World.alloc_heap_new,hC],World.ownsRow_nil _ _ _ _,World.ownsRow_nil _ _ _ _,fun k h=>(by simp[Value.ownBlock] at h),fun k h=>(by simp[Value.ownBlock] at h),fun k h=>(by simp[Value.ownBlock] at h)⟩)
 have HZ:=AH hw1
 unfold DK
 rw[←hC]
 clear hC hB hw1 hk ho ha o1 o2 o3 o4
 go_enter Tryz.func118,Tryz.ntmps118
 go_wp2
 rw[←HBq.out,←HZ.out]
 go_loopw [5,6,7,8] (fun s g p q wr=>∃(n':Nd) (L R:List Nd) (sa:Option Addr) (sc:Nat) (ga:Option Addr) (gc:Nat),s=.slice sa L.length sc∧g=.slice ga R.length gc∧Hid (OI w B a n n' L R (.slice sa L.length sc) (.slice ga R.length gc) wr)) (fun s g p q wr=>(34-intOf ((wr.cell? ⟨B,0,none⟩).getD undef)).toNat)
 case atStart=>exact⟨n,[],[],none,0,none,0,rfl,rfl,HW1⟩
 case round =>
   obtain⟨n',L,R,sa,sc,ga,gc,rfl,rfl,HI⟩:=hrel
   obtain⟨c0,c1,y0⟩:=IH HI.out.hb
   have HO:=AH HI.out.ok
   obtain⟨o1,o2,o3,o4⟩:=Ep.1 HO.out
   have o5:=ADq HO.out
   have MU:=AH (show intOf ((wr.cell? ⟨B,0,none⟩).getD undef)=n'.d by rw[c0];rfl)
   clear HW1
   by_cases hlt:n'.d<34
   · have t1:decide (n'.d<34)=true:=decide_eq_true hlt
     clear o4
     obtain⟨NV,hNV⟩:∃x,x=DK n':=⟨_,rfl⟩
     obtain⟨CF,hCF⟩:∃x,x=A9 n' false:=⟨_,rfl⟩
     obtain⟨CT,hCT⟩:∃x,x=A9 n' true:=⟨_,rfl⟩
     have HCF:=AH hCF
     have HCT:=AH hCT
     have TN:=AH (Np n' HI.out.dg.1)
     have DF:=AH (show Dg CF.k by rw[hCF];exact FV _ _)
     have DT:=AH (show Dg CT.k by rw[hCT];exact FV _ _)
     have WF:=AH (fun W=>MY n' false HI.out.dg ⟨o1,o2⟩ ⟨o3,o5⟩ W)
     have WT:=AH (fun W=>MY n' true HI.out.dg ⟨o1,o2⟩ ⟨o3,o5⟩ W)
     rw[←hCF] at WF
     rw[←hCT] at WT
     have WR:=AH (fun W=>M6 n' a ⟨o1,by omega⟩ AB.out W)
     have HL:=AH (show ∀w',wr.grownBy w' none→(Instr.loadAt 132 (.pointer (some ⟨B,0,none⟩))).run Tryz.prog w'=.ok (DK n') w' from fun w' g=>Ab TN.out (Ac (AF g HI.out.hb (by simp))))
     clear hCF hCT hNV
     refine ALz fun K1 k1=>?_
     have HK1:=AH k1
     clear k1
     go_wp2
     refine HK1.out _ _ ?_
     clear HK1 c0 c1 y0 t1
     refine wp_block ?_
     refine ALz fun K2 k2=>?_
     have HK2:=AH k2
     clear k2
     refine XP (by kernel_rfl) 34 rfl 6 [none,none,none,none,none,none,none,some (Sp.new wr.heap.size (BD ⟨0,0,zs 32⟩) 132),some (Sp.new wr.heap.size (BD ⟨0,0,zs 32⟩) 132),none,none,none,some (Sp.is (DK n')),some (Sp.is (DK CF)),some (Sp.is (DK n')),some (Sp.is (DK CT)),none,none,none,none,none,none,none,none,none,none,none,none,none,none,none,none,none,none]
       (by kernel_rfl) (by kernel_rfl) (by kernel_rfl)
       ⟨Ks rfl rfl trivial ⟨by decide,fun _ _ h=>h⟩ HL.out (fun _=>rfl),
        QM [DK n',.bool false] rfl rfl trivial ⟨⟨by decide,fun _ _ h=>h⟩,rfl,AL5⟩ (fun W _=>(WF.out W).mono fun e W' ⟨h1,h2⟩=>⟨_,h1,h2,rfl⟩) (Ed Tryz.func120 (by kernel_rfl) rfl),
        Ks rfl rfl trivial ⟨by decide,fun _ _ h=>h⟩ HL.out (fun _=>rfl),
        QM [DK n',.bool true] rfl rfl trivial ⟨⟨by decide,fun _ _ h=>h⟩,rfl,AL5⟩ (fun W _=>(WT.out W).mono fun e W' ⟨h1,h2⟩=>⟨_,h1,h2,rfl⟩) (Ed Tryz.func120 (by kernel_rfl) rfl),
        XQ rfl trivial (Nat.le_refl _) (fun a w=>by kernel_rfl) (fun _ _ h=>h),
        XQ rfl trivial (Nat.le_refl _) (fun a w=>by kernel_rfl) (fun _ _ h=>h),AL5⟩
       [7,8] (by kernel_rfl) (LaysAll.at ⟨.inl rfl,.inl rfl,.inl rfl,.inl rfl,.inr ⟨rfl,(BD ⟨0,0,zs 32⟩).toArray,132,fun a w=>by kernel_rfl⟩,.inr ⟨rfl,(BD ⟨0,0,zs 32⟩).toArray,132,fun a w=>by kernel_rfl⟩,AL5⟩) (fun t ht=>by simp at ht;rcases ht with rfl|rfl<;>exact⟨_,rfl,Sp.new_lt⟩) ?rest
     case rest =>
       intro x W3 g3 hx hne
       obtain⟨A7,e7,b7,h7⟩:=hx 7 _ rfl (by decide)
       obtain⟨A8,e8,b8,h8⟩:=hx 8 _ rfl (by decide)
       have e12:x 12=DK n':=hx 12 _ rfl (by decide)
       have e13:x 13=DK CF:=hx 13 _ rfl (by decide)
       have e14:x 14=DK n':=hx 14 _ rfl (by decide)
       have e15:x 15=DK CT:=hx 15 _ rfl (by decide)
       have hne:=hne 7 (by decide) 8 (by decide) (by decide)
       rw[e7,e8] at hne
       have HNE:=AH (show A7≠A8 from fun e=>hne (by rw[e]))
       simp only[Hp]
       rw[e7,e8,e12,e13,e14,e15]
       have H7:=AH h7
       have H8:=AH h8
       have G3:=AH g3
       have NB7:=AH b7
       have NB8:=AH b8
       clear hx e7 e8 e12 e13 e14 e15 hne h7 h8 g3 b7 b8 HL WF WT
       simp only[List.drop_succ_cons,List.drop_zero]
       go_wp2_with (first
         | (refine AM rfl 132 (.tmp 7) (.tmp 13) rfl rfl rfl (Np CF DF.out.1) H7.out (by rw[List.size_toArray,Ax _ (by simp[zs]),Ax _ DF.out.1]) ?_;intro W4 g4 h4;have G4:=AH g4;have P4:=AH h4;have Q4:=AH (AF g4 H8.out (fun e=>HNE.out (Option.some.inj e).symm));clear g4 h4)
         | (refine AM rfl 132 (.tmp 8) (.tmp 15) rfl rfl rfl (Np CT DT.out.1) Q4.out (by rw[List.size_toArray,Ax _ (by simp[zs]),Ax _ DT.out.1]) ?_;intro W5 g5 h5;have G5:=AH g5;have P8:=AH h5;have P7:=AH (AF g5 P4.out (fun e=>HNE.out (Option.some.inj e)));clear g5 h5)
         | fail)
       have GW:=AH (AD (AD G3.out G4.out NB7.out) G5.out NB8.out)
       have HI5:=AH (HI.out.kn GW.out)
       refine HK2.out _ _ ?_
       clear HK2 H7 H8 Q4 P4 G3 G4 G5
       refine ALz fun K3 k3=>?_
       have HK3:=AH k3
       clear k3
       go_wp2_with (first
         | (refine BE rfl 132 (.tmp 2) rfl rfl TN.out HI5.out.hb ?_)
         | fail)
       refine(WR.out _).mono ?_
       rintro e W6 ⟨rfl,g6⟩
       have HI6:=AH (HI5.out.kn g6)
       have P7:=AH (AF g6 P7.out (by simp))
       have P8:=AH (AF g6 P8.out (by simp))
       have HLEN:=AH HI6.out.len
       have HBB:=AH (show w.heap.size≤B by rw[HBq.out];exact Nat.le_refl _)
       obtain⟨l1,hl1⟩:∃x,x=L.length:=⟨_,rfl⟩
       obtain⟨l2,hl2⟩:∃x,x=R.length:=⟨_,rfl⟩
       have HLl1:=AH hl1
       have HLl2:=AH hl2
       have OS:=AH (show Own W6 132 34 (.slice sa l1 sc) l1 (Ay L) from by rw[hl1];exact HI6.out.os)
       have OG:=AH (show Own W6 132 34 (.slice ga l2 gc) l2 (Ay R) from by rw[hl2];exact HI6.out.og)
       have ES:=AH (show l1+1≤1099511627776 from by have:=HLEN.out;omega)
       have EG:=AH (show l2+1≤1099511627776 from by have:=HLEN.out;omega)
       have SQ:=AH (show some A8≠(Value.slice sa l1 sc).ownBlock from fun e=>by have h:=Own.lt HI.out.os _ (show(Value.slice sa L.length sc).ownBlock=some A8 from by have h:=e.symm;rw[hl1] at h;exact h);have h2:=NB8.out;omega)
       have GQ:=AH (show some A7≠(Value.slice ga l2 gc).ownBlock from fun e=>by have h:=Own.lt HI.out.og _ (show(Value.slice ga R.length gc).ownBlock=some A7 from by have h:=e.symm;rw[hl2] at h;exact h);have h2:=NB7.out;omega)
       have SB:=AH (show some B≠(Value.slice sa l1 sc).ownBlock from fun e=>(HI6.out.bs _ (by rw[←hl1];exact e.symm)).2 rfl)
       have GB:=AH (show some B≠(Value.slice ga l2 gc).ownBlock from fun e=>(HI6.out.bg _ (by rw[←hl2];exact e.symm)).2 rfl)
       rw[←hl1,←hl2]
       clear g6 GW hl1 hl2 o1 o3 o5 o2
       go_wp2
       refine HK3.out _ _ ?_
       clear HK3
       by_cases hbit:Pz n' a=true
       · have HBT:=AH hbit
         rw[hbit]
         clear hbit
         go_wp2_with (first
           | (refine BE rfl 132 (.tmp 7) rfl rfl (Np CF DF.out.1) P7.out ?_)
           | (refine Dd rfl 54 1 _ rfl #[(0,DK CF)] (by simp only[List.map_toArray,List.map_cons,List.map_nil,Act.eval];rfl) (bS1 CF DF.out.1 _) ?_)
           | (refine EN Nz rfl (.tmp 19) (.tmp 21) rfl (.slice sa l1 sc) l1 (Ay L) rfl OS.out (BD CF) 1 _ rfl rfl (by rw[Ax _ DF.out.1]) (IL _) ES.out ?_;intro v3 w3 o3 s3;obtain⟨ad3,cp3,rfl,_⟩:=(Sl.of_own o3).shape;have O3:=AH o3;have S3:=AH s3;have Q3:=AH (AF s3.1 P8.out SQ.out);have B3:=AH (AF s3.1 HI6.out.hb SB.out);clear o3 s3)
           | (refine BE rfl 132 (.tmp 8) rfl rfl (Np CT DT.out.1) Q3.out ?_)
           | (refine AM rfl 132 (.tmp 2) (.tmp 23) rfl rfl rfl (Np CT DT.out.1) B3.out (by rw[List.size_toArray,Ax _ HI6.out.dg.1,Ax _ DT.out.1]) ?_;intro w4 g4 h4;have G4:=AH g4;have H4:=AH h4;clear g4 h4)
           | fail)
         have RR:=HI6.out.right HBB.out HBT.out hlt (by rw[←HLl1.out,←HCF.out];exact O3.out) (by rw[←HLl1.out];exact S3.out) G4.out (by rw[←HCT.out];exact H4.out)
         have c10:=(IH H4.out).1
         go_frame
         go_roundw
         case rel =>
           have hl:(L++[A9 n' false]).length=l1+1:=by rw[List.length_append,←HLl1.out];rfl
           exact⟨A9 n' true,L++[A9 n' false],R,ad3,cp3,ga,gc,by rw[hl],by rw[←HLl2.out],AH (by rw[hl];exact RR)⟩
         case measure =>
           rw[MU.out,c10,HCT.out]
           show(34-(n'.d+1)).toNat<(34-n'.d).toNat
           omega
       · have HBT:=AH (show Pz n' a=false by simpa using hbit)
         rw[HBT.out]
         clear hbit
         go_wp2_with (first
           | (refine BE rfl 132 (.tmp 8) rfl rfl (Np CT DT.out.1) P8.out ?_)
           | (refine Dd rfl 54 1 _ rfl #[(0,DK CT)] (by simp only[List.map_toArray,List.map_cons,List.map_nil,Act.eval];rfl) (bS1 CT DT.out.1 _) ?_)
           | (refine EN Nz rfl (.tmp 24) (.tmp 26) rfl (.slice ga l2 gc) l2 (Ay R) rfl OG.out (BD CT) 1 _ rfl rfl (by rw[Ax _ DT.out.1]) (IL _) EG.out ?_;intro v3 w3 o3 s3;obtain⟨ad3,cp3,rfl,_⟩:=(Sl.of_own o3).shape;have O3:=AH o3;have S3:=AH s3;have Q3:=AH (AF s3.1 P7.out GQ.out);have B3:=AH (AF s3.1 HI6.out.hb GB.out);clear o3 s3)
           | (refine BE rfl 132 (.tmp 7) rfl rfl (Np CF DF.out.1) Q3.out ?_)
           | (refine AM rfl 132 (.tmp 2) (.tmp 28) rfl rfl rfl (Np CF DF.out.1) B3.out (by rw[List.size_toArray,Ax _ HI6.out.dg.1,Ax _ DF.out.1]) ?_;intro w4 g4 h4;have G4:=AH g4;have H4:=AH h4;clear g4 h4)
           | fail)
         have RR:=HI6.out.left HBB.out HBT.out hlt (by rw[←HLl2.out,←HCT.out];exact O3.out) (by rw[←HLl2.out];exact S3.out) G4.out (by rw[←HCF.out];exact H4.out)
         have c10:=(IH H4.out).1
         go_frame
         go_roundw
         case rel =>
           have hl:(R++[A9 n' true]).length=l2+1:=by rw[List.length_append,←HLl2.out];rfl
           exact⟨A9 n' false,L,R++[A9 n' true],sa,sc,ad3,cp3,by rw[←HLl1.out],by rw[hl],AH (by rw[hl];exact RR)⟩
         case measure =>
           rw[MU.out,c10,HCF.out]
           show(34-(n'.d+1)).toNat<(34-n'.d).toNat
           omega
   · have t1:decide (n'.d<34)=false:=decide_eq_false hlt
     have HDN:=AH (show L++R.reverse=PR a (34-n.d).toNat n from by
       have h:=HI.out.dn
       rw[show(34-n'.d).toNat=0 by omega] at h
       have h2:=HS.out
       rw[←h] at h2
       simpa [MH] using h2)
     have hlen:=HI.out.len
     have BL:=AH (show L.length≤34∧R.length≤34 from⟨by omega,by omega⟩)
     obtain⟨l1,hl1⟩:∃x,x=L.length:=⟨_,rfl⟩
     obtain⟨l2,hl2⟩:∃x,x=R.length:=⟨_,rfl⟩
     have HLl1:=AH hl1
     have HLl2:=AH hl2
     have OG:=AH (show Own wr 132 34 (.slice ga l2 gc) R.length (Ay R) from by rw[hl2];exact HI.out.og)
     rw[←hl1,←hl2]
     clear hlen hl1 hl2 o1 o2 o3 o4 o5
     go_wp2_with fail
     refine(ADs R HI.out.dr _ _ (by have:=BL.out;omega) OG.out).mono ?_
     rintro e W7 ⟨rfl,o7,g7⟩
     have O7:=AH o7
     have G7:=AH g7
     have OS:=AH (show Own W7 132 34 (.slice sa l1 sc) l1 (Ay L) from by
       have h:=HI.out.os.skip g7 (fun k hk e=>HI.out.sg k hk (by rw[←HLl2.out];exact e))
       rw[←HLl1.out] at h
       exact h)
     clear o7 g7 c0 c1 y0 t1
     go_wp2_with (first
       | (refine EM Nz rfl (.tmp 31) (.tmp 32) rfl (.slice sa l1 sc) l1 (Ay L) rfl OS.out (.slice ga l2 gc) R.length (Ay R.reverse) rfl (Sl.of_own O7.out) (by unfold Ay;rw[List.all_flatMap];simp[IL]) (by have:=BL.out;have:=HLl1.out;omega) ?_;intro v3 w3 o3 s3;have O3:=AH o3;have S3:=AH s3;clear o3 s3)
       | fail)
     have bS:=fun r (e:(Value.slice sa l1 sc).ownBlock=some r)=>(HI.out.bs r (by rw[←HLl1.out];exact e)).1
     have bG:=fun r (e:(Value.slice ga l2 gc).ownBlock=some r)=>(HI.out.bg r (by rw[←HLl2.out];exact e)).1
     have gW:=Bi HI.out.gr G7.out bG
     have FR:=Step.fresh (Bi gW S3.out.1 bS) (fun k hk=>by rcases S3.out.2 k hk with h0|h0;exact bS k h0;exact Nat.le_trans gW.size h0)
     have OW:=O3.out
     rw[←Gr,HDN.out,show l1+R.length=(PR a (34-n.d).toNat n).length from by rw[←HDN.out,List.length_append,List.length_reverse,HLl1.out]] at OW
     go_ret
     exact⟨_,rfl,OW,FR⟩
end
section
open Go.RowKit Go.Shelf
attribute [local go_sem] Oper.semAt_some
theorem Qb {P:Program} {Q:Exit→Act→World→Prop} {id nn:Nat} {ro:Option Nat} {l:List Oper} {l0:List Value} {ds:List Deferred} {w0:World} (hout:¬LetsOut Q) (hdf:Fc l=true) (hm:P.follows .mixedOrders=true) (n:Nat) (hn:l0.length=n) (k:Nat) (W:List (Option Sp))
  (hB:Wt l.toArray n=true) (hT:XR l.toArray k=true) (hW:W.map (·.isSome)=Wu (l.take k) n) (ob:ObAll P l.toArray (mkL W l0) n w0 (l.take k))
  (al:List Nat) (hal:(al.all fun t=>decide (t<n)&&(l.take k).any fun o=>o.dst == some t)=true) (hrun:∀(i:Nat) (o:Oper),(l.take k)[i]?=some o→∀d∈al,o.dst=some d→Lays P o)
  (hnew:∀t∈al,∃s,W.getD t none=some s∧∀w u,s.on w u→∃A,u=.pointer (some ⟨A,0,none⟩)∧A<w.heap.size)
  (hQ:∀(x:Nat→Value) w,w0.grownBy w none→(∀t s,W.getD t none=some s→t<n→s.on w (x t))→(∀t∈al,∀u∈al,t≠u→x t≠x u)→wpList P l.toArray Q (l.drop k) ⟨(Hp x 0 W l0).toArray,ds⟩ w) :
  (Code.region id l.toArray true).wpIn (Wd ro) nn P Q ⟨l0.toArray,ds⟩ w0:=
 wpIn_region_any hm (QW hout (by simpa using hdf) _ _ _ _ (XS n hn k W hB hT hW ob al hal hrun hnew hQ))
def Sp.own (B:Nat) (e:TypeId) (sz n:Nat) (xs:List Value):Sp:=⟨fun w v=>Own w e sz v n xs∧∀k,v.ownBlock=some k→B≤k,fun _ _ _ hg h=>⟨h.1.kn hg,h.2⟩⟩
theorem ADu {P:Program} {ops:Array Oper} {L:List Sp} {n:Nat} {w0:World} {o:Oper} (S:Sp) (av:List Value) {f:Nat} {d:Nat} {args:Array Operand} {tys:Array TypeId} (ho:o.op=.call { callee:=.value (.func f),args:=args,argTypes:=tys }) (hd:o.dst=some d) (hg:GOK ops L n o.guard)
  (hρ:OpdIsAll L n args.toList av) (hc:∀w,w0.grownBy w none→Calls P f av.toArray w fun e w'=>∃v,e=.returned v∧w.grownBy w' none∧S.on w' v) (hv:∀w v,S.on w v→At L d w v)
  (hrun:∀(av:Array Value) w,((Deferred.ofValue (.func (.func f) #[] #[]) av).run P w).andThen (fun a w'=>(invoke a.target a.args).run P w')=.ok (.enter f av) w):Ob P ops L n w0 o:=
 QM av ho hd hg hρ (fun w hw=>(hc w hw).mono fun e w' ⟨v,he,hg,hs⟩=>⟨v,he,hg,hv w' v hs⟩) hrun
theorem AGI (v:Value) (h:v.oneCell'=true):TY Tryz.prog 54 [v] v:=TY.one' Tryz.underlying54 rfl (by kernel_rfl) h
theorem Ox (l:List Nd):(Ay l).all Value.oneCell'=true:=by unfold Ay;rw[List.all_flatMap];simp[IL]
theorem ACH (a:Int) (l:List Nd) (n:Nd):Io a (l++[n])=Io a l++if JP a n then PR a (34-n.d).toNat n else [n]:=by
 unfold Io;rw[List.flatMap_append];simp
theorem ADv (a:Int) (l:List Nd):(Io a l).length≤34*l.length:=by
 induction l with
 | nil=>simp[Io]
 | cons x l ih =>
  unfold Io at *
  rw[List.flatMap_cons,List.length_append,List.length_cons]
  split
  · rename_i h
    rw[U2]
    have:=(Ep.1 (P3 h)).1
    omega
  · simp only[List.length_singleton];omega
structure PI (w:World) (a:Int) (S T:Nat) (DY:List Nq) (V:World):Prop where
 h1:V.heap[w.heap.size+1]?=some (.cells #[.int .i64 a] 2 (0,0))
 h2:V.heap[w.heap.size+2]?=some (.cells #[.slice none 0 0] 56 (0,0))
 h3:V.heap[w.heap.size+3]?=some (.cells #[.int .i64 0] 38 (0,0))
 ho:∃v,V.heap[T]?=some (.cells #[v] 54 (0,0))∧Own V 132 34 v (Io a (DY.map (·.1))).length (Ay (Io a (DY.map (·.1))))∧∀k,v.ownBlock=some k→w.heap.size≤k
 gr:w.grownBy V none
 sz:S≤V.heap.size
theorem PI.kn {w V V':World} {a:Int} {S T:Nat} {DY:List Nq} (h:PI w a S T DY V) (g:V.grownBy V' none):PI w a S T DY V':=by
 obtain⟨h1,h2,h3,⟨v,v1,v2,v3⟩,h4,h5⟩:=h
 exact⟨AF g h1 (by simp),AF g h2 (by simp),AF g h3 (by simp),⟨v,AF g v1 (by simp),v2.kn g,v3⟩,AA h4 g,Nat.le_trans h5 g.size⟩
theorem PI.own {w:World} {a:Int} {S T:Nat} (hs:w.heap.size+4≤S) (hT:T<S):OwnFrom S (PI w a S T):=fun DY X Y row ⟨h1,h2,h3,⟨v,v1,v2,v3⟩,h4,h5⟩ hg hr =>
 ⟨AF hg h1 (fun e=>by have:=(hr _ e.symm).1;omega),AF hg h2 (fun e=>by have:=(hr _ e.symm).1;omega),AF hg h3 (fun e=>by have:=(hr _ e.symm).1;omega),
  ⟨v,AF hg v1 (fun e=>by have:=(hr _ e.symm).1;omega),v2.kept hg (by
   cases hrow:row with
   | none=>cases v.ownBlock<;>simp
   | some r=>obtain⟨_,o,ho,hc⟩:=hr r hrow;exact Own.cellsRow v2 ho hc),v3⟩,Bi h4 hg (fun r e=>by have:=(hr r e).1;omega),Nat.le_trans h5 hg.size⟩
theorem PI.next {w V V3 V4:World} {a:Int} {S T:Nat} {DY:List Nq} {x:Nq} {v v3:Value} {PL m:List Nd} {n0 k:Nat} {cs:List Value} (hT0:w.heap.size+3<T) (h:PI w a S T DY V) (hv:V.heap[T]?=some (.cells #[v] 54 (0,0)))
   (hob:∀k,v.ownBlock=some k→w.heap.size≤k) (hm:Io a ((DY++[x]).map (·.1))=PL++m)
   (hown:Own V 132 34 v n0 (Ay PL)) (hn:n0=PL.length) (hk:k=m.length) (hcs:cs=Ay m)
   (o3:Own V3 132 34 v3 (n0+k) (Ay PL++cs)) (s3:Step V v V3 v3)
   (g4:V3.grownBy V4 (some T)) (h4:V4.heap[T]?=some (.cells #[v3] 54 (0,0))):PI w a S T (DY++[x]) V4:=by
 subst hn hk hcs
 have z1:V3.heap[T]?=some (.cells #[v] 54 (0,0)):=AF s3.1 hv (fun e=>Own.ne hown hv (by decide) e.symm)
 refine⟨AF g4 (AF s3.1 h.h1 (fun e=>Own.ne hown h.h1 (by decide) e.symm)) (by simp;omega),AF g4 (AF s3.1 h.h2 (fun e=>Own.ne hown h.h2 (by decide) e.symm)) (by simp;omega),AF g4 (AF s3.1 h.h3 (fun e=>Own.ne hown h.h3 (by decide) e.symm)) (by simp;omega),
   ⟨v3,h4,?_,fun k hk=>?_⟩,?_,Nat.le_trans h.sz (Nat.le_trans s3.1.size g4.size)⟩
 · rw[hm,List.length_append,Gr]
   exact o3.past g4 z1 (by decide)
 · rcases s3.2 k hk with h0|h0
   · exact hob k h0
   · exact Nat.le_trans h.gr.size h0
 · exact AD (Bi h.gr s3.1 hob) g4 (by omega)
def PA (S:Nat) (tm:Nat→Nat→Value→Value→Act) (x:Nq) (a:Act) (V:World):Prop:=∃Bs Ns,S≤Bs∧S≤Ns∧V.heap[Bs]?=some (.cells #[.int .i64 (Et x.1).1,.int .i64 (Et x.1).2] 137 (0,0))∧V.heap[Ns]?=some (.cells (BD x.1).toArray 132 (0,0))∧a=tm Bs Ns (Ko (Et x.1)) (DK x.1)
theorem PA.own {S0 S:Nat} {tm:Nat→Nat→Value→Value→Act} {x:Nq} {a:Act}:OwnFrom S0 (fun(_:Unit) V=>PA S tm x a V):=fun _ X Y row ⟨Bs,Ns,h1,h2,h3,h4,h5⟩ hg hr =>
 ⟨Bs,Ns,h1,h2,AF hg h3 (fun e=>by obtain⟨_,o,ho,hc⟩:=hr _ e.symm;rw[h3] at ho;cases ho;cases hc),AF hg h4 (fun e=>by obtain⟨_,o,ho,hc⟩:=hr _ e.symm;rw[h4] at ho;cases ho;cases hc),h5⟩
theorem bT0 (w:World):(Instr.build 56 #[]).run Tryz.prog w=.ok (.agg #[.slice none 0 0]) w:=by kernel_rfl
theorem bT1 (ao:Option Addr) (n cap:Nat) (w:World):(Instr.build 56 #[(0,.slice ao n cap)]).run Tryz.prog w=.ok (.agg #[.slice ao n cap]) w:=by kernel_rfl
def AK7 (w:World) (r:List Nd×Int) (e:Ending) (w':World):Prop:=∃v,e=.returned (.tuple #[.agg #[v],.int .i64 r.2])∧Own w' 132 34 v r.1.length (Ay r.1)∧Fresh w w' v
theorem Zj (l:List Nq) (s:Value) (a:Int) (w:World) (hR:RdL w s l) :
   Calls Tryz.prog 76 #[.agg #[s],.int .i64 a] w (AK7 w (Fy (l.map (·.1)) a)):=by
 obtain⟨ao,cap,rfl,p1,p2⟩:=hR.shape
 have HR:=AH hR
 obtain⟨gl,hgl⟩:∃v,v=Fy (l.map (·.1)) a:=⟨_,rfl⟩
 rw[←hgl]
 have HV:=AH hgl
 obtain⟨m,hm⟩:∃m,m=l.length:=⟨_,rfl⟩
 have hm0:m≤1099511627776:=by rw[hm];exact hR.2.2
 rw[←hm] at HR p1 ⊢
 have HM:=AH hm
 obtain⟨w0,hw0⟩:∃x,x=(((w.alloc (.cells #[.slice ao m cap] 56)).alloc (.cells #[.int .i64 a] 2)).alloc (.cells #[.slice none 0 0] 56)).alloc (.cells #[.int .i64 0] 38):=⟨_,rfl⟩
 have HG0:=AH (show w.grownBy w0 none by rw[hw0];exact AA (AA (AA (World.grownBy_alloc _ _ _) (World.grownBy_alloc _ _ _)) (World.grownBy_alloc _ _ _)) (World.grownBy_alloc _ _ _))
 have Z0:=AH (show w0.heap[w.heap.size]?=some (.cells #[.slice ao m cap] 56 (0,0)) by rw[hw0,As (by simp<;>omega),As (by simp<;>omega),As (by simp<;>omega),Ah (by simp<;>omega)])
 have Z1:=AH (show w0.heap[w.heap.size+1]?=some (.cells #[.int .i64 a] 2 (0,0)) by rw[hw0,As (by simp<;>omega),As (by simp<;>omega),Ah (by simp<;>omega)])
 have Z2:=AH (show w0.heap[w.heap.size+2]?=some (.cells #[.slice none 0 0] 56 (0,0)) by rw[hw0,As (by simp),Ah (by simp)])
 have Z3:=AH (show w0.heap[w.heap.size+3]?=some (.cells #[.int .i64 0] 38 (0,0)) by rw[hw0,Ah (by simp)])
 have HS0:=AH (show w0.heap.size=w.heap.size+4 by rw[hw0];simp)
 have HW0:=AH hw0
 clear hR hgl hm hw0
 refine(callsIn_wide (n:=4)).1 (callsIn_of_wp_marks Tryz.func76 rfl trivial ?_ rfl)
 simp only[Tryz.ntmps76,List.size_toArray,List.length_cons,List.length_nil,Nat.reduceAdd,Nat.reduceSub,Array.replicate_succ,Array.replicate_zero,List.push_toArray,List.append_toArray,List.nil_append,List.cons_append]
 refine wpIn_wide.2 ?_
 go_wp2_with fail
 refine(IJ a _).mono ?_
 rintro e w1 ⟨rfl,hw1⟩
 have hw2:w1=w0:=hw1.trans HW0.out.symm
 clear hw1 HW0
 subst hw2
 have c0:w1.cell? ⟨w.heap.size,0,none⟩=some (.slice ao m cap):=by rw[AL1 _ _ _ _ _ _ Z0.out];rfl
 have y0:=AL0 c0
 by_cases ha:Br a=true
 · have HA:=AH ha
   simp only[ha]
   clear ha
   go_wp2_with fail
   refine(MZ l (.slice ao m cap) _ (HR.out.kn HG0.out)).mono ?_
   rintro e w2 ⟨rfl,g2⟩
   have G2:=AH g2
   clear g2
   by_cases hv:GO (l.map (·.1))=true
   · have HVL:=AH hv
     simp only[hv]
     clear hv c0 y0
     have c0:w2.cell? ⟨w.heap.size,0,none⟩=some (.slice ao m cap):=by rw[AL1 _ _ _ _ _ _ (AF G2.out Z0.out (by simp))];rfl
     have y0:=AL0 c0
     obtain⟨T,hT⟩:∃T,T=w2.heap.size:=⟨_,rfl⟩
     have HT:=AH hT
     go_wp2_with fail
     refine(Nx ao m cap _).mono ?_
     rintro e w3 ⟨rfl,rfl⟩
     go_wp2
     rw[←hT]
     obtain⟨W,hW⟩:∃W,W=(w2.alloc (.cells #[.slice none 0 0] 54)).alloc (.cells #[.slice ao m cap] 56):=⟨_,rfl⟩
     have hg2:w.grownBy w2 none:=AA HG0.out G2.out
     have hl2:w2.grownBy W none:=by rw[hW];exact AA (World.grownBy_alloc _ _ _) (World.grownBy_alloc _ _ _)
     have hWg:w.grownBy W none:=AA hg2 hl2
     have hWs:W.heap.size=T+2:=by rw[hW,hT];simp
     have hT4:w.heap.size+4≤T:=by rw[hT,←HS0.out];exact G2.out.size
     have b1:=AF hl2 (AF G2.out Z1.out (by simp)) (by simp)
     have b2:=AF hl2 (AF G2.out Z2.out (by simp)) (by simp)
     have b3:=AF hl2 (AF G2.out Z3.out (by simp)) (by simp)
     have bT:W.heap[T]?=some (.cells #[.slice none 0 0] 54 (0,0)):=by rw[hW,hT,As (by simp),World.alloc_heap_new]
     have bT1:W.heap[T+1]?=some (.cells #[.slice ao m cap] 56 (0,0)):=by rw[hW,hT,Ah (by simp)]
     rw[←hW]
     clear hW hT hg2 hl2 c0 y0
     have c3:W.cell? ⟨T+1,0,none⟩=some (.slice ao m cap):=by rw[AL1 _ _ _ _ _ _ bT1];rfl
     have hRW:=HR.out.kn hWg
     have hBW:=HR.out.2.1
     have HWS:=AH hWs
     have HT4:=AH hT4
     refine(wpIn_wide (n:=4)).1 ?_
     refine wpIn_rangeFunc_ownH (F:=Fence.wide) rfl (by decide) (gf:=143) (lb:=#[.pointer (some ⟨T+1,0,none⟩)]) rfl trivial (enters_of Tryz.func143 (by kernel_rfl) rfl)
      (Kr 3 w.heap.size (T+1) l (.slice ao m cap) W c3 hRW.1 hRW.2.2 hBW (by omega)) (fun h k=>h.trans k)
      (fun V q o o' hq hl _ _=>(Below.refl w.heap.size V).grown (grownBy_putObj' V q o') (by have:=(Array.getElem?_eq_some_iff.1 hl).1;omega) (fun k e=>by cases e;omega)) (Below.refl _ _) (fun _=>rfl)
      (PI w a W.heap.size T) (fun _ _ _=>False) (PI.own (by omega) (by omega)) (fun c=>fun _ _ _ _ h _ _=>h) ⟨b1,b2,b3,⟨_,bT,World.ownsRow_nil _ _ _ _,fun k hk=>(by simp[Value.ownBlock] at hk)⟩,hWg,Nat.le_refl _⟩
      (PA W.heap.size (fun Bs Ns u v=>{ tmps:=#[.agg #[.slice ao m cap],.int .i64 a,.pointer (some ⟨w.heap.size,0,none⟩),.pointer (some ⟨w.heap.size+1,0,none⟩),.pointer (some ⟨w.heap.size+1+1,0,none⟩),.pointer (some ⟨w.heap.size+1+1+1,0,none⟩),.pointer (some ⟨T,0,none⟩),.pointer (some ⟨Bs,0,none⟩),.pointer (some ⟨Ns,0,none⟩),.func (.func 115) #[] #[.pointer (some ⟨w.heap.size+1+1,0,none⟩),.pointer (some ⟨w.heap.size+1+1+1,0,none⟩)],.int .i64 a,.bool true,.bool false,.bool false,.agg #[.slice ao m cap],.bool true,.bool false,.bool false,undef,.agg #[.slice ao m cap],.func (.func 143) #[] #[.pointer (some ⟨T+1,0,none⟩)],u,v,undef,undef,undef,undef,undef,undef,undef,undef,undef,undef,undef,undef,undef,undef,undef,undef,undef,undef],defers:=[] }))
      (fun x a'=>PA.own) ?assign ?body ?done ?stop
     case assign =>
      intro lp DY x V K hi hK
      have HK:=AH hK
      have HI:=AH hi
      have hWV:W.heap.size≤V.heap.size:=hi.sz
      have HVs:=AH (show w.heap.size≤V.heap.size by omega)
      have HWV:=AH hWV
      have hxk:=x.2.1.1
      have HXK:=AH hxk
      clear hxk
      clear hK hi b1 b2 b3 bT bT1 c3 hRW hBW hWs hWg hWV
      rw[QY]
      simp only[List.setIfInBounds_toArray,List.set_cons_succ,List.set_cons_zero]
      refine Cu fun K1 k1=>?_
      have HK1:=AH k1
      clear k1
      refine DZ (ro:=some lp) (fun⟨_,_,h⟩=>h) (by kernel_rfl) ?_
      go_wp2_with (first
        | (refine AM rfl 137 (.tmp 7) (.tmp 21) rfl rfl rfl (Nv (Et x.1).1 (Et x.1).2) (Ah rfl) rfl ?_;intro V2 g2 h2;have G2:=AH (AD (World.grownBy_alloc V _ none) g2 (Nat.le_refl _));have H2:=AH h2;clear g2 h2)
        | fail)
      refine HK1.out _ _ ?_
      refine DZ (ro:=some lp) (fun⟨_,_,h⟩=>h) (by kernel_rfl) ?_
      go_wp2_with (first
        | (refine AM rfl 132 (.tmp 8) (.tmp 22) rfl rfl rfl (Np x.1 HXK.out) (Ah rfl) (by rw[Ax _ HXK.out];rfl) ?_;intro V3 g3 h3;have G3:=AH (AD (World.grownBy_alloc V2 _ none) g3 (Nat.le_refl _));have H3:=AH h3;clear g3 h3)
        | fail)
      have G4:=AA G2.out G3.out
      exact HK.out _ _ (Fe G4) (DE G4 HVs.out (fun k e=>by cases e)) (HI.out.kn G4) ⟨V.heap.size,V2.heap.size,HWV.out,Nat.le_trans HWV.out G2.out.size,AF G3.out H2.out (by simp),H3.out,rfl⟩
     case body =>
      intro lp DY x a' V hle hrec hi hax hlen
      obtain⟨Bs,Ns,hBs,hNs,hb,hn,rfl⟩:=hax
      have HI:=AH hi
      have HXK:=AH x.2.1
      have HB:=AH hb
      have HN:=AH hn
      have HBs:=AH hBs
      have HNs:=AH hNs
      have RS:=AH (show Io a ((DY++[x]).map (·.1))=Io a (DY.map (·.1))++if JP a x.1 then PR a (34-x.1.d).toNat x.1 else [x.1] by rw[List.map_append,List.map_cons,List.map_nil,ACH])
      have HLP:=AH (show(Io a (DY.map (·.1))).length+34≤1099511627776 by
        have h1:=ADv a (DY.map (·.1))
        rw[List.length_map] at h1
        have h2:l.length≤32768:=by have h:=HVL.out;unfold GO at h;simp at h;exact h.1
        omega)
      obtain⟨sa,sb,hsp⟩:∃sa sb,Et x.1=(sa,sb):=⟨_,_,rfl⟩
      have HQ:=AH (show JP a x.1=(decide (sa≤a)&&decide (a<sb)) by unfold JP;rw[hsp])
      rw[hsp] at hb ⊢
      simp only at hb
      have c4:V.cell? ⟨Bs,0,none⟩=some (.int .i64 sa):=by rw[AL1 _ _ _ _ _ _ hb];rfl
      have c5:V.cell? ⟨Bs,1,none⟩=some (.int .i64 sb):=by rw[AL1 _ _ _ _ _ _ hb];rfl
      have c6:V.cell? ⟨w.heap.size+1,0,none⟩=some (.int .i64 a):=by rw[AL1 _ _ _ _ _ _ hi.h1];rfl
      have y4:=AL0 c4
      have y6:=AL0 c6
      obtain⟨v0,v1,v2,v3⟩:=hi.ho
      clear hi hb hn hBs hNs hlen hle hrec b1 b2 b3 bT bT1 c3 hRW hBW hWs hWg hsp
      obtain⟨PL,hPL⟩:∃PL,PL=Io a (DY.map (·.1)):=⟨_,rfl⟩
      have HPL:=AH hPL
      rw[←hPL] at v2 HLP RS
      obtain⟨ad0,cp0,rfl,_⟩:=(Sl.of_own v2).shape
      have V1:=AH v1
      have V2:=AH v2
      have V3:=AH v3
      obtain⟨n0,hn0⟩:∃n0,n0=PL.length:=⟨_,rfl⟩
      rw[←hn0] at V1 V2 V3 HLP
      have HN0:=AH hn0
      obtain⟨UU,hUU⟩:∃UU:Value,UU=Ko (sa,sb):=⟨_,rfl⟩
      obtain⟨VV,hVV⟩:∃VV:Value,VV=DK x.1:=⟨_,rfl⟩
      rw[←hUU,←hVV]
      clear hUU hVV hPL v1 v2 v3 hn0
      refine wpIn_block ?_
      change (Code.seq _ _).wpIn (Wd (some lp)) _ _ _ _ _
      refine Cu fun K1 k1=>?_
      have HK1:=AH k1
      clear k1
      refine DZ (ro:=some lp) (fun⟨_,_,h⟩=>h) (by kernel_rfl) ?_
      go_wp2_with fail
      refine(MG sa sb a _).mono ?_
      rintro e w4 ⟨rfl,g4⟩
      have G4:=AH g4
      have I4:=AH (HI.out.kn g4)
      have N4:=AH (AF g4 HN.out (by simp))
      have T4:=AH (AF g4 V1.out (by simp))
      have O4:=AH (V2.out.kn g4)
      have c6:=g4.cell (a:=⟨w.heap.size+1,0,none⟩) (v:=.int .i64 a) c6 (by simp)
      have y6:=AL0 c6
      have c7:w4.cell? ⟨T,0,none⟩=some (.slice ad0 n0 cp0):=by rw[AL1 _ _ _ _ _ _ T4.out];rfl
      have y7:=AL0 c7
      clear g4 c4 c5 y4
      by_cases hq:(decide (sa≤a)&&decide (a<sb))=true
      · simp only[hq]
        have HOK:=AH (P3 (HQ.out.trans hq))
        have RS2:=AH (show Io a ((DY++[x]).map (·.1))=PL++PR a (34-x.1.d).toNat x.1 by rw[RS.out,HQ.out,hq];rfl)
        clear hq
        go_wp2
        refine HK1.out _ _ (wpIn_cond_true rfl ?_)
        clear HK1
        have AB:=AH (show 0≤a∧a<17179869184 by have h:=HA.out;unfold Br at h;simp at h;exact h)
        have HL6:=AH (show ∀w',w4.grownBy w' none→(Instr.loadAt 54 (.pointer (some ⟨T,0,none⟩))).run Tryz.prog w'=.ok (.slice ad0 n0 cp0) w' from fun w' g=>Ab (AGI _ rfl) (Ac (AF g T4.out (by simp))))
        have HL8:=AH (show ∀w',w4.grownBy w' none→(Instr.loadAt 132 (.pointer (some ⟨Ns,0,none⟩))).run Tryz.prog w'=.ok (DK x.1) w' from fun w' g=>Ab (Np x.1 HXK.out.1) (Ac (AF g N4.out (by simp))))
        have HL3:=AH (show ∀w',w4.grownBy w' none→(Instr.loadAt 2 (.pointer (some ⟨w.heap.size+1,0,none⟩))).run Tryz.prog w'=.ok (.int .i64 a) w' from fun w' g=>Ab (tyI a) (Ac (AF g I4.out.h1 (by simp))))
        have HOT:=AH (show ∀W,w4.grownBy W none→Calls Tryz.prog 118 #[DK x.1,.int .i64 a] W fun e W'=>∃v,e=.returned v∧W.grownBy W' none∧(Sp.own w4.heap.size 132 34 (34-x.1.d).toNat (Ay (PR a (34-x.1.d).toNat x.1))).on W' v from fun W hW =>
         (XO x.1 a HXK.out HOK.out AB.out W).mono fun e W' ⟨v,he,ho,hf⟩=>⟨v,he,hf.none,by rw[U2] at ho;exact ho,fun k hk=>(hf.2 k hk).elim (fun h=>by simp[My,Value.ownBlock] at h) (fun h=>Nat.le_trans hW.size h)⟩)
        clear c6 y6 c7 y7
        refine Qb (ro:=some lp) (fun⟨_,_,h⟩=>h) (by kernel_rfl) (by kernel_rfl) 41 rfl 4 [none,none,none,none,none,none,none,none,none,none,none,none,none,none,none,none,none,none,none,none,none,none,none,none,none,none,some (Sp.is (.slice ad0 n0 cp0)),some (Sp.is (DK x.1)),some (Sp.is (.int .i64 a)),some (Sp.own w4.heap.size 132 34 (34-x.1.d).toNat (Ay (PR a (34-x.1.d).toNat x.1))),none,none,none,none,none,none,none,none,none,none,none]
         (by kernel_rfl) (by kernel_rfl) (by kernel_rfl)
         ⟨Ks rfl rfl trivial ⟨by decide,fun _ _ h=>h⟩ HL6.out (fun _=>rfl),
          Ks rfl rfl trivial ⟨by decide,fun _ _ h=>h⟩ HL8.out (fun _=>rfl),
          Ks rfl rfl trivial ⟨by decide,fun _ _ h=>h⟩ HL3.out (fun _=>rfl),
          ADu (Sp.own w4.heap.size 132 34 (34-x.1.d).toNat (Ay (PR a (34-x.1.d).toNat x.1))) [DK x.1,.int .i64 a] rfl rfl trivial ⟨⟨by decide,fun _ _ h=>h⟩,⟨by decide,fun _ _ h=>h⟩,AL5⟩ HOT.out (fun _ _ h=>h) (Ed Tryz.func118 (by kernel_rfl) rfl),AL5⟩
         [] (by kernel_rfl) (fun _ _ _ _ h=>by cases h) (fun _ h=>by cases h) ?_
        intro xx W5 g5 hx _
        have e26:xx 26=.slice ad0 n0 cp0:=hx 26 _ rfl (by decide)
        have e27:xx 27=DK x.1:=hx 27 _ rfl (by decide)
        have e28:xx 28=.int .i64 a:=hx 28 _ rfl (by decide)
        obtain⟨o29,f29⟩:=hx 29 _ rfl (by decide)
        simp only[Hp]
        rw[e26,e27,e28]
        generalize xx 29=v29 at *
        have O29:=AH o29
        have G45:=AH g5
        have T5:=AH (AF g5 T4.out (by simp))
        have O5:=AH (O4.out.kn g5)
        have I5:=AH (I4.out.kn g5)
        have OL:=AH (U2 (a:=a) (34-x.1.d).toNat x.1)
        have OD:=AH (Ep.1 HOK.out).1
        clear hx e26 e27 e28 o29 f29 g5 HL6 HL8 HL3 HOT
        simp only[List.drop_succ_cons,List.drop_zero]
        go_wp2_with (first
         | (refine EM Nz rfl (.tmp 26) (.tmp 29) rfl (.slice ad0 n0 cp0) n0 (Ay PL) rfl O5.out v29 (34-x.1.d).toNat (Ay (PR a (34-x.1.d).toNat x.1)) rfl (Sl.of_own O29.out) (Ox _) (by have:=HLP.out;have:=OD.out;omega) ?_;intro v3 w3 o3 s3;obtain⟨ad3,cp3,rfl,_⟩:=(Sl.of_own o3).shape;have O3:=AH o3;have S3:=AH s3;have B3:=AH (AF s3.1 T5.out (fun e=>Own.ne O5.out T5.out (by decide) e.symm));clear o3 s3)
         | (refine AM rfl 54 (.tmp 6) (.tmp 30) rfl rfl rfl (AGI _ rfl) B3.out rfl ?_;intro w5 g5 h5;have G5:=AH g5;have H5:=AH h5;clear g5 h5)
         | fail)
        have hwV:=HI.out.gr.size
        have h4s:=G4.out.size
        have h45s:=G45.out.size
        have h3s:=S3.out.1.size
        have hT3:w.heap.size+3<T:=by have:=HT4.out;omega
        exact⟨(Fe (AA G4.out G45.out)).trans ((UO O5.out S3.out.1).trans (Gb G5.out B3.out)),(DE (AA G4.out G45.out) hwV (fun k e=>by cases e)).trans ((DE S3.out.1 (by omega) (fun k e=>V3.out k e)).trans (DE G5.out (by omega) (fun k e=>by cases e;omega))),
         I5.out.next hT3 T5.out V3.out RS2.out O5.out HN0.out OL.out.symm rfl O3.out S3.out G5.out H5.out⟩
      · have RS2:=AH (show Io a ((DY++[x]).map (·.1))=PL++[x.1] by rw[RS.out,HQ.out,if_neg hq])
        simp only[Bool.not_eq_true] at hq
        simp only[hq]
        clear hq
        go_wp2
        refine HK1.out _ _ (wpIn_cond_false rfl ?_)
        refine DZ (ro:=some lp) (fun⟨_,_,h⟩=>h) (by kernel_rfl) ?_
        go_wp2_with (first
         | (refine AM rfl 54 (.tmp 6) (.tmp 34) rfl rfl rfl (AGI _ rfl) B3.out rfl ?_;intro w5 g5 h5;have G5:=AH g5;have H5:=AH h5;clear g5 h5)
         | (refine BE rfl 132 (.tmp 8) rfl rfl (Np x.1 HXK.out.1) N4.out ?_)
         | (refine Dd rfl 54 1 _ rfl #[(0,DK x.1)] (by simp only[List.map_toArray,List.map_cons,List.map_nil,Act.eval];rfl) (bS1 x.1 HXK.out.1 _) ?_)
         | (refine EN Nz rfl (.tmp 31) (.tmp 33) rfl (.slice ad0 n0 cp0) n0 (Ay PL) rfl O4.out (BD x.1) 1 _ rfl rfl (by rw[Ax _ HXK.out.1]) (IL _) (by have:=HLP.out;omega) ?_;intro v3 w3 o3 s3;obtain⟨ad3,cp3,rfl,_⟩:=(Sl.of_own o3).shape;have O3:=AH o3;have S3:=AH s3;have B3:=AH (AF s3.1 T4.out (fun e=>Own.ne O4.out T4.out (by decide) e.symm));clear o3 s3)
         | fail)
        have hwV:=HI.out.gr.size
        have h4s:=G4.out.size
        have h3s:=S3.out.1.size
        have hT3:w.heap.size+3<T:=by have:=HT4.out;omega
        exact⟨(Fe G4.out).trans ((UO O4.out S3.out.1).trans (Gb G5.out B3.out)),(DE G4.out hwV (fun k e=>by cases e)).trans ((DE S3.out.1 (by omega) (fun k e=>V3.out k e)).trans (DE G5.out (by omega) (fun k e=>by cases e;omega))),
         I4.out.next hT3 T4.out V3.out RS2.out O4.out HN0.out rfl (Ma _).symm O3.out S3.out G5.out H5.out⟩
     case done =>
      intro D xs V hD hS hI hK
      subst hS
      obtain⟨v0,v1,v2,v3⟩:=hI.ho
      obtain⟨ad0,cp0,rfl,_⟩:=(Sl.of_own v2).shape
      have HI:=AH hI
      have HKK:=AH hK
      have HD:=AH hD
      obtain⟨PL,hPL⟩:∃PL,PL=Io a (xs.map (·.1)):=⟨_,rfl⟩
      have HZ:=AH (show gl=if 32768<PL.length then ([],8) else (PL,0) by rw[HV.out];unfold Fy;rw[if_pos (by rw[Bool.and_eq_true];exact⟨HA.out,HVL.out⟩),hPL])
      rw[←hPL] at v1 v2 v3
      obtain⟨n0,hn0⟩:∃n0,n0=PL.length:=⟨_,rfl⟩
      have HN0:=AH hn0
      rw[←hn0] at v1 v2 v3 HZ
      have c7:V.cell? ⟨T,0,none⟩=some (.slice ad0 n0 cp0):=by rw[AL1 _ _ _ _ _ _ v1];rfl
      have y7:=AL0 c7
      have V1:=AH v1
      have V2:=AH v2
      have V3:=AH v3
      have X2:=AH hI.h2
      have X3:=AH hI.h3
      clear hI hK hD v1 v2 v3 hPL hn0 b1 b2 b3 bT bT1 c3 hRW hBW hWs hWg
      by_cases hbig:32768<n0
      · have t1:decide ((32768:Int)<(n0:Int))=true:=by simp;omega
        have HZ2:=AH (show gl=([],8) by rw[HZ.out,if_pos hbig])
        clear hbig
        go_wp2_with (first
         | (refine Be rfl 56 _ rfl #[] (by simp) (bT0 _) ?_)
         | (refine AM rfl 56 (.tmp 4) (.tmp 38) rfl rfl rfl (PQ (.slice none 0 0) rfl) X2.out rfl ?_;intro w5 g5 h5;have G5:=AH g5;have H5:=AH h5;have Y5:=AH (AF g5 X3.out (by simp));clear g5 h5)
         | (refine AM rfl 38 (.tmp 5) (.const (.int .i64 8)) rfl rfl rfl (EH 8) Y5.out rfl ?_;intro w6 g6 h6;have G6:=AH g6;have H6:=AH h6;have X6:=AH (AF g6 H5.out (by simp));clear g6 h6)
         | fail)
        have HKK2:=AF G6.out (AF G5.out HKK.out (by have:=HWS.out;have:=HD.out;have:=HT4.out;simp;omega)) (by have:=HWS.out;have:=HD.out;have:=HT4.out;simp;omega)
        refine FG HKK2 ?_
        have GP:=grownBy_putObj' w6 D (.deferred none)
        have P5:=AF GP X6.out (by have:=HWS.out;have:=HD.out;have:=HT4.out;simp;omega)
        have P6:=AF GP H6.out (by have:=HWS.out;have:=HD.out;have:=HT4.out;simp;omega)
        refine Dc (f:=115) (args:=#[.pointer (some ⟨w.heap.size+1+1,0,none⟩),.pointer (some ⟨w.heap.size+1+1+1,0,none⟩)]) (by simp[go_sem]) ?_
        refine(Gq _ _ _ _).mono ?_
        rintro e u' w' ⟨rfl,rfl,rfl⟩
        refine⟨⟨_,rfl⟩,rfl,DB (HU (p:=4) (q:=5) (b0:=w.heap.size+2) (b1:=w.heap.size+3) rfl rfl rfl (PQ (.slice none 0 0) rfl) (EH 8) P5 P6) ⟨.slice none 0 0,by rw[HZ2.out],by rw[HZ2.out];exact World.ownsRow_nil _ _ _ _,Step.fresh (AD (AD (AD HI.out.gr G5.out (by omega)) G6.out (by omega)) GP (by have:=HWS.out;have:=HD.out;have:=HT4.out;omega)) (fun k hk=>by simp[Value.ownBlock] at hk)⟩⟩
      · have t1:decide ((32768:Int)<(n0:Int))=false:=by simp;omega
        have HZ2:=AH (show gl=(PL,0) by rw[HZ.out,if_neg hbig])
        clear hbig
        go_wp2_with (first
         | (refine Be rfl 56 _ rfl #[(0,.slice ad0 n0 cp0)] (by simp only[List.map_toArray,List.map_cons,List.map_nil,Act.eval];rfl) (bT1 _ _ _ _) ?_)
         | (refine AM rfl 56 (.tmp 4) (.tmp 40) rfl rfl rfl (PQ (.slice ad0 n0 cp0) rfl) X2.out rfl ?_;intro w5 g5 h5;have G5:=AH g5;have H5:=AH h5;have Y5:=AH (AF g5 X3.out (by simp));clear g5 h5)
         | (refine AM rfl 38 (.tmp 5) (.const (.int .i64 0)) rfl rfl rfl (EH 0) Y5.out rfl ?_;intro w6 g6 h6;have G6:=AH g6;have H6:=AH h6;have X6:=AH (AF g6 H5.out (by simp));clear g6 h6)
         | fail)
        have HKK2:=AF G6.out (AF G5.out HKK.out (by have:=HWS.out;have:=HD.out;have:=HT4.out;simp;omega)) (by have:=HWS.out;have:=HD.out;have:=HT4.out;simp;omega)
        have OW6:=(V2.out.past G5.out X2.out (by decide)).past G6.out Y5.out (by decide)
        refine FG HKK2 ?_
        have GP:=grownBy_putObj' w6 D (.deferred none)
        have OW7:=OW6.kept GP (OW6.cellsRow HKK2 rfl)
        have P5:=AF GP X6.out (by have:=HWS.out;have:=HD.out;have:=HT4.out;simp;omega)
        have P6:=AF GP H6.out (by have:=HWS.out;have:=HD.out;have:=HT4.out;simp;omega)
        refine Dc (f:=115) (args:=#[.pointer (some ⟨w.heap.size+1+1,0,none⟩),.pointer (some ⟨w.heap.size+1+1+1,0,none⟩)]) (by simp[go_sem]) ?_
        refine(Gq _ _ _ _).mono ?_
        rintro e u' w' ⟨rfl,rfl,rfl⟩
        refine⟨⟨_,rfl⟩,rfl,DB (HU (p:=4) (q:=5) (b0:=w.heap.size+2) (b1:=w.heap.size+3) rfl rfl rfl (PQ (.slice ad0 n0 cp0) rfl) (EH 0) P5 P6) ⟨.slice ad0 n0 cp0,by rw[HZ2.out],by rw[HZ2.out,←HN0.out];exact OW7,Step.fresh (AD (AD (AD HI.out.gr G5.out (by omega)) G6.out (by omega)) GP (by have:=HWS.out;have:=HD.out;have:=HT4.out;omega)) (fun k hk=>V3.out k hk)⟩⟩
     case stop =>
      intro D c DY V hD hS hI hK
      exact hI.elim
   · have HX1:=AH hv
     simp only[Bool.not_eq_true] at hv
     simp only[hv]
     clear hv
     go_wp2_with (first
      | (refine Be rfl 56 _ rfl #[] (by simp) (bT0 _) ?_)
      | (refine AM rfl 56 (.tmp 4) (.tmp 18) rfl rfl rfl (PQ (.slice none 0 0) rfl) (AF G2.out Z2.out (by simp)) rfl ?_;intro w5 g5 h5;have G5:=AH g5;have H5:=AH h5;have Y5:=AH (AF g5 (AF G2.out Z3.out (by simp)) (by simp));clear g5 h5)
      | (refine AM rfl 38 (.tmp 5) (.const (.int .i64 1)) rfl rfl rfl (EH 1) Y5.out rfl ?_;intro w6 g6 h6;have G6:=AH g6;have H6:=AH h6;have X6:=AH (AF g6 H5.out (by simp));clear g6 h6)
      | fail)
     refine Dc (f:=115) (args:=#[.pointer (some ⟨w.heap.size+1+1,0,none⟩),.pointer (some ⟨w.heap.size+1+1+1,0,none⟩)]) (by simp[go_sem]) ?_
     refine(Gq _ _ _ _).mono ?_
     rintro e u' w' ⟨rfl,rfl,rfl⟩
     have HZ:=AH (show gl=([],1) by rw[HV.out];unfold Fy;rw[if_neg (by rw[Bool.and_eq_true];exact fun h=>HX1.out h.2)])
     refine⟨⟨_,rfl⟩,rfl,DB (HU (p:=4) (q:=5) (b0:=w.heap.size+2) (b1:=w.heap.size+3) rfl rfl rfl (PQ (.slice none 0 0) rfl) (EH 1) X6.out H6.out) ⟨.slice none 0 0,by rw[HZ.out],by rw[HZ.out];exact World.ownsRow_nil _ _ _ _,Step.fresh (AD (AD (AA HG0.out G2.out) G5.out (by omega)) G6.out (by omega)) (fun k hk=>by simp[Value.ownBlock] at hk)⟩⟩
 · have HX2:=AH ha
   simp only[Bool.not_eq_true] at ha
   simp only[ha]
   clear ha
   go_wp2_with (first
     | (refine Be rfl 56 _ rfl #[] (by simp) (bT0 _) ?_)
     | (refine AM rfl 56 (.tmp 4) (.tmp 18) rfl rfl rfl (PQ (.slice none 0 0) rfl) Z2.out rfl ?_;intro w5 g5 h5;have G5:=AH g5;have H5:=AH h5;have Y5:=AH (AF g5 Z3.out (by simp));clear g5 h5)
     | (refine AM rfl 38 (.tmp 5) (.const (.int .i64 1)) rfl rfl rfl (EH 1) Y5.out rfl ?_;intro w6 g6 h6;have G6:=AH g6;have H6:=AH h6;have X6:=AH (AF g6 H5.out (by simp));clear g6 h6)
     | fail)
   refine Dc (f:=115) (args:=#[.pointer (some ⟨w.heap.size+1+1,0,none⟩),.pointer (some ⟨w.heap.size+1+1+1,0,none⟩)]) (by simp[go_sem]) ?_
   refine(Gq _ _ _ _).mono ?_
   rintro e u' w' ⟨rfl,rfl,rfl⟩
   have HZ:=AH (show gl=([],1) by rw[HV.out];unfold Fy;rw[if_neg (by rw[Bool.and_eq_true];exact fun h=>HX2.out h.1)])
   refine⟨⟨_,rfl⟩,rfl,DB (HU (p:=4) (q:=5) (b0:=w.heap.size+2) (b1:=w.heap.size+3) rfl rfl rfl (PQ (.slice none 0 0) rfl) (EH 1) X6.out H6.out) ⟨.slice none 0 0,by rw[HZ.out],by rw[HZ.out];exact World.ownsRow_nil _ _ _ _,Step.fresh (AD (AD HG0.out G5.out (by omega)) G6.out (by omega)) (fun k hk=>by simp[Value.ownBlock] at hk)⟩⟩
end
end Go.Proofs.YtbfjfnbcmojpiaaGreat
