import Derived.Test.YtbfjfnbcmojpiaaGreatDaSF
import Derived.Handy
import Derived.Lib.AppendStr
set_option linter.unusedSimpArgs false
set_option linter.unusedVariables false
set_option maxRecDepth 100000
set_option maxHeartbeats 1000000
namespace Go.Proofs.YtbfjfnbcmojpiaaGreat
open Go.RowKit Go.Shelf
attribute [local go_sem] Oper.semAt_some
theorem No {P:Program} {t u e:TypeId} (E:ET P t e (.int .u8 0) 1 1) (hu:P.underlying u=some .string) {w:World} {ops:Array Oper} {rest:List Oper} {o:Oper} {a:Act} {Q:Exit→Act→World→Prop}
  (hgd:o.guard=none) (s x:Operand) (ho:o.op=.call { callee:=.builtin .append,args:=#[s,x],argTypes:=#[t,u] })
  (v:Value) (n:Nat) (xs:List Value) (hs:a.eval s=v) (hown:Own w e 1 v n xs) (str:ByteArray) (hx:a.eval x=.string str) (h63:n+str.size≤1099511627776)
  (h:∀v' w',Own w' e 1 v' (n+str.size) (xs++Lib.strCells str)→Step w v w' v'→wpList P ops Q rest (a.put o.dst v') w') :
  wpList P ops Q (o::rest) a w:=by
 refine wpList_plain hgd fun K hK=>?_
 obtain⟨i,hi,hz,hsz,hby⟩:=E.inf
 obtain⟨v',w',hr,h2,h3,h4⟩:=Lib.run_append_own_string (P:=P) w 0 t u o.type e i E.und hu hi hz hsz hby v n xs hown str (by unfold maxLen;omega) (by omega) (Nat.zero_le _)
 have h5:Step w v w' v':=by
  refine⟨h3,?_⟩
  have hl2:xs.length=n:=by simpa using hown.1
  rcases hown.2 with ⟨rfl,rfl⟩|⟨g,cap',cur,rfl,hbg,hg,hnc,hcm,hcs,htake⟩
  · by_cases hm0:str.size=0
    · have:=h4.2 ⟨rfl,hm0⟩
      subst this
      intro k hk;simp[Value.ownBlock] at hk
    · have hr2:=run_append_nil_string (P:=P) w t u o.type e i (.int .u8 0) E.und hu hi hz str (by omega) (by omega) (by rw[hby];omega)
      rw[hr2] at hr
      simp only[Result.ok.injEq] at hr
      obtain⟨rfl,_⟩:=hr
      intro k hk
      simp[Value.ownBlock] at hk
      exact .inr (by omega)
  · by_cases hroom:n+str.size≤cap'
    · have hr2:=Lib.run_append_room_string (P:=P) w t u o.type e i E.und hu hi hsz g n cap' cur hg str hroom (by omega)
      rw[hr2] at hr
      simp only[Result.ok.injEq] at hr
      obtain⟨rfl,_⟩:=hr
      intro k hk
      exact .inl hk
    · have holds:∀j u,xs[j]?=some u→w.cell? ((⟨g,0,none⟩:Addr).add j)=some u:=hown.cells (g:=g) rfl
      have hr2:=Lib.run_append_grow_string (P:=P) w t u o.type e i (.int .u8 0) E.und hu hi hz ⟨g,0,none⟩ n cap' xs (by rw[hsz];omega) holds str (by omega) (by omega) (growslice_fits (by omega) (by rw[hby];omega))
      rw[hr2] at hr
      simp only[Result.ok.injEq] at hr
      obtain⟨rfl,_⟩:=hr
      intro k hk
      simp[Value.ownBlock] at hk
      exact .inr (by omega)
 unfold Oper.wp execOp
 simp only[ho,resolve,invoke,builtin,Sem.run_bind,Sem.run_pure,Result.andThen_ok,List.map_toArray,List.map_cons,List.map_nil,hs,hx,hr]
 exact hK _ _ (h v' w' h2 h5)
theorem IR {u:Nat} (h:u<128):Vz u=[u]:=by rw[Vz,if_pos h]
theorem Lr {u:Nat} (h:¬u<128):Vz u=(u%128+128)::Vz (u/128):=by rw[Vz,if_neg h]
theorem AI0 (k u:Nat) (h:u<128^k) (hk:0<k):(Vz u).length≤k:=by
 induction k generalizing u with
 | zero=>omega
 | succ k ih =>
  by_cases hu:u<128
  · rw[IR hu];simp
  · rw[Lr hu]
    have:0<k:=by
     rcases Nat.eq_zero_or_pos k with rfl|h'
     · simp at h;omega
     · exact h'
    have:=ih (u/128) (by rw[Nat.pow_succ] at h;omega) this
    simp;omega
theorem Wt {n:Int} (h0:-9223372036854775808≤n) (h1:n≤9223372036854775807):zig n<18446744073709551616:=by
 unfold zig;split<;>omega
theorem D4 {n:Int} (h0:-9223372036854775808≤n) (h1:n≤9223372036854775807):(enc n).length≤10:=by
 have:=Wt h0 h1
 exact AI0 10 _ (Nat.lt_of_lt_of_le this (by decide)) (by decide)
theorem Wu (a:Nat) (ha:a<18446744073709551616):bits .xor .u64 IntKind.u64.max (a:Int)=((18446744073709551615-a:Nat):Int):=by
 have e:IntKind.u64.max=((18446744073709551615:Nat):Int):=by decide
 rw[e,u64_xor_nat _ _ (by decide) ha]
 congr 1
 have h:=BitVec.toNat_not (x:=BitVec.ofNat 64 a)
 rw[←BitVec.allOnes_xor,BitVec.toNat_xor,BitVec.toNat_allOnes,BitVec.toNat_ofNat,Nat.mod_eq_of_lt (by omega)] at h
 simpa using h
theorem AGg (n:Int) (h0:-9223372036854775808≤n) (h1:n≤9223372036854775807):∃m m2:Nat,IntKind.u64.wrap n=(m:Int)∧IntKind.u64.wrap ((m:Int)*2)=(m2:Int) ∧
   (0≤n→m2=zig n)∧(n<0→bits BinOp.xor IntKind.u64 IntKind.u64.max (m2:Int)=(zig n:Nat)):=by
 by_cases hn:n<0
 · refine⟨(n+18446744073709551616).toNat,(n*2+18446744073709551616).toNat,by rw[IntKind.wrap_u64];omega,by rw[IntKind.wrap_u64];omega,fun h=>by omega,fun _=>?_⟩
   rw[Wu _ (by omega)]
   unfold zig;rw[if_pos hn];omega
 · refine⟨n.toNat,(2*n).toNat,by rw[IntKind.wrap_u64];omega,by rw[IntKind.wrap_u64];omega,fun h=>by unfold zig;rw[if_neg hn],fun h=>absurd h hn⟩
theorem ZX (l:List Nat) (h:∀b∈l,b<256):Lib.strCells (bs l)=bv l:=by
 unfold Lib.strCells bs bv
 simp only[List.map_map]
 refine List.map_congr_left fun b hb=>?_
 have:=h b hb
 simp
 omega
theorem Fs (n:Int) (w:World) (h0:-9223372036854775808≤n) (h1:n≤9223372036854775807) :
  Calls Tryz.prog 90 #[.int .i64 n] w fun e w'=>∃v,e=.returned v∧Own w' 5 1 v (enc n).length (bv (enc n))∧Fresh w w' v:=by
 obtain⟨m,m2,hm,hm2,hp,hq⟩:=AGg n h0 h1
 have hz:=Wt h0 h1
 have hl:=D4 h0 h1
 unfold enc at *
 generalize zig n=z at *
 by_cases hn:n<0
 all_goals
  go_enter Tryz.func90,Tryz.ntmps90
  go_wp2
  go_loopw [3,4] (fun u v wr=>∃(k:Nat) (l:List Nat),k<18446744073709551616∧l++Vz k=Vz z∧u=.int .u64 k∧Own wr 5 1 v l.length (bv l)∧Fresh w wr v) (fun u _ _=>(intOf u).toNat)
  case atStart=>exact⟨z,[],hz,rfl,rfl,by simpa using World.ownsRow_lit w #[] 0 (Nat.zero_le _) (Nat.zero_le _) rfl,Step.fresh (World.grownBy_alloc _ _ _) (by simp[Value.ownBlock])⟩
  case round =>
   obtain⟨k,l,hk,hl1,rfl,hown,hg⟩:=hrel
   have hll:l.length+(Vz k).length≤10:=by rw[←List.length_append,hl1];exact hl
   by_cases hk2:k<128
   · rw[IR hk2] at hl1 hll
     go_wp2_with (at_builtin;go_must (refine Ix Di rfl _ _ rfl _ _ _ rfl hown [_] 1 rfl rfl rfl (by simp at hll;omega) ?_;intro v' w' hown' hg'))
     go_ret
     exact⟨_,rfl,by rw[←hl1];simpa [bv] using hown',hg.trans hg'⟩
   · rw[Lr hk2] at hl1 hll
     have hkd:k/128<18446744073709551616:=by omega
     go_wp2_with (at_builtin;go_must (refine Ix Di rfl _ _ rfl _ _ _ rfl hown [_] 1 rfl rfl rfl (by simp at hll;omega) ?_;intro v' w' hown' hg'))
     go_roundw
     case rel=>exact⟨k/128,l++[k%128+128],hkd,by simpa using hl1,by go_num,by simpa [bv] using hown',hg.trans hg'⟩
     case measure=>simp[intOf];omega
theorem AE5 {α β:Type} (f:α→List β) (l:List α) (k:Nat) (h:k<l.length):(l.take (k+1)).flatMap f=(l.take k).flatMap f++f l[k]:=by
 rw[List.take_succ_eq_append_getElem h];simp only[List.flatMap_append,List.flatMap_cons,List.flatMap_nil,List.append_nil]
theorem Wv (ns:List Int) (hr:∀n∈ns,-9223372036854775808≤n∧n≤9223372036854775807):(ns.flatMap enc).length≤10*ns.length:=by
 induction ns with
 | nil=>simp
 | cons a l ih =>
  have h1:=ih fun n hn=>hr n (List.mem_cons_of_mem _ hn)
  have h2:=hr a List.mem_cons_self
  have h3:=D4 h2.1 h2.2
  simp only[List.flatMap_cons,List.length_append,List.length_cons];omega
theorem AMG (q:Nat):q%256 ||| 128=q%128+128:=by
 have h1:q%256<256:=Nat.mod_lt _ (by decide)
 have h2:q%128=q%256%128:=by omega
 rw[h2]
 generalize q%256=r at *
 have:∀r:Fin 256,r.val ||| 128=r.val%128+128:=by decide +kernel
 exact this ⟨r,h1⟩
theorem WE (v s:Value) (xs:List Nat) (ns:List Int) (w:World) (hown:Own w 5 1 v xs.length (bv xs)) (hs:Sl w 1 s ns.length (ns.map (.int .i64))) (hne:s.ownBlock=none∨s.ownBlock≠v.ownBlock)
  (hr:∀n∈ns,-9223372036854775808≤n∧n≤9223372036854775807) (hlen:xs.length+10*ns.length≤1099511627776) :
  Calls Tryz.prog 132 #[v,s] w fun e w'=>∃v',e=.returned v'∧Own w' 5 1 v' (xs++ns.flatMap enc).length (bv (xs++ns.flatMap enc))∧Step w v w' v':=by
 obtain⟨ao,cap,rfl,hnc,hcm⟩:=hs.shape
 go_enter Tryz.func132,Tryz.ntmps132
 go_wp2
 go_loopw [0,10] (fun b i wr=>∃k:Nat,k≤ns.length∧i=.int .i64 k∧Own wr 5 1 b (xs++(ns.take k).flatMap enc).length (bv (xs++(ns.take k).flatMap enc))∧Step w v wr b) (fun _ i _=>ns.length-(intOf i).toNat)
 case atStart=>exact⟨0,Nat.zero_le _,rfl,by simpa using hown,Step.refl _ _⟩
 case round =>
  obtain⟨k,hk,rfl,hownk,hst⟩:=hrel
  by_cases hlt:k<ns.length
  · have hsk:=hs.kept hst.1 hne
    obtain⟨blk,off,rfl,hc⟩:=hsk.at k (by simpa using hlt)
    have hcell:wr.cell? ⟨blk,off+k,none⟩=some (.int .i64 ns[k]):=(hc k (by simpa using hlt)).trans (by rw[List.getElem_map])
    have HT:=AK (AE5 enc ns k hlt)
    have hrk:=hr ns[k] (List.getElem_mem hlt)
    generalize ns[k]=x at *
    obtain⟨m,m2,hm,hm2,hp,hq⟩:=AGg x hrk.1 hrk.2
    have hz:=Wt hrk.1 hrk.2
    have hfl:=Wv (ns.take k) fun n hn=>hr n (List.mem_of_mem_take hn)
    rw[List.length_take,Nat.min_eq_left (by omega)] at hfl
    have hxl:xs.length+((ns.take k).flatMap enc).length+10≤1099511627776:=by omega
    have hex:=D4 hrk.1 hrk.2
    have HE:Hid (enc x=Vz (zig x)):=rfl
    rw[HE.out] at hex
    generalize zig x=z at *
    generalize hpre:xs++(ns.take k).flatMap enc=FM at *
    have hxl2:FM.length+10≤1099511627776:=by rw[←hpre,List.length_append];exact hxl
    clear hc hsk hs hr hfl hxl
    have HP:=AK hpre;clear hpre
    by_cases hn:x<0
    all_goals
     go_wp2
     go_loopw [0,7] (fun b u wr=>∃(q:Nat) (l:List Nat),q<18446744073709551616∧l++Vz q=FM++Vz z∧u=.int .u64 q∧Own wr 5 1 b l.length (bv l)∧Step w v wr b) (fun _ u _=>(intOf u).toNat)
     case atStart=>exact⟨z,FM,hz,rfl,rfl,hownk,hst⟩
     case round =>
      obtain⟨q,l,hq2,hl1,rfl,hownl,hstl⟩:=hrel
      have hll:l.length+(Vz q).length≤FM.length+10:=by rw[←List.length_append,hl1,List.length_append];omega
      by_cases hk2:q<128
      · rw[IR hk2] at hl1 hll
        go_wp2_with (at_builtin;go_must (refine Ix Di rfl _ _ rfl _ _ _ rfl hownl [_] 1 rfl rfl rfl (by simp at hll;omega) ?_;intro v' w' hown' hg'))
        go_roundw
        case rel=>exact⟨k+1,by omega,by go_num,by rw[HT.out,←List.append_assoc,HP.out,HE.out,←hl1];simpa [bv] using hown',hstl.trans hg'⟩
        case measure=>simp[intOf];omega
      · rw[Lr hk2] at hl1 hll
        obtain⟨c,hc8,hc9⟩:∃c:Nat,IntKind.u8.wrap (q:Int)=(c:Int)∧c=q%256:=⟨q%256,by rw[IntKind.wrap_u8];omega,rfl⟩
        obtain⟨d,hd8,hd9⟩:∃d:Nat,bits BinOp.or IntKind.u8 (c:Int) 128=(d:Int)∧d=q%128+128:=by
         refine⟨_,u8_or_nat c 128 (by omega) (by omega),?_⟩
         subst hc9
         exact AMG q
        have HD:=AK hd9
        clear hc9 hd9
        go_wp2_with (at_builtin;go_must (refine Ix Di rfl _ _ rfl _ _ _ rfl hownl [_] 1 rfl rfl rfl (by simp at hll;omega) ?_;intro v' w' hown' hg'))
        go_roundw
        case rel=>exact⟨q/128,l++[q%128+128],by omega,by simpa using hl1,by go_num,by rw[←HD.out];simpa [bv] using hown',hstl.trans hg'⟩
        case measure=>simp[intOf];omega
  · obtain rfl:k=ns.length:=by omega
    go_wp2
    go_ret
    rw[List.take_length] at hownk
    exact⟨_,rfl,hownk,hst⟩
theorem AGh {P:Program} {t e:TypeId} {z:Value} {size bytes:Nat} (E:ET P t e z size bytes) (ty:TypeId) {w:World} {ao:Option Addr} {n:Nat} {xs:List Value} (hv:Sl w size (.slice ao n n) n xs)
  {sv:Value} {m:Nat} {news:List Value} (hs:Sl w size sv m news) (hm:0<m) (h1:news.all Value.oneCell'=true) (h63:n+m≤1099511627776) :
  ∃v' w',(Builtin.append_ #[t,t] ty #[.slice ao n n,sv]).run P w=.ok v' w'∧Own w' e size v' (n+m) (xs++news)∧Fresh w w' v':=by
 have hvs:=hv
 obtain⟨hlx,ao',cap',hvv,_,_,h3,h4⟩:=hv
 simp only[Value.slice.injEq] at hvv
 obtain⟨rfl,_,rfl⟩:=hvv
 cases ao with
 | none =>
  obtain rfl:=h3 rfl
  have hx:xs=[]:=List.eq_nil_of_length_eq_zero (by simpa using hlx)
  subst hx
  obtain⟨v',w',h5,h6,h7⟩:=Wo E ty (Own.nil w e size) hs h1 (by omega)
  exact⟨v',w',h5,h6,h7⟩
 | some a =>
  have hc:=hvs.rd
  obtain⟨i,hi,hz,rfl,hby⟩:=E.inf
  have hb:=E.bnd
  have hss:=hs
  obtain⟨hl,ao2,cap,rfl,hm1,hm2,h3',h4'⟩:=hs
  cases ao2 with
  | none=>have:=h3' rfl;omega
  | some ad =>
   have hc2:=hss.rd
   have hbytes:(n+m)*bytes≤140737488355328:=by
     have:(n+m)*bytes≤1099511627776*128:=Nat.mul_le_mul h63 hb
     omega
   have hcm:grownCap w (n+m) n e≤maxLen:=grownCap_le_maxLen w (n+m) n e (by unfold maxLen;omega)
   have hge:=grownCap_ge w (n+m) n e
   refine⟨_,_,run_append_grow (P:=P) w t ty e i z E.und hi hz a n n xs hlx hc ad m cap news hl hc2 (by omega) (by omega)
     (growslice_fits (by omega) (by subst hby;exact hbytes)),⟨by rw[List.length_append,hlx,hl,Nat.add_mul],.inr ⟨w.heap.size,_,_,rfl,Nat.zero_le _,heap_alloc_new w.drew _,hge,hcm,?_,?_⟩⟩,⟨⟨rfl,rfl,rfl,by simp,fun k hk _=>heap_alloc_old w.drew _ hk⟩,fun k hk=>.inr ?_⟩⟩
   · have hz1:=E.zsz
     simp only[Array.size_append,List.size_toArray,size_zeroCells,hz1,hlx,hl,←Nat.add_mul]
     congr 1
     omega
   · simp only[Array.toList_append,List.append_assoc]
     rw[←List.append_assoc,Nat.add_mul,←hlx,←hl,←List.length_append]
     exact List.take_left
   · simp[Value.ownBlock] at hk
     omega
theorem ZY {P:Program} {t e:TypeId} {z:Value} {size bytes:Nat} (E:ET P t e z size bytes) {w:World} {ops:Array Oper} {rest:List Oper} {o:Oper} {a:Act} {Q:Exit→Act→World→Prop}
  (hgd:o.guard=none) (s x:Operand) (ho:o.op=.call { callee:=.builtin .append,args:=#[s,x],argTypes:=#[t,t] })
  (ao:Option Addr) (n:Nat) (xs:List Value) (hs:a.eval s=.slice ao n n) (hv:Sl w size (.slice ao n n) n xs)
  (sv:Value) (m:Nat) (news:List Value) (hx:a.eval x=sv) (hsl:Sl w size sv m news) (hm:0<m) (h1:news.all Value.oneCell'=true) (h63:n+m≤1099511627776)
  (h:∀v' w',Own w' e size v' (n+m) (xs++news)→Fresh w w' v'→wpList P ops Q rest (a.put o.dst v') w') :
  wpList P ops Q (o::rest) a w:=by
 refine wpList_plain hgd fun K hK=>?_
 obtain⟨v',w',hr,h2,h3⟩:=AGh E o.type hv hsl hm h1 h63
 unfold Oper.wp execOp
 simp only[ho,resolve,invoke,builtin,Sem.run_bind,Sem.run_pure,Result.andThen_ok,List.map_toArray,List.map_cons,List.map_nil,hs,hx,hr]
 exact hK _ _ (h v' w' h2 h3)
theorem Dk (l:List Nat):(bv l).all Value.oneCell'=true:=by simp[bv,Value.oneCell']
theorem ZZ (v s:Value) (xs ys:List Nat) (w:World) (hv:Sl w 1 v xs.length (bv xs)) (hs:Sl w 1 s ys.length (bv ys)) (hm:0<ys.length) (h63:xs.length+ys.length≤1099511627776) :
  Calls Tryz.prog 99 #[v,s] w fun e w'=>∃v',e=.returned v'∧Own w' 5 1 v' (xs++ys).length (bv (xs++ys))∧Fresh w w' v':=by
 obtain⟨ao,cap,rfl,hnc,hcm⟩:=hv.shape
 obtain⟨ao2,cap2,rfl,hnc2,hcm2⟩:=hs.shape
 go_enter Tryz.func99,Tryz.ntmps99
 have hv':Sl w 1 (.slice ao xs.length xs.length) xs.length (bv xs):=by
  obtain⟨h1,ao',cap',h2,h3,h4,h5,h6⟩:=hv
  simp only[Value.slice.injEq] at h2
  obtain⟨rfl,_,rfl⟩:=h2
  exact⟨h1,ao,_,rfl,Nat.le_refl _,by omega,fun h=>by have:=h5 h;omega,h6⟩
 go_wp2_with (at_builtin;go_must (refine ZY Di rfl _ _ rfl _ _ _ rfl hv' _ _ _ rfl hs hm (Dk _) h63 ?_;intro v' w' hown' hg'))
 go_ret
 exact⟨_,rfl,by rw[List.length_append,DS];exact hown',hg'⟩
def by_ (s:ByteArray):List Nat:=s.data.toList.map UInt8.toNat
theorem Ww (s:ByteArray):(by_ s).length=s.size:=by unfold by_;rw[List.length_map];rfl
theorem AKW (s:ByteArray):∀b∈by_ s,b<256:=by
 intro b hb
 simp only[by_,List.mem_map] at hb
 obtain⟨u,_,rfl⟩:=hb
 exact u.toNat_lt
theorem AKX (s:ByteArray):bs (by_ s)=s:=by
 unfold bs by_
 rw[List.map_map]
 have e:(fun n=>UInt8.ofNat n) ∘ UInt8.toNat=id:=funext fun u=>by simp
 rw[e,List.map_id]
abbrev N6 (n:Int):Prop:=-9223372036854775808≤n∧n≤9223372036854775807
def Rm (s:ByteArray):List Nat:=enc s.size++by_ s
structure V where
 kind:Int
 int:Int
 text:ByteArray
def V.nul:V:=⟨0,0,ByteArray.empty⟩
def V.ok (v:V):Prop:=(v.kind=0∧v.int=0∧v.text=ByteArray.empty)∨(v.kind=1∧-4294967296≤v.int∧v.int≤4294967296∧v.text=ByteArray.empty)∨(v.kind=2∧v.int=0∧v.text.size≤32)
instance (v:V):Decidable v.ok:=by unfold V.ok;infer_instance
def V.clean (v:V):V:=if v.ok then v else V.nul
theorem V.nul_ok:V.nul.ok:=.inl ⟨rfl,rfl,rfl⟩
theorem V.clean_ok (v:V):v.clean.ok:=by
 unfold V.clean
 split
 · assumption
 · exact V.nul_ok
theorem V.clean_of {v:V} (h:v.ok):v.clean=v:=if_pos h
theorem V.ok_text {v:V} (h:v.ok):v.text.size≤32:=by
 rcases h with ⟨_,_,h⟩|⟨_,_,_,h⟩|⟨_,_,h⟩
 · rw[h];decide
 · rw[h];decide
 · exact h
theorem V.ok_kind {v:V} (h:v.ok):N6 v.kind∧N6 v.int:=by
 unfold V.ok at h
 omega
def Pi (v:V):List Nat:=enc v.kind++(if v.kind=1 then enc v.int else if v.kind=2 then Rm v.text else [])
def BQ (v:V):List Nat:=Pi v.clean
theorem Ct {w:World} {b:Nat} {t:TypeId} {c0:Array Value} (cs:List Value) (hb:w.heap[b]?=some (.cells c0 t (0,0))) (hc:c0.size=cs.length) :
  w.grownBy (w.setCells b 0 cs) (some b)∧(w.setCells b 0 cs).heap[b]?=some (.cells cs.toArray t (0,0)):=
 ⟨Dw b cs 0 w,Ln b t cs 0 w [] c0.toList rfl (by simpa using hc.symm) (by simpa using hb)⟩
def Br (v:V):Value:=.agg #[.int .i64 v.kind,.int .i64 v.int,.string v.text]
theorem tyV (v:V):TY Tryz.prog 25 [.int .i64 v.kind,.int .i64 v.int,.string v.text] (Br v):=TY.agg Tryz.underlying25 rfl (by kernel_rfl) (by simp[Value.oneCell'])
theorem NK {t:ByteArray} (h:t≠ByteArray.empty):t.toList.isEmpty=false:=by
 rw[ByteArray.toList_eq]
 cases he:t.data.toList with
 | nil=>exact absurd (ByteArray.ext (by apply Array.ext';rw[he];rfl)) h
 | cons a l=>rfl
theorem Za (k n:Int) (t:ByteArray) (w:World) :
   Calls Tryz.prog 149 #[.agg #[.int .i64 k,.int .i64 n,.string t]] w fun e w'=>e=.returned (.bool (decide (V.ok ⟨k,n,t⟩)))∧w.grownBy w' none:=by
 have ga:=World.grownBy_alloc w (.cells #[.int .i64 k,.int .i64 n,.string t] 25) none
 have GA:=AK ga
 clear ga
 have fin:∀(b:Bool),(V.ok ⟨k,n,t⟩↔b=true)→Ending.returned (.bool b)=Ending.returned (.bool (decide (V.ok ⟨k,n,t⟩))):=fun b h=>by
   congr 2
   rw[Bool.eq_iff_iff,←h]
   simp
 have FIN:=AK fin
 clear fin
 have te:ByteArray.empty.toList.isEmpty=true:=by rw[ByteArray.toList_eq];rfl
 by_cases h0:k=0
 · subst h0
   by_cases hn:n=0
   · subst hn
     by_cases ht:t=ByteArray.empty
     · subst ht
       go_enter Tryz.func149,Tryz.ntmps149
       go_wp2
       go_ret
       exact⟨FIN.out _ (by simp[V.ok]),GA.out⟩
     · have te2:=NK ht
       have HT:=AK ht
       clear ht
       go_enter Tryz.func149,Tryz.ntmps149
       go_wp2
       go_ret
       exact⟨FIN.out _ (by have:=HT.out;simp[V.ok];omega),GA.out⟩
   · have hn2:(n == 0)=false:=by simpa using hn
     have HN:=AK hn
     clear hn
     go_enter Tryz.func149,Tryz.ntmps149
     go_wp2
     go_ret
     exact⟨FIN.out _ (by have:=HN.out;simp[V.ok,this]),GA.out⟩
 by_cases h1:k=1
 · subst h1
   clear h0
   by_cases hn:-4294967296≤n
   · by_cases hn':n≤4294967296
     · by_cases ht:t=ByteArray.empty
       · subst ht
         go_enter Tryz.func149,Tryz.ntmps149
         go_wp2
         go_ret
         exact⟨FIN.out _ (by simp[V.ok,hn,hn']),GA.out⟩
       · have te2:=NK ht
         have HT:=AK ht
         clear ht
         go_enter Tryz.func149,Tryz.ntmps149
         go_wp2
         go_ret
         exact⟨FIN.out _ (by have:=HT.out;simp[V.ok,this]),GA.out⟩
     · have d2:decide (n≤4294967296)=false:=decide_eq_false hn'
       have HN:=AK hn'
       go_enter Tryz.func149,Tryz.ntmps149
       go_wp2
       go_ret
       exact⟨FIN.out _ (by have:=HN.out;simp[V.ok];omega),GA.out⟩
   · have d2:decide (-4294967296≤n)=false:=decide_eq_false hn
     have HN:=AK hn
     clear hn
     go_enter Tryz.func149,Tryz.ntmps149
     go_wp2
     go_ret
     exact⟨FIN.out _ (by have:=HN.out;simp[V.ok];omega),GA.out⟩
 by_cases h2:k=2
 · subst h2
   clear h0 h1
   by_cases hn:n=0
   · subst hn
     by_cases ht:t.size≤32
     · have d2:decide (t.size≤32)=true:=decide_eq_true ht
       go_enter Tryz.func149,Tryz.ntmps149
       go_wp2
       go_ret
       exact⟨FIN.out _ (by simp[V.ok];omega),GA.out⟩
     · have d2:decide (t.size≤32)=false:=decide_eq_false ht
       have HT:=AK ht
       clear ht
       go_enter Tryz.func149,Tryz.ntmps149
       go_wp2
       go_ret
       exact⟨FIN.out _ (by have:=HT.out;simp[V.ok];omega),GA.out⟩
   · have hn2:(n == 0)=false:=by simpa using hn
     have HN:=AK hn
     clear hn
     go_enter Tryz.func149,Tryz.ntmps149
     go_wp2
     go_ret
     exact⟨FIN.out _ (by have:=HN.out;simp[V.ok,this]),GA.out⟩
 have k0:(k == 0)=false:=by simpa using h0
 have k1:(k == 1)=false:=by simpa using h1
 have k2:(k == 2)=false:=by simpa using h2
 have H:=AK (And.intro h0 (And.intro h1 h2))
 clear h0 h1 h2
 go_enter Tryz.func149,Tryz.ntmps149
 go_wp2
 go_ret
 exact⟨FIN.out _ (by have:=H.out;simp[V.ok,this]),GA.out⟩
theorem Zb (v:V) (w:World):Calls Tryz.prog 131 #[Br v] w fun e w'=>e=.returned (Br v.clean)∧w.grownBy w' none:=by
 obtain⟨k,n,t⟩:=v
 unfold Br
 have hc:decide (V.ok ⟨k,n,t⟩)=true∧V.clean ⟨k,n,t⟩=⟨k,n,t⟩∨decide (V.ok ⟨k,n,t⟩)=false∧V.clean ⟨k,n,t⟩=V.nul:=by
   by_cases h:V.ok ⟨k,n,t⟩
   · exact .inl ⟨decide_eq_true h,V.clean_of h⟩
   · exact .inr ⟨decide_eq_false h,if_neg h⟩
 rcases hc with ⟨h1,h2⟩|⟨h1,h2⟩
 all_goals
   rw[h2]
   clear h2
   have HV:∀w,Calls Tryz.prog 149 #[.agg #[.int .i64 k,.int .i64 n,.string t]] w _:=fun w=>(Za k n t w)
   rw[h1] at HV
   have H:=AK HV
   clear HV h1
   go_enter Tryz.func131,Tryz.ntmps131
   go_wp2_with fail
   refine(H.out _).mono ?_
   rintro e w1 ⟨rfl,hg⟩
   have c1:=AF hg (BZ (o:=.cells #[.int .i64 0,.int .i64 0,.string ⟨#[]⟩] 25) (w:=w.alloc (.cells #[.int .i64 k,.int .i64 n,.string t] 25)) (n:=w.heap.size) (by simp) |>.trans (Ak rfl)) (by simp)
   have c2:=AF hg (Ak (o:=.cells #[.int .i64 0,.int .i64 0,.string ⟨#[]⟩] 25) (w:=w.alloc (.cells #[.int .i64 k,.int .i64 n,.string t] 25)) (n:=w.heap.size+1) (by simp)) (by simp)
   have C1:=AK c1
   have C2:=AK c2
   clear c1 c2
   have x1:∀j,w1.cell? ⟨w.heap.size,j,none⟩=(#[Value.int .i64 k,.int .i64 n,.string t]:Array Value)[j]?:=fun j=>AOS w1 _ j _ _ _ C1.out
   have x2:∀j,w1.cell? ⟨w.heap.size+1,j,none⟩=(#[Value.int .i64 0,.int .i64 0,.string ⟨#[]⟩]:Array Value)[j]?:=fun j=>AOS w1 _ j _ _ _ C2.out
   have y2:∀j,w1.frozen? ⟨w.heap.size+1,j,none⟩=false:=fun j=>AOV w1 _ j _ _ C2.out
   go_wp2
 · obtain⟨s1,s2⟩:=Ct [.int .i64 k,.int .i64 n,.string t] C2.out rfl
   exact CU rfl rfl (tyV ⟨k,n,t⟩) s2 rfl ⟨rfl,AE (AA (AA (World.grownBy_alloc _ _ _) (World.grownBy_alloc _ _ _)) hg) s1 (by omega)⟩
 · obtain⟨s1,s2⟩:=Ct [.int .i64 0,.int .i64 0,.string ⟨#[]⟩] C2.out rfl
   exact CU rfl rfl (tyV V.nul) s2 rfl ⟨rfl,AE (AA (AA (World.grownBy_alloc _ _ _) (World.grownBy_alloc _ _ _)) hg) s1 (by omega)⟩
theorem Wx (k n:Int) (t:ByteArray) (w:World) :
   Calls Tryz.prog 67 #[.agg #[.int .i64 k,.int .i64 n,.string t]] w fun e w'=>e=.returned (.bool (decide (V.ok ⟨k,n,t⟩)))∧w.grownBy w' none:=by
 have ga:=World.grownBy_alloc w (.cells #[.int .i64 k,.int .i64 n,.string t] 25) none
 have GA:=AK ga
 clear ga
 have fin:∀(b:Bool),(V.ok ⟨k,n,t⟩↔b=true)→Ending.returned (.bool b)=Ending.returned (.bool (decide (V.ok ⟨k,n,t⟩))):=fun b h=>by
   congr 2
   rw[Bool.eq_iff_iff,←h]
   simp
 have FIN:=AK fin
 clear fin
 have te:ByteArray.empty.toList.isEmpty=true:=by rw[ByteArray.toList_eq];rfl
 by_cases h0:k=0
 · subst h0
   by_cases hn:n=0
   · subst hn
     by_cases ht:t=ByteArray.empty
     · subst ht
       go_enter Tryz.func67,Tryz.ntmps67
       go_wp2
       go_ret
       exact⟨FIN.out _ (by simp[V.ok]),GA.out⟩
     · have te2:=NK ht
       have HT:=AK ht
       clear ht
       go_enter Tryz.func67,Tryz.ntmps67
       go_wp2
       go_ret
       exact⟨FIN.out _ (by have:=HT.out;simp[V.ok];omega),GA.out⟩
   · have hn2:(n == 0)=false:=by simpa using hn
     have HN:=AK hn
     clear hn
     go_enter Tryz.func67,Tryz.ntmps67
     go_wp2
     go_ret
     exact⟨FIN.out _ (by have:=HN.out;simp[V.ok,this]),GA.out⟩
 by_cases h1:k=1
 · subst h1
   clear h0
   by_cases hn:-4294967296≤n
   · by_cases hn':n≤4294967296
     · by_cases ht:t=ByteArray.empty
       · subst ht
         go_enter Tryz.func67,Tryz.ntmps67
         go_wp2
         go_ret
         exact⟨FIN.out _ (by simp[V.ok,hn,hn']),GA.out⟩
       · have te2:=NK ht
         have HT:=AK ht
         clear ht
         go_enter Tryz.func67,Tryz.ntmps67
         go_wp2
         go_ret
         exact⟨FIN.out _ (by have:=HT.out;simp[V.ok,this]),GA.out⟩
     · have d2:decide (n≤4294967296)=false:=decide_eq_false hn'
       have HN:=AK hn'
       go_enter Tryz.func67,Tryz.ntmps67
       go_wp2
       go_ret
       exact⟨FIN.out _ (by have:=HN.out;simp[V.ok];omega),GA.out⟩
   · have d2:decide (-4294967296≤n)=false:=decide_eq_false hn
     have HN:=AK hn
     clear hn
     go_enter Tryz.func67,Tryz.ntmps67
     go_wp2
     go_ret
     exact⟨FIN.out _ (by have:=HN.out;simp[V.ok];omega),GA.out⟩
 by_cases h2:k=2
 · subst h2
   clear h0 h1
   by_cases hn:n=0
   · subst hn
     by_cases ht:t.size≤32
     · have d2:decide (t.size≤32)=true:=decide_eq_true ht
       go_enter Tryz.func67,Tryz.ntmps67
       go_wp2
       go_ret
       exact⟨FIN.out _ (by simp[V.ok];omega),GA.out⟩
     · have d2:decide (t.size≤32)=false:=decide_eq_false ht
       have HT:=AK ht
       clear ht
       go_enter Tryz.func67,Tryz.ntmps67
       go_wp2
       go_ret
       exact⟨FIN.out _ (by have:=HT.out;simp[V.ok];omega),GA.out⟩
   · have hn2:(n == 0)=false:=by simpa using hn
     have HN:=AK hn
     clear hn
     go_enter Tryz.func67,Tryz.ntmps67
     go_wp2
     go_ret
     exact⟨FIN.out _ (by have:=HN.out;simp[V.ok,this]),GA.out⟩
 have k0:(k == 0)=false:=by simpa using h0
 have k1:(k == 1)=false:=by simpa using h1
 have k2:(k == 2)=false:=by simpa using h2
 have H:=AK (And.intro h0 (And.intro h1 h2))
 clear h0 h1 h2
 go_enter Tryz.func67,Tryz.ntmps67
 go_wp2
 go_ret
 exact⟨FIN.out _ (by have:=H.out;simp[V.ok,this]),GA.out⟩
theorem QH (v:V) (w:World):Calls Tryz.prog 25 #[Br v] w fun e w'=>e=.returned (Br v.clean)∧w.grownBy w' none:=by
 obtain⟨k,n,t⟩:=v
 unfold Br
 have hc:decide (V.ok ⟨k,n,t⟩)=true∧V.clean ⟨k,n,t⟩=⟨k,n,t⟩∨decide (V.ok ⟨k,n,t⟩)=false∧V.clean ⟨k,n,t⟩=V.nul:=by
   by_cases h:V.ok ⟨k,n,t⟩
   · exact .inl ⟨decide_eq_true h,V.clean_of h⟩
   · exact .inr ⟨decide_eq_false h,if_neg h⟩
 rcases hc with ⟨h1,h2⟩|⟨h1,h2⟩
 all_goals
   rw[h2]
   clear h2
   have HV:∀w,Calls Tryz.prog 67 #[.agg #[.int .i64 k,.int .i64 n,.string t]] w _:=fun w=>(Wx k n t w)
   rw[h1] at HV
   have H:=AK HV
   clear HV h1
   go_enter Tryz.func25,Tryz.ntmps25
   go_wp2_with fail
   refine(H.out _).mono ?_
   rintro e w1 ⟨rfl,hg⟩
   have c1:=AF hg (BZ (o:=.cells #[.int .i64 0,.int .i64 0,.string ⟨#[]⟩] 25) (w:=w.alloc (.cells #[.int .i64 k,.int .i64 n,.string t] 25)) (n:=w.heap.size) (by simp) |>.trans (Ak rfl)) (by simp)
   have c2:=AF hg (Ak (o:=.cells #[.int .i64 0,.int .i64 0,.string ⟨#[]⟩] 25) (w:=w.alloc (.cells #[.int .i64 k,.int .i64 n,.string t] 25)) (n:=w.heap.size+1) (by simp)) (by simp)
   have C1:=AK c1
   have C2:=AK c2
   clear c1 c2
   have x1:∀j,w1.cell? ⟨w.heap.size,j,none⟩=(#[Value.int .i64 k,.int .i64 n,.string t]:Array Value)[j]?:=fun j=>AOS w1 _ j _ _ _ C1.out
   have x2:∀j,w1.cell? ⟨w.heap.size+1,j,none⟩=(#[Value.int .i64 0,.int .i64 0,.string ⟨#[]⟩]:Array Value)[j]?:=fun j=>AOS w1 _ j _ _ _ C2.out
   have y2:∀j,w1.frozen? ⟨w.heap.size+1,j,none⟩=false:=fun j=>AOV w1 _ j _ _ C2.out
   go_wp2
 · obtain⟨s1,s2⟩:=Ct [.int .i64 k,.int .i64 n,.string t] C2.out rfl
   exact CU rfl rfl (tyV ⟨k,n,t⟩) s2 rfl ⟨rfl,AE (AA (AA (World.grownBy_alloc _ _ _) (World.grownBy_alloc _ _ _)) hg) s1 (by omega)⟩
 · obtain⟨s1,s2⟩:=Ct [.int .i64 0,.int .i64 0,.string ⟨#[]⟩] C2.out rfl
   exact CU rfl rfl (tyV V.nul) s2 rfl ⟨rfl,AE (AA (AA (World.grownBy_alloc _ _ _) (World.grownBy_alloc _ _ _)) hg) s1 (by omega)⟩
def Wy (w:World) (v:Value) (ys:List Nat) (e:Ending) (w':World):Prop:=∃v',e=.returned v'∧Own w' 5 1 v' ys.length (bv ys)∧Step w v w' v'
theorem Jo (v:Value) (ns:List Int) (xs:List Nat) (w:World) (T:TypeId) (cs:Array Value) (m:Nat) (hown:Own w 5 1 v xs.length (bv xs)) (hm:m=ns.length) (hcs:cs=(ns.map (Value.int .i64)).toArray)
   (hr:∀n∈ns,N6 n) (hlen:xs.length+10*ns.length≤1099511627776) :
   Calls Tryz.prog 132 #[v,.slice (some ⟨w.heap.size,0,none⟩) m m] (w.alloc (.cells cs T)) (Wy w v (xs++ns.flatMap enc)):=by
 subst hm hcs
 have hs:Sl (w.alloc (.cells (ns.map (Value.int .i64)).toArray T)) 1 (.slice (some ⟨w.heap.size,0,none⟩) ns.length ns.length) ns.length (ns.map (Value.int .i64)):=
   ⟨by simp,_,_,rfl,Nat.le_refl _,by unfold maxLen;omega,fun h=>(by cases h),fun a ha=>by
    obtain rfl:=Option.some.inj ha
    refine⟨fun _=>rfl,fun j u hu=>?_⟩
    rw[Nat.zero_add,World.cell?_alloc_at _ _ _ _ rfl]
    simpa using hu⟩
 refine(WE v _ xs ns _ (hown.alloc _) hs (.inr ?_) hr hlen).mono ?_
 · intro e
   have:=Own.lt hown _ e.symm
   simp at this
 · rintro e w' ⟨v',rfl,h1,h2⟩
   exact⟨v',rfl,h1,h2.alloc⟩
theorem Zc (s:ByteArray) (h:s.size≤1099511627776):(Rm s).length≤10+s.size:=by
 unfold Rm
 have:=D4 (n:=s.size) (by omega) (by omega)
 rw[List.length_append,Ww]
 omega
theorem QI (s:ByteArray):Lib.strCells s=bv (by_ s):=by
 have:=ZX (by_ s) (AKW s)
 rwa [AKX] at this
theorem AGi (v:Value) (s:ByteArray) (xs:List Nat) (w:World) (hown:Own w 5 1 v xs.length (bv xs)) (hl:xs.length+10+s.size≤1099511627776) :
  Calls Tryz.prog 133 #[v,.string s] w (Wy w v (xs++Rm s)):=by
 go_enter Tryz.func133,Tryz.ntmps133
 go_wp2_with fail
 refine(Jo v [(s.size:Int)] xs w _ _ 1 hown rfl rfl (by simp;omega) (by simp;omega)).mono ?_
 rintro e w1 ⟨v1,rfl,hown1,hst1⟩
 simp only[List.flatMap_cons,List.flatMap_nil,List.append_nil] at hown1
 have hel:=D4 (n:=s.size) (by omega) (by omega)
 have hl1:(xs++enc s.size).length+s.size≤1099511627776:=by rw[List.length_append];omega
 go_wp2_with (at_builtin;go_must (refine No Di Tryz.underlying9 rfl _ _ rfl _ _ _ rfl hown1 s rfl hl1 ?_;intro v2 w2 hown2 hst2))
 go_ret
 refine⟨v2,rfl,?_,hst1.trans hst2⟩
 unfold Rm
 rw[QI,←DS,List.append_assoc] at hown2
 have e:(xs++enc s.size).length+s.size=(xs++(enc s.size++by_ s)).length:=by simp[Ww];omega
 rw[e] at hown2
 exact hown2
theorem Own.row {T E:TypeId} {w w':World} {v v':Value} {n k sz:Nat} {xs:List Value} {c:Array Value} {fr:Nat×Nat} (h:Own w E sz v n xs) (hs:Step w v w' v') (hne:E≠T) (hk:w.heap[k]?=some (.cells c T fr)):w'.heap[k]?=some (.cells c T fr):=
 AF hs.1 hk (Own.ne h hk hne).symm
theorem AGj (v:Value) (x:V) (xs:List Nat) (w:World) (hown:Own w 5 1 v xs.length (bv xs)) (hl:xs.length+60≤1099511627776) :
   Calls Tryz.prog 100 #[v,Br x] w (Wy w v (xs++BQ x)):=by
 have hok:=x.clean_ok
 have HC:=AK (Zb x)
 unfold BQ
 unfold Br at *
 generalize hy:x.clean=y at *
 clear hy
 obtain⟨xk,xn,xt⟩:=x
 obtain⟨k,n,t⟩:=y
 simp only at HC ⊢
 rcases hok with ⟨h1,h2,h3⟩|⟨h1,h2,h3,h4⟩|⟨h1,h2,h3⟩
 · simp only at h1 h2 h3
   subst h1 h2 h3
   go_enter Tryz.func100,Tryz.ntmps100
   go_wp2_with fail
   refine(HC.out _).mono ?_
   rintro e w1 ⟨rfl,hg⟩
   have hb:=AF hg (Ak rfl) (by simp)
   have g1:w.grownBy w1 none:=AA (World.grownBy_alloc _ _ _) hg
   obtain⟨s1,s2⟩:=Ct [.int .i64 0,.int .i64 0,.string ByteArray.empty] hb rfl
   have y0:∀j,w1.cell? ⟨w.heap.size,j,none⟩=(#[Value.int .i64 xk,.int .i64 xn,.string xt]:Array Value)[j]?:=fun j=>AOS w1 _ j _ _ _ hb
   have y1:∀j,w1.frozen? ⟨w.heap.size,j,none⟩=false:=fun j=>AOV w1 _ j _ _ hb
   have gW:w.grownBy (w1.setCells w.heap.size 0 [.int .i64 0,.int .i64 0,.string ByteArray.empty]) none:=AE g1 s1 (Nat.le_refl _)
   have ownW:=hown.kept gW (by cases v.ownBlock<;>simp)
   have lW:(w1.setCells w.heap.size 0 [.int .i64 0,.int .i64 0,.string ByteArray.empty]).heap.size=w1.heap.size:=by simp[World.setCells]
   have OW:=AK ownW
   have G:=AK gW
   have BW:=AK s2
   have LW:=AK lW
   clear ownW gW s2 s1 hb lW g1 hg
   go_wp2_with fail
   generalize hW:((w1.setCell ⟨w.heap.size,0,none⟩ (.int .i64 0)).setCell ⟨w.heap.size,1,none⟩ (.int .i64 0)).setCell ⟨w.heap.size,2,none⟩ (.string ByteArray.empty)=W
   have hW':w1.setCells w.heap.size 0 [.int .i64 0,.int .i64 0,.string ByteArray.empty]=W:=hW
   rw[hW'] at OW G BW LW
   clear hW hW'
   rw[←LW.out]
   refine(Jo v [0] xs W _ _ 1 OW.out rfl rfl (fun m hm=>by simp at hm;subst hm;exact⟨by omega,by omega⟩) (by simp;omega)).mono ?_
   rintro e w2 ⟨v1,rfl,hown2,hst2⟩
   simp only[List.flatMap_cons,List.flatMap_nil,List.append_nil] at hown2
   have hel:=D4 (n:=0) (by omega) (by omega)
   have L2:Hid ((xs++enc 0).length≤xs.length+10):=by rw[List.length_append];exact AK (by omega)
   have b2:=Own.row OW.out hst2 (by decide) BW.out
   have z0:∀j,w2.cell? ⟨w.heap.size,j,none⟩=(#[Value.int .i64 0,.int .i64 0,.string ByteArray.empty]:Array Value)[j]?:=fun j=>AOS w2 _ j _ _ _ b2
   have O2:=AK hown2
   have S2:=AK hst2
   clear hown2 hst2 b2 y0 y1
   go_wp2
   go_ret
   exact⟨v1,rfl,by simpa [Pi] using O2.out,Step.grown G.out S2.out⟩
 · simp only at h1 h2 h3 h4
   subst h1 h4
   go_enter Tryz.func100,Tryz.ntmps100
   go_wp2_with fail
   refine(HC.out _).mono ?_
   rintro e w1 ⟨rfl,hg⟩
   have hb:=AF hg (Ak rfl) (by simp)
   have g1:w.grownBy w1 none:=AA (World.grownBy_alloc _ _ _) hg
   obtain⟨s1,s2⟩:=Ct [.int .i64 1,.int .i64 n,.string ByteArray.empty] hb rfl
   have y0:∀j,w1.cell? ⟨w.heap.size,j,none⟩=(#[Value.int .i64 xk,.int .i64 xn,.string xt]:Array Value)[j]?:=fun j=>AOS w1 _ j _ _ _ hb
   have y1:∀j,w1.frozen? ⟨w.heap.size,j,none⟩=false:=fun j=>AOV w1 _ j _ _ hb
   have gW:w.grownBy (w1.setCells w.heap.size 0 [.int .i64 1,.int .i64 n,.string ByteArray.empty]) none:=AE g1 s1 (Nat.le_refl _)
   have ownW:=hown.kept gW (by cases v.ownBlock<;>simp)
   have lW:(w1.setCells w.heap.size 0 [.int .i64 1,.int .i64 n,.string ByteArray.empty]).heap.size=w1.heap.size:=by simp[World.setCells]
   have OW:=AK ownW
   have G:=AK gW
   have BW:=AK s2
   have LW:=AK lW
   clear ownW gW s2 s1 hb lW g1 hg
   go_wp2_with fail
   generalize hW:((w1.setCell ⟨w.heap.size,0,none⟩ (.int .i64 1)).setCell ⟨w.heap.size,1,none⟩ (.int .i64 n)).setCell ⟨w.heap.size,2,none⟩ (.string ByteArray.empty)=W
   have hW':w1.setCells w.heap.size 0 [.int .i64 1,.int .i64 n,.string ByteArray.empty]=W:=hW
   rw[hW'] at OW G BW LW
   clear hW hW'
   rw[←LW.out]
   refine(Jo v [1] xs W _ _ 1 OW.out rfl rfl (fun m hm=>by simp at hm;subst hm;exact⟨by omega,by omega⟩) (by simp;omega)).mono ?_
   rintro e w2 ⟨v1,rfl,hown2,hst2⟩
   simp only[List.flatMap_cons,List.flatMap_nil,List.append_nil] at hown2
   have hel:=D4 (n:=1) (by omega) (by omega)
   have L2:Hid ((xs++enc 1).length≤xs.length+10):=by rw[List.length_append];exact AK (by omega)
   have b2:=Own.row OW.out hst2 (by decide) BW.out
   have z0:∀j,w2.cell? ⟨w.heap.size,j,none⟩=(#[Value.int .i64 1,.int .i64 n,.string ByteArray.empty]:Array Value)[j]?:=fun j=>AOS w2 _ j _ _ _ b2
   have O2:=AK hown2
   have S2:=AK hst2
   clear hown2 hst2 b2 y0 y1
   go_wp2_with fail
   refine(Jo v1 [n] _ w2 _ _ 1 O2.out rfl rfl (by simp;omega) (by have:=L2.out;simp at *;omega)).mono ?_
   rintro e w3 ⟨v2,rfl,hown3,hst3⟩
   go_wp2
   go_ret
   exact⟨v2,rfl,by simpa [Pi] using hown3,Step.grown G.out (S2.out.trans hst3)⟩
 · simp only at h1 h2 h3
   subst h1 h2
   go_enter Tryz.func100,Tryz.ntmps100
   go_wp2_with fail
   refine(HC.out _).mono ?_
   rintro e w1 ⟨rfl,hg⟩
   have hb:=AF hg (Ak rfl) (by simp)
   have g1:w.grownBy w1 none:=AA (World.grownBy_alloc _ _ _) hg
   obtain⟨s1,s2⟩:=Ct [.int .i64 2,.int .i64 0,.string t] hb rfl
   have y0:∀j,w1.cell? ⟨w.heap.size,j,none⟩=(#[Value.int .i64 xk,.int .i64 xn,.string xt]:Array Value)[j]?:=fun j=>AOS w1 _ j _ _ _ hb
   have y1:∀j,w1.frozen? ⟨w.heap.size,j,none⟩=false:=fun j=>AOV w1 _ j _ _ hb
   have gW:w.grownBy (w1.setCells w.heap.size 0 [.int .i64 2,.int .i64 0,.string t]) none:=AE g1 s1 (Nat.le_refl _)
   have ownW:=hown.kept gW (by cases v.ownBlock<;>simp)
   have lW:(w1.setCells w.heap.size 0 [.int .i64 2,.int .i64 0,.string t]).heap.size=w1.heap.size:=by simp[World.setCells]
   have OW:=AK ownW
   have G:=AK gW
   have BW:=AK s2
   have LW:=AK lW
   clear ownW gW s2 s1 hb lW g1 hg
   go_wp2_with fail
   generalize hW:((w1.setCell ⟨w.heap.size,0,none⟩ (.int .i64 2)).setCell ⟨w.heap.size,1,none⟩ (.int .i64 0)).setCell ⟨w.heap.size,2,none⟩ (.string t)=W
   have hW':w1.setCells w.heap.size 0 [.int .i64 2,.int .i64 0,.string t]=W:=hW
   rw[hW'] at OW G BW LW
   clear hW hW'
   rw[←LW.out]
   refine(Jo v [2] xs W _ _ 1 OW.out rfl rfl (fun m hm=>by simp at hm;subst hm;exact⟨by omega,by omega⟩) (by simp;omega)).mono ?_
   rintro e w2 ⟨v1,rfl,hown2,hst2⟩
   simp only[List.flatMap_cons,List.flatMap_nil,List.append_nil] at hown2
   have hel:=D4 (n:=2) (by omega) (by omega)
   have L2:Hid ((xs++enc 2).length≤xs.length+10):=by rw[List.length_append];exact AK (by omega)
   have b2:=Own.row OW.out hst2 (by decide) BW.out
   have z0:∀j,w2.cell? ⟨w.heap.size,j,none⟩=(#[Value.int .i64 2,.int .i64 0,.string t]:Array Value)[j]?:=fun j=>AOS w2 _ j _ _ _ b2
   have O2:=AK hown2
   have S2:=AK hst2
   clear hown2 hst2 b2 y0 y1
   go_wp2_with fail
   refine(AGi v1 t _ w2 O2.out (by have:=L2.out;simp at *;omega)).mono ?_
   rintro e w3 ⟨v2,rfl,hown3,hst3⟩
   go_wp2
   go_ret
   exact⟨v2,rfl,by simpa [Pi] using hown3,Step.grown G.out (S2.out.trans hst3)⟩
theorem AGk {v:V} (h:v.ok):(Pi v).length≤60:=by
 unfold Pi
 have h1:=D4 (V.ok_kind h).1.1 (V.ok_kind h).1.2
 have h2:=D4 (V.ok_kind h).2.1 (V.ok_kind h).2.2
 have h3:=Zc v.text (by have:=V.ok_text h;omega)
 have h4:=V.ok_text h
 rw[List.length_append]
 split
 · omega
 · split
   · omega
   · simp;omega
theorem FN (v:V):(BQ v).length≤60:=AGk v.clean_ok
theorem Wz (s:ByteArray) (w:World) (hl:s.size≤1099511000000) :
  Calls Tryz.prog 91 #[.string s] w fun e w'=>∃v,e=.returned v∧Own w' 5 1 v (Rm s).length (bv (Rm s))∧Fresh w w' v:=by
 go_enter Tryz.func91,Tryz.ntmps91
 go_wp2_with fail
 refine(Fs (s.size:Int) w (by omega) (by omega)).mono ?_
 rintro e w1 ⟨v1,rfl,hown1,hst1⟩
 have hel:=D4 (n:=s.size) (by omega) (by omega)
 go_wp2_with (at_builtin;go_must (refine No Di Tryz.underlying9 rfl _ _ rfl _ _ _ rfl hown1 s rfl (by omega) ?_;intro v2 w2 hown2 hst2))
 go_ret
 refine⟨v2,rfl,?_,hst1.trans hst2⟩
 unfold Rm
 rw[QI,←DS] at hown2
 have e:(enc s.size).length+s.size=(enc s.size++by_ s).length:=by simp[Ww]
 rw[e] at hown2
 exact hown2
theorem UN (x:V) (w:World) :
   Calls Tryz.prog 43 #[Br x] w fun e w'=>∃v,e=.returned v∧Own w' 5 1 v (BQ x).length (bv (BQ x))∧Fresh w w' v:=by
 have hok:=x.clean_ok
 have HC:=AK (QH x)
 unfold BQ
 unfold Br at *
 generalize hy:x.clean=y at *
 clear hy
 obtain⟨xk,xn,xt⟩:=x
 obtain⟨k,n,t⟩:=y
 simp only at HC ⊢
 rcases hok with ⟨h1,h2,h3⟩|⟨h1,h2,h3,h4⟩|⟨h1,h2,h3⟩
 · simp only at h1 h2 h3
   subst h1 h2 h3
   go_enter Tryz.func43,Tryz.ntmps43
   go_wp2_with fail
   refine(HC.out _).mono ?_
   rintro e w1 ⟨rfl,hg⟩
   have g1:w.grownBy w1 none:=AA (World.grownBy_alloc _ _ _) hg
   have hb:=AF hg (Ak rfl) (by simp)
   go_wp2_with (first|(refine AY rfl 25 (.tmp 1) (.tmp 5) rfl rfl rfl (tyV ⟨0,0,ByteArray.empty⟩) hb rfl ?_;intro w2 hg2 hb2;have G:=AK (AE g1 hg2 (Nat.le_refl _));have HB:=AK hb2;have y0:∀j,w2.cell? ⟨w.heap.size,j,none⟩=(#[Value.int .i64 (0),.int .i64 (0),.string ByteArray.empty]:Array Value)[j]?:=fun j=>AOS w2 _ j _ _ _ hb2;clear hg hb hb2 hg2 g1)|fail)
   refine(Fs (0) w2 (by omega) (by omega)).mono ?_
   rintro e w3 ⟨v3,rfl,hown3,hst3⟩
   have hel:=D4 (n:=0) (by omega) (by omega)
   have hb3:=AF (Step.none hst3) HB.out (by simp)
   have z0:∀j,w3.cell? ⟨w.heap.size,j,none⟩=(#[Value.int .i64 (0),.int .i64 (0),.string ByteArray.empty]:Array Value)[j]?:=fun j=>AOS w3 _ j _ _ _ hb3
   have F3:=AK hst3
   have B3:=AK hb3
   clear hst3 hb3 y0
   go_wp2
   go_ret
   exact⟨v3,rfl,by simpa [Pi] using hown3,Step.grown G.out F3.out⟩
 · simp only at h1 h2 h3 h4
   subst h1 h4
   go_enter Tryz.func43,Tryz.ntmps43
   go_wp2_with fail
   refine(HC.out _).mono ?_
   rintro e w1 ⟨rfl,hg⟩
   have g1:w.grownBy w1 none:=AA (World.grownBy_alloc _ _ _) hg
   have hb:=AF hg (Ak rfl) (by simp)
   go_wp2_with (first|(refine AY rfl 25 (.tmp 1) (.tmp 5) rfl rfl rfl (tyV ⟨1,n,ByteArray.empty⟩) hb rfl ?_;intro w2 hg2 hb2;have G:=AK (AE g1 hg2 (Nat.le_refl _));have HB:=AK hb2;have y0:∀j,w2.cell? ⟨w.heap.size,j,none⟩=(#[Value.int .i64 (1),.int .i64 (n),.string ByteArray.empty]:Array Value)[j]?:=fun j=>AOS w2 _ j _ _ _ hb2;clear hg hb hb2 hg2 g1)|fail)
   refine(Fs (1) w2 (by omega) (by omega)).mono ?_
   rintro e w3 ⟨v3,rfl,hown3,hst3⟩
   have hel:=D4 (n:=1) (by omega) (by omega)
   have hb3:=AF (Step.none hst3) HB.out (by simp)
   have z0:∀j,w3.cell? ⟨w.heap.size,j,none⟩=(#[Value.int .i64 (1),.int .i64 (n),.string ByteArray.empty]:Array Value)[j]?:=fun j=>AOS w3 _ j _ _ _ hb3
   have F3:=AK hst3
   have B3:=AK hb3
   clear hst3 hb3 y0
   go_wp2_with fail
   refine(Fs n w3 (by omega) (by omega)).mono ?_
   rintro e w4 ⟨v4,rfl,hown4,hst4⟩
   have hown34:=hown3.kn (Step.none hst4)
   have hb4:=AF (Step.none hst4) B3.out (by simp)
   have x0:∀j,w4.cell? ⟨w.heap.size,j,none⟩=(#[Value.int .i64 (1),.int .i64 (n),.string ByteArray.empty]:Array Value)[j]?:=fun j=>AOS w4 _ j _ _ _ hb4
   have hl4:(enc 1).length+(enc n).length≤1099511627776:=by have:=D4 (n:=n) (by omega) (by omega);omega
   have F4:=AK hst4
   have B4:=AK hb4
   have O4:=AK hown4
   have O3:=AK hown34
   have HL:=AK hl4
   clear hst4 z0 hown4 hown3 hown34 hb4 hl4 hel
   go_wp2_with (at_builtin;go_must (refine Ea Di rfl _ _ rfl _ _ _ rfl O3.out _ _ _ rfl (Sl.of_own O4.out) (Dk _) HL.out ?_;intro v5 w5 hown5 hst5;have hb5:=AF hst5.1 B4.out (fun e=>Own.ne O3.out B4.out (by decide) e.symm);have u0:∀j,w5.cell? ⟨w.heap.size,j,none⟩=(#[Value.int .i64 (1),.int .i64 (n),.string ByteArray.empty]:Array Value)[j]?:=(fun j=>AOS w5 _ j _ _ _ hb5);have O5:=AK hown5;have F5:=AK hst5;clear hown5 hst5 x0 hb5))
   go_ret
   exact⟨v5,rfl,by simpa [Pi,DS] using O5.out,Step.grown G.out (F3.out.trans (Step.grown F4.out.1 F5.out))⟩
 · simp only at h1 h2 h3
   subst h1 h2
   go_enter Tryz.func43,Tryz.ntmps43
   go_wp2_with fail
   refine(HC.out _).mono ?_
   rintro e w1 ⟨rfl,hg⟩
   have g1:w.grownBy w1 none:=AA (World.grownBy_alloc _ _ _) hg
   have hb:=AF hg (Ak rfl) (by simp)
   go_wp2_with (first|(refine AY rfl 25 (.tmp 1) (.tmp 5) rfl rfl rfl (tyV ⟨2,0,t⟩) hb rfl ?_;intro w2 hg2 hb2;have G:=AK (AE g1 hg2 (Nat.le_refl _));have HB:=AK hb2;have y0:∀j,w2.cell? ⟨w.heap.size,j,none⟩=(#[Value.int .i64 (2),.int .i64 (0),.string t]:Array Value)[j]?:=fun j=>AOS w2 _ j _ _ _ hb2;clear hg hb hb2 hg2 g1)|fail)
   refine(Fs (2) w2 (by omega) (by omega)).mono ?_
   rintro e w3 ⟨v3,rfl,hown3,hst3⟩
   have hel:=D4 (n:=2) (by omega) (by omega)
   have hb3:=AF (Step.none hst3) HB.out (by simp)
   have z0:∀j,w3.cell? ⟨w.heap.size,j,none⟩=(#[Value.int .i64 (2),.int .i64 (0),.string t]:Array Value)[j]?:=fun j=>AOS w3 _ j _ _ _ hb3
   have F3:=AK hst3
   have B3:=AK hb3
   clear hst3 hb3 y0
   go_wp2_with fail
   refine(Wz t w3 (by omega)).mono ?_
   rintro e w4 ⟨v4,rfl,hown4,hst4⟩
   have hown34:=hown3.kn (Step.none hst4)
   have hb4:=AF (Step.none hst4) B3.out (by simp)
   have x0:∀j,w4.cell? ⟨w.heap.size,j,none⟩=(#[Value.int .i64 (2),.int .i64 (0),.string t]:Array Value)[j]?:=fun j=>AOS w4 _ j _ _ _ hb4
   have hl4:(enc 2).length+(Rm t).length≤1099511627776:=by have:=Zc t (by omega);omega
   have F4:=AK hst4
   have B4:=AK hb4
   have O4:=AK hown4
   have O3:=AK hown34
   have HL:=AK hl4
   clear hst4 z0 hown4 hown3 hown34 hb4 hl4 hel
   go_wp2_with (at_builtin;go_must (refine Ea Di rfl _ _ rfl _ _ _ rfl O3.out _ _ _ rfl (Sl.of_own O4.out) (Dk _) HL.out ?_;intro v5 w5 hown5 hst5;have hb5:=AF hst5.1 B4.out (fun e=>Own.ne O3.out B4.out (by decide) e.symm);have u0:∀j,w5.cell? ⟨w.heap.size,j,none⟩=(#[Value.int .i64 (2),.int .i64 (0),.string t]:Array Value)[j]?:=(fun j=>AOS w5 _ j _ _ _ hb5);have O5:=AK hown5;have F5:=AK hst5;clear hown5 hst5 x0 hb5))
   go_ret
   exact⟨v5,rfl,by simpa [Pi,DS] using O5.out,Step.grown G.out (F3.out.trans (Step.grown F4.out.1 F5.out))⟩
end Go.Proofs.YtbfjfnbcmojpiaaGreat
namespace Go.Proofs.YtbfjfnbcmojpiaaGreat
open Go.RowKit
def Sp.lit1 (B:Nat) (e:TypeId) (cs:List Value):Sp:=⟨fun w v=>∃A,v=.slice (some ⟨A,0,none⟩) 1 1∧B≤A∧w.heap[A]?=some (.cells cs.toArray e (0,0)),fun _ _ _ hg ⟨A,h1,h2,h3⟩=>⟨A,h1,h2,AF hg h3 (by simp)⟩⟩
section
variable {P:Program} {ops:Array Oper} {L:Nat→Sp} {n:Nat} {w0:World} {o:Oper}
theorem NQ {T:TypeId} {parts:Array (Nat×Operand)} {d:Nat} (ho:o.op=.build T parts) (hd:o.dst=some d) (hg:GX ops L n o.guard)
  (hn:((parts.toList.map (·.2)).all fun x=>match x with|.tmp t=>decide (t<n)|.const _=>true|_=>false)=true)
  (hc:∀w,w0.grownBy w none→∀av,ArgsOn L w (parts.toList.map (·.2)) av→∃v,(Instr.build T ((parts.toList.map (·.1)).zip av).toArray).run P w=.ok v w∧(L d).on w v):OX P ops L n w0 o:=
 Fv hg fun a w hw hl hsz=>by
  have hon:=ArgsOn.of (o:=o) (ops:=ops) (a:=a) (w:=w) hl hn (fun x hx=>by simp only[ho,Op.operands];simpa using hx)
  obtain⟨v,hr,hv⟩:=hc w hw _ hon
  refine⟨v,?_,Da hd hv⟩
  have e2:(parts.map fun(i,x)=>(i,a.eval x))=((parts.toList.map (·.1)).zip ((parts.toList.map (·.2)).map a.eval)).toArray:=by
   apply Array.ext'
   simp only[Array.toList_map,List.map_map]
   induction parts.toList with
   | nil=>rfl
   | cons p l ih=>simp only[List.map_cons,List.zip_cons_cons,ih];rfl
  simp only[execOp,ho,e2,Sem.run_bind,Sem.run_pure,Result.andThen_ok,hr]
theorem Ot {t e:TypeId} {x:Operand} {d B:Nat} (ho:o.op=.buildSlice t 1 #[(0,x)]) (hd:o.dst=some d) (hg:GX ops L n o.guard) (hB:B≤w0.heap.size)
   (hn:([x].all fun x=>match x with|.tmp t=>decide (t<n)|.const _=>true|_=>false)=true)
   (hc:∀w,w0.grownBy w none→∀v,ArgsOn L w [x] [v]→∃cs:List Value,(Instr.buildSlice t 1 #[(0,v)]).run P w=.ok (.slice (some ⟨w.heap.size,0,none⟩) 1 1) (w.alloc (.cells cs.toArray e)) ∧
     ∀w',w.grownBy w' none→w'.heap[w.heap.size]?=some (.cells cs.toArray e (0,0))→(L d).on w' (.slice (some ⟨w.heap.size,0,none⟩) 1 1)):OX P ops L n w0 o:=by
 intro a w hw hl hs
 unfold OpSays
 rw[if_pos (hg.wanted hl hs)]
 have hon:=ArgsOn.of (o:=o) (ops:=ops) (a:=a) (w:=w) hl (l:=[x]) hn (fun y hy=>by simp at hy;subst hy;simp[ho,Op.operands])
 obtain⟨cs,hr,hv⟩:=hc w hw _ hon
 have hrr:(execOp a.eval o).run P w=.ok (.value (.slice (some ⟨w.heap.size,0,none⟩) 1 1)) (w.alloc (.cells cs.toArray e)):=by
   simp only[execOp,ho,List.map_toArray,List.map_cons,List.map_nil,Sem.run_bind,Sem.run_pure,Result.andThen_ok,hr]
 rw[hrr]
 exact⟨World.grownBy_alloc _ _ _,Da hd (hv _ (World.grownBy_alloc _ _ _) (Ak rfl))⟩
end
theorem RdT.nil (w:World):RdT w (.slice none 0 0) []:=⟨Sl.nil w 34,by simp,fun k hk=>(Wn k hk).elim,by simp⟩
def TagB (w:World) (k:Nat):Prop:=∃c fr,w.heap[k]?=some (.cells c 132 fr)
def Tag (w:World) (v:Value):Prop:=∀k,OZ v k→TagB w k
theorem AHM {w:World} {k b:Nat} {c:Array Value} {T:TypeId} {fr:Nat×Nat} (h:TagB w k) (hb:w.heap[b]?=some (.cells c T fr)) (hT:T≠132):k≠b:=by
 rintro rfl
 obtain⟨c',fr',h1⟩:=h
 rw[hb] at h1
 simp only[Option.some.injEq,Obj.cells.injEq] at h1
 exact hT h1.2.1
theorem TagB.keep {w w':World} {k:Nat} (h:TagB w k) {row:Option Nat} (g:w.grownBy w' row) (hb:row≠some k):TagB w' k:=by
 obtain⟨c,fr,h1⟩:=h
 exact⟨c,fr,AF g h1 fun e=>hb e.symm⟩
theorem Tag.kn {w w':World} {v:Value} (h:Tag w v) (g:w.grownBy w' none):Tag w' v:=fun k hk=>(h k hk).keep g (by simp)
theorem Tag.offR {w w':World} {v:Value} (h:Tag w v) {row:Option Nat} (g:w.grownBy w' row) (hb:∀k,OZ v k→row≠some k):Tag w' v:=fun k hk=>(h k hk).keep g (hb k hk)
theorem Tag.ap {w:World} {v:Value} (h:Tag w v) {b:Nat} {c:Array Value} {T:TypeId} {fr:Nat×Nat} (hb:w.heap[b]?=some (.cells c T fr)) (hT:T≠132):∀k,OZ v k→k≠b:=fun k hk=>AHM (h k hk) hb hT
theorem Tag.own {w:World} {v u:Value} (h:Tag w v) {e:TypeId} {sz n:Nat} {xs:List Value} (ho:Own w e sz u n xs) (he:e≠132):∀k,OZ v k→¬BC u k:=fun k hk hu=>by
 obtain⟨c,fr,h1⟩:=Own.block ho hu
 exact h.ap h1 he k hk rfl
theorem Tag.of {w:World} {v:Value} {sz n:Nat} {xs:List Value} (ho:Own w 132 sz v n xs):Tag w v:=fun k hk=>Own.block ho hk.1
def RdTg (w:World) (s:Value) (l:List Nd):Prop:=RdT w s l∧Tag w s
section
variable {w w':World} {s:Value} {l:List Nd}
theorem RdTg.kn (h:RdTg w s l) (g:w.grownBy w' none):RdTg w' s l:=⟨h.1.kn g,h.2.kn g⟩
theorem RdTg.offR (h:RdTg w s l) {row:Option Nat} (g:w.grownBy w' row) (hb:∀k,OZ s k→row≠some k):RdTg w' s l:=⟨h.1.offR g hb,h.2.offR g hb⟩
theorem RdTg.lt (h:RdTg w s l):∀k,OZ s k→k<w.heap.size:=h.1.lt
end
def Sp.cl (B:Nat) (l:List Nd):Sp:=⟨fun w v=>∃ao cap,v=.slice ao l.length cap∧RdTg w (.slice ao l.length cap) l∧∀k,OZ (.slice ao l.length cap) k→B≤k,fun _ _ _ hg ⟨ao,cap,h1,h2,h3⟩=>⟨ao,cap,h1,h2.kn hg,h3⟩⟩
def Sp.ct (B:Nat) (l:List Nd):Sp:=⟨fun w v=>∃ao cap,v=.agg #[.slice ao l.length cap]∧RdTg w (.slice ao l.length cap) l∧∀k,OZ (.slice ao l.length cap) k→B≤k,fun _ _ _ hg ⟨ao,cap,h1,h2,h3⟩=>⟨ao,cap,h1,h2.kn hg,h3⟩⟩
theorem AJa {w0:World} {k:List Nat} {T:List Nd} (hk:Dg k) (hT:tree k []=T):∀W,w0.grownBy W none→Calls Tryz.prog 82 #[AQ k] W fun e W'=>∃v,e=.returned v∧W.grownBy W' none∧(Sp.ct w0.heap.size T).on W' v:=fun W g =>
 (AGu k hk W).mono fun e W' ⟨s,he,ho,hf⟩=>by
  have htag:Tag W' s:=Tag.of ho
  obtain⟨ao,cap,rfl,h1,h2⟩:=AMJ hk ho hf
  have h3:(1:Nat)=T.length:=by rw[←hT,Mm];rfl
  subst hT
  rw[h3] at h1 he hf htag
  exact⟨_,he,h2,ao,cap,rfl,⟨h1,htag⟩,fun k hk=>Nat.le_trans g.size ((hf.2 k hk.1).elim (fun h=>by simp[Value.ownBlock] at h) id)⟩
theorem AHN {w0:World} {k:List Nat} {T:List Nd} (hk:Dg k) (hT:tree k []=T):∀W,w0.grownBy W none→Calls Tryz.prog 85 #[AQ k] W fun e W'=>∃v,e=.returned v∧W.grownBy W' none∧(Sp.ct w0.heap.size T).on W' v:=fun W g =>
 (AFG k hk W).mono fun e W' ⟨s,he,ho,hf⟩=>by
  have htag:Tag W' s:=Tag.of ho
  obtain⟨ao,cap,rfl,h1,h2⟩:=AMJ hk ho hf
  have h3:(1:Nat)=T.length:=by rw[←hT,Mm];rfl
  subst hT
  rw[h3] at h1 he hf htag
  exact⟨_,he,h2,ao,cap,rfl,⟨h1,htag⟩,fun k hk=>Nat.le_trans g.size ((hf.2 k hk.1).elim (fun h=>by simp[Value.ownBlock] at h) id)⟩
theorem Cb {fn:Func} {p q:Tmp} {T:TypeId} {n:Nat} {D:List Deferred} {K:List (Nat×Value)} {a:Act} {w:World} {P:Program} (hr:fn.results=#[.cell p T,.tmp q]) (sv:Sv n D K a) {b:Nat} {cs:List Value} {v u:Value} {t1:TypeId} {fr1:Nat×Nat} (hx:Qr K p=true) (hp:lkV K p=.pointer (some ⟨b,0,none⟩)) (hy:Qr K q=true) (hq:lkV K q=u)
  (t:TY P T cs v) (hb:w.heap[b]?=some (.cells cs.toArray t1 fr1)):(results fn a.tmps).run P w=.ok (.tuple #[v,u]) w:=by
 have e1:=sv.2.2.at hx
 rw[hp] at e1
 have e2:=sv.2.2.at hy
 rw[hq] at e2
 have e:=t.load w b 0 (Av hb)
 have e1':a.tmps[p]?.getD undef=.pointer (some ⟨b,0,none⟩):=by rw[←e1,Array.getD_eq_getD_getElem?]
 have e2':a.tmps[q]?.getD undef=u:=by rw[←e2,Array.getD_eq_getD_getElem?]
 simp[results,hr,e1',e2',asAddr,e]
section
variable {P:Program} {ops:Array Oper} {L:Nat→Sp} {n:Nat} {w0:World} {o:Oper}
def OpXo (L:Nat→Sp) (n:Nat):Option Operand→Option Value→Prop
 | none,none=>True
 | some x,some v=>OpX L n x v
 | _,_=>False
theorem OpXo.eval {x:Option Operand} {v:Option Value} (h:OpXo L n x v) {a:Act} {w:World} (hx:∀y,x=some y→y∈o.op.operands.toList) (hl:∀t∈o.looksAt ops,t<n→(L t).on w (a.tmps.getD t undef)):x.map a.eval=v:=by
 cases x with
 | none=>cases v with
  | none=>rfl
  | some v=>exact h.elim
 | some x=>cases v with
  | none=>exact h.elim
  | some v=>exact congrArg some (OpX.eval (o:=o) h (hx x rfl) hl)
theorem I4 {t:TypeId} {x:Operand} {lo hi:Option Operand} {d:Nat} {p v:Value} {l u:Option Value} (ho:o.op=.slice t x lo hi none) (hd:o.dst=some d) (hg:GX ops L n o.guard) (hx:OpX L n x p) (hlo:OpXo L n lo l) (hhi:OpXo L n hi u)
  (hr:∀w,(Instr.sliceAt t p l u none).run P w=.ok v w) (h:∀w,(L d).on w v):OX P ops L n w0 o:=
 Fv hg fun a w hw hl hsz=>⟨v,by
  have e1:=hx.eval (o:=o) (by simp[ho,Op.operands]) hl
  have e2:=OpXo.eval (o:=o) hlo (a:=a) (w:=w) (fun y hy=>by subst hy;simp[ho,Op.operands]) hl
  have e3:=OpXo.eval (o:=o) hhi (a:=a) (w:=w) (fun y hy=>by subst hy;simp[ho,Op.operands]) hl
  simp only[execOp,ho,e1,e2,e3,Option.map_none,Sem.run_bind,Sem.run_pure,Result.andThen_ok,hr w],Da hd (h w)⟩
def GU (ops:Array Oper) (L:Nat→Sp) (n:Nat):Option (Nat×Bool)→Prop
 | none=>False
 | some (g,b)=>∃t,(ops[g]?).bind (·.dst)=some t∧decide (t<n)=true∧∀w v,(L t).on w v→v=undef
theorem GU.wanted {o:Oper} {a:Act} {w:World} (h:GU ops L n o.guard) (hl:∀t∈o.looksAt ops,t<n→(L t).on w (a.tmps.getD t undef)) (hs:a.tmps.size=n):Region.wanted o (yielded ops a.tmps)=false:=by
 unfold Region.wanted
 cases hg:o.guard with
 | none=>rw[hg] at h;exact h.elim
 | some p =>
  obtain⟨g,b⟩:=p
  rw[hg] at h
  obtain⟨t,ht,htn,hv⟩:=h
  have htn:=of_decide_eq_true htn
  have hv:=hv w _ (hl t (by simp[Oper.looksAt,hg,ht]) htn)
  have htl:t<a.tmps.size:=hs▸htn
  rw[Array.getD_eq_getD_getElem?,Array.getElem?_eq_getElem htl,Option.getD_some] at hv
  cases b<;>simp[yielded,ht,Array.getElem?_eq_getElem htl,hv,undef]
theorem Ba (hg:GU ops L n o.guard) {d:Nat} (hd:o.dst=some d) (h:∀w,(L d).on w undef):OX P ops L n w0 o:=by
 intro a w hw hl hs
 unfold OpSays
 rw[if_neg (by rw[hg.wanted hl hs];simp)]
 exact⟨World.grownBy.refl _ _,fun d' hd'=>by rw[hd] at hd';obtain rfl:=Option.some.inj hd';exact h w⟩
theorem SI (S:Sp) (av:List Value) {f d:Nat} {x:Operand} {args:Array Operand} {tys:Array TypeId} (ho:o.op=.call { callee:=.value x,args:=args,argTypes:=tys }) (hd:o.dst=some d) (hg:GX ops L n o.guard) (hx:OpX L n x (.func (.func f) #[] #[]))
  (hρ:OpXs L n args.toList av) (hc:∀w,w0.grownBy w none→Calls P f av.toArray w fun e w'=>∃v,e=.returned v∧w.grownBy w' none∧S.on w' v) (h:∀w v,S.on w v→(L d).on w v)
  (hrun:∀(av:Array Value) w,((Deferred.ofValue (.func (.func f) #[] #[]) av).run P w).andThen (fun a w'=>(invoke a.target a.args).run P w')=.ok (.enter f av) w):OX P ops L n w0 o:=by
 intro a w hw hl hsz
 unfold OpSays
 rw[if_pos (hg.wanted hl hsz)]
 have e1:=hx.eval (o:=o) (a:=a) (w:=w) (by simp[ho,Op.operands,Call.operands]) hl
 have hargs:args.map a.eval=av.toArray:=by
  have:=hρ.eval (o:=o) (a:=a) (w:=w) (fun x hx=>by simp only[ho,Op.operands,Call.operands];simp at hx;simp;exact .inr hx) hl
  rw[←this]
  apply Array.ext'
  simp
 have hr:(execOp a.eval o).run P w=.ok (.enter f av.toArray) w:=by
  simp only[execOp,ho,resolve,Sem.run_bind,e1]
  have h1:=hrun (args.map a.eval) w
  rw[hargs] at h1
  first
   | exact h1
   | (rw[hargs];exact h1)
 rw[hr]
 exact(hc w hw).mono fun e w' ⟨v,he,hg',hs⟩=>⟨v,he,hg',Da hd (h w' v hs)⟩
end
theorem I5 {P:Program} {Q:Exit→Act→World→Prop} {ops:Array Oper} {rest:List Oper} {o:Oper} {a:Act} {w:World} {n:Nat} {D:List Deferred} {K:List (Nat×Value)} (sv:Sv n D K a) (hgd:o.guard=none) {d:Nat} {fv:Fn} {caps:Array Operand} {vs:List Value} (ho:o.op=.makeFunc fv #[] caps) (hd:o.dst=some d) (hdn:decide (d<n)=true) (hc:AJW K caps.toList=true) (hvs:AFa K caps.toList=vs)
  (h:∀a',Sv n D ((d,.func fv #[] vs.toArray)::Ku d K) a'→wpList P ops Q rest a' w):wpList P ops Q (o::rest) a w:=by
 refine OH sv hgd (v:=.func fv #[] vs.toArray) (w':=w) hd hdn ?_ h
 have e:caps.map a.eval=vs.toArray:=by
  apply Array.ext'
  rw[Array.toList_map,sv.evs hc,hvs]
 simp only[execOp,ho,Instr.makeFunc,e,Sem.run_bind,Sem.run_pure,Result.andThen_ok,List.map_toArray,List.map_nil]
end Go.Proofs.YtbfjfnbcmojpiaaGreat
