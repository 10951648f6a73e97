import Derived.Test.YtbfjfnbcmojpiaaGreatSF
import Derived.Handy
import Derived.Lib.AppendStr
namespace Go.Proofs.YtbfjfnbcmojpiaaGreat
open Go.RowKit Go.Shelf
set_option linter.unusedSimpArgs false
set_option linter.unusedVariables false
attribute [local go_sem] Oper.semAt_some
theorem wpList_appstr {P:Program} {t u e:TypeId} (E:ET P t e (.int .u8 0) 1 1) (hu:P.underlying u=some .string) {w:World} {ops:Array Oper} {rest:List Oper} {o:Oper} {a:Act} {Q:Exit→Act→World→Prop}
   (hgd:o.guard=none) (s x:Operand) (ho:o.op=.call { callee:=.builtin .append,args:=#[s,x],argTypes:=#[t,u] })
   (v:Value) (n:Nat) (xs:List Value) (hs:a.eval s=v) (hown:Own w e 1 v n xs) (str:ByteArray) (hx:a.eval x=.string str) (h63:n+str.size≤1099511627776)
   (h:∀ v' w',Own w' e 1 v' (n+str.size) (xs ++ Lib.strCells str)→Step w v w' v'→wpList P ops Q rest (a.put o.dst v') w') :
   wpList P ops Q (o :: rest) a w:=by
 refine wpList_plain hgd fun K hK=>?_
 obtain ⟨i,hi,hz,hsz,hby⟩:=E.inf
 obtain ⟨v',w',hr,h2,h3,h4⟩:=Lib.run_append_own_string (P:=P) w 0 t u o.type e i E.und hu hi hz hsz hby v n xs hown str (by unfold maxLen;omega) (by omega) (Nat.zero_le _)
 have h5:Step w v w' v':=by
   refine ⟨h3,?_⟩
   have hl2:xs.length=n:=by simpa using hown.1
   rcases hown.2 with ⟨rfl,rfl⟩ | ⟨g,cap',cur,rfl,hbg,hg,hnc,hcm,hcs,htake⟩
   · by_cases hm0:str.size=0
     · have:=h4.2 ⟨rfl,hm0⟩
       subst this
       intro k hk;simp [Value.ownBlock] at hk
     · have hr2:=run_append_nil_string (P:=P) w t u o.type e i (.int .u8 0) E.und hu hi hz str (by omega) (by omega) (by rw [hby];omega)
       rw [hr2] at hr
       simp only [Result.ok.injEq] at hr
       obtain ⟨rfl,_⟩:=hr
       intro k hk
       simp [Value.ownBlock] at hk
       exact .inr (by omega)
   · by_cases hroom:n+str.size≤cap'
     · have hr2:=Lib.run_append_room_string (P:=P) w t u o.type e i E.und hu hi hsz g n cap' cur hg str hroom (by omega)
       rw [hr2] at hr
       simp only [Result.ok.injEq] at hr
       obtain ⟨rfl,_⟩:=hr
       intro k hk
       exact .inl hk
     · have holds:∀ j u,xs[j]?=some u→w.cell? ((⟨g,0,none⟩:Addr).add j)=some u:=hown.cells (g:=g) rfl
       have hr2:=Lib.run_append_grow_string (P:=P) w t u o.type e i (.int .u8 0) E.und hu hi hz ⟨g,0,none⟩ n cap' xs (by rw [hsz];omega) holds str (by omega) (by omega) (growslice_fits (by omega) (by rw [hby];omega))
       rw [hr2] at hr
       simp only [Result.ok.injEq] at hr
       obtain ⟨rfl,_⟩:=hr
       intro k hk
       simp [Value.ownBlock] at hk
       exact .inr (by omega)
 unfold Oper.wp execOp
 simp only [ho,resolve,invoke,builtin,Sem.run_bind,Sem.run_pure,Result.andThen_ok,List.map_toArray,List.map_cons,List.map_nil,hs,hx,hr]
 exact hK _ _ (h v' w' h2 h5)
theorem leb_small {u:Nat} (h:u < 128):leb u=[u]:=by rw [leb,if_pos h]
theorem leb_big {u:Nat} (h:¬ u < 128):leb u=(u % 128+128) :: leb (u / 128):=by rw [leb,if_neg h]
theorem leb_len (k u:Nat) (h:u < 128 ^ k) (hk:0 < k):(leb u).length≤k:=by
 induction k generalizing u with
 | zero=>omega
 | succ k ih =>
   by_cases hu:u < 128
   · rw [leb_small hu];simp
   · rw [leb_big hu]
     have:0 < k:=by
       rcases Nat.eq_zero_or_pos k with rfl | h'
       · simp at h;omega
       · exact h'
     have:=ih (u / 128) (by rw [Nat.pow_succ] at h;omega) this
     simp;omega
theorem zig_lt {n:Int} (h0:-9223372036854775808≤n) (h1:n≤9223372036854775807):zig n < 18446744073709551616:=by
 unfold zig;split <;> omega
theorem enc_len {n:Int} (h0:-9223372036854775808≤n) (h1:n≤9223372036854775807):(enc n).length≤10:=by
 have:=zig_lt h0 h1
 exact leb_len 10 _ (Nat.lt_of_lt_of_le this (by decide)) (by decide)
theorem u64_not (a:Nat) (ha:a < 18446744073709551616):bits .xor .u64 IntKind.u64.max (a:Int)=((18446744073709551615 - a:Nat):Int):=by
 have e:IntKind.u64.max=((18446744073709551615:Nat):Int):=by decide
 rw [e,u64_xor_nat _ _ (by decide) ha]
 congr 1
 have h:=BitVec.toNat_not (x:=BitVec.ofNat 64 a)
 rw [← BitVec.allOnes_xor,BitVec.toNat_xor,BitVec.toNat_allOnes,BitVec.toNat_ofNat,Nat.mod_eq_of_lt (by omega)] at h
 simpa using h
theorem u64_of (n:Int) (h0:-9223372036854775808≤n) (h1:n≤9223372036854775807):∃ m m2:Nat,IntKind.u64.wrap n=(m:Int)∧IntKind.u64.wrap ((m:Int) * 2)=(m2:Int) ∧
   (0≤n→m2=zig n)∧(n < 0→bits BinOp.xor IntKind.u64 IntKind.u64.max (m2:Int)=(zig n:Nat)):=by
 by_cases hn:n < 0
 · refine ⟨(n+18446744073709551616).toNat,(n*2+18446744073709551616).toNat,by rw [IntKind.wrap_u64];omega,by rw [IntKind.wrap_u64];omega,fun h=>by omega,fun _=>?_⟩
   rw [u64_not _ (by omega)]
   unfold zig;rw [if_pos hn];omega
 · refine ⟨n.toNat,(2 * n).toNat,by rw [IntKind.wrap_u64];omega,by rw [IntKind.wrap_u64];omega,fun h=>by unfold zig;rw [if_neg hn],fun h=>absurd h hn⟩
theorem strCells_bs (l:List Nat) (h:∀ b ∈ l,b < 256):Lib.strCells (bs l)=bv l:=by
 unfold Lib.strCells bs bv
 simp only [List.map_map]
 refine List.map_congr_left fun b hb=>?_
 have:=h b hb
 simp
 omega
theorem take_flat {α β:Type} (f:α→List β) (l:List α) (k:Nat) (h:k < l.length):(l.take (k+1)).flatMap f=(l.take k).flatMap f ++ f l[k]:=by
 rw [List.take_succ_eq_append_getElem h];simp only [List.flatMap_append,List.flatMap_cons,List.flatMap_nil,List.append_nil]
theorem flat_enc_len (ns:List Int) (hr:∀ n ∈ ns,-9223372036854775808≤n∧n≤9223372036854775807):(ns.flatMap enc).length≤10 * ns.length:=by
 induction ns with
 | nil=>simp
 | cons a l ih =>
   have h1:=ih fun n hn=>hr n (List.mem_cons_of_mem _ hn)
   have h2:=hr a List.mem_cons_self
   have h3:=enc_len h2.1 h2.2
   simp only [List.flatMap_cons,List.length_append,List.length_cons];omega
theorem or128 (q:Nat):q % 256 ||| 128=q % 128+128:=by
 have h1:q % 256 < 256:=Nat.mod_lt _ (by decide)
 have h2:q % 128=q % 256 % 128:=by omega
 rw [h2]
 generalize q % 256=r at *
 have:∀ r:Fin 256,r.val ||| 128=r.val % 128+128:=by decide +kernel
 exact this ⟨r,h1⟩
set_option maxRecDepth 100000 in
set_option maxHeartbeats 1000000 in
theorem ints_walk (v s:Value) (xs:List Nat) (ns:List Int) (w:World) (hown:Own w 5 1 v xs.length (bv xs)) (hs:Sl w 1 s ns.length (ns.map (.int .i64))) (hne:s.ownBlock=none∨s.ownBlock≠v.ownBlock)
   (hr:∀ n ∈ ns,-9223372036854775808≤n∧n≤9223372036854775807) (hlen:xs.length+10 * ns.length≤1099511627776) :
   Calls Tryz.prog 132 #[v,s] w fun e w'=>∃ v',e=.returned v'∧Own w' 5 1 v' (xs ++ ns.flatMap enc).length (bv (xs ++ ns.flatMap enc))∧Step w v w' v':=by
 obtain ⟨ao,cap,rfl,hnc,hcm⟩:=hs.shape
 go_enter Tryz.func132,Tryz.ntmps132
 go_wp2
 go_loopw [0,10] (fun b i wr=>∃ k:Nat,k≤ns.length∧i=.int .i64 k∧Own wr 5 1 b (xs ++ (ns.take k).flatMap enc).length (bv (xs ++ (ns.take k).flatMap enc))∧Step w v wr b) (fun _ i _=>ns.length - (intOf i).toNat)
 case atStart=>exact ⟨0,Nat.zero_le _,rfl,by simpa using hown,Step.refl _ _⟩
 case round =>
   obtain ⟨k,hk,rfl,hownk,hst⟩:=hrel
   by_cases hlt:k < ns.length
   · have hsk:=hs.kept hst.1 hne
     obtain ⟨blk,off,rfl,hc⟩:=hsk.at k (by simpa using hlt)
     have hcell:wr.cell? ⟨blk,off+k,none⟩=some (.int .i64 ns[k]):=(hc k (by simpa using hlt)).trans (by rw [List.getElem_map])
     have HT:=hid (take_flat enc ns k hlt)
     have hrk:=hr ns[k] (List.getElem_mem hlt)
     generalize ns[k]=x at *
     obtain ⟨m,m2,hm,hm2,hp,hq⟩:=u64_of x hrk.1 hrk.2
     have hz:=zig_lt hrk.1 hrk.2
     have hfl:=flat_enc_len (ns.take k) fun n hn=>hr n (List.mem_of_mem_take hn)
     rw [List.length_take,Nat.min_eq_left (by omega)] at hfl
     have hxl:xs.length+((ns.take k).flatMap enc).length+10≤1099511627776:=by omega
     have hex:=enc_len hrk.1 hrk.2
     have HE:Hid (enc x=leb (zig x)):=rfl
     rw [HE.out] at hex
     generalize zig x=z at *
     generalize hpre:xs ++ (ns.take k).flatMap enc=pre at *
     have hxl2:pre.length+10≤1099511627776:=by rw [← hpre,List.length_append];exact hxl
     clear hc hsk hs hr hfl hxl
     have HP:=hid hpre;clear hpre
     by_cases hn:x < 0
     all_goals
       go_wp2
       go_loopw [0,7] (fun b u wr=>∃ (q:Nat) (l:List Nat),q < 18446744073709551616∧l ++ leb q=pre ++ leb z∧u=.int .u64 q∧Own wr 5 1 b l.length (bv l)∧Step w v wr b) (fun _ u _=>(intOf u).toNat)
       case atStart=>exact ⟨z,pre,hz,rfl,rfl,hownk,hst⟩
       case round =>
         obtain ⟨q,l,hq2,hl1,rfl,hownl,hstl⟩:=hrel
         have hll:l.length+(leb q).length≤pre.length+10:=by rw [← List.length_append,hl1,List.length_append];omega
         by_cases hk2:q < 128
         · rw [leb_small hk2] at hl1 hll
           go_wp2_with (at_builtin;go_must (refine wpList_push bytesT rfl _ _ rfl _ _ _ rfl hownl [_] 1 rfl rfl rfl (by simp at hll;omega) ?_;intro v' w' hown' hg'))
           go_roundw
           case rel=>exact ⟨k+1,by omega,by go_num,by rw [HT.out,← List.append_assoc,HP.out,HE.out,← hl1];simpa [bv] using hown',hstl.trans hg'⟩
           case measure=>simp [intOf];omega
         · rw [leb_big hk2] at hl1 hll
           obtain ⟨c,hc8,hc9⟩:∃ c:Nat,IntKind.u8.wrap (q:Int)=(c:Int)∧c=q % 256:=⟨q % 256,by rw [IntKind.wrap_u8];omega,rfl⟩
           obtain ⟨d,hd8,hd9⟩:∃ d:Nat,bits BinOp.or IntKind.u8 (c:Int) 128=(d:Int)∧d=q % 128+128:=by
             refine ⟨_,u8_or_nat c 128 (by omega) (by omega),?_⟩
             subst hc9
             exact or128 q
           have HD:=hid hd9
           clear hc9 hd9
           go_wp2_with (at_builtin;go_must (refine wpList_push bytesT rfl _ _ rfl _ _ _ rfl hownl [_] 1 rfl rfl rfl (by simp at hll;omega) ?_;intro v' w' hown' hg'))
           go_roundw
           case rel=>exact ⟨q / 128,l ++ [q % 128+128],by omega,by simpa using hl1,by go_num,by rw [← HD.out];simpa [bv] using hown',hstl.trans hg'⟩
           case measure=>simp [intOf];omega
   · obtain rfl:k=ns.length:=by omega
     go_wp2
     go_ret
     rw [List.take_length] at hownk
     exact ⟨_,rfl,hownk,hst⟩
theorem run_grow {P:Program} {t e:TypeId} {z:Value} {size bytes:Nat} (E:ET P t e z size bytes) (ty:TypeId) {w:World} {ao:Option Addr} {n:Nat} {xs:List Value} (hv:Sl w size (.slice ao n n) n xs)
   {sv:Value} {m:Nat} {news:List Value} (hs:Sl w size sv m news) (hm:0 < m) (h1:news.all Value.oneCell'=true) (h63:n+m≤1099511627776) :
   ∃ v' w',(Builtin.append_ #[t,t] ty #[.slice ao n n,sv]).run P w=.ok v' w'∧Own w' e size v' (n+m) (xs ++ news)∧Fresh w w' v':=by
 have hvs:=hv
 obtain ⟨hlx,ao',cap',hvv,_,_,h3,h4⟩:=hv
 simp only [Value.slice.injEq] at hvv
 obtain ⟨rfl,_,rfl⟩:=hvv
 cases ao with
 | none =>
   obtain rfl:=h3 rfl
   have hx:xs=[]:=List.eq_nil_of_length_eq_zero (by simpa using hlx)
   subst hx
   obtain ⟨v',w',h5,h6,h7⟩:=run_app E ty (Own.nil w e size) hs h1 (by omega)
   exact ⟨v',w',h5,h6,h7⟩
 | some a =>
   have hc:=hvs.rd
   obtain ⟨i,hi,hz,rfl,hby⟩:=E.inf
   have hb:=E.bnd
   have hss:=hs
   obtain ⟨hl,ao2,cap,rfl,hm1,hm2,h3',h4'⟩:=hs
   cases ao2 with
   | none=>have:=h3' rfl;omega
   | some ad =>
     have hc2:=hss.rd
     have hbytes:(n+m) * bytes≤140737488355328:=by
       have:(n+m) * bytes≤1099511627776 * 128:=Nat.mul_le_mul h63 hb
       omega
     have hcm:grownCap w (n+m) n e≤maxLen:=grownCap_le_maxLen w (n+m) n e (by unfold maxLen;omega)
     have hge:=grownCap_ge w (n+m) n e
     refine ⟨_,_,run_append_grow (P:=P) w t ty e i z E.und hi hz a n n xs hlx hc ad m cap news hl hc2 (by omega) (by omega)
       (growslice_fits (by omega) (by subst hby;exact hbytes)),⟨by rw [List.length_append,hlx,hl,Nat.add_mul],.inr ⟨w.heap.size,_,_,rfl,Nat.zero_le _,heap_alloc_new w.drew _,hge,hcm,?_,?_⟩⟩,⟨⟨rfl,rfl,rfl,by simp,fun k hk _=>heap_alloc_old w.drew _ hk⟩,fun k hk=>.inr ?_⟩⟩
     · have hz1:=E.zsz
       simp only [Array.size_append,List.size_toArray,size_zeroCells,hz1,hlx,hl,← Nat.add_mul]
       congr 1
       omega
     · simp only [Array.toList_append,List.append_assoc]
       rw [← List.append_assoc,Nat.add_mul,← hlx,← hl,← List.length_append]
       exact List.take_left
     · simp [Value.ownBlock] at hk
       omega
theorem wpList_grow {P:Program} {t e:TypeId} {z:Value} {size bytes:Nat} (E:ET P t e z size bytes) {w:World} {ops:Array Oper} {rest:List Oper} {o:Oper} {a:Act} {Q:Exit→Act→World→Prop}
   (hgd:o.guard=none) (s x:Operand) (ho:o.op=.call { callee:=.builtin .append,args:=#[s,x],argTypes:=#[t,t] })
   (ao:Option Addr) (n:Nat) (xs:List Value) (hs:a.eval s=.slice ao n n) (hv:Sl w size (.slice ao n n) n xs)
   (sv:Value) (m:Nat) (news:List Value) (hx:a.eval x=sv) (hsl:Sl w size sv m news) (hm:0 < m) (h1:news.all Value.oneCell'=true) (h63:n+m≤1099511627776)
   (h:∀ v' w',Own w' e size v' (n+m) (xs ++ news)→Fresh w w' v'→wpList P ops Q rest (a.put o.dst v') w') :
   wpList P ops Q (o :: rest) a w:=by
 refine wpList_plain hgd fun K hK=>?_
 obtain ⟨v',w',hr,h2,h3⟩:=run_grow E o.type hv hsl hm h1 h63
 unfold Oper.wp execOp
 simp only [ho,resolve,invoke,builtin,Sem.run_bind,Sem.run_pure,Result.andThen_ok,List.map_toArray,List.map_cons,List.map_nil,hs,hx,hr]
 exact hK _ _ (h v' w' h2 h3)
theorem bv_cells (l:List Nat):(bv l).all Value.oneCell'=true:=by simp [bv,Value.oneCell']
set_option maxRecDepth 100000 in
theorem extend_walk (v s:Value) (xs ys:List Nat) (w:World) (hv:Sl w 1 v xs.length (bv xs)) (hs:Sl w 1 s ys.length (bv ys)) (hm:0 < ys.length) (h63:xs.length+ys.length≤1099511627776) :
   Calls Tryz.prog 99 #[v,s] w fun e w'=>∃ v',e=.returned v'∧Own w' 5 1 v' (xs ++ ys).length (bv (xs ++ ys))∧Fresh w w' v':=by
 obtain ⟨ao,cap,rfl,hnc,hcm⟩:=hv.shape
 obtain ⟨ao2,cap2,rfl,hnc2,hcm2⟩:=hs.shape
 go_enter Tryz.func99,Tryz.ntmps99
 have hv':Sl w 1 (.slice ao xs.length xs.length) xs.length (bv xs):=by
   obtain ⟨h1,ao',cap',h2,h3,h4,h5,h6⟩:=hv
   simp only [Value.slice.injEq] at h2
   obtain ⟨rfl,_,rfl⟩:=h2
   exact ⟨h1,ao,_,rfl,Nat.le_refl _,by omega,fun h=>by have:=h5 h;omega,h6⟩
 go_wp2_with (at_builtin;go_must (refine wpList_grow bytesT rfl _ _ rfl _ _ _ rfl hv' _ _ _ rfl hs hm (bv_cells _) h63 ?_;intro v' w' hown' hg'))
 go_ret
 exact ⟨_,rfl,by rw [List.length_append,bv_append];exact hown',hg'⟩
def by_ (s:ByteArray):List Nat:=s.data.toList.map UInt8.toNat
theorem by_len (s:ByteArray):(by_ s).length=s.size:=by unfold by_;rw [List.length_map];rfl
theorem by_lt (s:ByteArray):∀ b ∈ by_ s,b < 256:=by
 intro b hb
 simp only [by_,List.mem_map] at hb
 obtain ⟨u,_,rfl⟩:=hb
 exact u.toNat_lt
theorem bs_by (s:ByteArray):bs (by_ s)=s:=by
 unfold bs by_
 rw [List.map_map]
 have e:(fun n=>UInt8.ofNat n) ∘ UInt8.toNat=id:=funext fun u=>by simp
 rw [e,List.map_id]
abbrev In64 (n:Int):Prop:=-9223372036854775808≤n∧n≤9223372036854775807
def encT (s:ByteArray):List Nat:=enc s.size ++ by_ s
structure V where
 kind:Int
 int:Int
 text:ByteArray
structure Idf where
 ns:ByteArray
 val:V
def V.nul:V:=⟨0,0,ByteArray.empty⟩
def V.ok (v:V):Prop:=(v.kind=0∧v.int=0∧v.text=ByteArray.empty)∨(v.kind=1∧-4294967296≤v.int∧v.int≤4294967296∧v.text=ByteArray.empty)∨(v.kind=2∧v.int=0∧v.text.size≤32)
instance (v:V):Decidable v.ok:=by unfold V.ok;infer_instance
def V.clean (v:V):V:=if v.ok then v else V.nul
theorem V.nul_ok:V.nul.ok:=.inl ⟨rfl,rfl,rfl⟩
theorem V.clean_ok (v:V):v.clean.ok:=by
 unfold V.clean
 split
 · assumption
 · exact V.nul_ok
theorem V.clean_of {v:V} (h:v.ok):v.clean=v:=if_pos h
theorem V.ok_text {v:V} (h:v.ok):v.text.size≤32:=by
 rcases h with ⟨_,_,h⟩ | ⟨_,_,_,h⟩ | ⟨_,_,h⟩
 · rw [h];decide
 · rw [h];decide
 · exact h
theorem V.ok_kind {v:V} (h:v.ok):In64 v.kind∧In64 v.int:=by
 unfold V.ok at h
 omega
def encC (v:V):List Nat:=enc v.kind ++ (if v.kind=1 then enc v.int else if v.kind=2 then encT v.text else [])
def encV (v:V):List Nat:=encC v.clean
theorem setCells_all {w:World} {b:Nat} {t:TypeId} {c0:Array Value} (cs:List Value) (hb:w.heap[b]?=some (.cells c0 t (0,0))) (hc:c0.size=cs.length) :
   w.grownBy (w.setCells b 0 cs) (some b)∧(w.setCells b 0 cs).heap[b]?=some (.cells cs.toArray t (0,0)):=
 ⟨setCells_grown b cs 0 w,setCells_row b t cs 0 w [] c0.toList rfl (by simpa using hc.symm) (by simpa using hb)⟩
def xval (v:V):Value:=.agg #[.int .i64 v.kind,.int .i64 v.int,.string v.text]
theorem tyV (v:V):TY Tryz.prog 25 [.int .i64 v.kind,.int .i64 v.int,.string v.text] (xval v):=TY.agg Tryz.underlying25 rfl (by kernel_rfl) (by simp [Value.oneCell'])
theorem toList_ne {t:ByteArray} (h:t≠ByteArray.empty):t.toList.isEmpty=false:=by
 rw [ByteArray.toList_eq]
 cases he:t.data.toList with
 | nil=>exact absurd (ByteArray.ext (by apply Array.ext';rw [he];rfl)) h
 | cons a l=>rfl
set_option maxRecDepth 100000 in
set_option maxHeartbeats 1000000 in
theorem pvalid_walk (k n:Int) (t:ByteArray) (w:World) :
   Calls Tryz.prog 149 #[.agg #[.int .i64 k,.int .i64 n,.string t]] w fun e w'=>e=.returned (.bool (decide (V.ok ⟨k,n,t⟩)))∧w.grownBy w' none:=by
 have ga:=World.grownBy_alloc w (.cells #[.int .i64 k,.int .i64 n,.string t] 25) none
 have GA:=hid ga
 clear ga
 have fin:∀ (b:Bool),(V.ok ⟨k,n,t⟩↔b=true)→Ending.returned (.bool b)=Ending.returned (.bool (decide (V.ok ⟨k,n,t⟩))):=fun b h=>by
   congr 2
   rw [Bool.eq_iff_iff,← h]
   simp
 have FIN:=hid fin
 clear fin
 have te:ByteArray.empty.toList.isEmpty=true:=by rw [ByteArray.toList_eq];rfl
 by_cases h0:k=0
 · subst h0
   by_cases hn:n=0
   · subst hn
     by_cases ht:t=ByteArray.empty
     · subst ht
       go_enter Tryz.func149,Tryz.ntmps149
       go_wp2
       go_ret
       exact ⟨FIN.out _ (by simp [V.ok]),GA.out⟩
     · have te2:=toList_ne ht
       have HT:=hid ht
       clear ht
       go_enter Tryz.func149,Tryz.ntmps149
       go_wp2
       go_ret
       exact ⟨FIN.out _ (by have:=HT.out;simp [V.ok];omega),GA.out⟩
   · have hn2:(n == 0)=false:=by simpa using hn
     have HN:=hid hn
     clear hn
     go_enter Tryz.func149,Tryz.ntmps149
     go_wp2
     go_ret
     exact ⟨FIN.out _ (by have:=HN.out;simp [V.ok,this]),GA.out⟩
 by_cases h1:k=1
 · subst h1
   clear h0
   by_cases hn:-4294967296≤n
   · by_cases hn':n≤4294967296
     · by_cases ht:t=ByteArray.empty
       · subst ht
         go_enter Tryz.func149,Tryz.ntmps149
         go_wp2
         go_ret
         exact ⟨FIN.out _ (by simp [V.ok,hn,hn']),GA.out⟩
       · have te2:=toList_ne ht
         have HT:=hid ht
         clear ht
         go_enter Tryz.func149,Tryz.ntmps149
         go_wp2
         go_ret
         exact ⟨FIN.out _ (by have:=HT.out;simp [V.ok,this]),GA.out⟩
     · have d2:decide (n≤4294967296)=false:=decide_eq_false hn'
       have HN:=hid hn'
       go_enter Tryz.func149,Tryz.ntmps149
       go_wp2
       go_ret
       exact ⟨FIN.out _ (by have:=HN.out;simp [V.ok];omega),GA.out⟩
   · have d2:decide (-4294967296≤n)=false:=decide_eq_false hn
     have HN:=hid hn
     clear hn
     go_enter Tryz.func149,Tryz.ntmps149
     go_wp2
     go_ret
     exact ⟨FIN.out _ (by have:=HN.out;simp [V.ok];omega),GA.out⟩
 by_cases h2:k=2
 · subst h2
   clear h0 h1
   by_cases hn:n=0
   · subst hn
     by_cases ht:t.size≤32
     · have d2:decide (t.size≤32)=true:=decide_eq_true ht
       go_enter Tryz.func149,Tryz.ntmps149
       go_wp2
       go_ret
       exact ⟨FIN.out _ (by simp [V.ok];omega),GA.out⟩
     · have d2:decide (t.size≤32)=false:=decide_eq_false ht
       have HT:=hid ht
       clear ht
       go_enter Tryz.func149,Tryz.ntmps149
       go_wp2
       go_ret
       exact ⟨FIN.out _ (by have:=HT.out;simp [V.ok];omega),GA.out⟩
   · have hn2:(n == 0)=false:=by simpa using hn
     have HN:=hid hn
     clear hn
     go_enter Tryz.func149,Tryz.ntmps149
     go_wp2
     go_ret
     exact ⟨FIN.out _ (by have:=HN.out;simp [V.ok,this]),GA.out⟩
 have k0:(k == 0)=false:=by simpa using h0
 have k1:(k == 1)=false:=by simpa using h1
 have k2:(k == 2)=false:=by simpa using h2
 have H:=hid (And.intro h0 (And.intro h1 h2))
 clear h0 h1 h2
 go_enter Tryz.func149,Tryz.ntmps149
 go_wp2
 go_ret
 exact ⟨FIN.out _ (by have:=H.out;simp [V.ok,this]),GA.out⟩
set_option maxRecDepth 100000 in
theorem pclean_walk (v:V) (w:World):Calls Tryz.prog 131 #[xval v] w fun e w'=>e=.returned (xval v.clean)∧w.grownBy w' none:=by
 obtain ⟨k,n,t⟩:=v
 unfold xval
 have hc:decide (V.ok ⟨k,n,t⟩)=true∧V.clean ⟨k,n,t⟩=⟨k,n,t⟩∨decide (V.ok ⟨k,n,t⟩)=false∧V.clean ⟨k,n,t⟩=V.nul:=by
   by_cases h:V.ok ⟨k,n,t⟩
   · exact .inl ⟨decide_eq_true h,V.clean_of h⟩
   · exact .inr ⟨decide_eq_false h,if_neg h⟩
 rcases hc with ⟨h1,h2⟩ | ⟨h1,h2⟩
 all_goals
   rw [h2]
   clear h2
   have HV:∀ w,Calls Tryz.prog 149 #[.agg #[.int .i64 k,.int .i64 n,.string t]] w _:=fun w=>(pvalid_walk k n t w)
   rw [h1] at HV
   have H:=hid HV
   clear HV h1
   go_enter Tryz.func131,Tryz.ntmps131
   go_wp2_with fail
   refine (H.out _).mono ?_
   rintro e w1 ⟨rfl,hg⟩
   have c1:=row_of hg (heap_past (o:=.cells #[.int .i64 0,.int .i64 0,.string ⟨#[]⟩] 25) (w:=w.alloc (.cells #[.int .i64 k,.int .i64 n,.string t] 25)) (n:=w.heap.size) (by simp) |>.trans (heap_at rfl)) (by simp)
   have c2:=row_of hg (heap_at (o:=.cells #[.int .i64 0,.int .i64 0,.string ⟨#[]⟩] 25) (w:=w.alloc (.cells #[.int .i64 k,.int .i64 n,.string t] 25)) (n:=w.heap.size+1) (by simp)) (by simp)
   have C1:=hid c1
   have C2:=hid c2
   clear c1 c2
   have x1:∀ j,w1.cell? ⟨w.heap.size,j,none⟩=(#[Value.int .i64 k,.int .i64 n,.string t]:Array Value)[j]?:=fun j=>cell_of_row w1 _ j _ _ _ C1.out
   have x2:∀ j,w1.cell? ⟨w.heap.size+1,j,none⟩=(#[Value.int .i64 0,.int .i64 0,.string ⟨#[]⟩]:Array Value)[j]?:=fun j=>cell_of_row w1 _ j _ _ _ C2.out
   have y2:∀ j,w1.frozen? ⟨w.heap.size+1,j,none⟩=false:=fun j=>frozen_of_row w1 _ j _ _ C2.out
   go_wp2
 · obtain ⟨s1,s2⟩:=setCells_all [.int .i64 k,.int .i64 n,.string t] C2.out rfl
   exact ret_cell rfl rfl (tyV ⟨k,n,t⟩) s2 rfl ⟨rfl,grown_newR (grown_trans (grown_trans (World.grownBy_alloc _ _ _) (World.grownBy_alloc _ _ _)) hg) s1 (by omega)⟩
 · obtain ⟨s1,s2⟩:=setCells_all [.int .i64 0,.int .i64 0,.string ⟨#[]⟩] C2.out rfl
   exact ret_cell rfl rfl (tyV V.nul) s2 rfl ⟨rfl,grown_newR (grown_trans (grown_trans (World.grownBy_alloc _ _ _) (World.grownBy_alloc _ _ _)) hg) s1 (by omega)⟩
set_option maxRecDepth 100000 in
set_option maxHeartbeats 1000000 in
theorem rvalval_walk (k n:Int) (t:ByteArray) (w:World) :
   Calls Tryz.prog 67 #[.agg #[.int .i64 k,.int .i64 n,.string t]] w fun e w'=>e=.returned (.bool (decide (V.ok ⟨k,n,t⟩)))∧w.grownBy w' none:=by
 have ga:=World.grownBy_alloc w (.cells #[.int .i64 k,.int .i64 n,.string t] 25) none
 have GA:=hid ga
 clear ga
 have fin:∀ (b:Bool),(V.ok ⟨k,n,t⟩↔b=true)→Ending.returned (.bool b)=Ending.returned (.bool (decide (V.ok ⟨k,n,t⟩))):=fun b h=>by
   congr 2
   rw [Bool.eq_iff_iff,← h]
   simp
 have FIN:=hid fin
 clear fin
 have te:ByteArray.empty.toList.isEmpty=true:=by rw [ByteArray.toList_eq];rfl
 by_cases h0:k=0
 · subst h0
   by_cases hn:n=0
   · subst hn
     by_cases ht:t=ByteArray.empty
     · subst ht
       go_enter Tryz.func67,Tryz.ntmps67
       go_wp2
       go_ret
       exact ⟨FIN.out _ (by simp [V.ok]),GA.out⟩
     · have te2:=toList_ne ht
       have HT:=hid ht
       clear ht
       go_enter Tryz.func67,Tryz.ntmps67
       go_wp2
       go_ret
       exact ⟨FIN.out _ (by have:=HT.out;simp [V.ok];omega),GA.out⟩
   · have hn2:(n == 0)=false:=by simpa using hn
     have HN:=hid hn
     clear hn
     go_enter Tryz.func67,Tryz.ntmps67
     go_wp2
     go_ret
     exact ⟨FIN.out _ (by have:=HN.out;simp [V.ok,this]),GA.out⟩
 by_cases h1:k=1
 · subst h1
   clear h0
   by_cases hn:-4294967296≤n
   · by_cases hn':n≤4294967296
     · by_cases ht:t=ByteArray.empty
       · subst ht
         go_enter Tryz.func67,Tryz.ntmps67
         go_wp2
         go_ret
         exact ⟨FIN.out _ (by simp [V.ok,hn,hn']),GA.out⟩
       · have te2:=toList_ne ht
         have HT:=hid ht
         clear ht
         go_enter Tryz.func67,Tryz.ntmps67
         go_wp2
         go_ret
         exact ⟨FIN.out _ (by have:=HT.out;simp [V.ok,this]),GA.out⟩
     · have d2:decide (n≤4294967296)=false:=decide_eq_false hn'
       have HN:=hid hn'
       go_enter Tryz.func67,Tryz.ntmps67
       go_wp2
       go_ret
       exact ⟨FIN.out _ (by have:=HN.out;simp [V.ok];omega),GA.out⟩
   · have d2:decide (-4294967296≤n)=false:=decide_eq_false hn
     have HN:=hid hn
     clear hn
     go_enter Tryz.func67,Tryz.ntmps67
     go_wp2
     go_ret
     exact ⟨FIN.out _ (by have:=HN.out;simp [V.ok];omega),GA.out⟩
 by_cases h2:k=2
 · subst h2
   clear h0 h1
   by_cases hn:n=0
   · subst hn
     by_cases ht:t.size≤32
     · have d2:decide (t.size≤32)=true:=decide_eq_true ht
       go_enter Tryz.func67,Tryz.ntmps67
       go_wp2
       go_ret
       exact ⟨FIN.out _ (by simp [V.ok];omega),GA.out⟩
     · have d2:decide (t.size≤32)=false:=decide_eq_false ht
       have HT:=hid ht
       clear ht
       go_enter Tryz.func67,Tryz.ntmps67
       go_wp2
       go_ret
       exact ⟨FIN.out _ (by have:=HT.out;simp [V.ok];omega),GA.out⟩
   · have hn2:(n == 0)=false:=by simpa using hn
     have HN:=hid hn
     clear hn
     go_enter Tryz.func67,Tryz.ntmps67
     go_wp2
     go_ret
     exact ⟨FIN.out _ (by have:=HN.out;simp [V.ok,this]),GA.out⟩
 have k0:(k == 0)=false:=by simpa using h0
 have k1:(k == 1)=false:=by simpa using h1
 have k2:(k == 2)=false:=by simpa using h2
 have H:=hid (And.intro h0 (And.intro h1 h2))
 clear h0 h1 h2
 go_enter Tryz.func67,Tryz.ntmps67
 go_wp2
 go_ret
 exact ⟨FIN.out _ (by have:=H.out;simp [V.ok,this]),GA.out⟩
set_option maxRecDepth 100000 in
theorem rclean_walk (v:V) (w:World):Calls Tryz.prog 25 #[xval v] w fun e w'=>e=.returned (xval v.clean)∧w.grownBy w' none:=by
 obtain ⟨k,n,t⟩:=v
 unfold xval
 have hc:decide (V.ok ⟨k,n,t⟩)=true∧V.clean ⟨k,n,t⟩=⟨k,n,t⟩∨decide (V.ok ⟨k,n,t⟩)=false∧V.clean ⟨k,n,t⟩=V.nul:=by
   by_cases h:V.ok ⟨k,n,t⟩
   · exact .inl ⟨decide_eq_true h,V.clean_of h⟩
   · exact .inr ⟨decide_eq_false h,if_neg h⟩
 rcases hc with ⟨h1,h2⟩ | ⟨h1,h2⟩
 all_goals
   rw [h2]
   clear h2
   have HV:∀ w,Calls Tryz.prog 67 #[.agg #[.int .i64 k,.int .i64 n,.string t]] w _:=fun w=>(rvalval_walk k n t w)
   rw [h1] at HV
   have H:=hid HV
   clear HV h1
   go_enter Tryz.func25,Tryz.ntmps25
   go_wp2_with fail
   refine (H.out _).mono ?_
   rintro e w1 ⟨rfl,hg⟩
   have c1:=row_of hg (heap_past (o:=.cells #[.int .i64 0,.int .i64 0,.string ⟨#[]⟩] 25) (w:=w.alloc (.cells #[.int .i64 k,.int .i64 n,.string t] 25)) (n:=w.heap.size) (by simp) |>.trans (heap_at rfl)) (by simp)
   have c2:=row_of hg (heap_at (o:=.cells #[.int .i64 0,.int .i64 0,.string ⟨#[]⟩] 25) (w:=w.alloc (.cells #[.int .i64 k,.int .i64 n,.string t] 25)) (n:=w.heap.size+1) (by simp)) (by simp)
   have C1:=hid c1
   have C2:=hid c2
   clear c1 c2
   have x1:∀ j,w1.cell? ⟨w.heap.size,j,none⟩=(#[Value.int .i64 k,.int .i64 n,.string t]:Array Value)[j]?:=fun j=>cell_of_row w1 _ j _ _ _ C1.out
   have x2:∀ j,w1.cell? ⟨w.heap.size+1,j,none⟩=(#[Value.int .i64 0,.int .i64 0,.string ⟨#[]⟩]:Array Value)[j]?:=fun j=>cell_of_row w1 _ j _ _ _ C2.out
   have y2:∀ j,w1.frozen? ⟨w.heap.size+1,j,none⟩=false:=fun j=>frozen_of_row w1 _ j _ _ C2.out
   go_wp2
 · obtain ⟨s1,s2⟩:=setCells_all [.int .i64 k,.int .i64 n,.string t] C2.out rfl
   exact ret_cell rfl rfl (tyV ⟨k,n,t⟩) s2 rfl ⟨rfl,grown_newR (grown_trans (grown_trans (World.grownBy_alloc _ _ _) (World.grownBy_alloc _ _ _)) hg) s1 (by omega)⟩
 · obtain ⟨s1,s2⟩:=setCells_all [.int .i64 0,.int .i64 0,.string ⟨#[]⟩] C2.out rfl
   exact ret_cell rfl rfl (tyV V.nul) s2 rfl ⟨rfl,grown_newR (grown_trans (grown_trans (World.grownBy_alloc _ _ _) (World.grownBy_alloc _ _ _)) hg) s1 (by omega)⟩
def AppPost (w:World) (v:Value) (ys:List Nat) (e:Ending) (w':World):Prop:=∃ v',e=.returned v'∧Own w' 5 1 v' ys.length (bv ys)∧Step w v w' v'
theorem intsL_walk (v:Value) (ns:List Int) (xs:List Nat) (w:World) (T:TypeId) (cs:Array Value) (m:Nat) (hown:Own w 5 1 v xs.length (bv xs)) (hm:m=ns.length) (hcs:cs=(ns.map (Value.int .i64)).toArray)
   (hr:∀ n ∈ ns,In64 n) (hlen:xs.length+10 * ns.length≤1099511627776) :
   Calls Tryz.prog 132 #[v,.slice (some ⟨w.heap.size,0,none⟩) m m] (w.alloc (.cells cs T)) (AppPost w v (xs ++ ns.flatMap enc)):=by
 subst hm hcs
 have hs:Sl (w.alloc (.cells (ns.map (Value.int .i64)).toArray T)) 1 (.slice (some ⟨w.heap.size,0,none⟩) ns.length ns.length) ns.length (ns.map (Value.int .i64)):=
   ⟨by simp,_,_,rfl,Nat.le_refl _,by unfold maxLen;omega,fun h=>(by cases h),fun a ha=>by
     obtain rfl:=Option.some.inj ha
     refine ⟨fun _=>rfl,fun j u hu=>?_⟩
     rw [Nat.zero_add,World.cell?_alloc_at _ _ _ _ rfl]
     simpa using hu⟩
 refine (ints_walk v _ xs ns _ (hown.alloc _) hs (.inr ?_) hr hlen).mono ?_
 · intro e
   have:=Own.lt hown _ e.symm
   simp at this
 · rintro e w' ⟨v',rfl,h1,h2⟩
   exact ⟨v',rfl,h1,h2.alloc⟩
theorem encT_len (s:ByteArray) (h:s.size≤1099511627776):(encT s).length≤10+s.size:=by
 unfold encT
 have:=enc_len (n:=s.size) (by omega) (by omega)
 rw [List.length_append,by_len]
 omega
theorem strCells_by (s:ByteArray):Lib.strCells s=bv (by_ s):=by
 have:=strCells_bs (by_ s) (by_lt s)
 rwa [bs_by] at this
set_option maxRecDepth 100000 in
theorem text_app (v:Value) (s:ByteArray) (xs:List Nat) (w:World) (hown:Own w 5 1 v xs.length (bv xs)) (hl:xs.length+10+s.size≤1099511627776) :
   Calls Tryz.prog 133 #[v,.string s] w (AppPost w v (xs ++ encT s)):=by
 go_enter Tryz.func133,Tryz.ntmps133
 go_wp2_with fail
 refine (intsL_walk v [(s.size:Int)] xs w _ _ 1 hown rfl rfl (by simp;omega) (by simp;omega)).mono ?_
 rintro e w1 ⟨v1,rfl,hown1,hst1⟩
 simp only [List.flatMap_cons,List.flatMap_nil,List.append_nil] at hown1
 have hel:=enc_len (n:=s.size) (by omega) (by omega)
 have hl1:(xs ++ enc s.size).length+s.size≤1099511627776:=by rw [List.length_append];omega
 go_wp2_with (at_builtin;go_must (refine wpList_appstr bytesT Tryz.underlying9 rfl _ _ rfl _ _ _ rfl hown1 s rfl hl1 ?_;intro v2 w2 hown2 hst2))
 go_ret
 refine ⟨v2,rfl,?_,hst1.trans hst2⟩
 unfold encT
 rw [strCells_by,← bv_append,List.append_assoc] at hown2
 have e:(xs ++ enc s.size).length+s.size=(xs ++ (enc s.size ++ by_ s)).length:=by simp [by_len];omega
 rw [e] at hown2
 exact hown2
theorem Own.row {T E:TypeId} {w w':World} {v v':Value} {n k sz:Nat} {xs:List Value} {c:Array Value} {fr:Nat×Nat} (h:Own w E sz v n xs) (hs:Step w v w' v') (hne:E≠T) (hk:w.heap[k]?=some (.cells c T fr)):w'.heap[k]?=some (.cells c T fr):=
 row_of hs.1 hk (Own.ne h hk hne).symm
set_option maxRecDepth 100000 in
set_option maxHeartbeats 1000000 in
theorem cell_app (v:Value) (x:V) (xs:List Nat) (w:World) (hown:Own w 5 1 v xs.length (bv xs)) (hl:xs.length+60≤1099511627776) :
   Calls Tryz.prog 100 #[v,xval x] w (AppPost w v (xs ++ encV x)):=by
 have hok:=x.clean_ok
 have HC:=hid (pclean_walk x)
 unfold encV
 unfold xval at *
 generalize hy:x.clean=y at *
 clear hy
 obtain ⟨xk,xn,xt⟩:=x
 obtain ⟨k,n,t⟩:=y
 simp only at HC ⊢
 rcases hok with ⟨h1,h2,h3⟩ | ⟨h1,h2,h3,h4⟩ | ⟨h1,h2,h3⟩
 · simp only at h1 h2 h3
   subst h1 h2 h3
   go_enter Tryz.func100,Tryz.ntmps100
   go_wp2_with fail
   refine (HC.out _).mono ?_
   rintro e w1 ⟨rfl,hg⟩
   have hb:=row_of hg (heap_at rfl) (by simp)
   have g1:w.grownBy w1 none:=grown_trans (World.grownBy_alloc _ _ _) hg
   obtain ⟨s1,s2⟩:=setCells_all [.int .i64 0,.int .i64 0,.string ByteArray.empty] hb rfl
   have y0:∀ j,w1.cell? ⟨w.heap.size,j,none⟩=(#[Value.int .i64 xk,.int .i64 xn,.string xt]:Array Value)[j]?:=fun j=>cell_of_row w1 _ j _ _ _ hb
   have y1:∀ j,w1.frozen? ⟨w.heap.size,j,none⟩=false:=fun j=>frozen_of_row w1 _ j _ _ hb
   have gW:w.grownBy (w1.setCells w.heap.size 0 [.int .i64 0,.int .i64 0,.string ByteArray.empty]) none:=grown_newR g1 s1 (Nat.le_refl _)
   have ownW:=hown.kept gW (by cases v.ownBlock <;> simp)
   have lW:(w1.setCells w.heap.size 0 [.int .i64 0,.int .i64 0,.string ByteArray.empty]).heap.size=w1.heap.size:=by simp [World.setCells]
   have OW:=hid ownW
   have G:=hid gW
   have BW:=hid s2
   have LW:=hid lW
   clear ownW gW s2 s1 hb lW g1 hg
   go_wp2_with fail
   generalize hW:((w1.setCell ⟨w.heap.size,0,none⟩ (.int .i64 0)).setCell ⟨w.heap.size,1,none⟩ (.int .i64 0)).setCell ⟨w.heap.size,2,none⟩ (.string ByteArray.empty)=W
   have hW':w1.setCells w.heap.size 0 [.int .i64 0,.int .i64 0,.string ByteArray.empty]=W:=hW
   rw [hW'] at OW G BW LW
   clear hW hW'
   rw [← LW.out]
   refine (intsL_walk v [0] xs W _ _ 1 OW.out rfl rfl (fun m hm=>by simp at hm;subst hm;exact ⟨by omega,by omega⟩) (by simp;omega)).mono ?_
   rintro e w2 ⟨v1,rfl,hown2,hst2⟩
   simp only [List.flatMap_cons,List.flatMap_nil,List.append_nil] at hown2
   have hel:=enc_len (n:=0) (by omega) (by omega)
   have L2:Hid ((xs ++ enc 0).length≤xs.length+10):=by rw [List.length_append];exact hid (by omega)
   have b2:=Own.row OW.out hst2 (by decide) BW.out
   have z0:∀ j,w2.cell? ⟨w.heap.size,j,none⟩=(#[Value.int .i64 0,.int .i64 0,.string ByteArray.empty]:Array Value)[j]?:=fun j=>cell_of_row w2 _ j _ _ _ b2
   have O2:=hid hown2
   have S2:=hid hst2
   clear hown2 hst2 b2 y0 y1
   go_wp2
   go_ret
   exact ⟨v1,rfl,by simpa [encC] using O2.out,Step.grown G.out S2.out⟩
 · simp only at h1 h2 h3 h4
   subst h1 h4
   go_enter Tryz.func100,Tryz.ntmps100
   go_wp2_with fail
   refine (HC.out _).mono ?_
   rintro e w1 ⟨rfl,hg⟩
   have hb:=row_of hg (heap_at rfl) (by simp)
   have g1:w.grownBy w1 none:=grown_trans (World.grownBy_alloc _ _ _) hg
   obtain ⟨s1,s2⟩:=setCells_all [.int .i64 1,.int .i64 n,.string ByteArray.empty] hb rfl
   have y0:∀ j,w1.cell? ⟨w.heap.size,j,none⟩=(#[Value.int .i64 xk,.int .i64 xn,.string xt]:Array Value)[j]?:=fun j=>cell_of_row w1 _ j _ _ _ hb
   have y1:∀ j,w1.frozen? ⟨w.heap.size,j,none⟩=false:=fun j=>frozen_of_row w1 _ j _ _ hb
   have gW:w.grownBy (w1.setCells w.heap.size 0 [.int .i64 1,.int .i64 n,.string ByteArray.empty]) none:=grown_newR g1 s1 (Nat.le_refl _)
   have ownW:=hown.kept gW (by cases v.ownBlock <;> simp)
   have lW:(w1.setCells w.heap.size 0 [.int .i64 1,.int .i64 n,.string ByteArray.empty]).heap.size=w1.heap.size:=by simp [World.setCells]
   have OW:=hid ownW
   have G:=hid gW
   have BW:=hid s2
   have LW:=hid lW
   clear ownW gW s2 s1 hb lW g1 hg
   go_wp2_with fail
   generalize hW:((w1.setCell ⟨w.heap.size,0,none⟩ (.int .i64 1)).setCell ⟨w.heap.size,1,none⟩ (.int .i64 n)).setCell ⟨w.heap.size,2,none⟩ (.string ByteArray.empty)=W
   have hW':w1.setCells w.heap.size 0 [.int .i64 1,.int .i64 n,.string ByteArray.empty]=W:=hW
   rw [hW'] at OW G BW LW
   clear hW hW'
   rw [← LW.out]
   refine (intsL_walk v [1] xs W _ _ 1 OW.out rfl rfl (fun m hm=>by simp at hm;subst hm;exact ⟨by omega,by omega⟩) (by simp;omega)).mono ?_
   rintro e w2 ⟨v1,rfl,hown2,hst2⟩
   simp only [List.flatMap_cons,List.flatMap_nil,List.append_nil] at hown2
   have hel:=enc_len (n:=1) (by omega) (by omega)
   have L2:Hid ((xs ++ enc 1).length≤xs.length+10):=by rw [List.length_append];exact hid (by omega)
   have b2:=Own.row OW.out hst2 (by decide) BW.out
   have z0:∀ j,w2.cell? ⟨w.heap.size,j,none⟩=(#[Value.int .i64 1,.int .i64 n,.string ByteArray.empty]:Array Value)[j]?:=fun j=>cell_of_row w2 _ j _ _ _ b2
   have O2:=hid hown2
   have S2:=hid hst2
   clear hown2 hst2 b2 y0 y1
   go_wp2_with fail
   refine (intsL_walk v1 [n] _ w2 _ _ 1 O2.out rfl rfl (by simp;omega) (by have:=L2.out;simp at *;omega)).mono ?_
   rintro e w3 ⟨v2,rfl,hown3,hst3⟩
   go_wp2
   go_ret
   exact ⟨v2,rfl,by simpa [encC] using hown3,Step.grown G.out (S2.out.trans hst3)⟩
 · simp only at h1 h2 h3
   subst h1 h2
   go_enter Tryz.func100,Tryz.ntmps100
   go_wp2_with fail
   refine (HC.out _).mono ?_
   rintro e w1 ⟨rfl,hg⟩
   have hb:=row_of hg (heap_at rfl) (by simp)
   have g1:w.grownBy w1 none:=grown_trans (World.grownBy_alloc _ _ _) hg
   obtain ⟨s1,s2⟩:=setCells_all [.int .i64 2,.int .i64 0,.string t] hb rfl
   have y0:∀ j,w1.cell? ⟨w.heap.size,j,none⟩=(#[Value.int .i64 xk,.int .i64 xn,.string xt]:Array Value)[j]?:=fun j=>cell_of_row w1 _ j _ _ _ hb
   have y1:∀ j,w1.frozen? ⟨w.heap.size,j,none⟩=false:=fun j=>frozen_of_row w1 _ j _ _ hb
   have gW:w.grownBy (w1.setCells w.heap.size 0 [.int .i64 2,.int .i64 0,.string t]) none:=grown_newR g1 s1 (Nat.le_refl _)
   have ownW:=hown.kept gW (by cases v.ownBlock <;> simp)
   have lW:(w1.setCells w.heap.size 0 [.int .i64 2,.int .i64 0,.string t]).heap.size=w1.heap.size:=by simp [World.setCells]
   have OW:=hid ownW
   have G:=hid gW
   have BW:=hid s2
   have LW:=hid lW
   clear ownW gW s2 s1 hb lW g1 hg
   go_wp2_with fail
   generalize hW:((w1.setCell ⟨w.heap.size,0,none⟩ (.int .i64 2)).setCell ⟨w.heap.size,1,none⟩ (.int .i64 0)).setCell ⟨w.heap.size,2,none⟩ (.string t)=W
   have hW':w1.setCells w.heap.size 0 [.int .i64 2,.int .i64 0,.string t]=W:=hW
   rw [hW'] at OW G BW LW
   clear hW hW'
   rw [← LW.out]
   refine (intsL_walk v [2] xs W _ _ 1 OW.out rfl rfl (fun m hm=>by simp at hm;subst hm;exact ⟨by omega,by omega⟩) (by simp;omega)).mono ?_
   rintro e w2 ⟨v1,rfl,hown2,hst2⟩
   simp only [List.flatMap_cons,List.flatMap_nil,List.append_nil] at hown2
   have hel:=enc_len (n:=2) (by omega) (by omega)
   have L2:Hid ((xs ++ enc 2).length≤xs.length+10):=by rw [List.length_append];exact hid (by omega)
   have b2:=Own.row OW.out hst2 (by decide) BW.out
   have z0:∀ j,w2.cell? ⟨w.heap.size,j,none⟩=(#[Value.int .i64 2,.int .i64 0,.string t]:Array Value)[j]?:=fun j=>cell_of_row w2 _ j _ _ _ b2
   have O2:=hid hown2
   have S2:=hid hst2
   clear hown2 hst2 b2 y0 y1
   go_wp2_with fail
   refine (text_app v1 t _ w2 O2.out (by have:=L2.out;simp at *;omega)).mono ?_
   rintro e w3 ⟨v2,rfl,hown3,hst3⟩
   go_wp2
   go_ret
   exact ⟨v2,rfl,by simpa [encC] using hown3,Step.grown G.out (S2.out.trans hst3)⟩
theorem encC_len {v:V} (h:v.ok):(encC v).length≤60:=by
 unfold encC
 have h1:=enc_len (V.ok_kind h).1.1 (V.ok_kind h).1.2
 have h2:=enc_len (V.ok_kind h).2.1 (V.ok_kind h).2.2
 have h3:=encT_len v.text (by have:=V.ok_text h;omega)
 have h4:=V.ok_text h
 rw [List.length_append]
 split
 · omega
 · split
   · omega
   · simp;omega
theorem encV_len (v:V):(encV v).length≤60:=encC_len v.clean_ok
end Go.Proofs.YtbfjfnbcmojpiaaGreat
