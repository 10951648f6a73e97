import Derived.Test.YtbfjfnbcmojpiaaGreatDaMA
import Derived.Test.YtbfjfnbcmojpiaaGreatDaD3
import Derived.Lib.SliceRun
import Derived.Laws.Externs
import Derived.Laws.IdiomCopy
import Derived.Deep.RegionLaw
import Derived.Deep.RegionHeld3
import Derived.Lib.AppendZeros
set_option linter.unusedSimpArgs false
set_option linter.unusedVariables false
set_option maxRecDepth 100000
set_option maxHeartbeats 4000000
namespace Go.Proofs.YtbfjfnbcmojpiaaGreat
section
open Go.RowKit
def wdk (l:List Nat) (k:Nat):BitVec 64:=(List.range k).foldl (fun x i=>x ||| (BitVec.ofNat 64 (l.getD i 0) <<< (8*i))) 0
def wd (l:List Nat):BitVec 64:=wdk l 8
theorem AGl (l:List Nat) (k:Nat):wdk l (k+1)=wdk l k ||| (BitVec.ofNat 64 (l.getD k 0) <<< (8*k)):=by unfold wdk;rw[List.range_succ,List.foldl_append];rfl
theorem AI3 {b:Nat} (h:b<256):wi (BitVec.ofNat 64 b)=(b:Int):=by unfold wi;rw[BitVec.toNat_ofNat];omega
theorem AD6 (l:List Nat) (k:Nat) (hb:l.getD k 0<256):bits .or .u64 (wi (wdk l k)) (IntKind.u64.wrap ((l.getD k 0:Nat)*2^(8*k)))=wi (wdk l (k+1)):=by
 rw[AGl,←Wr,←ACV,AI3 hb]
theorem AKY {l:List Nat} {k:Nat} (hk:k<l.length):(bv l)[k]?=some (.int .u8 (l.getD k 0:Nat)):=by
 unfold bv
 rw[List.getElem?_map,List.getElem?_eq_getElem hk,List.getD_eq_getElem?_getD,List.getElem?_eq_getElem hk];rfl
theorem Sl.bytes {w:World} {ao:Option Addr} {n cap:Nat} {l:List Nat} (h:Sl w 1 (.slice ao n cap) n (bv l)) (hl:0<l.length) :
  ∃b off,ao=some ⟨b,off,none⟩∧∀k,k<l.length→w.cell? ⟨b,off+k,none⟩=some (.int .u8 (l.getD k 0:Nat)):=by
 obtain⟨b,off,h1,h2⟩:=Sl.at h 0 (by rw[AO];exact hl)
 refine⟨b,off,h1,fun k hk=>?_⟩
 have hk':k<(bv l).length:=by rw[AO];exact hk
 rw[h2 k hk']
 have:=AKY hk
 rw[List.getElem?_eq_getElem hk'] at this
 exact this
theorem AE7 (l:List Nat) (hl:l.length=8) (hb:∀x∈l,x<256) (s:Value) (w:World) (h:Sl w 1 s 8 (bv l)):Calls Tryz.prog 151 #[s] w fun e w'=>e=.returned (.int .u64 (wi (wd l)))∧w'=w:=by
 obtain⟨ao,cap,rfl,hc1,hc2⟩:=Sl.shape h
 obtain⟨b,off,rfl,hc⟩:=Sl.bytes h (by omega)
 have HC:=AK hc
 have HL:=AK hl
 have HB:=AK hb
 clear hc h hl hb
 go_enter Tryz.func151,Tryz.ntmps151
 go_wp2
 go_loop [3,8] (fun x i=>∃k:Nat,k≤8∧i=.int .i64 k∧x=.int .u64 (wi (wdk l k))) (fun _ i=>8-(intOf i).toNat)
 case atStart=>exact⟨0,by omega,rfl,rfl⟩
 case round =>
  obtain⟨k,hk,rfl,rfl⟩:=hrel
  by_cases hlt:k<8
  · have hlk:k<l.length:=by rw[HL.out];exact hlt
    have c0:=HC.out k hlk
    have hbk:l.getD k 0<256:=HB.out _ (by rw[List.getD_eq_getElem?_getD,List.getElem?_eq_getElem hlk];exact List.getElem_mem hlk)
    have ST:=AK (AD6 l k hbk)
    generalize l.getD k 0=c at *
    have i1:(0:Int)≤(k:Int):=by omega
    have i2:(k:Int)<8:=by omega
    have b1:(0:Int)≤(c:Int):=by omega
    have b2:(c:Int)<256:=by omega
    clear hlk hbk
    generalize wi (wdk l k)=X at *
    go_wp2
    go_round
    case rel=>exact⟨k+1,by omega,by go_num,by rw[ST.out]⟩
    case measure=>simp[intOf];omega
  · obtain rfl:k=8:=by omega
    go_wp2
    go_ret
    exact⟨rfl,rfl⟩
theorem ACY (l:List Nat) (hl:l.length=8) (hb:∀x∈l,x<256) (s:Value) (w:World) (h:Sl w 1 s 8 (bv l)):Calls Tryz.prog 123 #[s] w fun e w'=>e=.returned (.int .u64 (wi (wd l)))∧w'=w:=by
 obtain⟨ao,cap,rfl,hc1,hc2⟩:=Sl.shape h
 obtain⟨b,off,rfl,hc⟩:=Sl.bytes h (by omega)
 have HC:=AK hc
 have HL:=AK hl
 have HB:=AK hb
 clear hc h hl hb
 go_enter Tryz.func123,Tryz.ntmps123
 go_wp2
 go_loop [3,4] (fun x i=>∃k:Nat,k≤8∧i=.int .i64 k∧x=.int .u64 (wi (wdk l k))) (fun _ i=>8-(intOf i).toNat)
 case atStart=>exact⟨0,by omega,rfl,rfl⟩
 case round =>
  obtain⟨k,hk,rfl,rfl⟩:=hrel
  by_cases hlt:k<8
  · have hlk:k<l.length:=by rw[HL.out];exact hlt
    have c0:=HC.out k hlk
    have hbk:l.getD k 0<256:=HB.out _ (by rw[List.getD_eq_getElem?_getD,List.getElem?_eq_getElem hlk];exact List.getElem_mem hlk)
    have ST:=AK (AD6 l k hbk)
    generalize l.getD k 0=c at *
    have i1:(0:Int)≤(k:Int):=by omega
    have i2:(k:Int)<8:=by omega
    have b1:(0:Int)≤(c:Int):=by omega
    have b2:(c:Int)<256:=by omega
    clear hlk hbk
    generalize wi (wdk l k)=X at *
    go_wp2
    go_round
    case rel=>exact⟨k+1,by omega,by go_num,by rw[ST.out]⟩
    case measure=>simp[intOf];omega
  · obtain rfl:k=8:=by omega
    go_wp2
    go_ret
    exact⟨rfl,rfl⟩
end
section
open Go.RowKit
def xr (s:St) (l:List Nat):St:={ s with a:=s.a ^^^ wd l }
def zs (n:Nat):List Nat:=List.replicate n 0
def ab (s:St) (l:List Nat):St:=if 8≤l.length then ab (Jm (xr s (l.take 8))) (l.drop 8) else Jm (xr s (l++1::zs (7-l.length)))
termination_by l.length
decreasing_by simp;omega
def KW (dom:BitVec 64):St:=Jm ⟨dom,1,2,3,4⟩
def IS (dom:BitVec 64) (l:List Nat):St:=ab (KW dom) l
def Hq (s:St) (l:List Nat):Nat→St
 | 0=>s
 | n+1=>Hq (Jm (xr s (l.take 8))) (l.drop 8) n
theorem AGm {s:St} {l:List Nat} (h:8≤l.length):ab s l=ab (Jm (xr s (l.take 8))) (l.drop 8):=by rw[ab,if_pos h]
theorem Ze {s:St} {l:List Nat} (h:¬8≤l.length):ab s l=Jm (xr s (l++1::zs (7-l.length))):=by rw[ab,if_neg h]
theorem Zf (s:St) (l:List Nat) (n:Nat):Hq s l (n+1)=Jm (xr (Hq s l n) ((l.drop (8*n)).take 8)):=by
 induction n generalizing s l with
 | zero=>rfl
 | succ n ih =>
  have:=ih (Jm (xr s (l.take 8))) (l.drop 8)
  rw[Hq,this,List.drop_drop,show 8+8*n=8*(n+1) by omega]
  rfl
def Oc (l:List Nat):List Nat:=l++1::zs (7-l.length%8)
theorem AD7 (l:List Nat):(Oc l).length=8*(l.length/8+1):=by unfold Oc zs;simp;omega
theorem ACZ (s:St) (l:List Nat):Hq s (Oc l) (l.length/8+1)=ab s l:=by
 induction l using(measure (fun l:List Nat=>l.length)).wf.induction generalizing s with
 | _ l ih =>
  by_cases h:8≤l.length
  · rw[AGm h,←ih (l.drop 8) (by show(l.drop 8).length<l.length;simp;omega)]
    have e1:(Oc l).take 8=l.take 8:=by unfold Oc;rw[List.take_append_of_le_length h]
    have e2:(Oc l).drop 8=Oc (l.drop 8):=by
     unfold Oc
     rw[List.drop_append_of_le_length h,List.length_drop]
     congr 4
     omega
    rw[Hq,e1,e2,List.length_drop,show l.length/8=(l.length-8)/8+1 by omega]
  · rw[Ze h,show l.length/8=0 by omega,Hq,Hq]
    have:(Oc l).take 8=l++1::zs (7-l.length):=by
     unfold Oc
     rw[show l.length%8=l.length by omega,List.take_of_length_le (by unfold zs;simp;omega)]
    rw[this]
def wb (x:BitVec 64) (r:Nat):Nat:=(x >>> (8*r)).toNat%256
def it:Nat→St→St
 | 0,s=>s
 | n+1,s=>it n (Jm s)
theorem AD8 (n:Nat) (s:St):it (n+1) s=Jm (it n s):=by
 induction n generalizing s with
 | zero=>rfl
 | succ n ih=>rw[it,ih];rfl
def sq (s:St) (n:Nat):List Nat:=(List.range n).map fun i=>wb (it (i/8) s).a (i%8)
theorem N8 (s:St) (n:Nat):(sq s n).length=n:=by unfold sq;simp
theorem AD9 (s:St) (n:Nat):sq s (n+1)=sq s n++[wb (it (n/8) s).a (n%8)]:=by unfold sq;rw[List.range_succ,List.map_append];rfl
theorem AGn (s:St) (n:Nat):∀x∈sq s n,x<256:=by
 intro x hx
 unfold sq at hx
 simp only[List.mem_map] at hx
 obtain⟨i,_,rfl⟩:=hx
 unfold wb
 omega
def QJ (dom:BitVec 64) (l:List Nat):List Nat:=sq (IS dom l) 32
theorem Io (dom:BitVec 64) (l:List Nat):(QJ dom l).length=32:=N8 _ _
theorem Pj (dom:BitVec 64) (l:List Nat):∀x∈QJ dom l,x<256:=AGn _ _
theorem AMI (x:BitVec 64) (r:Nat):IntKind.u8.wrap (wi x/2^(8*r))=(wb x r:Nat):=by
 rw[ACW]
 unfold wi wb
 rw[IntKind.wrap_u8]
 omega
end
section
open Go.RowKit
theorem NN {w:World} {g:Nat} {C:List Value} {t:TypeId} (h:w.heap[g]?=some (.cells C.toArray t (0,0))) (j:Nat):w.cell? ⟨g,j,none⟩=C[j]?:=by rw[AOS _ _ _ _ _ _ h];simp
theorem AE8 {P:Program} (w:World) (dT sT ty elem:TypeId) (size:Nat) (b o dLen dCap:Nat) (a:Addr) (sLen sCap:Nat) (cs:List Value)
  (hu:P.underlying dT=some (.slice elem)) (hs:(P.info? elem).map (·.size)=some size) (hn:cs.length=Nat.min sLen dLen*size)
  (hsrc:∀j v,cs[j]?=some v→w.cell? (a.add j)=some v) (hc:∀j,j<cs.length→(w.cell? ⟨b,o+j,none⟩).isSome=true) (hf:∀j,j<cs.length→w.frozen? ⟨b,o+j,none⟩=false) (h1:∀v∈cs,v.oneCell'=true) :
  (Builtin.copy_ #[dT,sT] ty #[.slice (some ⟨b,o,none⟩) dLen dCap,.slice (some a) sLen sCap]).run P w=.ok (goInt (Nat.min sLen dLen)) (w.setCells b o cs):=by
 have hl:=run_loadCells_list (P:=P) w a cs hsrc
 have hst:=run_storeCells_cells (P:=P) b o cs 0 w (by simpa using hc) (by simpa using hf) h1
 cases hq:P.info? elem with
 | none=>simp[hq] at hs
 | some i =>
  have hi:i.size=size:=by simpa [hq] using hs
  simp only[Nat.add_zero] at hst
  rw[hn] at hl
  simp[Builtin.copy_,run_underlying hu,Builtin.lenOf,Builtin.firstCells,sizeOf,typeInfo,hq,hi,hl,hst]
theorem W7 {P:Program} (w:World) (dT sT ty elem T:TypeId) (size:Nat) (g o dLen dCap:Nat) (a:Addr) (sLen sCap:Nat) (cs C:List Value)
  (hu:P.underlying dT=some (.slice elem)) (hs:(P.info? elem).map (·.size)=some size) (hn:cs.length=Nat.min sLen dLen*size)
  (hsrc:∀j v,cs[j]?=some v→w.cell? (a.add j)=some v) (hb:w.heap[g]?=some (.cells C.toArray T (0,0))) (hfit:o+cs.length≤C.length) (h1:∀v∈cs,v.oneCell'=true) :
  ∃w',(Builtin.copy_ #[dT,sT] ty #[.slice (some ⟨g,o,none⟩) dLen dCap,.slice (some a) sLen sCap]).run P w=.ok (goInt (Nat.min sLen dLen)) w'∧w.grownBy w' (some g)∧w'.heap[g]?=some (.cells (C.take o++(cs++C.drop (o+cs.length))).toArray T (0,0)):=by
 refine⟨_,AE8 w dT sT ty elem size g o dLen dCap a sLen sCap cs hu hs hn hsrc (fun j hj=>?_) (fun j hj=>AOV w g _ _ T hb) h1,Dw _ _ _ _,Ls C o cs hb hfit⟩
 rw[NN hb,List.getElem?_eq_getElem (by omega)]
 rfl
theorem Od {P:Program} {w:World} {ops:Array Oper} {rest:List Oper} {o:Oper} {a:Act} {Q:Exit→Act→World→Prop} (hgd:o.guard=none) (d s:Operand) (t t':TypeId)
  (ho:o.op=.call { callee:=.builtin .copy,args:=#[d,s],argTypes:=#[t,t'] }) (v u:Value) (hd:a.eval d=v) (hs:a.eval s=u) {v':Value} {w':World}
  (hr:(Builtin.copy_ #[t,t'] o.type #[v,u]).run P w=.ok v' w') (h:wpList P ops Q rest (a.put o.dst v') w'):wpList P ops Q (o::rest) a w:=by
 refine wpList_plain hgd fun K hK=>?_
 unfold Oper.wp execOp
 simp only[ho,resolve,invoke,builtin,Sem.run_bind,Sem.run_pure,Result.andThen_ok,List.map_toArray,List.map_cons,List.map_nil,hd,hs,hr]
 exact hK _ _ h
theorem ACa {P:Program} {ops:Array Oper} {o:Oper} {a:Act} {w:World} {K:Act→World→Prop} {Q:Exit→Act→World→Prop} {E:Prop}
  (hg:o.guard=none) (d x:Operand) (dT sT:TypeId) (hop:o.op=Op.call { callee:=Callee.builtin Builtin.copy,args:=#[d,x],argTypes:=#[dT,sT] })
  (v u:Value) (hd:a.eval d=v) (hx:a.eval x=u) {v':Value} {w':World} (hr:(Builtin.copy_ #[dT,sT] o.type #[v,u]).run P w=.ok v' w') (hK:K (a.put o.dst v') w') :
  if Region.wanted o (yielded ops a.tmps)=true then Oper.wp P o a w K Q else E:=by
 have hw:Region.wanted o (yielded ops a.tmps)=true:=by simp[Region.wanted,hg]
 rw[if_pos hw]
 unfold Oper.wp
 simp[execOp,hop,resolve,invoke,builtin,hd,hx,hr,Result.andThen]
 exact hK
theorem Zg {P:Program} (w:World) (dT sT ty elem T:TypeId) (g dLen dCap n:Nat) (v:Value) (cs C:List Value) (ht:P.underlying sT=some (.slice elem))
  (hu:P.underlying dT=some (.slice elem)) (hs:(P.info? elem).map (·.size)=some 1) (hv:Sl w 1 v n cs) (hb:w.heap[g]?=some (.cells C.toArray T (0,0))) (hnd:n≤dLen) (hfit:n≤C.length) (h1:∀v∈cs,v.oneCell'=true) :
  ∃w',(Builtin.copy_ #[dT,sT] ty #[.slice (some ⟨g,0,none⟩) dLen dCap,v]).run P w=.ok (goInt n) w'∧w.grownBy w' (some g)∧w'.heap[g]?=some (.cells (cs++C.drop n).toArray T (0,0)):=by
 have hsl:=hv
 obtain⟨hl,ao,cap,rfl,h2,h3,h4,h5⟩:=hv
 have hln:cs.length=n:=by omega
 cases ao with
 | none =>
  have hc0:=h4 rfl
  obtain rfl:n=0:=by omega
  obtain rfl:cs=[]:=List.eq_nil_of_length_eq_zero hln
  refine⟨w,?_,World.grownBy.refl _ _,by simpa using hb⟩
  obtain⟨i,hi,hsz⟩:∃i,P.info? elem=some i∧i.size=1:=by
   cases hq:P.info? elem with
   | none=>simp[hq] at hs
   | some i=>exact⟨i,rfl,by simpa [hq] using hs⟩
  simp[Builtin.copy_,run_underlying hu,Builtin.lenOf,Builtin.firstCells,sizeOf,typeInfo,hi,loadCells,loadCellsFrom,storeCells,run_underlying ht]
 | some ad =>
  have hmin:Nat.min n dLen=n:=Nat.min_eq_left hnd
  obtain⟨w',r1,r2,r3⟩:=W7 (P:=P) w dT sT ty elem T 1 g 0 dLen dCap ad n cap cs C hu hs (by rw[hmin];omega) hsl.rd hb (by omega) h1
  rw[hmin] at r1
  refine⟨w',r1,r2,?_⟩
  rw[r3,hln]
  simp
theorem UP {P:Program} {w:World} {ops:Array Oper} {rest:List Oper} {o:Oper} {a:Act} {Q:Exit→Act→World→Prop} (hgd:o.guard=none) (d s:Operand) (dT sT elem T:TypeId)
  (ho:o.op=.call { callee:=.builtin .copy,args:=#[d,s],argTypes:=#[dT,sT] }) (g dLen dCap n:Nat) (v:Value) (cs C:List Value) (ht:P.underlying sT=some (.slice elem)) (hu:P.underlying dT=some (.slice elem)) (hs:(P.info? elem).map (·.size)=some 1)
  (hd:a.eval d=.slice (some ⟨g,0,none⟩) dLen dCap) (hx:a.eval s=v) (hv:Sl w 1 v n cs) (hb:w.heap[g]?=some (.cells C.toArray T (0,0))) (hnd:n≤dLen) (hfit:n≤C.length) (h1:∀v∈cs,v.oneCell'=true)
  (h:∀w',w.grownBy w' (some g)→w'.heap[g]?=some (.cells (cs++C.drop n).toArray T (0,0))→wpList P ops Q rest (a.put o.dst (goInt n)) w'):wpList P ops Q (o::rest) a w:=by
 obtain⟨w',r1,r2,r3⟩:=Zg (P:=P) w dT sT o.type elem T g dLen dCap n v cs C ht hu hs hv hb hnd hfit h1
 exact Od hgd d s dT sT ho _ _ hd hx r1 (h w' r2 r3)
theorem Sl.kn {w w':World} {sz:Nat} {v:Value} {n:Nat} {xs:List Value} (h:Sl w sz v n xs) (hg:w.grownBy w' none):Sl w' sz v n xs:=h.kept hg (by cases v.ownBlock<;>simp)
theorem JQ {P:Program} {t e:TypeId} {sz:Nat} (ht:P.underlying t=some (.slice e)) (hs:(P.info? e).map (·.size)=some sz) {w:World} {ao:Option Addr} {n cap:Nat} {xs:List Value} (h:Sl w sz (.slice ao n cap) n xs)
   (lo hi:Nat) (l u:Option Value) (hl:l=some (.int .i64 lo)∨(l=none∧lo=0)) (hu:u=some (.int .i64 hi)∨(u=none∧hi=n)) (h1:lo≤hi) (h2:hi≤n) :
   ∃ao' cap',(∀w',(Instr.sliceAt t (.slice ao n cap) l u none).run P w'=.ok (.slice ao' (hi-lo) cap') w')∧Sl w sz (.slice ao' (hi-lo) cap') (hi-lo) ((xs.drop (lo*sz)).take ((hi-lo)*sz))∧(∀b,(Value.slice ao' (hi-lo) cap').ownBlock=some b→(Value.slice ao n cap).ownBlock=some b):=by
 obtain⟨hlx,ao0,cap0,hv,h3,h4,h5,h6⟩:=h
 simp only[Value.slice.injEq] at hv
 obtain⟨rfl,_,rfl⟩:=hv
 obtain⟨i,hi',hsz⟩:∃i,P.info? e=some i∧i.size=sz:=by
   cases hq:P.info? e with
   | none=>simp[hq] at hs
   | some i=>exact⟨i,rfl,by simpa [hq] using hs⟩
 refine⟨if cap=lo then ao else ao.map (·.add (lo*sz)),cap-lo,?_,⟨?_,?_⟩,?_⟩
 · intro w'
   have a1:¬((cap:Int)<(hi:Int)):=by omega
   have a2:¬((hi:Int)<(lo:Int)):=by omega
   have a3:(0:Int)≤(hi:Int):=by omega
   have a4:(0:Int)≤(lo:Int):=by omega
   have a5:(hi:Int)≤(cap:Int):=by omega
   have a6:(lo:Int)≤(hi:Int):=by omega
   rcases hl with rfl|⟨rfl,rfl⟩<;>rcases hu with rfl|⟨rfl,rfl⟩<;>simp[Instr.sliceAt,Instr.slice,Instr.sliceBounds,Instr.sliceBound,run_underlying ht,sizeOf,typeInfo,hi',hsz,asIntOf,h1,h2,show hi≤cap by omega]
 · rw[List.length_take,List.length_drop,hlx,←Nat.sub_mul]
   apply Nat.min_eq_left
   exact Nat.mul_le_mul_right _ (by omega)
 · refine⟨_,_,rfl,by omega,by omega,fun h=>?_,fun a ha=>?_⟩
   · split at h
     · have:=h5 h;omega
     · cases ao with
       | none=>have:=h5 rfl;omega
       | some b=>cases h
   · split at ha
     · rename_i hcl
       subst ha
       refine⟨fun h=>(h6 a rfl).1 (by omega),fun j v hj=>?_⟩
       have:hi-lo=0:=by omega
       rw[this,Nat.zero_mul,List.take_zero] at hj
       cases hj
     · cases ao with
       | none=>cases ha
       | some b =>
        obtain⟨q1,q2⟩:=h6 b rfl
        obtain rfl:=Option.some.inj ha
        have hadd:(0<hi-lo→(b.add (lo*sz)).spot=none)∧(b.add (lo*sz)).block=b.block∧(b.add (lo*sz)).off=b.off+lo*sz:=by
         unfold Addr.add
         split
         · rename_i h0;rw[h0];exact⟨fun h=>q1 (by omega),rfl,rfl⟩
         · exact⟨fun _=>rfl,rfl,rfl⟩
        refine⟨hadd.1,fun j v hj=>?_⟩
        have hjl:=(List.getElem?_eq_some_iff.1 hj).1
        rw[List.length_take] at hjl
        rw[hadd.2.1,hadd.2.2,Nat.add_assoc]
        refine q2 (lo*sz+j) v ?_
        rw[←hj,List.getElem?_take,if_pos (by omega),List.getElem?_drop]
 · intro b hb
   cases ao with
   | none =>
     simp only[Option.map_none,ite_self] at hb
     simp[Value.ownBlock] at hb
   | some a =>
     obtain⟨q1,q2⟩:=h6 a rfl
     have hadd:(a.add (lo*sz)).block=a.block:=by
       unfold Addr.add
       split<;>rfl
     split at hb
     · simpa [Value.ownBlock] using hb
     · simpa [Value.ownBlock,hadd] using hb
theorem Sl.head {w:World} {ao:Option Addr} {n cap k:Nat} {l:List Nat} (h:Sl w 1 (.slice ao n cap) n (bv l)) (hk:k≤n):Sl w 1 (.slice ao k cap) k (bv (l.take k)):=by
 obtain⟨hlx,ao0,cap0,hv,h3,h4,h5,h6⟩:=h
 simp only[Value.slice.injEq] at hv
 obtain⟨rfl,_,rfl⟩:=hv
 rw[AO] at hlx
 refine⟨by rw[AO,List.length_take];omega,_,_,rfl,by omega,h4,h5,fun a ha=>⟨fun h0=>(h6 a ha).1 (by omega),fun j u hu=>(h6 a ha).2 j u ?_⟩⟩
 have hj:=(List.getElem?_eq_some_iff.1 hu).1
 rw[AO,List.length_take] at hj
 rw[←hu]
 unfold bv
 rw[List.getElem?_map,List.getElem?_map,List.getElem?_take,if_pos (by omega)]
theorem Ip {P:Program} {w:World} {ops:Array Oper} {rest:List Oper} {o:Oper} {a:Act} {Q:Exit→Act→World→Prop} (hgd:o.guard=none) (t:TypeId) (x:Operand) (lo hi:Option Operand)
  (ho:o.op=.slice t x lo hi none) (vx:Value) (hx:a.eval x=vx) (l u:Option Value) (hl:lo.map a.eval=l) (hu:hi.map a.eval=u) {v:Value}
  (hr:(Instr.sliceAt t vx l u none).run P w=.ok v w) (h:wpList P ops Q rest (a.put o.dst v) w):wpList P ops Q (o::rest) a w:=by
 refine wpList_plain hgd fun K hK=>?_
 unfold Oper.wp execOp
 simp only[ho,Sem.run_bind,Sem.run_pure,Result.andThen_ok,hx,hl,hu,Option.map_none,hr]
 exact hK _ _ h
end
section
open Go.RowKit
def WF (v:Value):Nat:=match v with|.slice _ n _=>n|_=>0
theorem AE9 {A B C D E:Int} (s:St) (hA:A=wi s.a) (hB:B=wi s.b) (hC:C=wi s.c) (hD:D=wi s.d) (hE:E=wi s.e) (w:World):Calls Tryz.prog 150 #[.agg #[.int .u64 A,.int .u64 B,.int .u64 C,.int .u64 D,.int .u64 E]] w fun e w'=>e=.returned (Lp (Jm s))∧w.grownBy w' none:=by
 subst hA hB hC hD hE
 exact NJ s w
theorem ACb {A B C D E:Int} (s:St) (hA:A=wi s.a) (hB:B=wi s.b) (hC:C=wi s.c) (hD:D=wi s.d) (hE:E=wi s.e) (w:World):Calls Tryz.prog 122 #[.agg #[.int .u64 A,.int .u64 B,.int .u64 C,.int .u64 D,.int .u64 E]] w fun e w'=>e=.returned (Lp (Jm s))∧w.grownBy w' none:=by
 subst hA hB hC hD hE
 exact N3 s w
theorem bSt (a b c d e:Int) (w:World):(Instr.build 105 #[(0,.int .u64 a),(1,.int .u64 b),(2,.int .u64 c),(3,.int .u64 d),(4,.int .u64 e)]).run Tryz.prog w=.ok (.agg #[.int .u64 a,.int .u64 b,.int .u64 c,.int .u64 d,.int .u64 e]) w:=by kernel_rfl
theorem Iz:wi (1:BitVec 64)=1∧wi (2:BitVec 64)=2∧wi (3:BitVec 64)=3∧wi (4:BitVec 64)=4:=by decide
theorem Di:ET Tryz.prog 29 5 (.int .u8 0) 1 1:=⟨Tryz.underlying29,info_parts (by kernel_rfl),rfl,by decide,by decide⟩
theorem Rn:(Tryz.prog.info? 5).map (·.size)=some 1:=by kernel_rfl
theorem tyB (x:Int):TY Tryz.prog 5 [.int .u8 x] (.int .u8 x):=TY.one' Tryz.underlying5 rfl (by kernel_rfl) rfl
theorem W8 {w:World} {B n:Nat} {xs:List Value} {t:TypeId} {fr:Nat×Nat} (h:w.heap[B]?=some (.cells xs.toArray t fr)) (hn:n=xs.length∧n≤1000):Sl w 1 (.slice (some ⟨B,0,none⟩) n n) n xs:=by
 obtain⟨rfl,hm⟩:=hn
 refine⟨by rw[Nat.mul_one],_,_,rfl,Nat.le_refl _,by unfold maxLen;omega,fun h=>(by cases h),fun ad had=>?_⟩
 obtain rfl:=Option.some.inj had
 refine⟨fun _=>rfl,fun j u hu=>?_⟩
 rw[Nat.zero_add,AOS w B j _ t fr h]
 simpa using hu
theorem JR (x:List Nat):∀v∈bv x,v.oneCell'=true:=by
 intro v hv
 unfold bv at hv
 simp only[List.mem_map] at hv
 obtain⟨b,_,rfl⟩:=hv
 rfl
theorem Ro {l:List Nat} {s:Value} {w:World} (h:Sl w 1 s 8 (bv l)) (hl:l.length=8) (hb:∀x∈l,x<256) (n:Nat):Calls Tryz.prog 151 #[s] (w.drewN n) fun e w'=>e=.returned (.int .u64 (wi (wd l)))∧w'=w.drewN n:=
 AE7 l hl hb s _ (Sl.kept h (CI _ _) (by cases s.ownBlock<;>simp))
theorem AGo (m:List Nat) (h:m.length<8):(bv m++(bv (zs 8)).drop m.length).take m.length++([Value.int .u8 1]++(bv m++(bv (zs 8)).drop m.length).drop (m.length+[Value.int .u8 1].length))=bv (m++1::zs (7-m.length)):=by
 have e1:(bv m++(bv (zs 8)).drop m.length).take m.length=bv m:=by rw[List.take_left' (AO m)]
 have e2:(bv m++(bv (zs 8)).drop m.length).drop (m.length+[Value.int .u8 1].length)=bv (zs (7-m.length)):=by
  rw[List.drop_append,List.drop_of_length_le (by rw[AO];simp),AO,List.drop_drop,List.nil_append]
  unfold bv zs
  rw[←List.map_drop,List.drop_replicate]
  congr 2
  simp only[List.length_cons,List.length_nil]
  omega
 rw[e1,e2]
 simp[bv]
structure AbR (w wr:World) (R0 R1:Nat) (S:St):Prop where
 g:w.grownBy wr none
 lo:w.heap.size≤R0∧R0<R1
 z:wr.heap[R0]?=some (.cells #[.int .u64 0,.int .u64 0,.int .u64 0,.int .u64 0,.int .u64 0] 105 (0,0))
 r:wr.heap[R1]?=some (.cells #[.int .u64 (wi S.a),.int .u64 (wi S.b),.int .u64 (wi S.c),.int .u64 (wi S.d),.int .u64 (wi S.e)] 105 (0,0))
theorem AbR.call {w wr w':World} {R0 R1:Nat} {S:St} (h:AbR w wr R0 R1 S) (g:wr.grownBy w' none):AbR w w' R0 R1 S:=
 ⟨AA h.g g,h.lo,AF g h.z (by simp),AF g h.r (by simp)⟩
theorem AbR.far {w wr w':World} {R0 R1 k:Nat} {S:St} (h:AbR w wr R0 R1 S) (g:wr.grownBy w' (some k)) (hk:R1<k):AbR w w' R0 R1 S:=
 ⟨AE h.g g (by have:=h.lo;omega),h.lo,AF g h.z (by have:=h.lo;simp;omega),AF g h.r (by simp;omega)⟩
theorem AbR.put {w wr w':World} {R0 R1:Nat} {S S':St} (h:AbR w wr R0 R1 S) (g:wr.grownBy w' (some R1)) (hr:w'.heap[R1]?=some (.cells #[.int .u64 (wi S'.a),.int .u64 (wi S'.b),.int .u64 (wi S'.c),.int .u64 (wi S'.d),.int .u64 (wi S'.e)] 105 (0,0))):AbR w w' R0 R1 S':=
 ⟨AE h.g g (by have:=h.lo;omega),h.lo,AF g h.z (by have:=h.lo;simp;omega),hr⟩
theorem AbR.xor {w wr:World} {R0 R1 n:Nat} {S:St} {x:BitVec 64} (h:AbR w wr R0 R1 S) (l:List Nat) (hx:wd l=x):AbR w ((wr.drewN n).setCell ⟨R1,0,none⟩ (.int .u64 (bits .xor .u64 (wi S.a) (wi x)))) R0 R1 (xr S l):=by
 subst hx
 have g:wr.grownBy ((wr.drewN n).setCell ⟨R1,0,none⟩ (.int .u64 (bits .xor .u64 (wi S.a) (wi (wd l))))) (some R1):=AA (E2 (CI wr n)) (BE (wr.drewN n) ⟨R1,0,none⟩ _)
 refine h.put g ?_
 rw[Jl]
 exact Rj (w:=wr.drewN n) h.r
theorem QK (dom:BitVec 64) (l:List Nat) (hb:∀x∈l,x<256) (hl:l.length≤1099511627776) (s:Value) (w:World) (h:Sl w 1 s l.length (bv l)) :
  Calls Tryz.prog 136 #[.int .u64 (wi dom),s] w fun e w'=>e=.returned (Lp (IS dom l))∧w.grownBy w' none:=by
 obtain⟨ao,cap,rfl,hc1,hc2⟩:=Sl.shape h
 have HS:=AK h
 have HBt:=AK hb
 clear h hb
 obtain⟨fin,hfin⟩:∃f,f=IS dom l:=⟨_,rfl⟩
 rw[←hfin]
 have HF:=AK hfin
 clear hfin
 obtain⟨R0,hR0⟩:∃x,x=w.heap.size:=⟨_,rfl⟩
 have g0:=AK (World.grownBy_alloc w (.cells #[.int .u64 0,.int .u64 0,.int .u64 0,.int .u64 0,.int .u64 0] 105) none)
 have b0:=AK (Ak (w:=w) (o:=.cells #[.int .u64 0,.int .u64 0,.int .u64 0,.int .u64 0,.int .u64 0] 105) hR0)
 have HR0:=AK hR0
 clear hR0
 go_enter Tryz.func136,Tryz.ntmps136
 go_wp2_with (first|(refine Bw rfl 105 _ rfl #[(0,.int .u64 (wi dom)),(1,.int .u64 1),(2,.int .u64 2),(3,.int .u64 3),(4,.int .u64 4)] (by simp only[List.map_toArray,List.map_cons,List.map_nil,Act.eval];rfl) (bSt _ _ _ _ _ _) ?_)|fail)
 refine(AE9 ⟨dom,1,2,3,4⟩ rfl Iz.1.symm Iz.2.1.symm Iz.2.2.1.symm Iz.2.2.2.symm _).mono ?_
 rintro e w1 ⟨rfl,g1⟩
 have G1:=AK g1
 obtain⟨R1,hR1⟩:∃x,x=w1.heap.size:=⟨_,rfl⟩
 have HR1:=AK hR1
 have hR01:=AK (show R0<R1 by have:=g1.size;have:=HR0.out;simp at *;omega)
 clear g1 hR1
 go_wp2_with (first
  | (refine AY rfl 105 (.tmp 5) (.tmp 9) rfl rfl rfl (KP (KW dom)) (Ak rfl) rfl ?_;intro w2 g2 h2;have G2:=AK g2;have H2:=AK h2;clear g2 h2)
  | fail)
 go_frame
 rw[←HR0.out,←HR1.out]
 have hab:AbR w w2 R0 R1 (KW dom):=by
  have k0:=AF G1.out b0.out (by simp)
  have k1:=AF (World.grownBy_alloc w1 (.cells #[.int .u64 0,.int .u64 0,.int .u64 0,.int .u64 0,.int .u64 0] 105) none) k0 (by simp)
  have hh:=G2.out
  have h2:=H2.out
  rw[←HR1.out] at hh h2
  refine⟨AE (AA (AA g0.out G1.out) (World.grownBy_alloc w1 _ none)) hh (by have:=hR01.out;have:=HR0.out;omega),⟨by have:=HR0.out;omega,hR01.out⟩,AF hh k1 (by have:=hR01.out;simp;omega),h2⟩
 have HAB:=AK hab
 have HF2:=AK (show ab (KW dom) l=fin from HF.out.symm)
 clear hab g0 b0 HR0 HR1 G1 G2 H2 hR01 HF
 go_loopw [1] (fun v wr=>∃(m:List Nat) (ad:Option Addr) (cp:Nat) (S:St),v=.slice ad m.length cp∧Hid (Sl w 1 (.slice ad m.length cp) m.length (bv m))∧Hid (∀x∈m,x<256)∧m.length≤1099511627776∧m.length≤cp∧cp≤9223372036854775807∧Hid (ab S m=fin)∧Hid (AbR w wr R0 R1 S)) (fun v _=>WF v)
 case atStart=>exact⟨l,ao,cap,KW dom,rfl,HS,HBt,hl,hc1,hc2,HF2,HAB⟩
 case round =>
  obtain⟨m,ad,cp,S,rfl,HM,HMB,hm,hcp1,hcp2,HAS,HR⟩:=hrel
  by_cases h8:8≤m.length
  · have t1:decide ((8:Int)≤(m.length:Int))=true:=by simp;omega
    obtain⟨b,off,had,_⟩:=Sl.bytes HM.out (by omega)
    subst had
    have q1:(8:Int)≤(cp:Int):=by omega
    have q2:¬cp=0:=by omega
    obtain⟨ao8,cp8,r8,s8,q8⟩:=JQ Tryz.underlying29 Rn HM.out 8 m.length (some (.int .i64 8)) none (.inl rfl) (.inr ⟨rfl,rfl⟩) h8 (Nat.le_refl _)
    rw[Nat.mul_one,Nat.mul_one,show((bv m).drop 8).take (m.length-8)=bv (m.drop 8) by unfold bv;rw[←List.map_drop,←List.map_take,List.take_of_length_le (by simp)]] at s8
    have S8:=AK s8
    have R8:=AK r8
    have HX:=AK (Sl.kn (Sl.head HM.out h8) HR.out.g)
    have HXB:=AK (show ∀x∈m.take 8,x<256 from fun x hx=>HMB.out x (List.mem_of_mem_take hx))
    have HXL:=AK (show(m.take 8).length=8 by rw[List.length_take];omega)
    have HA2:=AK (show ab (Jm (xr S (m.take 8))) (m.drop 8)=fin by rw[←AGm h8];exact HAS.out)
    clear r8 s8 q8
    have c0:=AZ 0 (wi S.a) HR.out.r rfl
    have f0:=Ax 0 HR.out.r
    have y0:R1<wr.heap.size:=AOR c0
    go_wp2
    refine CJ 6 (by kernel_rfl) (by kernel_rfl) ?_
    simp only[List.take_succ_cons,List.take_zero,List.drop_succ_cons,List.drop_zero]
    repeat (quiet_step (fail))
    quiet_step ((exact Calls.quiet_of_same (Ro HX.out HXL.out HXB.out _)))
    repeat (quiet_step (fail))
    refine wpQuiet_nil ?_
    intro _ hwq
    obtain⟨nq,hwq⟩:=hwq
    subst hwq
    have HX2:=AK (AbR.xor (n:=nq) HR.out (m.take 8) rfl)
    go_wp2_with (first
     | (refine CP rfl 105 (.tmp 5) rfl rfl (KP (xr S (m.take 8))) HX2.out.r ?_)
     | fail)
    refine(NJ _ _).mono ?_
    rintro e w3 ⟨rfl,g3⟩
    have HX3:=AK (HX2.out.call g3)
    clear g3
    go_wp2_with (first
     | (refine AY rfl 105 (.tmp 5) (.tmp 21) rfl rfl rfl (KP (Jm (xr S (m.take 8)))) HX3.out.r rfl ?_;intro w4 g4 h4;have HX4:=AK (HX3.out.put g4 h4);have G4:=AK g4;clear g4 h4)
     | (refine Ip rfl 29 (.tmp 22) (some (.const (.int .i64 8))) none rfl _ rfl (some (.int .i64 8)) none rfl rfl (R8.out _) ?_)
     | fail)
    go_roundw
    case rel =>
     obtain⟨_,_,hv,z1,z2⟩:=Sl.shape S8.out
     simp only[Value.slice.injEq] at hv
     obtain⟨rfl,_,rfl⟩:=hv
     have hd:(m.drop 8).length=m.length-8:=List.length_drop
     exact⟨m.drop 8,ao8,cp8,Jm (xr S (m.take 8)),by rw[hd],by rw[hd];exact S8,AK (fun x hx=>HMB.out x (List.mem_of_mem_drop hx)),by rw[hd];omega,by rw[hd];exact z1,z2,HA2,HX4⟩
    case measure=>simp[WF];omega
  · have t1:decide ((8:Int)≤(m.length:Int))=false:=by simp;omega
    have i1:(0:Int)≤(m.length:Int):=by omega
    have i2:(m.length:Int)<8:=by omega
    obtain⟨R6,hR6⟩:∃x,x=wr.heap.size:=⟨_,rfl⟩
    have c0:=AZ 0 (wi S.a) HR.out.r rfl
    have y0:=AOR c0
    have k6:=AK (show R1<R6 by rw[hR6];exact y0)
    have ga:=World.grownBy_alloc wr (.cells (bv (zs 8)).toArray 162) none
    have HX0:=AK (HR.out.call ga)
    have HM0:=AK (Sl.kn (Sl.kn HM.out HR.out.g) ga)
    have B0:=AK (Ak (w:=wr) (o:=.cells (bv (zs 8)).toArray 162) hR6)
    have HR6:=AK hR6
    clear ga hR6 c0 y0
    go_wp2_with (first
     | (refine UP rfl (.tmp 24) (.tmp 25) 29 29 5 162 rfl wr.heap.size 8 8 m.length _ (bv m) (bv (zs 8)) Tryz.underlying29 Tryz.underlying29 Rn rfl rfl HM0.out (by rw[←HR6.out];exact B0.out) (by omega) (by rw[AO];unfold zs;simp;omega) (JR _) ?_;intro w5 g5 h5;have G5:=AK g5;have H5:=AK h5;clear g5 h5)
     | (refine Dc rfl 5 (.tmp 29) (.const (.int .u8 1)) rfl rfl rfl (tyB 1) H5.out (by rw[List.length_append,List.length_drop,AO,AO];unfold zs;simp;omega) ?_;intro w6 g6 h6;have G6:=AK g6;have H6:=AK h6;clear g6 h6)
     | fail)
    go_frame
    have HX6:=AK ((HX0.out.far G5.out (by have:=k6.out;have:=HR6.out;omega)).far G6.out (by have:=k6.out;have:=HR6.out;omega))
    have hrow:=H6.out
    rw[AGo m (by omega)] at hrow
    have hlen:(m++1::zs (7-m.length)).length=8:=by unfold zs;simp;omega
    have HW:=AK (W8 hrow (n:=8) (by rw[AO,hlen];omega))
    have HWL:=AK hlen
    have HWB:=AK (show ∀x∈m++1::zs (7-m.length),x<256 from fun x hx=>by
     rcases List.mem_append.1 hx with hx|hx
     · exact HMB.out x hx
     · rcases List.mem_cons.1 hx with rfl|hx
       · omega
       · unfold zs at hx;have:=(List.mem_replicate.1 hx).2;omega)
    have HF3:=AK (show Jm (xr S (m++1::zs (7-m.length)))=fin by rw[←Ze h8];exact HAS.out)
    clear hrow hlen H6 H5 G5 G6 HX0 HM0 B0
    have c0:=AZ 0 (wi S.a) HX6.out.r rfl
    have f0:=Ax 0 HX6.out.r
    have y0:=AOR c0
    refine CJ 5 (by kernel_rfl) (by kernel_rfl) ?_
    simp only[List.take_succ_cons,List.take_zero,List.drop_succ_cons,List.drop_zero]
    repeat (quiet_step (fail))
    quiet_step ((exact Calls.quiet_of_same (Ro HW.out HWL.out HWB.out _)))
    repeat (quiet_step (fail))
    refine wpQuiet_nil ?_
    intro _ hwq
    obtain⟨nq,hwq⟩:=hwq
    subst hwq
    have HX7:=AK (AbR.xor (n:=nq) HX6.out (m++1::zs (7-m.length)) rfl)
    go_wp2_with (first
     | (refine CP rfl 105 (.tmp 5) rfl rfl (KP (xr S (m++1::zs (7-m.length)))) HX7.out.r ?_)
     | fail)
    refine(NJ _ _).mono ?_
    rintro e w8 ⟨rfl,g8⟩
    have HX8:=AK (HX7.out.call g8)
    clear g8
    rw[HF3.out]
    go_wp2_with (first
     | (refine AY rfl 105 (.tmp 4) (.tmp 37) rfl rfl rfl (KP fin) HX8.out.z rfl ?_;intro w9 g9 h9;have G9:=AK g9;have H9:=AK h9;clear g9 h9)
     | fail)
    exact CU (b:=R0) rfl rfl (KP fin) H9.out rfl ⟨rfl,AE HX8.out.g G9.out HX8.out.lo.1⟩
end
section
open Go.RowKit
theorem Own.empty (w:World):Own (w.alloc (.cells #[] 5)) 5 1 (.slice (some ⟨w.heap.size,0,none⟩) 0 0) 0 []:=
 ⟨rfl,.inr ⟨w.heap.size,0,#[],rfl,Nat.zero_le _,Ak rfl,Nat.le_refl _,by unfold maxLen;omega,rfl,rfl⟩⟩
theorem Own.emptyH {w:World} {H:Nat} (h:H=w.heap.size):Own (w.alloc (.cells #[] 5)) 5 1 (.slice (some ⟨H,0,none⟩) 0 0) 0 []:=by subst h;exact Own.empty w
theorem Fresh.litH {w:World} {o:Obj} {n c H:Nat} (h:H=w.heap.size):Fresh w (w.alloc o) (.slice (some ⟨H,0,none⟩) n c):=by subst h;exact Fresh.lit w o n c
theorem Sl.mid {w:World} {g n cap a m:Nat} {l:List Nat} (h:Sl w 1 (.slice (some ⟨g,0,none⟩) n cap) n (bv l)) (ha:a+m≤n):Sl w 1 (.slice (some ⟨g,a,none⟩) m (cap-a)) m (bv ((l.drop a).take m)):=by
 obtain⟨hlx,ao0,cap0,hv,h3,h4,h5,h6⟩:=h
 simp only[Value.slice.injEq] at hv
 obtain⟨rfl,_,rfl⟩:=hv
 rw[AO] at hlx
 refine⟨by rw[AO,List.length_take,List.length_drop];omega,_,_,rfl,by omega,by omega,fun h=>(by cases h),fun x hx=>?_⟩
 obtain rfl:=Option.some.inj hx
 refine⟨fun _=>rfl,fun j u hu=>?_⟩
 have hj:=(List.getElem?_eq_some_iff.1 hu).1
 rw[AO,List.length_take] at hj
 have:=(h6 _ rfl).2 (a+j) u (by rw[←hu];unfold bv;rw[List.getElem?_map,List.getElem?_map,List.getElem?_take,if_pos (by omega),List.getElem?_drop])
 simpa using this
theorem W9 (x:List Nat):(bv x).all Value.oneCell'=true:=by simp[bv,Value.oneCell']
theorem Zh {l:List Nat} {s:Value} {w:World} (h:Sl w 1 s 8 (bv l)) (hl:l.length=8) (hb:∀x∈l,x<256) (n:Nat):Calls Tryz.prog 123 #[s] (w.drewN n) fun e w'=>e=.returned (.int .u64 (wi (wd l)))∧w'=w.drewN n:=
 ACY l hl hb s _ (Sl.kept h (CI _ _) (by cases s.ownBlock<;>simp))
theorem AGp (l:List Nat) (j:Nat):bv (l++1::zs j)++[.int .u8 0]=bv (l++1::zs (j+1)):=by
 unfold zs
 rw[List.replicate_succ']
 simp[bv]
theorem Oe (dom:BitVec 64) (l:List Nat) (hb:∀x∈l,x<256) (hl:l.length≤1000000000000) (s:Value) (w:World) (h:Sl w 1 s l.length (bv l)) :
  Calls Tryz.prog 80 #[.int .u64 (wi dom),s] w fun e w'=>e=.returned (Lp (IS dom l))∧w.grownBy w' none:=by
 obtain⟨ao,cap,rfl,hc1,hc2⟩:=Sl.shape h
 have HBt:=AK hb
 clear hb
 obtain⟨fin,hfin⟩:∃f,f=IS dom l:=⟨_,rfl⟩
 rw[←hfin]
 have HF:=AK hfin
 clear hfin
 obtain⟨R0,hR0⟩:∃x,x=w.heap.size:=⟨_,rfl⟩
 have g0:=AK (World.grownBy_alloc w (.cells #[.int .u64 0,.int .u64 0,.int .u64 0,.int .u64 0,.int .u64 0] 105) none)
 have b0:=AK (Ak (w:=w) (o:=.cells #[.int .u64 0,.int .u64 0,.int .u64 0,.int .u64 0,.int .u64 0] 105) hR0)
 have HR0:=AK hR0
 have HS:=AK (Sl.kn (Sl.kn h g0.out) (World.grownBy_alloc _ (.cells #[] 5) none))
 clear hR0 h
 go_enter Tryz.func80,Tryz.ntmps80
 go_wp2_with (first
  | (refine Ea Di rfl (.tmp 8) (.tmp 9) rfl _ 0 [] rfl (Own.emptyH (by simp)) _ l.length (bv l) rfl HS.out (W9 _) (by omega) ?_;intro v1 w1 o1 s1;have O1:=AK o1;have S1:=AK s1;clear o1 s1)
  | (refine JP Di rfl (.tmp 10) (.tmp 11) rfl v1 (0+l.length) ([]++bv l) rfl O1.out [.int .u8 1] 1 _ rfl rfl rfl rfl (by omega) ?_;intro v2 w2 o2 s2;have O2:=AK o2;have S2:=AK s2;clear o2 s2)
  | fail)
 have F0:Fresh (w.alloc (.cells #[.int .u64 0,.int .u64 0,.int .u64 0,.int .u64 0,.int .u64 0] 105)) w2 v2:=((Fresh.litH (by simp)).trans S1.out).trans S2.out
 have b2:=AK (AF F0.1 b0.out (by simp[Value.ownBlock]))
 have FW:=AK (show Fresh w w2 v2 from Step.grown g0.out F0)
 have OW:=AK (show Own w2 5 1 v2 (l.length+1+0) (bv (l++1::zs 0)) from by have:=O2.out;rw[Nat.zero_add,List.nil_append] at this;simpa [bv,zs] using this)
 clear F0 b0 g0 HS O1 S1 O2 S2
 rw[←HR0.out]
 go_loopw [5] (fun v wr=>∃j:Nat,j≤7-l.length%8∧Hid (Own wr 5 1 v (l.length+1+j) (bv (l++1::zs j)))∧Hid (Fresh w wr v)∧Hid (wr.heap[R0]?=some (.cells #[.int .u64 0,.int .u64 0,.int .u64 0,.int .u64 0,.int .u64 0] 105 (0,0)))) (fun v _=>(Oc l).length-WF v)
 case atStart=>exact⟨0,by omega,OW,FW,b2⟩
 case round =>
  clear OW FW b2
  obtain⟨j,hj,OW,FW,b2⟩:=hrel
  rename_i vp _
  obtain⟨_,ad,cp,rfl,hcp1,hcp2,_⟩:=Sl.of_own OW.out
  by_cases hz:(l.length+1+j)%8=0
  · obtain rfl:j=7-l.length%8:=by omega
    obtain⟨N,hN⟩:∃N,N=l.length/8+1:=⟨_,rfl⟩
    have hn:l.length+1+(7-l.length%8)=8*N:=by omega
    have hP:bv (l++1::zs (7-l.length%8))=bv (Oc l):=rfl
    have hPL:(Oc l).length=8*N:=by rw[AD7,hN]
    have hN2:N≤200000000000:=by omega
    rw[hP] at OW
    rename_i hsl _
    clear hsl hz hj
    generalize l.length+1+(7-l.length%8)=n at *
    subst hn
    have HPL:=AK hPL
    have HN:=AK hN
    have HFB:=AK (show ∀x∈Oc l,x<256 from fun x hx=>by
     rcases List.mem_append.1 hx with hx|hx
     · exact HBt.out x hx
     · rcases List.mem_cons.1 hx with rfl|hx
       · omega
       · unfold zs at hx;have:=(List.mem_replicate.1 hx).2;omega)
    clear hPL hN hP
    have t1:((8*(N:Int))%8 != 0)=false:=by simp
    have i0:(0:Int)≤8*(N:Int):=by omega
    have q0:=AOR (show wr.cell? ⟨R0,0,none⟩=some (.int .u64 0) by rw[AOS _ _ _ _ _ _ b2.out];rfl)
    have Q0:=AK q0
    clear q0
    go_wp2_with (first|(refine Bw rfl 105 _ rfl #[(0,.int .u64 (wi dom)),(1,.int .u64 1),(2,.int .u64 2),(3,.int .u64 3),(4,.int .u64 4)] (by simp only[List.map_toArray,List.map_cons,List.map_nil,Act.eval];rfl) (bSt _ _ _ _ _ _) ?_)|fail)
    refine(ACb ⟨dom,1,2,3,4⟩ rfl Iz.1.symm Iz.2.1.symm Iz.2.2.1.symm Iz.2.2.2.symm _).mono ?_
    rintro e w5 ⟨rfl,g5⟩
    have G5:=AK g5
    obtain⟨R1,hR1⟩:∃x,x=w5.heap.size:=⟨_,rfl⟩
    have HR1:=AK hR1
    have hR01:=AK (show R0<R1 by have:=g5.size;have:=Q0.out;omega)
    clear g5 hR1
    go_wp2_with (first
     | (refine AY rfl 105 (.tmp 6) (.tmp 22) rfl rfl rfl (KP (KW dom)) (Ak rfl) rfl ?_;intro w6 g6 h6;have G6:=AK g6;have H6:=AK h6;clear g6 h6)
     | fail)
    rw[←HR1.out]
    have ga:=World.grownBy_alloc w5 (.cells #[.int .u64 0,.int .u64 0,.int .u64 0,.int .u64 0,.int .u64 0] 105) none
    have HAB:=AK (show AbR w w6 R0 R1 (KW dom) from by
     have k0:=AF G5.out b2.out (by simp)
     have k1:=AF ga k0 (by simp)
     have hh:=G6.out
     have h2:=H6.out
     rw[←HR1.out] at hh h2
     have:=hR01.out
     have:=HR0.out
     exact⟨AE (AA (AA FW.out.1 G5.out) ga) hh (by omega),⟨by omega,hR01.out⟩,AF hh k1 (by simp;omega),h2⟩)
    have HO6:=AK (show Own w6 5 1 (.slice ad (8*N) cp) (8*N) (bv (Oc l)) from Own.past (Own.kn (Own.kn OW.out G5.out) ga) G6.out (Ak rfl) (by decide))
    clear ga G5 G6 H6 hR01 HR1 OW FW b2 Q0
    go_loopw [7] (fun i wq=>∃k:Nat,k≤N∧i=.int .i64 (8*(k:Int))∧Hid (AbR w wq R0 R1 (Hq (KW dom) (Oc l) k))∧Hid (Own wq 5 1 (.slice ad (8*N) cp) (8*N) (bv (Oc l)))) (fun i _=>(8*N-intOf i).toNat)
    case atStart=>exact⟨0,by omega,rfl,HAB,HO6⟩
    case round =>
     clear HAB HO6
     obtain⟨k,hk,rfl,HR,HO⟩:=hrel
     by_cases hlt:k<N
     · have t2:decide (8*(k:Int)<8*(N:Int))=true:=by simp;omega
       obtain⟨g,had⟩:∃g,ad=some ⟨g,0,none⟩:=by
         rcases HO.out.2 with ⟨h1,_⟩|⟨g,_,_,h1,_⟩
         · simp at h1;omega
         · simp at h1;exact⟨g,h1.1⟩
       subst had
       have c0:wr.cell? ⟨R1,0,none⟩=some (.int .u64 (wi (Hq (KW dom) (Oc l) k).a)):=by rw[AOS _ _ _ _ _ _ HR.out.r];rfl
       have f0:=Ax 0 HR.out.r
       have y0:=AOR c0
       have e1:IntKind.i64.wrap (8*(k:Int)+8)=8*(k:Int)+8:=by rw[IntKind.wrap_i64];omega
       have e2:(8*(k:Int)).toNat=8*k:=by omega
       have e3:(8*(k:Int)+8).toNat=8*k+8:=by omega
       have e4:(0:Int)≤8*(k:Int):=by omega
       have e5:(0:Int)≤8*(k:Int)+8:=by omega
       have e6:8*(k:Int)+8≤(cp:Int):=by omega
       have e7:8*(k:Int)≤8*(k:Int)+8:=by omega
       have e8:¬cp=8*k:=by omega
       have e9:8*k+8-8*k=8:=by omega
       have HX:=AK (Sl.mid (m:=8) (a:=8*k) (Sl.of_own HO.out) (by omega))
       have HXL:=AK (show(((Oc l).drop (8*k)).take 8).length=8 by rw[List.length_take,List.length_drop,HPL.out];omega)
       have HXB:=AK (show ∀x∈((Oc l).drop (8*k)).take 8,x<256 from fun x hx=>HFB.out x (List.mem_of_mem_drop (List.mem_of_mem_take hx)))
       have HCS:=AK (Zf (KW dom) (Oc l) k)
       go_wp2
       refine CJ 9 (by kernel_rfl) (by kernel_rfl) ?_
       simp only[List.take_succ_cons,List.take_zero,List.drop_succ_cons,List.drop_zero]
       repeat (quiet_step (fail))
       quiet_step ((exact Calls.quiet_of_same (Zh HX.out HXL.out HXB.out _)))
       repeat (quiet_step (fail))
       refine wpQuiet_nil ?_
       intro _ hwq
       obtain⟨nq,hwq⟩:=hwq
       subst hwq
       have HX2:=AK (AbR.xor (n:=nq) HR.out (((Oc l).drop (8*k)).take 8) rfl)
       have HO2:=AK (show Own ((wr.drewN nq).setCell ⟨R1,0,none⟩ (.int .u64 (bits .xor .u64 (wi (Hq (KW dom) (Oc l) k).a) (wi (wd (((Oc l).drop (8*k)).take 8)))))) 5 1 (.slice (some ⟨g,0,none⟩) (8*N) cp) (8*N) (bv (Oc l)) from Own.past (Own.kn HO.out (CI wr nq)) (BE (wr.drewN nq) ⟨R1,0,none⟩ _) HR.out.r (by decide))
       clear e1 e2 e3 e4 e5 e6 e7 e8 e9
       go_wp2_with (first
         | (refine CP rfl 105 (.tmp 6) rfl rfl (KP (xr (Hq (KW dom) (Oc l) k) (((Oc l).drop (8*k)).take 8))) HX2.out.r ?_)
         | fail)
       refine(N3 _ _).mono ?_
       rintro e w7 ⟨rfl,g7⟩
       rw[←HCS.out]
       have HX3:=AK (HX2.out.call g7)
       have HO3:=AK (Own.kn HO2.out g7)
       clear g7 c0 f0 y0
       have e1:IntKind.i64.wrap (8*(k:Int)+8)=8*(k:Int)+8:=by rw[IntKind.wrap_i64];omega
       have e4:(0:Int)≤8*(k:Int):=by omega
       go_wp2_with (first
         | (refine AY rfl 105 (.tmp 6) (.tmp 40) rfl rfl rfl (KP (Hq (KW dom) (Oc l) (k+1))) HX3.out.r rfl ?_;intro w8 g8 h8;have HX4:=AK (HX3.out.put g8 h8);have HO4:=AK (Own.past HO3.out g8 HX3.out.r (by decide));clear g8 h8)
         | fail)
       go_roundw
       case rel=>exact⟨k+1,by omega,by go_num,HX4,HO4⟩
       case measure=>simp[intOf];omega
     · obtain rfl:k=N:=by omega
       have t2:decide (8*(k:Int)<8*(k:Int))=false:=by simp
       have HFN:=AK (show Hq (KW dom) (Oc l) k=fin by rw[HN.out,ACZ,HF.out];rfl)
       rw[HFN.out] at HR
       go_wp2_with (first
         | (refine CP rfl 105 (.tmp 6) rfl rfl (KP fin) HR.out.r ?_)
         | (refine AY rfl 105 (.tmp 4) (.tmp 41) rfl rfl rfl (KP fin) HR.out.z rfl ?_;intro w9 g9 h9;have G9:=AK g9;have H9:=AK h9;clear g9 h9)
         | fail)
       exact CU (b:=R0) rfl rfl (KP fin) H9.out rfl ⟨rfl,AE HR.out.g G9.out HR.out.lo.1⟩
  · have t1:(((l.length:Int)+1+(j:Int))%8 != 0)=true:=by simp;omega
    have i0:(0:Int)≤((l.length+1+j:Nat):Int):=by omega
    go_wp2_with (first
     | (refine JP Di rfl (.tmp 17) (.tmp 18) rfl (.slice ad (l.length+1+j) cp) (l.length+1+j) (bv (l++1::zs j)) rfl OW.out [.int .u8 0] 1 _ rfl rfl rfl rfl (by omega) ?_;intro v3 w3 o3 s3;have O3:=AK o3;have S3:=AK s3;clear o3 s3)
     | fail)
    go_roundw
    case rel =>
     exact⟨j+1,by omega,AK (by have:=O3.out;rw[AGp] at this;exact this),AK (FW.out.trans S3.out),AK (AF S3.out.1 b2.out (fun e=>Own.ne OW.out b2.out (by decide) e.symm))⟩
    case measure =>
     obtain⟨_,ad3,cp3,rfl,_⟩:=Sl.of_own O3.out
     simp only[WF,AD7]
     omega
end
section
open Go.RowKit
theorem AK7 (s:St) (n k:Nat) (hk:k<n):(bv (sq s k++zs (n-k))).take k++([Value.int .u8 (wb (it (k/8) s).a (k%8):Nat)]++(bv (sq s k++zs (n-k))).drop (k+1))=bv (sq s (k+1)++zs (n-(k+1))):=by
 have e0:(bv (sq s k)).length=k:=by rw[AO,N8]
 rw[DS,List.take_left' e0,List.drop_append,List.drop_of_length_le (by rw[e0];omega),e0,AD9,DS,DS]
 have e1:(bv (zs (n-k))).drop (k+1-k)=bv (zs (n-(k+1))):=by
  unfold bv zs
  rw[←List.map_drop,List.drop_replicate]
  congr 2
  omega
 rw[e1]
 simp[bv]
theorem AI4 (s:St) (k:Nat) (hk:0<k) (h8:k%8=0):Jm (it ((k-1)/8) s)=it (k/8) s:=by
 rw[←AD8]
 congr 1
 omega
theorem AEA (s:St) (k:Nat) (h:k=0∨¬k%8=0):it ((k-1)/8) s=it (k/8) s:=by
 congr 1
 omega
theorem ACc (x:BitVec 64) (r:Nat):wi x/2^(8*r)%256=(wb x r:Nat):=by
 rw[←AMI,IntKind.wrap_u8]
theorem XA (x:BitVec 64) (r:Nat) (h:r=0):wi x%256=(wb x r:Nat):=by
 subst h
 have:=ACc x 0
 simpa using this
structure SqR (w wr:World) (T:TypeId) (D R n:Nat) (C:List Nat) (S:St):Prop where
 g:w.grownBy wr (some D)
 ne:D<R∧w.heap.size≤R
 d:wr.heap[D]?=some (.cells (bv C).toArray T (0,0))
 l:C.length=n
 r:wr.heap[R]?=some (.cells #[.int .u64 (wi S.a),.int .u64 (wi S.b),.int .u64 (wi S.c),.int .u64 (wi S.d),.int .u64 (wi S.e)] 105 (0,0))
section
variable {w wr w':World} {T:TypeId} {D R n:Nat} {C:List Nat} {S S':St}
theorem SqR.call (h:SqR w wr T D R n C S) (g:wr.grownBy w' none):SqR w w' T D R n C S:=
 ⟨AA h.g (E2 g),h.ne,AF g h.d (by simp),h.l,AF g h.r (by simp)⟩
theorem AFB {a b c:World} {D R:Nat} (h:a.grownBy b (some D)) (k:b.grownBy c (some R)) (hR:a.heap.size≤R):a.grownBy c (some D):=
 ⟨k.os.trans h.os,k.tape.trans h.tape,k.output.trans h.output,Nat.le_trans h.size k.size,fun i hi hne =>
  (k.block i (Nat.lt_of_lt_of_le hi h.size) (by simp;omega)).trans (h.block i hi hne)⟩
theorem SqR.put (h:SqR w wr T D R n C S) (g:wr.grownBy w' (some R)) (hr:w'.heap[R]?=some (.cells #[.int .u64 (wi S'.a),.int .u64 (wi S'.b),.int .u64 (wi S'.c),.int .u64 (wi S'.d),.int .u64 (wi S'.e)] 105 (0,0))):SqR w w' T D R n C S':=
 ⟨AFB h.g g h.ne.2,h.ne,AF g h.d (by have:=h.ne;simp;omega),h.l,hr⟩
theorem SqR.byte {s:St} {k:Nat} (h:SqR w wr T D R n (sq s k++zs (n-k)) S) (hk:k<n) (g:wr.grownBy w' (some D))
  (hd:w'.heap[D]?=some (.cells ((bv (sq s k++zs (n-k))).take k++([Value.int .u8 (wb (it (k/8) s).a (k%8):Nat)]++(bv (sq s k++zs (n-k))).drop (k+1))).toArray T (0,0))):SqR w w' T D R n (sq s (k+1)++zs (n-(k+1))) S:=by
 rw[AK7 s n k hk] at hd
 exact⟨AA h.g g,h.ne,hd,by rw[List.length_append,N8];unfold zs;simp;omega,AF g h.r (by have:=h.ne;simp;omega)⟩
end
theorem Of (s:St) (n:Nat) (hn:n≤1099511627776) (D:Nat) (T:TypeId) (w:World) (hD:w.heap[D]?=some (.cells (bv (zs n)).toArray T (0,0))) :
  Calls Tryz.prog 135 #[Lp s,.slice (some ⟨D,0,none⟩) n n] w fun e w'=>e=.returned (.tuple #[])∧w.grownBy w' (some D)∧w'.heap[D]?=some (.cells (bv (sq s n)).toArray T (0,0)):=by
 have hD0:D<w.heap.size:=by
  have:=Array.getElem?_eq_some_iff.1 hD
  exact this.1
 obtain⟨R,hR⟩:∃x,x=w.heap.size:=⟨_,rfl⟩
 have ga:=World.grownBy_alloc w (.cells #[.int .u64 (wi s.a),.int .u64 (wi s.b),.int .u64 (wi s.c),.int .u64 (wi s.d),.int .u64 (wi s.e)] 105) none
 have HS:=AK (show SqR w (w.alloc (.cells #[.int .u64 (wi s.a),.int .u64 (wi s.b),.int .u64 (wi s.c),.int .u64 (wi s.d),.int .u64 (wi s.e)] 105)) T D R n (sq s 0++zs (n-0)) (it ((0-1)/8) s) from⟨E2 ga,by omega,AF ga hD (by simp),by unfold sq zs;simp,Ak hR⟩)
 have HR:=AK hR
 clear ga hR hD hD0
 unfold Lp
 go_enter Tryz.func135,Tryz.ntmps135
 go_wp2
 rw[←HR.out]
 go_loopw [7] (fun i wr=>∃k:Nat,k≤n∧i=.int .i64 k∧Hid (SqR w wr T D R n (sq s k++zs (n-k)) (it ((k-1)/8) s))) (fun i _=>(n-intOf i).toNat)
 case atStart=>exact⟨0,by omega,rfl,HS⟩
 case round =>
  clear HS HR
  obtain⟨k,hk,rfl,HS⟩:=hrel
  by_cases hlt:k<n
  · have i0:(0:Int)≤(k:Int):=by omega
    have i1:(k:Int)<(n:Int):=by omega
    have WB:=AK (ACc (it (k/8) s).a (k%8))
    have e2:(8*((k:Int)%8)).toNat=8*(k%8):=by omega
    have e3:(0:Int)≤8*((k:Int)%8):=by omega
    have e4:8*((k:Int)%8)<64:=by omega
    by_cases hk0:0<k
    · have t0:decide (0<k)=true:=decide_eq_true hk0
      by_cases h8:k%8=0
      · have t1:((k:Int)%8 == 0)=true:=by simp;omega
        have HE:=AK (AI4 s k hk0 h8)
        clear e2 e3 e4
        go_wp2_with (first
         | (refine CP rfl 105 (.tmp 2) rfl rfl (KP (it ((k-1)/8) s)) HS.out.r ?_)
         | fail)
        refine(NJ _ _).mono ?_
        rintro e w1 ⟨rfl,g1⟩
        rw[HE.out]
        have HS1:=AK (HS.out.call g1)
        clear g1 HS
        have e2:(8*((k:Int)%8)).toNat=8*(k%8):=by omega
        have e3:(0:Int)≤8*((k:Int)%8):=by omega
        have e4:8*((k:Int)%8)<64:=by omega
        go_wp2_with (first
         | (refine AY rfl 105 (.tmp 2) (.tmp 18) rfl rfl rfl (KP (it (k/8) s)) HS1.out.r rfl ?_;intro w2 g2 h2;have HS:=AK (HS1.out.put g2 h2);clear g2 h2;have c0:w2.cell? ⟨R,0,none⟩=some (.int .u64 (wi (it (k/8) s).a)):=(by rw[AOS _ _ _ _ _ _ HS.out.r];rfl))
         | (refine Dc rfl 5 (.tmp 28) (.tmp 27) rfl rfl rfl (tyB _) HS.out.d (by rw[AO,HS.out.l];simp;omega) ?_;intro w3 g3 h3;have G3:=AK g3;have H3:=AK h3;clear g3 h3)
         | fail)
        go_roundw
        case rel=>exact⟨k+1,by omega,by go_num,AK (HS.out.byte hlt G3.out (by have:=H3.out;rw[XA _ _ h8] at this;exact this))⟩
        case measure=>simp[intOf];omega
      · have t1:((k:Int)%8 == 0)=false:=by simp;omega
        have HE:=AK (AEA s k (.inr h8))
        rw[HE.out] at HS
        have c0:wr.cell? ⟨R,0,none⟩=some (.int .u64 (wi (it (k/8) s).a)):=by rw[AOS _ _ _ _ _ _ HS.out.r];rfl
        go_wp2_with (first
         | (refine Dc rfl 5 (.tmp 28) (.tmp 27) rfl rfl rfl (tyB _) HS.out.d (by rw[AO,HS.out.l];simp;omega) ?_;intro w3 g3 h3;have G3:=AK g3;have H3:=AK h3;clear g3 h3)
         | fail)
        go_roundw
        case rel=>exact⟨k+1,by omega,by go_num,AK (HS.out.byte hlt G3.out (by have:=H3.out;rw[WB.out] at this;exact this))⟩
        case measure=>simp[intOf];omega
    · obtain rfl:k=0:=by omega
      have HE:=AK (AEA s 0 (.inl rfl))
      rw[HE.out] at HS
      have c0:wr.cell? ⟨R,0,none⟩=some (.int .u64 (wi (it (0/8) s).a)):=by rw[AOS _ _ _ _ _ _ HS.out.r];rfl
      go_wp2_with (first
        | (refine Dc rfl 5 (.tmp 28) (.tmp 27) rfl rfl rfl (tyB _) HS.out.d (by rw[AO,HS.out.l];simp;omega) ?_;intro w3 g3 h3;have G3:=AK g3;have H3:=AK h3;clear g3 h3)
        | fail)
      go_roundw
      case rel=>exact⟨0+1,by omega,rfl,AK (HS.out.byte hlt G3.out (by have:=H3.out;rw[XA (it 0 s).a (0%8) rfl] at this;exact this))⟩
      case measure=>simp[intOf];omega
  · obtain rfl:k=n:=by omega
    go_wp2
    go_end0
    exact⟨rfl,HS.out.g,by have:=HS.out.d;rw[Nat.sub_self] at this;simpa [zs] using this⟩
end
section
open Go.RowKit
theorem AI5 (s:St) (m k:Nat) (hk:k<8):bv (sq s (8*m+k))++[.int .u8 (wb (it m s).a k:Nat)]=bv (sq s (8*m+(k+1))):=by
 rw[←Nat.add_assoc,AD9,show(8*m+k)/8=m by omega,show(8*m+k)%8=k by omega]
 simp[bv]
theorem AI6 (s:St) {n N:Nat} (h:n≤N):(sq s N).take n=sq s n:=by
 unfold sq
 rw[←List.map_take,List.take_range,Nat.min_eq_left h]
theorem Fresh.put {w wr w':World} {v:Value} {R:Nat} (h:Fresh w wr v) (g:wr.grownBy w' (some R)) (hR:w.heap.size≤R):Fresh w w' v:=⟨AE h.1 g hR,h.2⟩
theorem Fresh.kn {w wr w':World} {v:Value} (h:Fresh w wr v) (g:wr.grownBy w' none):Fresh w w' v:=⟨AA h.1 g,h.2⟩
structure RqR (w wr:World) (R n:Nat) (v:Value) (C:List Nat) (S:St):Prop where
 f:Fresh w wr v
 lo:w.heap.size≤R
 o:Own wr 5 1 v n (bv C)
 r:wr.heap[R]?=some (.cells #[.int .u64 (wi S.a),.int .u64 (wi S.b),.int .u64 (wi S.c),.int .u64 (wi S.d),.int .u64 (wi S.e)] 105 (0,0))
section
variable {w wr w':World} {R n:Nat} {v:Value} {C:List Nat} {S S':St}
theorem RqR.call (h:RqR w wr R n v C S) (g:wr.grownBy w' none):RqR w w' R n v C S:=⟨h.f.kn g,h.lo,Own.kn h.o g,AF g h.r (by simp)⟩
theorem RqR.put (h:RqR w wr R n v C S) (g:wr.grownBy w' (some R)) (hr:w'.heap[R]?=some (.cells #[.int .u64 (wi S'.a),.int .u64 (wi S'.b),.int .u64 (wi S'.c),.int .u64 (wi S'.d),.int .u64 (wi S'.e)] 105 (0,0))):RqR w w' R n v C S':=
 ⟨h.f.put g h.lo,h.lo,Own.past h.o g h.r (by decide),hr⟩
theorem RqR.app {v':Value} {n':Nat} {C':List Nat} (h:RqR w wr R n v C S) (st:Step wr v w' v') (o:Own w' 5 1 v' n' (bv C')):RqR w w' R n' v' C' S:=
 ⟨h.f.trans st,h.lo,o,AF st.1 h.r (fun e=>Own.ne h.o h.r (by decide) e.symm)⟩
end
theorem Np (s:St) (n:Nat) (hn:n≤1000000000000) (w:World) :
   Calls Tryz.prog 79 #[Lp s,.int .i64 n] w fun e w'=>∃v,e=.returned v∧Sl w' 1 v n (bv (sq s n))∧w.grownBy w' none∧∀b,v.ownBlock=some b→w.heap.size≤b:=by
 obtain⟨R,hR⟩:∃x,x=w.heap.size:=⟨_,rfl⟩
 have ga:=World.grownBy_alloc w (.cells #[.int .u64 (wi s.a),.int .u64 (wi s.b),.int .u64 (wi s.c),.int .u64 (wi s.d),.int .u64 (wi s.e)] 105) none
 have HS:=AK (show RqR w ((w.alloc (.cells #[.int .u64 (wi s.a),.int .u64 (wi s.b),.int .u64 (wi s.c),.int .u64 (wi s.d),.int .u64 (wi s.e)] 105)).alloc (.cells #[] 5)) R (8*0) (.slice (some ⟨R+1,0,none⟩) 0 0) (sq s (8*0)) (it 0 s) from
   ⟨Step.grown ga (Fresh.litH (by simp[hR])),by omega,Own.emptyH (by simp[hR]),AF (World.grownBy_alloc _ _ none) (Ak hR) (by simp)⟩)
 have HR:=AK hR
 clear ga hR
 unfold Lp
 go_enter Tryz.func79,Tryz.ntmps79
 go_wp2
 rw[←HR.out]
 go_loopw [5] (fun v wr=>∃m:Nat,8*m<n+8∧Hid (RqR w wr R (8*m) v (sq s (8*m)) (it m s))) (fun v _=>n+8-WF v)
 case atStart=>exact⟨0,by omega,HS⟩
 case round =>
   clear HS HR
   obtain⟨m,hm,HS⟩:=hrel
   obtain⟨_,ad,cp,rfl,hcp1,hcp2,_⟩:=Sl.of_own HS.out.o
   by_cases hlt:8*m<n
   · have t0:decide (8*m<n)=true:=decide_eq_true hlt
     have t0':decide (8*(m:Int)<(n:Int))=true:=by simp;omega
     go_wp2
     go_loopw [5,6] (fun v i wq=>∃k:Nat,k≤8∧i=.int .i64 k∧Hid (RqR w wq R (8*m+k) v (sq s (8*m+k)) (it m s))) (fun _ i _=>(8-intOf i).toNat)
     case atStart=>exact⟨0,by omega,rfl,HS⟩
     case round =>
       clear HS
       obtain⟨k,hk,rfl,HS⟩:=hrel
       obtain⟨_,ad2,cp2,rfl,hcp3,hcp4,_⟩:=Sl.of_own HS.out.o
       by_cases hl8:k<8
       · have i0:(0:Int)≤(k:Int):=by omega
         have i1:(k:Int)<8:=by omega
         have c0:wr.cell? ⟨R,0,none⟩=some (.int .u64 (wi (it m s).a)):=by rw[AOS _ _ _ _ _ _ HS.out.r];rfl
         have e2:(8*(k:Int)).toNat=8*k:=by omega
         have e3:(0:Int)≤8*(k:Int):=by omega
         have e4:8*(k:Int)<64:=by omega
         have WB:=AK (ACc (it m s).a k)
         have WB0:=AK (fun h:k=0=>XA (it m s).a k h)
         go_wp2_with (first
           | (refine JP Di rfl (.tmp 16) (.tmp 23) rfl (.slice ad2 (8*m+k) cp2) (8*m+k) (bv (sq s (8*m+k))) rfl HS.out.o _ 1 _ rfl rfl rfl rfl (by omega) ?_;intro v3 w3 o3 s3;have O3:=AK o3;have S3:=AK s3;clear o3 s3)
           | fail)
         rw[WB.out,AI5 s m k hl8] at O3
         go_roundw
         case rel=>exact⟨k+1,by omega,by go_num,AK (HS.out.app S3.out O3.out)⟩
         case measure=>simp[intOf];omega
       · obtain rfl:k=8:=by omega
         go_wp2_with (first
           | (refine CP rfl 105 (.tmp 2) rfl rfl (KP (it m s)) HS.out.r ?_)
           | fail)
         refine(N3 _ _).mono ?_
         rintro e w1 ⟨rfl,g1⟩
         rw[←AD8]
         have HS1:=AK (HS.out.call g1)
         clear g1
         go_wp2_with (first
           | (refine AY rfl 105 (.tmp 2) (.tmp 26) rfl rfl rfl (KP (it (m+1) s)) HS1.out.r rfl ?_;intro w2 g2 h2;have HS2:=AK (HS1.out.put g2 h2);clear g2 h2)
           | fail)
         go_frame
         go_roundw
         case rel=>exact⟨m+1,by omega,HS2⟩
         case measure=>simp[WF];omega
   · have t0:decide (8*m<n)=false:=decide_eq_false hlt
     have t0':decide (8*(m:Int)<(n:Int))=false:=by simp;omega
     obtain⟨ao8,cp8,r8,s8,q8⟩:=JQ Tryz.underlying29 Rn (Sl.of_own HS.out.o) 0 n none (some (.int .i64 n)) (.inr ⟨rfl,rfl⟩) (.inl rfl) (by omega) (by omega)
     rw[Nat.zero_mul,Nat.mul_one,List.drop_zero,Nat.sub_zero,show(bv (sq s (8*m))).take n=bv (sq s n) by unfold bv;rw[←List.map_take,AI6 s (by omega)]] at s8
     rw[Nat.sub_zero] at r8
     have S8:=AK s8
     have R8:=AK r8
     have Q8:=AK q8
     clear s8 r8 q8
     go_wp2_with (first
       | (refine Ip rfl 29 (.tmp 27) none (some (.tmp 28)) rfl _ rfl none (some (.int .i64 n)) rfl rfl (R8.out _) ?_)
       | fail)
     go_ret
     exact⟨_,rfl,S8.out,HS.out.f.1,fun b hb=>by have:=HS.out.f.2 b (Q8.out b hb);simpa [Value.ownBlock] using this⟩
end
section
open Go.RowKit
def AQ (l:List Nat):Value:=.agg (bv l).toArray
theorem Mh {P:Program} {fn:Func} {p:Tmp} {T:TypeId} (h:fn.results=#[.cell p T]) {tmps:Array Value} {w:World} {b0:Nat} {c0:List Value} {v0:Value} {fr0:Nat×Nat} {u0:TypeId}
  (hp:tmps.getD p undef=ptr b0) (t0:TY P T c0 v0)
  (h0:w.heap[b0]?=some (.cells c0.toArray u0 fr0)) :
  (results fn tmps).run P w=.ok v0 w:=by
 have e0:=t0.load w b0 0 (Av h0)
 have hp':tmps[p]?.getD undef=.pointer (some ⟨b0,0,none⟩):=by simpa [ptr] using hp
 simp[results,h,hp',asAddr,e0]
theorem Bb (l:List Nat) (h:l.length=32):TY Tryz.prog 23 (bv l) (AQ l):=by
 refine TY.agg Tryz.underlying23 rfl ?_ (JR l)
 rw[AO,h]
 kernel_rfl
theorem Zi (w:World):CallsD Tryz.prog 134 #[] .returning w fun e u' w'=>e=.returned (.tuple #[])∧u'=.returning∧w'=w:=by
 refine callsD_of_wpS Tryz.func134 rfl fun c₀ cs hu=>?_
 apply wpS_region
 simp[wpOpsS,go_sem,recoverD,hu,Tryz.ntmps134]
 cases c₀
 simp_all [bodyPostS,results,Tryz.results134]
theorem AK8 {K:World→Prop} {w:World} (h:∀W:World,Hid (w.grownBy W none)→Hid (W.heap[w.heap.size]?=some (.cells (bv (zs 32)).toArray 23 (0,0)))→Hid (W.heap[w.heap.size+1]?=some (.cells (bv (zs 32)).toArray 23 (0,0)))→K W) :
  K ((w.alloc (.cells #[.int .u8 0,.int .u8 0,.int .u8 0,.int .u8 0,.int .u8 0,.int .u8 0,.int .u8 0,.int .u8 0,.int .u8 0,.int .u8 0,.int .u8 0,.int .u8 0,.int .u8 0,.int .u8 0,.int .u8 0,.int .u8 0,.int .u8 0,.int .u8 0,.int .u8 0,.int .u8 0,.int .u8 0,.int .u8 0,.int .u8 0,.int .u8 0,.int .u8 0,.int .u8 0,.int .u8 0,.int .u8 0,.int .u8 0,.int .u8 0,.int .u8 0,.int .u8 0] 23)).alloc (.cells #[.int .u8 0,.int .u8 0,.int .u8 0,.int .u8 0,.int .u8 0,.int .u8 0,.int .u8 0,.int .u8 0,.int .u8 0,.int .u8 0,.int .u8 0,.int .u8 0,.int .u8 0,.int .u8 0,.int .u8 0,.int .u8 0,.int .u8 0,.int .u8 0,.int .u8 0,.int .u8 0,.int .u8 0,.int .u8 0,.int .u8 0,.int .u8 0,.int .u8 0,.int .u8 0,.int .u8 0,.int .u8 0,.int .u8 0,.int .u8 0,.int .u8 0,.int .u8 0] 23)):=
 h _ (AK (AA (World.grownBy_alloc _ _ _) (World.grownBy_alloc _ _ _))) (AK (by rw[BZ (by simp),Ak rfl];rfl)) (AK (by rw[Ak (by simp)];rfl))
theorem Zj (dom:BitVec 64) (l:List Nat) (hb:∀x∈l,x<256) (hl:l.length≤1099511627776) (s:Value) (w:World) (h:Sl w 1 s l.length (bv l)) :
  Calls Tryz.prog 101 #[.int .u64 (wi dom),s] w fun e w'=>e=.returned (AQ (QJ dom l))∧w.grownBy w' none:=by
 obtain⟨ao,cap,rfl,hc1,hc2⟩:=Sl.shape h
 have HS:=AK h
 have HB:=AK hb
 clear h hb
 go_enter_defers Tryz.func101,Tryz.ntmps101
 go_wp2
 refine AK8 fun W GW Z0 Z1=>?_
 have HS2:=AK (Sl.kn (Sl.kn HS.out GW.out) (Cz _))
 clear HS
 refine wp_region_noPanic ?_
 go_region_law (go_simp;first
  | (refine(QK dom l HB.out hl _ _ HS2.out).mono ?_;rintro e v6 ⟨rfl,g6⟩;have G6:=AK g6;clear g6;dsimp only)
  | (refine(Of (IS dom l) 32 (by omega) (w.heap.size+1) 23 _ (AF G6.out (show W.drew.heap[w.heap.size+1]?=some (.cells (bv (zs 32)).toArray 23 (0,0)) from Z1.out) (by simp))).mono ?_;rintro e v7 ⟨rfl,g7,h7⟩;have G7:=AK g7;have H7:=AK h7;clear g7 h7;dsimp only)
  | fail)
 refine NoPanic.normal ?_
 have HL:=AK (Io dom l)
 rw[show sq (IS dom l) 32=QJ dom l from rfl] at H7
 have Z3:=AK (AF G7.out (AF G6.out (show W.drew.heap[w.heap.size]?=some (.cells (bv (zs 32)).toArray 23 (0,0)) from Z0.out) (by simp)) (by simp))
 have GG:=AK (AE (AA (AA GW.out (Cz W)) G6.out) G7.out (Nat.le_succ _))
 go_wp2_with (first
  | (refine CP rfl 23 (.tmp 5) rfl rfl (Bb (QJ dom l) HL.out) H7.out ?_)
  | (refine AY rfl 23 (.tmp 4) (.tmp 11) rfl rfl rfl (Bb (QJ dom l) HL.out) Z3.out (by rw[AO,HL.out];rfl) ?_;intro w9 g9 h9;have G9:=AK g9;have H9:=AK h9;clear g9 h9)
  | fail)
 refine leaves_cons (f:=134) (args:=#[]) (by simp) (by simp[go_sem]) ?_
 refine(Zi _).mono ?_
 rintro e u' w'' ⟨rfl,rfl,rfl⟩
 exact⟨_,Mh (p:=4) (b0:=w.heap.size) rfl rfl (Bb (QJ dom l) HL.out) H9.out,rfl,AE GG.out G9.out (Nat.le_refl _)⟩
theorem AFC (n:Nat) (hn:n≤1000000000000) (w:World):Calls Tryz.prog 137 #[.slice none 0 0,.int .i64 n] w fun e w'=>∃v,e=.returned v∧Own w' 5 1 v 0 []∧Fresh w w' v:=by
 by_cases h0:n=0
 · subst h0
   go_enter Tryz.func137,Tryz.ntmps137
   go_wp2
   go_ret
   exact⟨_,rfl,Own.nil _ _ _,Step.refl _ _⟩
 · have i0:(0:Int)≤(n:Int):=by omega
   have t0:decide ((n:Int)<0)=false:=by simp
   have t1:decide (0<n)=true:=by simp;omega
   obtain⟨i1,hi1,hz1,hs1,hb1⟩:=Di.inf
   have hr:=Lib.run_append_nil_zeros (P:=Tryz.prog) w 29 3 29 5 i1 (.int .u8 0) .i64 .i64 Tryz.underlying29 Tryz.underlying3 hi1 hz1 n (by omega) (by omega) (by omega) (by rw[hb1];omega)
   have hge:=grownCap_ge w n 0 5
   have hle:grownCap w n 0 5≤maxLen:=grownCap_le_maxLen w n 0 5 (by unfold maxLen;omega)
   have hzs:∀k,(Builtin.zeroCells (Value.int .u8 0).cells k).size=k:=by intro k;simp[Builtin.zeroCells,Value.cells]
   obtain⟨G,hG⟩:∃G,G=grownCap w n 0 5:=⟨_,rfl⟩
   obtain⟨C,hC⟩:∃C,C=Builtin.zeroCells (Value.int .u8 0).cells n++Builtin.zeroCells (Value.int .u8 0).cells (G-n):=⟨_,rfl⟩
   have hCs:C.size=G:=by rw[hC,Array.size_append,hzs,hzs];omega
   rw[←hG] at hr hge hle
   rw[←hC] at hr
   have HR:=AK hr
   have HLE:=AK hle
   have HCS:=AK hCs
   have g0:¬G=0:=by omega
   have g1:(0:Int)≤(G:Int):=by omega
   clear hr hle hge hG hC hCs hzs hi1 hz1 hs1 hb1
   go_enter Tryz.func137,Tryz.ntmps137
   go_wp2_with (first|(at_builtin;refine Lib.wpList_append_run _ rfl (.tmp 20) (.tmp 21) 29 3 rfl _ _ rfl rfl _ _ HR.out ?_)|fail)
   go_ret
   refine⟨_,rfl,⟨rfl,.inr ⟨w.heap.size,G,C,rfl,Nat.zero_le _,?_,Nat.zero_le _,HLE.out,?_,rfl⟩⟩,⟨AA (Cz w) (World.grownBy_alloc _ _ _),fun k hk=>.inr ?_⟩⟩
   · exact Ak rfl
   · rw[HCS.out,Nat.mul_one]
   · simp[Value.ownBlock] at hk;omega
end
section
open Go.RowKit
theorem AFD {N:Int} (n:Nat) (hN:N=(n:Int)) (hn:n≤1000000000000) (w:World):Calls Tryz.prog 137 #[.slice none 0 0,.int .i64 N] w fun e w'=>∃v,e=.returned v∧Own w' 5 1 v 0 []∧Fresh w w' v:=by
 subst hN
 exact AFC n hn w
theorem QL (x y:List Nat) (hx:x.length≤400000000000) (hy:y.length≤400000000000) (s t:Value) (w:World) (hs:Sl w 1 s x.length (bv x)) (ht:Sl w 1 t y.length (bv y)) (B:Nat)
  (hB:w.heap[B]?=some (.cells #[s,t] 29 (0,0))) :
  Calls Tryz.prog 102 #[.slice (some ⟨B,0,none⟩) 2 2] w fun e w'=>∃v,e=.returned v∧Own w' 5 1 v (x.length+y.length) (bv (x++y))∧Fresh w w' v:=by
 obtain⟨a1,c1,rfl,p1,p2⟩:=Sl.shape hs
 obtain⟨a2,c2,rfl,p3,p4⟩:=Sl.shape ht
 have k0:w.cell? ⟨B,0,none⟩=some (.slice a1 x.length c1):=by rw[AOS _ _ _ _ _ _ hB];rfl
 have k1:w.cell? ⟨B,1,none⟩=some (.slice a2 y.length c2):=by rw[AOS _ _ _ _ _ _ hB];rfl
 have z0:=AOR k0
 have HS:=AK hs
 have HT:=AK ht
 have HB:=AK hB
 have j1:(0:Int)≤(x.length:Int):=by omega
 have j2:(0:Int)≤(x.length:Int)+(y.length:Int):=by omega
 have j3:decide ((x.length:Int)+(y.length:Int)<0)=false:=by simp;omega
 have j4:decide ((x.length:Int)<0)=false:=by simp
 clear hs ht hB
 go_enter Tryz.func102,Tryz.ntmps102
 refine AOQ fun K1 k1h=>?_
 have HK1:=AK k1h
 clear k1h
 go_wp2
 refine HK1.out _ _ ?_
 clear HK1
 refine AOQ fun K2 k2h=>?_
 have HK2:=AK k2h
 clear k2h
 go_wp2
 refine HK2.out _ _ ?_
 clear HK2
 refine AOQ fun K3 k3h=>?_
 have HK3:=AK k3h
 clear k3h
 go_wp2
 refine wp_loop_rounds 3 ?_
 rw[rounds_succ]
 go_wp2
 rw[rounds_succ]
 go_wp2
 rw[rounds_succ]
 go_wp2
 refine HK3.out _ _ ?_
 clear HK3 k0 k1 z0
 go_wp2_with fail
 refine(AFD (x.length+y.length) (by simp) (by omega) _).mono ?_
 rintro e w1 ⟨v1,rfl,o1,f1⟩
 have O1:=AK o1
 have F1:=AK f1
 have HB1:=AF f1.1 HB.out (by simp[Value.ownBlock])
 have k0:w1.cell? ⟨B,0,none⟩=some (.slice a1 x.length c1):=by rw[AOS _ _ _ _ _ _ HB1];rfl
 have z0:=AOR k0
 have HBB:=AK HB1
 have HS1:=AK (Sl.kn HS.out f1.1)
 clear o1 f1 HB1
 go_wp2
 refine wp_loop_rounds 3 ?_
 rw[rounds_succ]
 go_wp2_with (first
  | (refine Ea Di rfl (.tmp 31) (.tmp 32) rfl _ 0 [] rfl O1.out _ x.length (bv x) rfl HS1.out (W9 _) (by omega) ?_;intro v2 w2 o2 s2;have O2:=AK o2;have F2:=AK (F1.out.trans s2);have HB2:=AK (AF s2.1 HBB.out (fun e=>Own.ne O1.out HBB.out (by decide) e.symm));clear o2 s2)
  | fail)
 rw[rounds_succ]
 have k1:w2.cell? ⟨B,1,none⟩=some (.slice a2 y.length c2):=by rw[AOS _ _ _ _ _ _ HB2.out];rfl
 have z1:=AOR k1
 have HT2:=AK (Sl.kn HT.out F2.out.1)
 rw[Nat.zero_add,List.nil_append] at O2
 go_wp2_with (first
  | (refine Ea Di rfl (.tmp 31) (.tmp 32) rfl _ x.length (bv x) rfl O2.out _ y.length (bv y) rfl HT2.out (W9 _) (by omega) ?_;intro v3 w3 o3 s3;have O3:=AK o3;have F3:=AK (F2.out.trans s3);clear o3 s3)
  | fail)
 rw[rounds_succ]
 go_wp2
 go_ret
 exact⟨_,rfl,by rw[DS];exact O3.out,F3.out⟩
theorem UQ (w:World):CallsD Tryz.prog 112 #[] .returning w fun e u' w'=>e=.returned (.tuple #[])∧u'=.returning∧w'=w:=by
 refine callsD_of_wpS Tryz.func112 rfl fun c₀ cs hu=>?_
 apply wpS_region
 simp[wpOpsS,go_sem,recoverD,hu,Tryz.ntmps112]
 cases c₀
 simp_all [bodyPostS,results,Tryz.results112]
theorem ALA {P:Program} {f:Nat} {args:Array Value} {R:Ending→World→Prop} {w:World} {C:List Value} {x y:Value} (h:∀W:World,Hid (w.grownBy W none)→Hid (W.heap[w.heap.size]?=some (.cells C.toArray 23 (0,0)))→Hid (W.heap[w.heap.size+1]?=some (.cells (bv (zs 32)).toArray 23 (0,0)))→Hid (W.heap[w.heap.size+1+1]?=some (.cells #[x,y] 29 (0,0)))→Calls P f args W R) :
  Calls P f args (((w.alloc (.cells C.toArray 23)).alloc (.cells #[.int .u8 0,.int .u8 0,.int .u8 0,.int .u8 0,.int .u8 0,.int .u8 0,.int .u8 0,.int .u8 0,.int .u8 0,.int .u8 0,.int .u8 0,.int .u8 0,.int .u8 0,.int .u8 0,.int .u8 0,.int .u8 0,.int .u8 0,.int .u8 0,.int .u8 0,.int .u8 0,.int .u8 0,.int .u8 0,.int .u8 0,.int .u8 0,.int .u8 0,.int .u8 0,.int .u8 0,.int .u8 0,.int .u8 0,.int .u8 0,.int .u8 0,.int .u8 0] 23)).alloc (.cells #[x,y] 29)) R:=
 h _ (AK (AA (AA (World.grownBy_alloc _ _ _) (World.grownBy_alloc _ _ _)) (World.grownBy_alloc _ _ _))) (AK (by rw[BZ (by simp<;>omega),BZ (by simp),Ak rfl])) (AK (by rw[BZ (by simp),Ak (by simp)];rfl)) (AK (by rw[Ak (by simp)]))
def Nq (dom:BitVec 64) (k b:List Nat):List Nat:=QJ dom (k++b)
theorem N9 (dom:BitVec 64) (k l:List Nat) (hk:k.length=32) (hkb:∀x∈k,x<256) (hb:∀x∈l,x<256) (hl:l.length≤400000000000) (s:Value) (w:World) (h:Sl w 1 s l.length (bv l)) :
  Calls Tryz.prog 66 #[.int .u64 (wi dom),AQ k,s] w fun e w'=>e=.returned (AQ (Nq dom k l))∧w.grownBy w' none:=by
 obtain⟨ao,cap,rfl,hc1,hc2⟩:=Sl.shape h
 have HS:=AK h
 have HB:=AK (show ∀x∈k++l,x<256 from fun x hx=>(List.mem_append.1 hx).elim (hkb x) (hb x))
 have HK:=AK hk
 unfold AQ
 obtain⟨C,hC⟩:∃C,C=bv k:=⟨_,rfl⟩
 rw[←hC]
 have HC:=AK hC
 clear h hb hkb hk hC
 go_enter_defers Tryz.func66,Tryz.ntmps66
 go_wp2_with fail
 refine ALA fun W GW B0 B1 B2=>?_
 rw[HC.out] at B0
 have HK2:=AK (show Sl W 1 (.slice (some ⟨w.heap.size,0,none⟩) 32 32) k.length (bv k) by rw[HK.out];exact W8 B0.out (by rw[AO,HK.out];omega))
 refine(QL k l (by rw[HK.out];omega) hl _ _ _ HK2.out (Sl.kn HS.out GW.out) _ B2.out).mono ?_
 rintro e w1 ⟨v1,rfl,o1,f1⟩
 have O1:=AK o1
 have G1:=AK (AA GW.out f1.1)
 have Z1:=AK (AF f1.1 B1.out (by simp[Value.ownBlock]))
 clear o1 f1 B0 B1 B2 HK2
 go_wp2_with fail
 have hO:=Sl.of_own O1.out
 refine(Zj dom (k++l) HB.out (by rw[List.length_append,HK.out];omega) _ _ (by rw[List.length_append];exact hO)).mono ?_
 clear hO
 rintro e w2 ⟨rfl,g2⟩
 have Z2:=AK (AF g2 Z1.out (by simp))
 have G2:=AK (AA G1.out g2)
 have HL:=AK (Io dom (k++l))
 clear g2
 go_wp2_with (first
  | (refine AY rfl 23 (.tmp 6) (.tmp 12) rfl rfl rfl (Bb (QJ dom (k++l)) HL.out) Z2.out (by rw[AO,HL.out];rfl) ?_;intro w9 g9 h9;have G9:=AK g9;have H9:=AK h9;clear g9 h9)
  | fail)
 refine leaves_cons (f:=112) (args:=#[]) (by simp) (by simp[go_sem]) ?_
 refine(UQ _).mono ?_
 rintro e u' w'' ⟨rfl,rfl,rfl⟩
 exact⟨_,Mh (p:=6) (b0:=w.heap.size+1) rfl rfl (Bb (QJ dom (k++l)) HL.out) H9.out,rfl,AE G2.out G9.out (Nat.le_succ _)⟩
end
section
open Go.RowKit
theorem AI7 {P:Program} {f:Nat} {args:Array Value} {R:Ending→World→Prop} {w:World} {C:List Value} (h:∀W:World,Hid (w.grownBy W none)→Hid (W.heap[w.heap.size]?=some (.cells C.toArray 23 (0,0)))→Hid (W.heap[w.heap.size+1]?=some (.cells (bv (zs 32)).toArray 23 (0,0)))→Calls P f args W R) :
  Calls P f args ((w.alloc (.cells C.toArray 23)).alloc (.cells #[.int .u8 0,.int .u8 0,.int .u8 0,.int .u8 0,.int .u8 0,.int .u8 0,.int .u8 0,.int .u8 0,.int .u8 0,.int .u8 0,.int .u8 0,.int .u8 0,.int .u8 0,.int .u8 0,.int .u8 0,.int .u8 0,.int .u8 0,.int .u8 0,.int .u8 0,.int .u8 0,.int .u8 0,.int .u8 0,.int .u8 0,.int .u8 0,.int .u8 0,.int .u8 0,.int .u8 0,.int .u8 0,.int .u8 0,.int .u8 0,.int .u8 0,.int .u8 0] 23)) R:=
 h _ (AK (AA (World.grownBy_alloc _ _ _) (World.grownBy_alloc _ _ _))) (AK (by rw[BZ (by simp),Ak rfl])) (AK (by rw[Ak (by simp)];rfl))
theorem ALB (l:List Nat) (n k:Nat) (hl:l.length=n) (hk:k<n):(bv (l.take k++zs (n-k))).take k++([Value.int .u8 (l.getD k 0:Nat)]++(bv (l.take k++zs (n-k))).drop (k+1))=bv (l.take (k+1)++zs (n-(k+1))):=by
 have e0:(bv (l.take k)).length=k:=by rw[AO,List.length_take];omega
 have hkl:k<l.length:=by omega
 rw[DS,List.take_left' e0,List.drop_append,List.drop_of_length_le (by rw[e0];omega),e0,List.take_succ_eq_append_getElem hkl,DS,DS]
 have e1:(bv (zs (n-k))).drop (k+1-k)=bv (zs (n-(k+1))):=by
  unfold bv zs
  rw[←List.map_drop,List.drop_replicate]
  congr 2
  omega
 have e2:l.getD k 0=l[k]:=by rw[List.getD_eq_getElem?_getD,List.getElem?_eq_getElem hkl];rfl
 rw[e1,e2]
 simp[bv]
theorem AI8 {P:Program} {f:Nat} {args:Array Value} {R:Ending→World→Prop} {w:World} (h:∀W:World,Hid (w.grownBy W none)→Hid (W.heap[w.heap.size]?=some (.cells (bv (zs 32)).toArray 23 (0,0)))→Hid (W.heap[w.heap.size+1]?=some (.cells (bv (zs 32)).toArray 23 (0,0)))→Calls P f args W R) :
  Calls P f args ((w.alloc (.cells #[.int .u8 0,.int .u8 0,.int .u8 0,.int .u8 0,.int .u8 0,.int .u8 0,.int .u8 0,.int .u8 0,.int .u8 0,.int .u8 0,.int .u8 0,.int .u8 0,.int .u8 0,.int .u8 0,.int .u8 0,.int .u8 0,.int .u8 0,.int .u8 0,.int .u8 0,.int .u8 0,.int .u8 0,.int .u8 0,.int .u8 0,.int .u8 0,.int .u8 0,.int .u8 0,.int .u8 0,.int .u8 0,.int .u8 0,.int .u8 0,.int .u8 0,.int .u8 0] 23)).alloc (.cells #[.int .u8 0,.int .u8 0,.int .u8 0,.int .u8 0,.int .u8 0,.int .u8 0,.int .u8 0,.int .u8 0,.int .u8 0,.int .u8 0,.int .u8 0,.int .u8 0,.int .u8 0,.int .u8 0,.int .u8 0,.int .u8 0,.int .u8 0,.int .u8 0,.int .u8 0,.int .u8 0,.int .u8 0,.int .u8 0,.int .u8 0,.int .u8 0,.int .u8 0,.int .u8 0,.int .u8 0,.int .u8 0,.int .u8 0,.int .u8 0,.int .u8 0,.int .u8 0] 23)) R:=
 h _ (AK (AA (World.grownBy_alloc _ _ _) (World.grownBy_alloc _ _ _))) (AK (by rw[BZ (by simp),Ak rfl];rfl)) (AK (by rw[Ak (by simp)];rfl))
theorem WG (dom:BitVec 64) (l:List Nat) (hb:∀x∈l,x<256) (hl:l.length≤1000000000000) (s:Value) (w:World) (h:Sl w 1 s l.length (bv l)) :
  Calls Tryz.prog 33 #[.int .u64 (wi dom),s] w fun e w'=>e=.returned (AQ (QJ dom l))∧w.grownBy w' none:=by
 obtain⟨ao,cap,rfl,hc1,hc2⟩:=Sl.shape h
 have HS:=AK h
 have HB:=AK hb
 clear h hb
 go_enter Tryz.func33,Tryz.ntmps33
 go_wp2_with fail
 refine AI8 fun W GW Z0 Z1=>?_
 refine(Oe dom l HB.out hl _ _ (Sl.kn HS.out GW.out)).mono ?_
 rintro e w1 ⟨rfl,g1⟩
 have Z2:=AK (AF g1 Z0.out (by simp))
 have Z3:=AK (AF g1 Z1.out (by simp))
 have G1:=AK (AA GW.out g1)
 clear g1 Z0 Z1 GW
 go_wp2_with fail
 refine(Np (IS dom l) 32 (by omega) _).mono ?_
 rintro e w2 ⟨v2,rfl,s2,g2,q2⟩
 have Z0:=AK (AF g2 Z2.out (by simp))
 have Z1:=AK (AF g2 Z3.out (by simp))
 have G2:=AK (AA G1.out g2)
 have HL:=AK (Io dom l)
 rw[show sq (IS dom l) 32=QJ dom l from rfl] at s2
 obtain⟨a2,c2,rfl,p1,p2⟩:=Sl.shape s2
 obtain⟨b,off,rfl,hc⟩:=Sl.bytes s2 (by rw[HL.out];omega)
 have HC:=AK hc
 have hbR:w.heap.size+1<b:=by
  have h1:=(Array.getElem?_eq_some_iff.1 Z3.out).1
  have h2:=q2 b rfl
  omega
 have HBR:=AK hbR
 obtain⟨dg,hdg⟩:∃d,d=QJ dom l:=⟨_,rfl⟩
 rw[←hdg] at HC HL
 have HDG:=AK hdg
 have hZ:=Z1.out
 have HG0:=AK (World.grownBy.refl w2 (some (w.heap.size+1)))
 clear s2 hc q2 g2 hbR hdg Z2 Z3 G1 HS HB
 go_wp2
 go_loopw [7] (fun i wr=>∃k:Nat,k≤32∧i=.int .i64 k∧Hid (w2.grownBy wr (some (w.heap.size+1)))∧Hid (wr.heap[w.heap.size+1]?=some (.cells (bv (dg.take k++zs (32-k))).toArray 23 (0,0)))) (fun i _=>(32-intOf i).toNat)
 case atStart=>exact⟨0,by omega,rfl,HG0,Z1⟩
 case round =>
  clear Z1 hZ HG0
  obtain⟨k,hk,rfl,HG,HR⟩:=hrel
  by_cases hlt:k<32
  · have i0:(0:Int)≤(k:Int):=by omega
    have i1:(k:Int)<32:=by omega
    have c0:=HG.out.cell (HC.out k (by rw[HL.out];exact hlt)) (by have:=HBR.out;simp;omega)
    have y0:=AOR c0
    have BP:=AK (ALB dg 32 k HL.out hlt)
    generalize dg.getD k 0=x at *
    go_wp2_with (first
     | (refine Dc rfl 5 (.tmp 21) (.tmp 20) rfl rfl rfl (tyB _) HR.out (by rw[AO,List.length_append,List.length_take,HL.out];unfold zs;simp;omega) ?_;intro w3 g3 h3;have G3:=AK g3;have H3:=AK h3;clear g3 h3)
     | fail)
    go_roundw
    case rel=>exact⟨k+1,by omega,by go_num,AK (AA HG.out G3.out),AK (by have:=H3.out;rw[show([Value.int .u8 (x:Int)]:List Value).length=1 from rfl,BP.out] at this;exact this)⟩
    case measure=>simp[intOf];omega
  · obtain rfl:k=32:=by omega
    have hr:=HR.out
    rw[List.take_of_length_le (by rw[HL.out];exact Nat.le_refl _),Nat.sub_self,show dg++zs 0=dg from List.append_nil _] at hr
    have HR2:=AK hr
    have Z4:=AK (AF HG.out Z0.out (by simp))
    clear hr HR
    go_wp2_with (first
     | (refine CP rfl 23 (.tmp 5) rfl rfl (Bb dg HL.out) HR2.out ?_)
     | (refine AY rfl 23 (.tmp 4) (.tmp 22) rfl rfl rfl (Bb dg HL.out) Z4.out (by rw[AO,HL.out];rfl) ?_;intro w9 g9 h9;have G9:=AK g9;have H9:=AK h9;clear g9 h9)
     | fail)
    exact CU (b:=w.heap.size) rfl rfl (Bb dg HL.out) H9.out rfl ⟨by rw[HDG.out],AE (AE G2.out HG.out (Nat.le_succ _)) G9.out (Nat.le_refl _)⟩
theorem OA (d:List Nat) (hd:d.length=32) (w:World) :
  Calls Tryz.prog 34 #[AQ d] w fun e w'=>∃v,e=.returned v∧Own w' 5 1 v 32 (bv d)∧Fresh w w' v:=by
 have HL:=AK hd
 unfold AQ
 obtain⟨C,hC⟩:∃C,C=bv d:=⟨_,rfl⟩
 rw[←hC]
 have g1:=World.grownBy_alloc w (.cells C.toArray 23) none
 have b0:=AF (World.grownBy_alloc (w.alloc (.cells C.toArray 23)) (.cells #[] 5) none) (Ak (w:=w) (o:=.cells C.toArray 23) rfl) (by simp)
 have HB:=AK b0
 have HO:=AK (show Own ((w.alloc (.cells C.toArray 23)).alloc (.cells #[] 5)) 5 1 (.slice (some ⟨w.heap.size+1,0,none⟩) 0 0) 0 (bv (d.take 0)) from Own.emptyH (by simp))
 have HF:=AK (show Fresh w ((w.alloc (.cells C.toArray 23)).alloc (.cells #[] 5)) (.slice (some ⟨w.heap.size+1,0,none⟩) 0 0) from Step.grown g1 (Fresh.litH (by simp)))
 have HC:=AK hC
 clear hC hd g1 b0
 go_enter Tryz.func34,Tryz.ntmps34
 go_wp2
 go_loopw [3,4] (fun v i wr=>∃k:Nat,k≤32∧i=.int .i64 k∧Hid (Own wr 5 1 v k (bv (d.take k)))∧Hid (Fresh w wr v)∧Hid (wr.heap[w.heap.size]?=some (.cells C.toArray 23 (0,0)))) (fun _ i _=>(32-intOf i).toNat)
 case atStart=>exact⟨0,by omega,rfl,HO,HF,HB⟩
 case round =>
  clear HO HF HB
  obtain⟨k,hk,rfl,HO,HF,HB⟩:=hrel
  obtain⟨_,ad,cp,rfl,hcp1,hcp2,_⟩:=Sl.of_own HO.out
  by_cases hlt:k<32
  · have i0:(0:Int)≤(k:Int):=by omega
    have i1:(k:Int)<32:=by omega
    have hkl:k<d.length:=by rw[HL.out];exact hlt
    have c0:wr.cell? ⟨w.heap.size,k,none⟩=some (.int .u8 (d.getD k 0:Nat)):=by
     rw[AOS _ _ _ _ _ _ HB.out,HC.out]
     simpa using AKY hkl
    have y0:=AOR c0
    have HT:=AK (show bv (d.take k)++[.int .u8 (d.getD k 0:Nat)]=bv (d.take (k+1)) by
     rw[List.take_succ_eq_append_getElem hkl,DS,show d.getD k 0=d[k] by rw[List.getD_eq_getElem?_getD,List.getElem?_eq_getElem hkl];rfl]
     rfl)
    clear hkl
    generalize d.getD k 0=x at *
    go_wp2_with (first
     | (refine JP Di rfl (.tmp 10) (.tmp 14) rfl (.slice ad k cp) k (bv (d.take k)) rfl HO.out [.int .u8 x] 1 _ rfl rfl rfl rfl (by omega) ?_;intro v3 w3 o3 s3;have O3:=AK o3;have S3:=AK s3;clear o3 s3)
     | fail)
    rw[HT.out] at O3
    go_roundw
    case rel=>exact⟨k+1,by omega,by go_num,O3,AK (HF.out.trans S3.out),AK (AF S3.out.1 HB.out (fun e=>Own.ne HO.out HB.out (by decide) e.symm))⟩
    case measure=>simp[intOf];omega
  · obtain rfl:k=32:=by omega
    go_wp2
    go_ret
    exact⟨_,rfl,by have:=HO.out;rw[List.take_of_length_le (by rw[HL.out];exact Nat.le_refl _)] at this;rw[HC.out];exact this,HF.out⟩
theorem Mi (dom:BitVec 64) (k l:List Nat) (hk:k.length=32) (hkb:∀x∈k,x<256) (hb:∀x∈l,x<256) (hl:l.length≤400000000000) (s:Value) (w:World) (h:Sl w 1 s l.length (bv l)) :
  Calls Tryz.prog 35 #[.int .u64 (wi dom),AQ k,s] w fun e w'=>e=.returned (AQ (Nq dom k l))∧w.grownBy w' none:=by
 obtain⟨ao,cap,rfl,hc1,hc2⟩:=Sl.shape h
 have HS:=AK h
 have HB:=AK (show ∀x∈k++l,x<256 from fun x hx=>(List.mem_append.1 hx).elim (hkb x) (hb x))
 have HK:=AK hk
 obtain⟨V,hV⟩:∃V,V=AQ k:=⟨_,rfl⟩
 clear h hb hkb hk
 unfold AQ
 obtain⟨C,hC⟩:∃C,C=bv k:=⟨_,rfl⟩
 rw[←hC]
 have HC:=AK hC
 have HTY:=AK (show TY Tryz.prog 23 C (AQ k) by rw[hC];exact Bb k HK.out)
 have b0:=AK (Ak (w:=w) (o:=.cells C.toArray 23) rfl)
 clear hC hV
 go_enter Tryz.func35,Tryz.ntmps35
 go_wp2_with (first
  | (refine CP rfl 23 (.tmp 4) rfl rfl HTY.out (AF (World.grownBy_alloc _ _ none) b0.out (by simp)) ?_)
  | fail)
 refine AI7 fun W GW B0 B1=>?_
 refine(OA k HK.out _).mono ?_
 rintro e w1 ⟨v1,rfl,o1,f1⟩
 have O1:=AK o1
 have G1:=AK (AA GW.out f1.1)
 have Z1:=AK (AF f1.1 B1.out (by simp[Value.ownBlock]))
 have S1:=AK (Sl.kn HS.out (AA GW.out f1.1))
 have L1:=AK f1.2
 clear o1 f1 B0 B1
 go_wp2_with (first
  | (refine Ea Di rfl (.tmp 9) (.tmp 10) rfl _ 32 (bv k) rfl O1.out _ l.length (bv l) rfl S1.out (W9 _) (by omega) ?_;intro v2 w2 o2 s2;have O2:=AK o2;have S2:=AK s2;clear o2 s2)
  | fail)
 have hO:=Sl.of_own O2.out
 rw[←DS,←HK.out] at hO
 refine(WG dom (k++l) HB.out (by rw[List.length_append,HK.out];omega) _ _ (by rw[List.length_append];exact hO)).mono ?_
 clear hO
 rintro e w3 ⟨rfl,g3⟩
 have F1:Fresh w w1 v1:=⟨G1.out,fun k hk=>by
  rcases L1.out k hk with h|h
  · simp[Value.ownBlock] at h
  · exact .inr (Nat.le_trans GW.out.size h)⟩
 have Z2:=AK (AF g3 (AF S2.out.1 Z1.out (fun e=>Own.ne O1.out Z1.out (by decide) e.symm)) (by simp))
 have G2:=AK (AA (F1.trans S2.out).1 g3)
 have HL:=AK (Io dom (k++l))
 clear g3 F1
 go_wp2_with (first
  | (refine AY rfl 23 (.tmp 6) (.tmp 12) rfl rfl rfl (Bb (QJ dom (k++l)) HL.out) Z2.out (by rw[AO,HL.out];rfl) ?_;intro w9 g9 h9;have G9:=AK g9;have H9:=AK h9;clear g9 h9)
  | fail)
 exact CU (b:=w.heap.size+1) rfl rfl (Bb (QJ dom (k++l)) HL.out) H9.out rfl ⟨rfl,AE G2.out G9.out (Nat.le_succ _)⟩
end
end Go.Proofs.YtbfjfnbcmojpiaaGreat
