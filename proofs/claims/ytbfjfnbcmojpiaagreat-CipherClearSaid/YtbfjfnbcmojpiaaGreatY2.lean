import Derived.Test.YtbfjfnbcmojpiaaGreatVA
import Derived.OrdersHeld
import Derived.Test.YtbfjfnbcmojpiaaGreatKA
import Derived.Test.YtbfjfnbcmojpiaaGreatV1
import Derived.Test.YtbfjfnbcmojpiaaGreatSH
namespace Go.Proofs.YtbfjfnbcmojpiaaGreat
open Go.RowKit
set_option linter.unusedSimpArgs false
set_option linter.unusedVariables false
section
variable {P:Program} {ops:Array Oper} {S:World→Prop} {Kt:Act→Prop} {o:Oper} {r:List Oper} {a:Act} {n:Nat} {D:List Deferred} {K:List (Nat×Value)}
theorem tk_load (sv:Sv n D K a) (hgd:o.guard=none) {T:TypeId} {x:Operand} {d:Nat} {p v:Value} (ho:o.op=.load T x) (hd:o.dst=some d) (hdn:decide (d < n)=true) (hx:okV K x=true∧evV K x=p) (hr:∀ w,S w→(Instr.loadAt T p).run P w=.ok v w)
   (h:∀ a',Sv n D ((d,v) :: delK d K) a'→wpTake P ops S Kt r a'):wpTake P ops S Kt (o :: r) a:=
 take_load hgd T x ho (sv.ev hx.1 hx.2) hr (by rw [hd];exact h _ (sv.put (of_decide_eq_true hdn) v))
theorem tk_px (w0:World) (sv:Sv n D K a) {v:Value} {d:Nat} (hd:o.dst=some d) (hc:(decide (d < n) && !(o.looksAt ops).contains d)=true) (hp:PX P ops (lkS ((d,Sp.is v) :: isL K)) n w0 o)
   (h:∀ a',Sv n D ((d,v) :: delK d K) a'→wpTake P ops S Kt r a'):wpTake P ops S Kt (o :: r) a:=by
 simp only [Bool.and_eq_true,decide_eq_true_eq,Bool.not_eq_true'] at hc
 obtain ⟨u,hy,hu⟩:=hp a w0 (World.grownBy.refl _ _) (fun t ht htn=>by
   have hne:(Nat.beq d t)=false:=by
     cases e:Nat.beq d t with
     | false=>rfl
     | true =>
       have:=Nat.eq_of_beq_eq_true e
       subst this
       have h2:=hc.2
       rw [← Bool.not_eq_true,List.contains_iff_mem] at h2
       exact absurd ht h2
   have h1:=(sv.st w0).2.2.at t
   unfold lkS
   rw [hne]
   exact h1) sv.1
 have e:u=v:=by
   have:=hu d hd
   unfold lkS at this
   have hb:Nat.beq d d=true:=Nat.beq_refl d
   rw [hb] at this
   exact this
 subst e
 exact ⟨_,hy.yieldsIf,by rw [hd];exact h _ (sv.put hc.1 _)⟩
end
def TagD (w:World) (s v:Value):Prop:=v=s∨Tag w v
def RdTT (w:World) (s v:Value) (l:List Nd):Prop:=RdT w v l∧TagD w s v
section
variable {w w':World} {s v:Value} {l:List Nd}
theorem RdTT.kn (h:RdTT w s v l) (g:w.grownBy w' none):RdTT w' s v l:=⟨h.1.kn g,h.2.imp id (·.kn g)⟩
theorem RdTT.offR (h:RdTT w s v l) {row:Option Nat} (g:w.grownBy w' row) (hb:∀ k,fpT v k→row≠some k):RdTT w' s v l:=⟨h.1.offR g hb,h.2.imp id (·.offR g hb)⟩
theorem RdTT.lt (h:RdTT w s v l):∀ k,fpT v k→k < w.heap.size:=h.1.lt
theorem TagD.fp (h:TagD w s v) {k:Nat} (hk:fpT v k):fpT s k∨TagB w k:=h.elim (fun e=>.inl (e▸hk)) fun t=>.inr (t k hk)
end
end Go.Proofs.YtbfjfnbcmojpiaaGreat

namespace Go.Proofs.YtbfjfnbcmojpiaaGreat
open Go.RowKit Go.Shelf
set_option linter.unusedSimpArgs false
set_option linter.unusedVariables false
theorem leb_lt (n:Nat):∀ b ∈ leb n,b < 256:=by
 induction n using Nat.strongRecOn with
 | _ n ih =>
   by_cases h:n < 128
   · rw [leb_small h];intro b hb;simp at hb;omega
   · rw [leb_big h]
     intro b hb
     rcases List.mem_cons.1 hb with rfl | hb
     · omega
     · exact ih (n / 128) (by omega) b hb
theorem enc_lt (n:Int):∀ b ∈ enc n,b < 256:=leb_lt _
theorem encT_lt (s:ByteArray):∀ b ∈ encT s,b < 256:=fun b hb=>by
 rcases List.mem_append.1 hb with h | h
 · exact enc_lt _ b h
 · exact by_lt s b h
theorem encC_lt (v:V):∀ b ∈ encC v,b < 256:=fun b hb=>by
 unfold encC at hb
 rcases List.mem_append.1 hb with h | h
 · exact enc_lt _ b h
 · split at h
   · exact enc_lt _ b h
   · split at h
     · exact encT_lt _ b h
     · cases h
def vc (v:V):List Value:=[.int .i64 v.kind,.int .i64 v.int,.string v.text]
theorem tyV2 (v:V):TY Tryz.prog 25 (vc v) (xval v):=tyV v
theorem tyBys (v:Value) (h:v.oneCell'=true):TY Tryz.prog 29 [v] v:=TY.one' Tryz.underlying29 rfl (by kernel_rfl) h
theorem step_nil {w w':World} {v':Value} (h:Step w nilS w' v'):w.grownBy w' none∧∀ k,fpS v' k→w.heap.size≤k:=⟨Step.none h,fun k hk=>(h.2 k hk).elim (fun h=>by simp [nilS,Value.ownBlock] at h) id⟩
def NwR (w w':World) (xs:List Nat) (e:Ending):Prop:=∃ v,e=.returned v∧w.grownBy w' none∧(Sp.row w.heap.size 5 1 xs.length (bv xs)).on w' v
end Go.Proofs.YtbfjfnbcmojpiaaGreat

namespace Go.Proofs.YtbfjfnbcmojpiaaGreat
open Go.RowKit
set_option linter.unusedSimpArgs false
set_option linter.unusedVariables false
theorem tagsmono {w w':World} {fp p:Nat→Prop} (g:w.grownBy w' none) (h:∀ k,p k→fp k∨TagV w k):∀ k,p k→fp k∨TagV w' k:=fun k hk=>(h k hk).imp id (·.keep g (by simp))
def Sp.vt (r:VV×Int) (fp:Nat→Prop):Sp:=⟨fun w v=>∃ ao cap ks,v=.tuple #[vval r.1.2.1 r.1.2.2 (.slice ao (List.length ks) cap),.int .i64 r.2]∧ks.map VK.p=r.1.1∧RdK w (.slice ao (List.length ks) cap) ks∧∀ k,fpK (.slice ao (List.length ks) cap) ks k→fp k∨TagV w k,fun _ _ _ hg ⟨ao,cap,ks,h1,h2,h3,h4⟩=>⟨ao,cap,ks,h1,h2,h3.kn hg,tagsmono hg h4⟩⟩
theorem VRes.on {w w':World} {r:VV×Int} {fp:Nat→Prop} {e:Ending} (h:VRes w w' r fp e):∃ v,e=.returned v∧w.grownBy w' none∧(Sp.vt r fp).on w' v:=by
 obtain ⟨ao,cap,ks,h1,h2,h3,h4,h5⟩:=h
 exact ⟨_,h1,h5,ao,cap,ks,rfl,h2,h3,h4⟩
section
variable {w0:World} {ks:List VK} {ao:Option Addr} {cap:Nat} {sa po o:List Nat} {P:List VP} {r:VV×Int} {a:Int}
theorem ens_on (hsa:Dg sa) (hpo:Dg po) (ho:Dg o) (hk:RdK w0 (.slice ao ks.length cap) ks) (hm:ks.map VK.p=P) {T:List Nd} (hT:tree (kd 275 po) []=T) (hres:ensO (P,sa,po) o T (kd 276 po)=r) :
   ∀ W,w0.grownBy W none→Calls Tryz.prog 36 #[vval sa po (.slice ao ks.length cap),dval o] W fun e W'=>∃ v,e=.returned v∧W.grownBy W' none∧(Sp.vt r fun _=>False).on W' v:=fun W g=>by
 subst hres hm
 exact (ens_walk ks ao cap sa po hsa hpo o ho T hT W (hk.kn g)).mono fun e W' h=>h.on
theorem rens_on (hsa:Dg sa) (hpo:Dg po) (ho:Dg o) (hk:RdK w0 (.slice ao ks.length cap) ks) (hm:ks.map VK.p=P) {T:List Nd} (hT:tree (kd 275 po) []=T) (hres:ensO (P,sa,po) o T (kd 276 po)=r) :
   ∀ W,w0.grownBy W none→Calls Tryz.prog 39 #[vval sa po (.slice ao ks.length cap),dval o] W fun e W'=>∃ v,e=.returned v∧W.grownBy W' none∧(Sp.vt r (fpK (.slice ao ks.length cap) ks)).on W' v:=fun W g=>by
 subst hres hm
 exact (rens_walk ks ao cap sa po hsa hpo o ho T hT W (hk.kn g)).mono fun e W' h=>h.on
theorem key_B {w:World} {q:List Nat×Int} (hsa:Dg sa) (hpo:Dg po) (ho:Dg o) (hk:RdK w (.slice ao ks.length cap) ks) (hm:ks.map VK.p=P) (hres:keyO P o a=q) :
   Calls Tryz.prog 32 #[vval sa po (.slice ao ks.length cap),dval o,.int .i64 a] w fun e w'=>e=.returned (.tuple #[dval q.1,.int .i64 q.2])∧w.grownBy w' none:=by
 subst hres hm
 exact key_walk ks ao cap sa po hsa hpo o ho a w hk
theorem vvalid_P {w:World} {b:Bool} (hsa:Dg sa) (hpo:Dg po) (hk:RdK w (.slice ao ks.length cap) ks) (hm:ks.map VK.p=P) (hb:vldV P=b):Calls Tryz.prog 51 #[vval sa po (.slice ao ks.length cap)] w fun e w'=>e=.returned (.bool b)∧w.grownBy w' none:=by
 subst hm
 exact vvalid_B hsa hpo hk hb
end
end Go.Proofs.YtbfjfnbcmojpiaaGreat

namespace Go.Proofs.YtbfjfnbcmojpiaaGreat
set_option linter.unusedSimpArgs false
set_option linter.unusedVariables false
def By (l:List Nat):Prop:=∀ x ∈ l,x < 256
def xorL (a b:List Nat):List Nat:=List.zipWith (fun x y=>x ^^^ y) a b
theorem xorL_len {a b:List Nat} (h:a.length≤b.length):(xorL a b).length=a.length:=by unfold xorL;rw [List.length_zipWith];omega
theorem xorL_by {a b:List Nat} (ha:By a) (hb:By b):By (xorL a b):=fun x hx=>by
 unfold xorL at hx
 rw [List.mem_iff_getElem] at hx
 obtain ⟨i,hi,rfl⟩:=hx
 rw [List.getElem_zipWith]
 exact Nat.xor_lt_two_pow (n:=8) (ha _ (List.getElem_mem _)) (hb _ (List.getElem_mem _))
theorem xorL_back:∀ {a b:List Nat},a.length≤b.length→xorL (xorL a b) b=a
 | [],_,_=>rfl
 | _ :: _,[],h=>by simp at h
 | x :: a,y :: b,h=>by
   have ih:=xorL_back (a:=a) (b:=b) (by simpa using h)
   unfold xorL at ih ⊢
   simp only [List.zipWith_cons_cons,ih,Nat.xor_assoc,Nat.xor_self,Nat.xor_zero]
def cky (all:Bool) (keys:List (List Nat)):List Nat:=dig (BitVec.ofNat 64 (if all then 282 else 281)) keys.flatten
def msk (k:List Nat):List Nat:=keyed (BitVec.ofNat 64 283) k []
def wrp (c k:List Nat):List Nat:=xorL c (msk k)
def cry (b c:List Nat):List Nat:=xorL b (sq (absorb (BitVec.ofNat 64 284) c) b.length)
def tgK (c:List Nat) (a:Int) (b:List Nat):List Nat:=keyed (BitVec.ofNat 64 285) c (enc a ++ b)
def tgC (a:Int) (b:List Nat):List Nat:=dig (BitVec.ofNat 64 280) (enc a ++ b)
structure Sd where
 addr:Int
 own:List (List Nat)
 joint:Int
 wr:List (List Nat)
 body:List Nat
 tag:List Nat
def Sd.zero:Sd:=⟨0,[],0,[],[],zero32⟩
def lat (l:List (List Nat)) (i:Nat):List Nat:=(l[i]?).getD []
theorem lat_at {l:List (List Nat)} {i:Nat} (h:i < l.length):lat l i=l[i]:=by unfold lat;rw [List.getElem?_eq_getElem h];rfl
def chkD (l:List (List Nat)) (i:Nat):Bool:=decide (i=0) || blt (lat l (i - 1)) (lat l i)
def asc (l:List (List Nat)):Bool:=(List.range l.length).all (chkD l)
theorem asc_iff {l:List (List Nat)}:asc l=true↔∀ i,i < l.length→chkD l i=true:=by unfold asc;simp [List.all_eq_true,List.mem_range]
theorem asc_no {l:List (List Nat)} {i:Nat} (h:i < l.length) (hc:chkD l i=false):asc l=false:=by
 cases h2:asc l with
 | false=>rfl
 | true=>rw [asc_iff.1 h2 i h] at hc;cases hc
theorem asc_yes {l:List (List Nat)} (h:∀ i,i < l.length→chkD l i=true):asc l=true:=asc_iff.2 h
def hd (own:List (List Nat)) (joint addr:Int):Bool:=isAddr addr && (decide (joint=0) || decide (joint=1)) && decide (own.length≤16) && asc own
def vldS (s:Sd):Bool:=hd s.own s.joint s.addr && decide (s.body.length≤64) && decide (s.wr.length=if s.joint=1 then s.own.length else 0)
def keysO (P:List VP) (a:Int):List (List Nat)→List (List Nat)×Int
 | []=>([],0)
 | o :: l=>if (keyO P o a).2=0 then ((keyO P o a).1 :: (keysO P a l).1,(keysO P a l).2) else ([],(keyO P o a).2)
def sealO (P:List VP) (own:List (List Nat)) (joint addr:Int) (x:V):Sd×Int:=
 if hd own joint addr && vldV P then
   (if own=[] then (⟨addr,[],joint,[],encV x,tgC addr (encV x)⟩,0)
   else if (keysO P addr own).2=0 then
     (⟨addr,own,joint,if joint=1 then (keysO P addr own).1.map (wrp (cky (decide (joint=1)) (keysO P addr own).1)) else [],
       cry (encV x) (cky (decide (joint=1)) (keysO P addr own).1),tgK (cky (decide (joint=1)) (keysO P addr own).1) addr (cry (encV x) (cky (decide (joint=1)) (keysO P addr own).1))⟩,0)
   else (Sd.zero,(keysO P addr own).2))
 else (Sd.zero,1)
end Go.Proofs.YtbfjfnbcmojpiaaGreat

namespace Go.Proofs.YtbfjfnbcmojpiaaGreat
open Go.RowKit Go.Shelf
set_option linter.unusedSimpArgs false
set_option linter.unusedVariables false
structure DD where
 x:List Nat
 h:Dg x
def dcs (d:DD):List Value:=bv d.x
theorem dcs_len (d:DD):(dcs d).length=32:=by unfold dcs;rw [bv_length,d.h.1]
def RdD (w:World) (v:Value) (ds:List DD):Prop:=SlB w 32 v ds.length (ds.flatMap dcs)
section
variable {w w':World} {v:Value} {ds:List DD}
theorem RdD.kn (h:RdD w v ds) (g:w.grownBy w' none):RdD w' v ds:=SlB.kn h g
theorem RdD.lt (h:RdD w v ds):∀ k,fpS v k→k < w.heap.size:=SlB.lt h
theorem RdD.off {b:Nat} (h:RdD w v ds) (g:w.grownBy w' (some b)) (hb:∀ k,fpS v k→k≠b):RdD w' v ds:=SlB.off h g hb
theorem RdD.offR (h:RdD w v ds) {row:Option Nat} (g:w.grownBy w' row) (hb:∀ k,fpS v k→row≠some k):RdD w' v ds:=SlB.offR h g hb
theorem RdD.nil (w:World):RdD w (.slice none 0 0) []:=⟨Sl.nil w 32,fun k hk=>by simp [fpS,Value.ownBlock] at hk⟩
theorem RdD.shape (h:RdD w v ds):∃ ao cap,v=.slice ao ds.length cap:=by
 obtain ⟨ao,cap,rfl,_⟩:=h.1.shape
 exact ⟨ao,cap,rfl⟩
end
theorem lat_map {ds:List DD} {j:Nat} (h:j < ds.length):lat (ds.map DD.x) j=ds[j].x:=by rw [lat_at (by simpa using h),List.getElem_map]
theorem chkD_i {ds:List DD} {i:Nat} {x y:DD} (hi:i < ds.length) (hp:i - 1 < ds.length) (hx:ds[i]=x) (hy:ds[i - 1]=y):chkD (ds.map DD.x) i=(decide (i=0) || blt y.x x.x):=by
 unfold chkD
 rw [lat_map hi,lat_map hp,hx,hy]
theorem RdD.len {w:World} {v:Value} {ds:List DD} (h:RdD w v ds):(ds.length:Int)≤9223372036854775807:=by
 have h1:=h.1
 obtain ⟨ao,cap,rfl⟩:=h.shape
 have:=(h1.shape)
 obtain ⟨ao',cap',e,h2,h3⟩:=this
 omega
theorem tyDs (v:Value) (h:v.oneCell'=true):TY Tryz.prog 28 [v] v:=TY.one' Tryz.underlying28 rfl (by kernel_rfl) h
def cb (n:Nat):List Value:=[.int .u8 (n:Int)]
theorem cb_len (n:Nat):(cb n).length=1:=rfl
theorem bv_cb (l:List Nat):bv l=l.flatMap cb:=by
 induction l with
 | nil=>rfl
 | cons a l ih=>rw [List.flatMap_cons,← ih];rfl
theorem by_range {w:World} {n cap j:Nat} {ao:Option Addr} {l:List Nat} (h:Sl w 1 (.slice ao n cap) n (bv l)) (hj:j < l.length):w.rangeAt (bO ao) (oO ao+j * 1) [.int .u8 (l[j]:Int)]:=by
 rw [bv_cb] at h
 exact el_range h cb_len hj (by decide)
theorem tyInt64 (x:Int):TY Tryz.prog 2 [.int .i64 x] (.int .i64 x):=TY.one' Tryz.underlying2 rfl (by kernel_rfl) rfl
theorem dsT:ET Tryz.prog 28 23 (dval zero32) 32 32:=⟨Tryz.underlying28,info_parts (by kernel_rfl),rfl,by decide,by decide⟩
theorem hd_addr {own:List (List Nat)} {joint addr:Int} (h:addr < 0∨17179869184≤addr):hd own joint addr=false:=by
 have:isAddr addr=false:=by unfold isAddr;simp;omega
 unfold hd;rw [this];rfl
theorem hd_joint {own:List (List Nat)} {joint addr:Int} (h:joint≠0) (h1:joint≠1):hd own joint addr=false:=by unfold hd;simp [h,h1]
theorem hd_len {own:List (List Nat)} {joint addr:Int} (h:16 < own.length):hd own joint addr=false:=by
 have:decide (own.length≤16)=false:=decide_eq_false (by omega)
 unfold hd;rw [this];simp
theorem hd_asc {own:List (List Nat)} {joint addr:Int} (h:asc own=false):hd own joint addr=false:=by unfold hd;rw [h];simp
theorem hd_yes {own:List (List Nat)} {joint addr:Int} (h1:0≤addr∧addr < 17179869184) (h2:joint=0∨joint=1) (h3:own.length≤16) (h4:asc own=true):hd own joint addr=true:=by
 have h5:isAddr addr=true:=by unfold isAddr;simp;omega
 unfold hd;rw [h5,h4];rcases h2 with rfl | rfl <;> simp [h3]
set_option maxRecDepth 100000 in
set_option maxHeartbeats 4000000 in
theorem vhead_walk (ds:List DD) (ao:Option Addr) (cap:Nat) (joint addr:Int) (w:World) (hr:RdD w (.slice ao ds.length cap) ds) :
   Calls Tryz.prog 50 #[.slice ao ds.length cap,.int .i64 joint,.int .i64 addr] w fun e w'=>e=.returned (.bool (hd (ds.map DD.x) joint addr))∧w.grownBy w' none:=by
 have hmap:(ds.map DD.x).length=ds.length:=List.length_map _
 refine cx_enter Tryz.func50 rfl Tryz.ntmps50 rfl fun a0 sv0=>?_
 have HG:=World.grownBy.refl w none
 replace sv0:Sv 46 [] [(0,.slice ao ds.length cap),(1,.int .i64 joint),(2,.int .i64 addr)] a0:=sv0
 refine wp_seq_k fun K1 k1=>?_
 refine wp_region_lit ?_
 refine tl_as (v:=.bool false) sv0 r6 fun a2 sv2=>?_
 refine tl_nil ?_
 refine k1 _ _ ?_
 refine wp_seq_k fun K3 k3=>?_
 suffices MG4:∀ (a':Act) (w':World),Sv 46 [] [(0,.slice ao ds.length cap),(1,.int .i64 joint),(2,.int .i64 addr)] a'→(0≤addr∧addr < 17179869184)→(joint=0∨joint=1)→w.grownBy w' none→(RdD w' (.slice ao ds.length cap) ds)→K3 a' w' by
   rcases (show addr < 0∨(0≤addr∧17179869184≤addr)∨((0≤addr∧addr < 17179869184)∧joint≠0∧joint≠1)∨((0≤addr∧addr < 17179869184)∧joint=0)∨((0≤addr∧addr < 17179869184)∧joint=1) by omega) with h1 | ⟨h0,h1⟩ | ⟨h0,h1,h2⟩ | ⟨h0,h2⟩ | ⟨h0,h2⟩
   · refine wp_seq_k fun K5 k5=>?_
     refine wp_region_lit ?_
     refine sx_hv sv2 14 [(8,.int .i64 addr),(9,.bool true),(10,.bool true),(11,undef),(12,undef),(13,.bool true),(14,.bool true),(15,undef),(16,undef),(17,undef),(18,undef),(19,undef),(20,undef),(21,.bool true)]
       ⟨ym r5,ybc r6 (fun _=>rn_lss (decide_eq_true (by omega))),ym r5,ox_off (gn rfl rfl rfl) rfl (fun _=>rfl),ox_off (gn rfl rfl rfl) rfl (fun _=>rfl),ox_pick rfl rfl trivial (oy rfl rfl) rfl (fun _=>rfl),ym r5,ox_off (gn rfl rfl rfl) rfl (fun _=>rfl),ox_off (gn rfl rfl rfl) rfl (fun _=>rfl),ox_off (gn rfl rfl rfl) rfl (fun _=>rfl),ox_offU ⟨17,rfl,rfl,fun _ _ h=>h⟩ rfl (fun _=>rfl),ox_offU ⟨17,rfl,rfl,fun _ _ h=>h⟩ rfl (fun _=>rfl),ox_off (gn rfl rfl rfl) rfl (fun _=>rfl),ox_pick rfl rfl trivial (oy rfl rfl) rfl (fun _=>rfl),trivial⟩ fun a6 w6 g6 sv6=>?_
     refine tl_nil ?_
     refine k5 _ _ ?_
     refine cx_ifT sv6 rfl rfl ?_
     refine wp_seq_k fun K7 k7=>?_
     refine wp_region_lit ?_
     refine tl_as (v:=.bool false) sv6 r6 fun a8 sv8=>?_
     refine tl_nil ?_
     refine k7 _ _ ?_
     replace hr:=hr.kn g6
     replace HG:=grown_trans HG g6
     refine wp_ret ?_
     repeat refine then_ret ?_
     refine cx_ret (fn:=Tryz.f50) sv8 (res_tmp (p:=6) Tryz.results50 sv8 rfl rfl) ?_
     exact ⟨retB ((hd_addr (.inl h1)).symm),HG⟩
   · refine wp_seq_k fun K9 k9=>?_
     refine wp_region_lit ?_
     refine sx_hv sv2 14 [(8,.int .i64 addr),(9,.bool false),(10,.bool false),(11,.int .i64 addr),(12,.bool true),(13,.bool true),(14,.bool true),(15,undef),(16,undef),(17,undef),(18,undef),(19,undef),(20,undef),(21,.bool true)]
       ⟨ym r5,ybc r6 (fun _=>rn_lss (decide_eq_false (by omega))),ym r5,ox_move 2 11 (.inl rfl) rfl rfl (gy rfl rfl rfl) (fun _ _ h=>h),ox_bin rfl rfl (gy rfl rfl rfl) (oy rfl rfl) rfl (fun _=>rn_geq (decide_eq_true (by omega))) (fun _=>rfl),ox_pick rfl rfl trivial (oy rfl rfl) (oy rfl rfl) (fun _=>rfl),ym r5,ox_off (gn rfl rfl rfl) rfl (fun _=>rfl),ox_off (gn rfl rfl rfl) rfl (fun _=>rfl),ox_off (gn rfl rfl rfl) rfl (fun _=>rfl),ox_offU ⟨17,rfl,rfl,fun _ _ h=>h⟩ rfl (fun _=>rfl),ox_offU ⟨17,rfl,rfl,fun _ _ h=>h⟩ rfl (fun _=>rfl),ox_off (gn rfl rfl rfl) rfl (fun _=>rfl),ox_pick rfl rfl trivial (oy rfl rfl) rfl (fun _=>rfl),trivial⟩ fun a10 w10 g10 sv10=>?_
     refine tl_nil ?_
     refine k9 _ _ ?_
     refine cx_ifT sv10 rfl rfl ?_
     refine wp_seq_k fun K11 k11=>?_
     refine wp_region_lit ?_
     refine tl_as (v:=.bool false) sv10 r6 fun a12 sv12=>?_
     refine tl_nil ?_
     refine k11 _ _ ?_
     replace hr:=hr.kn g10
     replace HG:=grown_trans HG g10
     refine wp_ret ?_
     repeat refine then_ret ?_
     refine cx_ret (fn:=Tryz.f50) sv12 (res_tmp (p:=6) Tryz.results50 sv12 rfl rfl) ?_
     exact ⟨retB ((hd_addr (.inr h1)).symm),HG⟩
   · refine wp_seq_k fun K13 k13=>?_
     refine wp_region_lit ?_
     refine sx_hv sv2 14 [(8,.int .i64 addr),(9,.bool false),(10,.bool false),(11,.int .i64 addr),(12,.bool false),(13,.bool false),(14,.bool false),(15,.int .i64 joint),(16,.bool true),(17,.bool true),(18,.int .i64 joint),(19,.bool true),(20,.bool true),(21,.bool true)]
       ⟨ym r5,ybc r6 (fun _=>rn_lss (decide_eq_false (by omega))),ym r5,ox_move 2 11 (.inl rfl) rfl rfl (gy rfl rfl rfl) (fun _ _ h=>h),ox_bin rfl rfl (gy rfl rfl rfl) (oy rfl rfl) rfl (fun _=>rn_geq (decide_eq_false (by omega))) (fun _=>rfl),ox_pick rfl rfl trivial (oy rfl rfl) (oy rfl rfl) (fun _=>rfl),ym r5,ox_move 1 15 (.inl rfl) rfl rfl (gy rfl rfl rfl) (fun _ _ h=>h),ox_bin rfl rfl (gy rfl rfl rfl) (oy rfl rfl) rfl (fun _=>rn_neq (by simp;omega)) (fun _=>rfl),ox_move 16 17 (.inl rfl) rfl rfl (gy rfl rfl rfl) (fun _ _ h=>h),ox_move 1 18 (.inl rfl) rfl rfl (gy rfl rfl rfl) (fun _ _ h=>h),ox_bin rfl rfl (gy rfl rfl rfl) (oy rfl rfl) rfl (fun _=>rn_neq (by simp;omega)) (fun _=>rfl),ox_pick rfl rfl (gy rfl rfl rfl) (oy rfl rfl) (oy rfl rfl) (fun _=>rfl),ox_pick rfl rfl trivial (oy rfl rfl) (oy rfl rfl) (fun _=>rfl),trivial⟩ fun a14 w14 g14 sv14=>?_
     refine tl_nil ?_
     refine k13 _ _ ?_
     refine cx_ifT sv14 rfl rfl ?_
     refine wp_seq_k fun K15 k15=>?_
     refine wp_region_lit ?_
     refine tl_as (v:=.bool false) sv14 r6 fun a16 sv16=>?_
     refine tl_nil ?_
     refine k15 _ _ ?_
     replace hr:=hr.kn g14
     replace HG:=grown_trans HG g14
     refine wp_ret ?_
     repeat refine then_ret ?_
     refine cx_ret (fn:=Tryz.f50) sv16 (res_tmp (p:=6) Tryz.results50 sv16 rfl rfl) ?_
     exact ⟨retB ((hd_joint h1 h2).symm),HG⟩
   · refine wp_seq_k fun K17 k17=>?_
     refine wp_region_lit ?_
     refine sx_hv sv2 14 [(8,.int .i64 addr),(9,.bool false),(10,.bool false),(11,.int .i64 addr),(12,.bool false),(13,.bool false),(14,.bool false),(15,.int .i64 joint),(16,.bool false),(17,.bool false),(18,undef),(19,undef),(20,.bool false),(21,.bool false)]
       ⟨ym r5,ybc r6 (fun _=>rn_lss (decide_eq_false (by omega))),ym r5,ox_move 2 11 (.inl rfl) rfl rfl (gy rfl rfl rfl) (fun _ _ h=>h),ox_bin rfl rfl (gy rfl rfl rfl) (oy rfl rfl) rfl (fun _=>rn_geq (decide_eq_false (by omega))) (fun _=>rfl),ox_pick rfl rfl trivial (oy rfl rfl) (oy rfl rfl) (fun _=>rfl),ym r5,ox_move 1 15 (.inl rfl) rfl rfl (gy rfl rfl rfl) (fun _ _ h=>h),ox_bin rfl rfl (gy rfl rfl rfl) (oy rfl rfl) rfl (fun _=>rn_neq (by simp;omega)) (fun _=>rfl),ox_move 16 17 (.inl rfl) rfl rfl (gy rfl rfl rfl) (fun _ _ h=>h),ox_off (gn rfl rfl rfl) rfl (fun _=>rfl),ox_off (gn rfl rfl rfl) rfl (fun _=>rfl),ox_pick rfl rfl (gy rfl rfl rfl) (oy rfl rfl) rfl (fun _=>rfl),ox_pick rfl rfl trivial (oy rfl rfl) (oy rfl rfl) (fun _=>rfl),trivial⟩ fun a18 w18 g18 sv18=>?_
     refine tl_nil ?_
     refine k17 _ _ ?_
     refine cx_ifF sv18 rfl rfl ?_
     refine wp_skip ?_
     replace hr:=hr.kn g18
     replace HG:=grown_trans HG g18
     have svm:Sv 46 [] [(0,_),(1,_),(2,_)] a18:=⟨sv18.1,sv18.2.1,sv18.2.2.2.2.2.2.2.2.2.2.2.2.2.2.2.2.2.1,sv18.2.2.2.2.2.2.2.2.2.2.2.2.2.2.2.2.2.2.1,sv18.2.2.2.2.2.2.2.2.2.2.2.2.2.2.2.2.2.2.2.1,trivial⟩
     exact MG4 _ _ svm (h0) (.inl h2) HG hr
   · refine wp_seq_k fun K19 k19=>?_
     refine wp_region_lit ?_
     refine sx_hv sv2 14 [(8,.int .i64 addr),(9,.bool false),(10,.bool false),(11,.int .i64 addr),(12,.bool false),(13,.bool false),(14,.bool false),(15,.int .i64 joint),(16,.bool true),(17,.bool true),(18,.int .i64 joint),(19,.bool false),(20,.bool false),(21,.bool false)]
       ⟨ym r5,ybc r6 (fun _=>rn_lss (decide_eq_false (by omega))),ym r5,ox_move 2 11 (.inl rfl) rfl rfl (gy rfl rfl rfl) (fun _ _ h=>h),ox_bin rfl rfl (gy rfl rfl rfl) (oy rfl rfl) rfl (fun _=>rn_geq (decide_eq_false (by omega))) (fun _=>rfl),ox_pick rfl rfl trivial (oy rfl rfl) (oy rfl rfl) (fun _=>rfl),ym r5,ox_move 1 15 (.inl rfl) rfl rfl (gy rfl rfl rfl) (fun _ _ h=>h),ox_bin rfl rfl (gy rfl rfl rfl) (oy rfl rfl) rfl (fun _=>rn_neq (by simp;omega)) (fun _=>rfl),ox_move 16 17 (.inl rfl) rfl rfl (gy rfl rfl rfl) (fun _ _ h=>h),ox_move 1 18 (.inl rfl) rfl rfl (gy rfl rfl rfl) (fun _ _ h=>h),ox_bin rfl rfl (gy rfl rfl rfl) (oy rfl rfl) rfl (fun _=>rn_neq (by simp;omega)) (fun _=>rfl),ox_pick rfl rfl (gy rfl rfl rfl) (oy rfl rfl) (oy rfl rfl) (fun _=>rfl),ox_pick rfl rfl trivial (oy rfl rfl) (oy rfl rfl) (fun _=>rfl),trivial⟩ fun a20 w20 g20 sv20=>?_
     refine tl_nil ?_
     refine k19 _ _ ?_
     refine cx_ifF sv20 rfl rfl ?_
     refine wp_skip ?_
     replace hr:=hr.kn g20
     replace HG:=grown_trans HG g20
     have svm:Sv 46 [] [(0,_),(1,_),(2,_)] a20:=⟨sv20.1,sv20.2.1,sv20.2.2.2.2.2.2.2.2.2.2.2.2.2.2.2.2.2.1,sv20.2.2.2.2.2.2.2.2.2.2.2.2.2.2.2.2.2.2.1,sv20.2.2.2.2.2.2.2.2.2.2.2.2.2.2.2.2.2.2.2.1,trivial⟩
     exact MG4 _ _ svm (h0) (.inr h2) HG hr
 clear hr
 clear HG
 intro a4 w4 sv4 h0 h2 HG hr
 refine k3 _ _ ?_
 refine wp_seq_k fun K21 k21=>?_
 refine wp_seq_k fun K22 k22=>?_
 by_cases hbig:16 < ds.length
 · refine wp_region_lit ?_
   refine sx_hv sv4 3 [(22,.slice ao ds.length cap),(23,.int .i64 ((ds.length:Nat))),(24,.bool true)]
     ⟨ym r5,ox_len (Tryz.underlying28) rfl rfl trivial (oy rfl rfl) (fun _=>rfl),ybc r6 (fun _=>rn_gtr (by simp;omega)),trivial⟩ fun a23 w23 g23 sv23=>?_
   refine tl_nil ?_
   refine k22 _ _ ?_
   refine cx_ifT sv23 rfl rfl ?_
   refine wp_seq_k fun K24 k24=>?_
   refine wp_region_lit ?_
   refine tl_as (v:=.bool false) sv23 r6 fun a25 sv25=>?_
   refine tl_nil ?_
   refine k24 _ _ ?_
   replace hr:=hr.kn g23
   replace HG:=grown_trans HG g23
   refine wp_ret ?_
   repeat refine then_ret ?_
   refine cx_ret (fn:=Tryz.f50) sv25 (res_tmp (p:=6) Tryz.results50 sv25 rfl rfl) ?_
   exact ⟨retB ((hd_len (by omega)).symm),HG⟩
 · refine wp_region_lit ?_
   refine sx_hv sv4 3 [(22,.slice ao ds.length cap),(23,.int .i64 ((ds.length:Nat))),(24,.bool false)]
     ⟨ym r5,ox_len (Tryz.underlying28) rfl rfl trivial (oy rfl rfl) (fun _=>rfl),ybc r6 (fun _=>rn_gtr (by simp;omega)),trivial⟩ fun a26 w26 g26 sv26=>?_
   refine tl_nil ?_
   refine k22 _ _ ?_
   refine cx_ifF sv26 rfl rfl ?_
   refine wp_skip ?_
   refine k21 _ _ ?_
   refine wp_seq_k fun K27 k27=>?_
   refine wp_seq_k fun K28 k28=>?_
   refine wp_region_lit ?_
   refine sx_hv sv26 3 [(25,.slice ao ds.length cap),(26,.int .i64 ((ds.length:Nat))),(27,.int .i64 0)]
     ⟨ym r5,ox_len (Tryz.underlying28) rfl rfl trivial (oy rfl rfl) (fun _=>rfl),ox_const (.inl rfl) rfl trivial (fun _=>rfl),trivial⟩ fun a29 w29 g29 sv29=>?_
   have gc29:=grown_trans g26 g29
   refine tl_nil ?_
   refine k28 _ _ ?_
   refine cx_block fun Q30 x30 y30 rt30 o30=>?_
   replace hr:=hr.kn gc29
   replace HG:=grown_trans HG gc29
   refine wp_loop (fun a w'=>∃ (i:Nat),(i≤ds.length+1)∧(∀ k,k < i→chkD (ds.map DD.x) k=true)∧Sv 46 [] [(27,.int .i64 ((i:Int))),(25,.slice ao ds.length cap),(26,.int .i64 ((ds.length:Nat))),(22,.slice ao ds.length cap),(23,.int .i64 ((ds.length:Nat))),(24,.bool false),(0,.slice ao ds.length cap),(1,.int .i64 joint),(2,.int .i64 addr)] a∧w.grownBy w' none∧RdD w' (.slice ao ds.length cap) ds) (fun a _=>(ds.length+1 - intOf (a.tmps.getD 27 undef)).toNat) ⟨0,Nat.zero_le _,fun k hk=>by omega,⟨sv29.1,sv29.2.1,sv29.2.2.2.2.1,sv29.2.2.1,sv29.2.2.2.1,sv29.2.2.2.2.2.1,sv29.2.2.2.2.2.2.1,sv29.2.2.2.2.2.2.2.1,sv29.2.2.2.2.2.2.2.2.1,sv29.2.2.2.2.2.2.2.2.2.1,sv29.2.2.2.2.2.2.2.2.2.2.1,trivial⟩,HG,hr⟩ fun a31 w31 hI31=>?_
   clear hr
   clear HG
   obtain ⟨i,hin,hb,sv31,HG,hr⟩:=hI31
   refine wp_seq_k fun K32 k32=>?_
   by_cases hi:i < ds.length
   · have hp:i - 1 < ds.length:=by omega
     obtain ⟨x,hx_x⟩:∃ x,ds[i]'hi=x:=⟨_,rfl⟩
     obtain ⟨y,hx_y⟩:∃ x,ds[(i - 1)]'hp=x:=⟨_,rfl⟩
     have hchk:=chkD_i hi hp hx_x hx_y
     refine wp_region_lit ?_
     refine sx_hv sv31 1 [(28,.bool true)]
       ⟨ybt r7 (fun _=>rn_lss (by simp;omega)),trivial⟩ fun a33 w33 g33 sv33=>?_
     refine tl_nil ?_
     refine k32 _ _ ?_
     refine wp_seq_k fun K34 k34=>?_
     refine cx_ifT sv33 rfl rfl ?_
     refine wp_skip ?_
     refine k34 _ _ ?_
     refine wp_seq_k fun K35 k35=>?_
     refine cx_block fun Q36 x36 y36 rt36 o36=>?_
     refine wp_seq_k fun K37 k37=>?_
     refine wp_region_lit ?_
     refine sx_hv sv33 1 [(29,.int .i64 ((i:Int)))]
       ⟨ym r5,trivial⟩ fun a38 w38 g38 sv38=>?_
     have gc38:=grown_trans g33 g38
     refine tl_as (v:=.int .i64 ((i:Int))) sv38 r6 fun a39 sv39=>?_
     refine tl_nil ?_
     refine k37 _ _ ?_
     refine wp_seq_k fun K40 k40=>?_
     replace hr:=hr.kn gc38
     replace HG:=grown_trans HG gc38
     rcases (show i=0∨(0 < i∧blt y.x x.x=true)∨(0 < i∧blt y.x x.x=false) by
         rcases Nat.eq_zero_or_pos i with h | h <;> cases h3:blt y.x x.x <;> simp [h]) with hz | ⟨hz,hc⟩ | ⟨hz,hc⟩
     · have hok:(decide (i=0) || blt y.x x.x)=true:=by simp [hz]
       refine rx_av sv39 [(30,.int .i64 ((i:Int))),(31,.bool false),(32,.bool false),(33,undef),(34,undef),(35,undef),(36,undef),(37,undef),(38,undef),(39,undef),(40,undef),(41,undef),(42,undef),(43,undef),(44,.bool false)]
         ⟨ym r5,ybc r6 (fun _=>rn_gtr (by simp;omega)),ym r5,ox_off (gn rfl rfl rfl) rfl (fun _=>rfl),ox_off (gn rfl rfl rfl) rfl (fun _=>rfl),ox_off (gn rfl rfl rfl) rfl (fun _=>rfl),ox_off (gn rfl rfl rfl) rfl (fun _=>rfl),ox_off (gn rfl rfl rfl) rfl (fun _=>rfl),ox_off (gn rfl rfl rfl) rfl (fun _=>rfl),ox_off (gn rfl rfl rfl) rfl (fun _=>rfl),ox_off (gn rfl rfl rfl) rfl (fun _=>rfl),ox_off (gn rfl rfl rfl) rfl (fun _=>rfl),ox_off (gn rfl rfl rfl) rfl (fun _=>rfl),ox_off (gn rfl rfl rfl) rfl (fun _=>rfl),ox_pick rfl rfl trivial (oy rfl rfl) rfl (fun _=>rfl),trivial⟩ fun a41 w41 g41 sv41=>?_
       refine k40 _ _ ?_
       refine cx_ifF sv41 rfl rfl ?_
       refine wp_skip ?_
       refine y36 _ _ ?_
       refine k35 _ _ ?_
       refine wp_region_lit ?_
       refine sx_hv sv41 1 [(45,.int .i64 (((i+1:Nat):Int)))]
         ⟨ybc r6 (fun _=>rn_add (by rw [wrap_i64 (by omega) (by omega)];omega)),trivial⟩ fun a42 w42 g42 sv42=>?_
       have gc42:=grown_trans g41 g42
       refine sx_hv (sv42.dl [27]) 1 [(27,.int .i64 (((i+1:Nat):Int)))]
         ⟨ym r5,trivial⟩ fun a43 w43 g43 sv43=>?_
       have gc43:=grown_trans gc42 g43
       refine tl_nil ?_
       replace hr:=hr.kn gc43
       replace HG:=grown_trans HG gc43
       exact ⟨⟨i+1,by omega,fun k hk=>if e:k=i then (by rw [e,hchk];exact hok) else hb k (by omega),⟨sv43.1,sv43.2.1,sv43.2.2.1,sv43.2.2.2.2.2.2.2.2.2.2.2.2.2.2.2.2.2.2.2.2.2.2.1,sv43.2.2.2.2.2.2.2.2.2.2.2.2.2.2.2.2.2.2.2.2.2.2.2.1,sv43.2.2.2.2.2.2.2.2.2.2.2.2.2.2.2.2.2.2.2.2.2.2.2.2.1,sv43.2.2.2.2.2.2.2.2.2.2.2.2.2.2.2.2.2.2.2.2.2.2.2.2.2.1,sv43.2.2.2.2.2.2.2.2.2.2.2.2.2.2.2.2.2.2.2.2.2.2.2.2.2.2.1,sv43.2.2.2.2.2.2.2.2.2.2.2.2.2.2.2.2.2.2.2.2.2.2.2.2.2.2.2.1,sv43.2.2.2.2.2.2.2.2.2.2.2.2.2.2.2.2.2.2.2.2.2.2.2.2.2.2.2.2.1,sv43.2.2.2.2.2.2.2.2.2.2.2.2.2.2.2.2.2.2.2.2.2.2.2.2.2.2.2.2.2.1,trivial⟩,HG,hr⟩,by rw [show _=_ from sv43.2.2.1,show _=_ from sv31.2.2.1];simp [intOf];omega⟩
     · have hok:(decide (i=0) || blt y.x x.x)=true:=by simp [hz,hc]
       refine rx_av sv39 [(30,.int .i64 ((i:Int))),(31,.bool true),(32,.bool true),(33,.slice ao ds.length cap),(34,.int .i64 ((i:Int))),(35,.int .i64 (((i - 1:Nat):Int))),(36,pk ((bO ao)) (oO ao+(i - 1) * 32)),(37,.slice ((some ⟨(bO ao),oO ao+(i - 1) * 32,none⟩)) 32 32),(38,.slice ao ds.length cap),(39,.int .i64 ((i:Int))),(40,pk ((bO ao)) (oO ao+i * 32)),(41,.slice ((some ⟨(bO ao),oO ao+i * 32,none⟩)) 32 32),(42,.int .i64 ((bcmp y.x x.x))),(43,.bool false),(44,.bool false)]
         ⟨ym r5,ybc r6 (fun _=>rn_gtr (by simp;omega)),ym r5,ox_move 0 33 (.inl rfl) rfl rfl (gy rfl rfl rfl) (fun _ _ h=>h),ox_move 7 34 (.inl rfl) rfl rfl (gy rfl rfl rfl) (fun _ _ h=>h),ox_bin rfl rfl (gy rfl rfl rfl) (oy rfl rfl) rfl (fun _=>rn_sub (by rw [wrap_i64 (by omega) (by omega)];omega)) (fun _=>rfl),ox_index rfl rfl (gy rfl rfl rfl) (oy rfl rfl) (oy rfl rfl) (fun w=>ix_sl Tryz.underlying28 (by kernel_rfl) (hr.1) (by omega) (rfl) w) (fun _=>rfl),ox_slice (l:=none) (u:=none) rfl rfl (gy rfl rfl rfl) (oy rfl rfl) trivial trivial (sl_arr ((bO ao)) (oO ao+(i - 1) * 32)) (fun _=>rfl),ox_move 0 38 (.inl rfl) rfl rfl (gy rfl rfl rfl) (fun _ _ h=>h),ox_move 7 39 (.inl rfl) rfl rfl (gy rfl rfl rfl) (fun _ _ h=>h),ox_index rfl rfl (gy rfl rfl rfl) (oy rfl rfl) (oy rfl rfl) (fun w=>ix_sl Tryz.underlying28 (by kernel_rfl) (hr.1) (by omega) (rfl) w) (fun _=>rfl),ox_slice (l:=none) (u:=none) rfl rfl (gy rfl rfl rfl) (oy rfl rfl) trivial trivial (sl_arr ((bO ao)) (oO ao+i * 32)) (fun _=>rfl),ox_call (Sp.is (.int .i64 ((bcmp y.x x.x)))) [.slice ((some ⟨(bO ao),oO ao+(i - 1) * 32,none⟩)) 32 32,.slice ((some ⟨(bO ao),oO ao+i * 32,none⟩)) 32 32] rfl rfl (gy rfl rfl rfl) ⟨(oy rfl rfl),(oy rfl rfl),trivial⟩ (is_on fun W g=>compare_walk y.h x.h (by have:=el_range (hr.kn g).1 dcs_len hp (by decide);rw [hx_y] at this;exact this) (by have:=el_range (hr.kn g).1 dcs_len hi (by decide);rw [hx_x] at this;exact this)) (fun _ _ h=>h) (enter_of Tryz.func94 (by kernel_rfl) rfl),ox_bin rfl rfl (gy rfl rfl rfl) (oy rfl rfl) rfl (fun _=>rn_geq (by rw [bcmp_ge,hc];rfl)) (fun _=>rfl),ox_pick rfl rfl trivial (oy rfl rfl) (oy rfl rfl) (fun _=>rfl),trivial⟩ fun a44 w44 g44 sv44=>?_
       refine k40 _ _ ?_
       refine cx_ifF sv44 rfl rfl ?_
       refine wp_skip ?_
       refine y36 _ _ ?_
       refine k35 _ _ ?_
       refine wp_region_lit ?_
       refine sx_hv sv44 1 [(45,.int .i64 (((i+1:Nat):Int)))]
         ⟨ybc r6 (fun _=>rn_add (by rw [wrap_i64 (by omega) (by omega)];omega)),trivial⟩ fun a45 w45 g45 sv45=>?_
       have gc45:=grown_trans g44 g45
       refine sx_hv (sv45.dl [27]) 1 [(27,.int .i64 (((i+1:Nat):Int)))]
         ⟨ym r5,trivial⟩ fun a46 w46 g46 sv46=>?_
       have gc46:=grown_trans gc45 g46
       refine tl_nil ?_
       replace hr:=hr.kn gc46
       replace HG:=grown_trans HG gc46
       exact ⟨⟨i+1,by omega,fun k hk=>if e:k=i then (by rw [e,hchk];exact hok) else hb k (by omega),⟨sv46.1,sv46.2.1,sv46.2.2.1,sv46.2.2.2.2.2.2.2.2.2.2.2.2.2.2.2.2.2.2.2.2.2.2.1,sv46.2.2.2.2.2.2.2.2.2.2.2.2.2.2.2.2.2.2.2.2.2.2.2.1,sv46.2.2.2.2.2.2.2.2.2.2.2.2.2.2.2.2.2.2.2.2.2.2.2.2.1,sv46.2.2.2.2.2.2.2.2.2.2.2.2.2.2.2.2.2.2.2.2.2.2.2.2.2.1,sv46.2.2.2.2.2.2.2.2.2.2.2.2.2.2.2.2.2.2.2.2.2.2.2.2.2.2.1,sv46.2.2.2.2.2.2.2.2.2.2.2.2.2.2.2.2.2.2.2.2.2.2.2.2.2.2.2.1,sv46.2.2.2.2.2.2.2.2.2.2.2.2.2.2.2.2.2.2.2.2.2.2.2.2.2.2.2.2.1,sv46.2.2.2.2.2.2.2.2.2.2.2.2.2.2.2.2.2.2.2.2.2.2.2.2.2.2.2.2.2.1,trivial⟩,HG,hr⟩,by rw [show _=_ from sv46.2.2.1,show _=_ from sv31.2.2.1];simp [intOf];omega⟩
     · refine rx_av sv39 [(30,.int .i64 ((i:Int))),(31,.bool true),(32,.bool true),(33,.slice ao ds.length cap),(34,.int .i64 ((i:Int))),(35,.int .i64 (((i - 1:Nat):Int))),(36,pk ((bO ao)) (oO ao+(i - 1) * 32)),(37,.slice ((some ⟨(bO ao),oO ao+(i - 1) * 32,none⟩)) 32 32),(38,.slice ao ds.length cap),(39,.int .i64 ((i:Int))),(40,pk ((bO ao)) (oO ao+i * 32)),(41,.slice ((some ⟨(bO ao),oO ao+i * 32,none⟩)) 32 32),(42,.int .i64 ((bcmp y.x x.x))),(43,.bool true),(44,.bool true)]
         ⟨ym r5,ybc r6 (fun _=>rn_gtr (by simp;omega)),ym r5,ox_move 0 33 (.inl rfl) rfl rfl (gy rfl rfl rfl) (fun _ _ h=>h),ox_move 7 34 (.inl rfl) rfl rfl (gy rfl rfl rfl) (fun _ _ h=>h),ox_bin rfl rfl (gy rfl rfl rfl) (oy rfl rfl) rfl (fun _=>rn_sub (by rw [wrap_i64 (by omega) (by omega)];omega)) (fun _=>rfl),ox_index rfl rfl (gy rfl rfl rfl) (oy rfl rfl) (oy rfl rfl) (fun w=>ix_sl Tryz.underlying28 (by kernel_rfl) (hr.1) (by omega) (rfl) w) (fun _=>rfl),ox_slice (l:=none) (u:=none) rfl rfl (gy rfl rfl rfl) (oy rfl rfl) trivial trivial (sl_arr ((bO ao)) (oO ao+(i - 1) * 32)) (fun _=>rfl),ox_move 0 38 (.inl rfl) rfl rfl (gy rfl rfl rfl) (fun _ _ h=>h),ox_move 7 39 (.inl rfl) rfl rfl (gy rfl rfl rfl) (fun _ _ h=>h),ox_index rfl rfl (gy rfl rfl rfl) (oy rfl rfl) (oy rfl rfl) (fun w=>ix_sl Tryz.underlying28 (by kernel_rfl) (hr.1) (by omega) (rfl) w) (fun _=>rfl),ox_slice (l:=none) (u:=none) rfl rfl (gy rfl rfl rfl) (oy rfl rfl) trivial trivial (sl_arr ((bO ao)) (oO ao+i * 32)) (fun _=>rfl),ox_call (Sp.is (.int .i64 ((bcmp y.x x.x)))) [.slice ((some ⟨(bO ao),oO ao+(i - 1) * 32,none⟩)) 32 32,.slice ((some ⟨(bO ao),oO ao+i * 32,none⟩)) 32 32] rfl rfl (gy rfl rfl rfl) ⟨(oy rfl rfl),(oy rfl rfl),trivial⟩ (is_on fun W g=>compare_walk y.h x.h (by have:=el_range (hr.kn g).1 dcs_len hp (by decide);rw [hx_y] at this;exact this) (by have:=el_range (hr.kn g).1 dcs_len hi (by decide);rw [hx_x] at this;exact this)) (fun _ _ h=>h) (enter_of Tryz.func94 (by kernel_rfl) rfl),ox_bin rfl rfl (gy rfl rfl rfl) (oy rfl rfl) rfl (fun _=>rn_geq (by rw [bcmp_ge,hc];rfl)) (fun _=>rfl),ox_pick rfl rfl trivial (oy rfl rfl) (oy rfl rfl) (fun _=>rfl),trivial⟩ fun a47 w47 g47 sv47=>?_
       refine k40 _ _ ?_
       refine cx_ifT sv47 rfl rfl ?_
       refine wp_seq_k fun K48 k48=>?_
       refine wp_region_lit ?_
       refine tl_as (v:=.bool false) sv47 r6 fun a49 sv49=>?_
       refine tl_nil ?_
       refine k48 _ _ ?_
       replace hr:=hr.kn g47
       replace HG:=grown_trans HG g47
       refine wp_ret ?_
       repeat refine then_ret ?_
       refine rt36 _ _ ?_
       repeat refine then_ret ?_
       refine rt30 _ _ ?_
       repeat refine then_ret ?_
       refine cx_ret (fn:=Tryz.f50) sv49 (res_tmp (p:=6) Tryz.results50 sv49 rfl rfl) ?_
       exact ⟨retB ((hd_asc (asc_no (i:=i) (by rw [hmap];exact hi) (by rw [hchk];simp [hc,Nat.ne_of_gt hz]))).symm),HG⟩
   · refine wp_region_lit ?_
     refine sx_hv sv31 1 [(28,.bool false)]
       ⟨ybt r7 (fun _=>rn_lss (by simp;omega)),trivial⟩ fun a50 w50 g50 sv50=>?_
     refine tl_nil ?_
     refine k32 _ _ ?_
     refine wp_seq_k fun K51 k51=>?_
     refine cx_ifF sv50 rfl rfl ?_
     refine wp_exit ?_
     repeat refine then_exit ?_
     refine x30 _ _ ?_
     refine k27 _ _ ?_
     refine wp_seq_k fun K52 k52=>?_
     refine wp_region_lit ?_
     refine tl_as (v:=.bool true) sv50 r6 fun a53 sv53=>?_
     refine tl_nil ?_
     refine k52 _ _ ?_
     replace hr:=hr.kn g50
     replace HG:=grown_trans HG g50
     refine wp_ret ?_
     repeat refine then_ret ?_
     refine cx_ret (fn:=Tryz.f50) sv53 (res_tmp (p:=6) Tryz.results50 sv53 rfl rfl) ?_
     exact ⟨retB ((hd_yes h0 h2 (by omega) (asc_yes fun k hk=>hb k (by omega))).symm),HG⟩
end Go.Proofs.YtbfjfnbcmojpiaaGreat
