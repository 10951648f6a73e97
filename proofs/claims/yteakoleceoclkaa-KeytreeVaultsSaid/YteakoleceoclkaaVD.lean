/- Vaults: the functions as laws call them. -/
import Derived.Test.YteakoleceoclkaaVC
namespace Go.Proofs.Yteakoleceoclkaa
open Go.RowKit
set_option linter.unusedSimpArgs false
set_option linter.unusedVariables false
def VDg (V : VV) : Prop := Dg V.2.1 ∧ Dg V.2.2
theorem zeroV_dg : VDg zeroV := ⟨zero32_dg, zero32_dg⟩
theorem ensO_dg {v : VV} {o : List Nat} {t : List Nd} {nx : List Nat} (h : VDg v) (hn : Dg nx) : VDg (ensO v o t nx).1 := by
 unfold ensO
 split
 · split
   · exact h
   · split
     · exact zeroV_dg
     · exact ⟨h.1, hn⟩
 · exact zeroV_dg
theorem shrO_dg {v : VV} {o : List Nat} {a : Int} (h : VDg v) : VDg (shrO v o a).1 := by
 unfold shrO
 split
 · split
   · split
     · exact h
     · exact zeroV_dg
   · exact zeroV_dg
 · exact zeroV_dg
theorem drpO_dg {v : VV} {o : List Nat} (h : VDg v) : VDg (drpO v o).1 := by
 unfold drpO
 split
 · split
   · exact h
   · exact zeroV_dg
 · exact zeroV_dg
theorem keyO_dg {P : List VP} {o : List Nat} {a : Int} (h : ∀ i, i < P.length → ∀ n ∈ tr P i, Nok n) : Dg (keyO P o a).1 := by
 unfold keyO
 split
 · split
   · rename_i hf
     exact leafOf_dg (h _ (fnd_at hf).1) a
   · exact zero32_dg
 · exact zero32_dg
theorem RdK.noks {w : World} {v : Value} {ks : List VK} (h : RdK w v ks) : ∀ i, i < (ks.map VK.p).length → ∀ n ∈ tr (ks.map VK.p) i, Nok n := fun i hi n hn => by
 have hi' : i < ks.length := by simpa using hi
 rw [tr_map hi'] at hn
 exact (h.2 _ (List.getElem_mem hi')).2.1 n hn
theorem tagsmono {w w' : World} {fp p : Nat → Prop} (g : w.grownBy w' none) (h : ∀ k, p k → fp k ∨ TagV w k) : ∀ k, p k → fp k ∨ TagV w' k := fun k hk => (h k hk).imp id (·.keep g (by simp))
def Sp.vt (r : VV × Int) (fp : Nat → Prop) : Sp := ⟨fun w v => ∃ ao cap ks, v = .tuple #[vval r.1.2.1 r.1.2.2 (.slice ao (List.length ks) cap), .int .i64 r.2] ∧ ks.map VK.p = r.1.1 ∧ RdK w (.slice ao (List.length ks) cap) ks ∧ ∀ k, fpK (.slice ao (List.length ks) cap) ks k → fp k ∨ TagV w k, fun _ _ _ hg ⟨ao, cap, ks, h1, h2, h3, h4⟩ => ⟨ao, cap, ks, h1, h2, h3.kn hg, tagsmono hg h4⟩⟩
def Sp.vv (V : VV) (fp : Nat → Prop) : Sp := ⟨fun w v => ∃ ao cap ks, v = vval V.2.1 V.2.2 (.slice ao (List.length ks) cap) ∧ ks.map VK.p = V.1 ∧ RdK w (.slice ao (List.length ks) cap) ks ∧ ∀ k, fpK (.slice ao (List.length ks) cap) ks k → fp k ∨ TagV w k, fun _ _ _ hg ⟨ao, cap, ks, h1, h2, h3, h4⟩ => ⟨ao, cap, ks, h1, h2, h3.kn hg, tagsmono hg h4⟩⟩
theorem vt_vault {r : VV × Int} {fp : Nat → Prop} (w : World) (u : Value) (h : (Sp.vt r fp).on w u) : ∃ vs v, u = .tuple vs ∧ vs[0]? = some v ∧ (Sp.vv r.1 fp).on w v := by
 obtain ⟨ao, cap, ks, h1, h2⟩ := h
 exact ⟨_, _, h1, rfl, ao, cap, ks, rfl, h2⟩
theorem vt_err {r : VV × Int} {fp : Nat → Prop} (w : World) (u : Value) (h : (Sp.vt r fp).on w u) : ∃ vs v, u = .tuple vs ∧ vs[1]? = some v ∧ (Sp.is (.int .i64 r.2)).on w v := by
 obtain ⟨ao, cap, ks, h1, h2⟩ := h
 exact ⟨_, _, h1, rfl, rfl⟩
theorem VRes.on {w w' : World} {r : VV × Int} {fp : Nat → Prop} {e : Ending} (h : VRes w w' r fp e) : ∃ v, e = .returned v ∧ w.grownBy w' none ∧ (Sp.vt r fp).on w' v := by
 obtain ⟨ao, cap, ks, h1, h2, h3, h4, h5⟩ := h
 exact ⟨_, h1, h5, ao, cap, ks, rfl, h2, h3, h4⟩
section
variable {w0 : World} {ks : List VK} {ao : Option Addr} {cap : Nat} {sa po o : List Nat} {P : List VP} {r : VV × Int} {a : Int}
theorem ens_on (hsa : Dg sa) (hpo : Dg po) (ho : Dg o) (hk : RdK w0 (.slice ao ks.length cap) ks) (hm : ks.map VK.p = P) {T : List Nd} (hT : tree (kd 275 po) [] = T) (hres : ensO (P, sa, po) o T (kd 276 po) = r) :
   ∀ W, w0.grownBy W none → Calls Try.prog 36 #[vval sa po (.slice ao ks.length cap), dval o] W fun e W' => ∃ v, e = .returned v ∧ W.grownBy W' none ∧ (Sp.vt r fun _ => False).on W' v := fun W g => by
 subst hres hm
 exact (ens_walk ks ao cap sa po hsa hpo o ho T hT W (hk.kn g)).mono fun e W' h => h.on
theorem rens_on (hsa : Dg sa) (hpo : Dg po) (ho : Dg o) (hk : RdK w0 (.slice ao ks.length cap) ks) (hm : ks.map VK.p = P) {T : List Nd} (hT : tree (kd 275 po) [] = T) (hres : ensO (P, sa, po) o T (kd 276 po) = r) :
   ∀ W, w0.grownBy W none → Calls Try.prog 41 #[vval sa po (.slice ao ks.length cap), dval o] W fun e W' => ∃ v, e = .returned v ∧ W.grownBy W' none ∧ (Sp.vt r (fpK (.slice ao ks.length cap) ks)).on W' v := fun W g => by
 subst hres hm
 exact (rens_walk ks ao cap sa po hsa hpo o ho T hT W (hk.kn g)).mono fun e W' h => h.on
theorem shr_on (hsa : Dg sa) (hpo : Dg po) (ho : Dg o) (hk : RdK w0 (.slice ao ks.length cap) ks) (hm : ks.map VK.p = P) (hres : shrO (P, sa, po) o a = r) :
   ∀ W, w0.grownBy W none → Calls Try.prog 42 #[vval sa po (.slice ao ks.length cap), dval o, .int .i64 a] W fun e W' => ∃ v, e = .returned v ∧ W.grownBy W' none ∧ (Sp.vt r fun _ => False).on W' v := fun W g => by
 subst hres hm
 exact (shr_walk ks ao cap sa po hsa hpo o ho a W (hk.kn g)).mono fun e W' h => h.on
theorem rshr_on (hsa : Dg sa) (hpo : Dg po) (ho : Dg o) (hk : RdK w0 (.slice ao ks.length cap) ks) (hm : ks.map VK.p = P) (hres : shrO (P, sa, po) o a = r) :
   ∀ W, w0.grownBy W none → Calls Try.prog 43 #[vval sa po (.slice ao ks.length cap), dval o, .int .i64 a] W fun e W' => ∃ v, e = .returned v ∧ W.grownBy W' none ∧ (Sp.vt r (fpK (.slice ao ks.length cap) ks)).on W' v := fun W g => by
 subst hres hm
 exact (rshr_walk ks ao cap sa po hsa hpo o ho a W (hk.kn g)).mono fun e W' h => h.on
theorem drp_on (hsa : Dg sa) (hpo : Dg po) (ho : Dg o) (hk : RdK w0 (.slice ao ks.length cap) ks) (hm : ks.map VK.p = P) (hres : drpO (P, sa, po) o = r) :
   ∀ W, w0.grownBy W none → Calls Try.prog 37 #[vval sa po (.slice ao ks.length cap), dval o] W fun e W' => ∃ v, e = .returned v ∧ W.grownBy W' none ∧ (Sp.vt r fun _ => False).on W' v := fun W g => by
 subst hres hm
 exact (drp_walk ks ao cap sa po hsa hpo o ho W (hk.kn g)).mono fun e W' h => h.on
theorem rdrp_on (hsa : Dg sa) (hpo : Dg po) (ho : Dg o) (hk : RdK w0 (.slice ao ks.length cap) ks) (hm : ks.map VK.p = P) (hres : drpO (P, sa, po) o = r) :
   ∀ W, w0.grownBy W none → Calls Try.prog 44 #[vval sa po (.slice ao ks.length cap), dval o] W fun e W' => ∃ v, e = .returned v ∧ W.grownBy W' none ∧ (Sp.vt r (fpK (.slice ao ks.length cap) ks)).on W' v := fun W g => by
 subst hres hm
 exact (rdrp_walk ks ao cap sa po hsa hpo o ho W (hk.kn g)).mono fun e W' h => h.on
theorem key_B {w : World} {q : List Nat × Int} (hsa : Dg sa) (hpo : Dg po) (ho : Dg o) (hk : RdK w (.slice ao ks.length cap) ks) (hm : ks.map VK.p = P) (hres : keyO P o a = q) :
   Calls Try.prog 39 #[vval sa po (.slice ao ks.length cap), dval o, .int .i64 a] w fun e w' => e = .returned (.tuple #[dval q.1, .int .i64 q.2]) ∧ w.grownBy w' none := by
 subst hres hm
 exact key_walk ks ao cap sa po hsa hpo o ho a w hk
theorem rkey_B {w : World} {q : List Nat × Int} (hsa : Dg sa) (hpo : Dg po) (ho : Dg o) (hk : RdK w (.slice ao ks.length cap) ks) (hm : ks.map VK.p = P) (hres : keyO P o a = q) :
   Calls Try.prog 40 #[vval sa po (.slice ao ks.length cap), dval o, .int .i64 a] w fun e w' => e = .returned (.tuple #[dval q.1, .int .i64 q.2]) ∧ w.grownBy w' none := by
 subst hres hm
 exact rkey_walk ks ao cap sa po hsa hpo o ho a w hk
theorem vvalid_P {w : World} {b : Bool} (hsa : Dg sa) (hpo : Dg po) (hk : RdK w (.slice ao ks.length cap) ks) (hm : ks.map VK.p = P) (hb : vldV P = b) : Calls Try.prog 45 #[vval sa po (.slice ao ks.length cap)] w fun e w' => e = .returned (.bool b) ∧ w.grownBy w' none := by
 subst hm
 exact vvalid_B hsa hpo hk hb
end
end Go.Proofs.Yteakoleceoclkaa
