/- Vaults: the functions as laws call them. -/
import Derived.Test.YteakoleceoclkaaVC
namespace Go.Proofs.Yteakoleceoclkaa
open Go.RowKit
set_option linter.unusedSimpArgs false
set_option linter.unusedVariables false
theorem tagsmono {w w' : World} {fp p : Nat → Prop} (g : w.grownBy w' none) (h : ∀ k, p k → fp k ∨ TagV w k) : ∀ k, p k → fp k ∨ TagV w' k := fun k hk => (h k hk).imp id (·.keep g (by simp))
def Sp.vt (r : VV × Int) (fp : Nat → Prop) : Sp := ⟨fun w v => ∃ ao cap ks, v = .tuple #[vval r.1.2.1 r.1.2.2 (.slice ao (List.length ks) cap), .int .i64 r.2] ∧ ks.map VK.p = r.1.1 ∧ RdK w (.slice ao (List.length ks) cap) ks ∧ ∀ k, fpK (.slice ao (List.length ks) cap) ks k → fp k ∨ TagV w k, fun _ _ _ hg ⟨ao, cap, ks, h1, h2, h3, h4⟩ => ⟨ao, cap, ks, h1, h2, h3.kn hg, tagsmono hg h4⟩⟩
def Sp.vv (V : VV) (fp : Nat → Prop) : Sp := ⟨fun w v => ∃ ao cap ks, v = vval V.2.1 V.2.2 (.slice ao (List.length ks) cap) ∧ ks.map VK.p = V.1 ∧ RdK w (.slice ao (List.length ks) cap) ks ∧ ∀ k, fpK (.slice ao (List.length ks) cap) ks k → fp k ∨ TagV w k, fun _ _ _ hg ⟨ao, cap, ks, h1, h2, h3, h4⟩ => ⟨ao, cap, ks, h1, h2, h3.kn hg, tagsmono hg h4⟩⟩
theorem vt_vault {r : VV × Int} {fp : Nat → Prop} (w : World) (u : Value) (h : (Sp.vt r fp).on w u) : ∃ vs v, u = .tuple vs ∧ vs[0]? = some v ∧ (Sp.vv r.1 fp).on w v := by
 obtain ⟨ao, cap, ks, h1, h2⟩ := h
 exact ⟨_, _, h1, rfl, ao, cap, ks, rfl, h2⟩
theorem vt_err {r : VV × Int} {fp : Nat → Prop} (w : World) (u : Value) (h : (Sp.vt r fp).on w u) : ∃ vs v, u = .tuple vs ∧ vs[1]? = some v ∧ (Sp.is (.int .i64 r.2)).on w v := by
 obtain ⟨ao, cap, ks, h1, h2⟩ := h
 exact ⟨_, _, h1, rfl, rfl⟩
theorem VRes.on {w w' : World} {r : VV × Int} {fp : Nat → Prop} {e : Ending} (h : VRes w w' r fp e) : ∃ v, e = .returned v ∧ w.grownBy w' none ∧ (Sp.vt r fp).on w' v := by
 obtain ⟨ao, cap, ks, h1, h2, h3, h4, h5⟩ := h
 exact ⟨_, h1, h5, ao, cap, ks, rfl, h2, h3, h4⟩
section
variable {w0 : World} {ks : List VK} {ao : Option Addr} {cap : Nat} {sa po o : List Nat} {P : List VP} {r : VV × Int} {a : Int}
theorem ens_on (hsa : Dg sa) (hpo : Dg po) (ho : Dg o) (hk : RdK w0 (.slice ao ks.length cap) ks) (hm : ks.map VK.p = P) {T : List Nd} (hT : tree (kd 275 po) [] = T) (hres : ensO (P, sa, po) o T (kd 276 po) = r) :
   ∀ W, w0.grownBy W none → Calls Try.prog 36 #[vval sa po (.slice ao ks.length cap), dval o] W fun e W' => ∃ v, e = .returned v ∧ W.grownBy W' none ∧ (Sp.vt r fun _ => False).on W' v := fun W g => by
 subst hres hm
 exact (ens_walk ks ao cap sa po hsa hpo o ho T hT W (hk.kn g)).mono fun e W' h => h.on
end
end Go.Proofs.Yteakoleceoclkaa
