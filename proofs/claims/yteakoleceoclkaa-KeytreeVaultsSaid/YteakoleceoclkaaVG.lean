/- Vaults: acts as arguments of a law; what a sequence of acts keeps. -/
import Derived.Test.YteakoleceoclkaaFr
import Derived.Test.YteakoleceoclkaaVF
namespace Go.Proofs.Yteakoleceoclkaa
open Go.ChangeShapes Go.WideShapes Go.ChangeAt Go.RowKit Go.Deep
set_option linter.unusedSimpArgs false
set_option linter.unusedVariables false
theorem cellsAc : Try.prog.cellsOf 80 = 3 := by kernel_rfl
set_option maxRecDepth 100000 in
theorem el_ac {H : Type} {enc : TypeId × Value → H} {W : World} {b0 : Nat} : ∀ fuel cs y, DataW.trod enc Try.prog W b0 (fun _ => true) true fuel 80 cs = some y → ∃ n : Ac, cs = acells n ∧ (acells n).length = 3 ∧ True := by
 intro fuel cs y h
 obtain ⟨xs, k, _, _, hl, hxl, hf⟩ := DataW.trod_struct Try.underlying80 h
 rw [cellsAc] at hl
 obtain ⟨y0, t0⟩ := fld_at hxl hf 0 _ rfl 3 rfl 1 cellsI
 obtain ⟨y1, t1⟩ := fld_at hxl hf 1 _ rfl 3 rfl 1 cellsI
 obtain ⟨y2, t2⟩ := fld_at hxl hf 2 _ rfl 2 rfl 1 cellsI6
 obtain ⟨n0, e0, _, w0⟩ := el_int _ _ _ t0
 obtain ⟨n1, e1, _, w1⟩ := el_int _ _ _ t1
 obtain ⟨n2, e2, _, w2⟩ := el_i64 _ _ _ t2
 match cs, hl, e0, e1, e2 with
 | [a, b, c], hl, e0, e1, e2 =>
   have e0 : [a] = [.int .i64 n0] := e0
   have e1 : [b] = [.int .i64 n1] := e1
   have e2 : [c] = [.int .i64 n2] := e2
   refine ⟨⟨n0, n1, n2⟩, ?_, rfl, trivial⟩
   rw [(List.cons.inj e0).1, (List.cons.inj e1).1, (List.cons.inj e2).1]
   rfl
set_option maxRecDepth 100000 in
theorem open_acts {H : Type} {enc : TypeId × Value → H} {W : World} {r : Reach} {base b0 : Nat} {v : Value} {d : DataW H} {p : List MemPlace} (hv : Value.okWide Try.prog W r base 76 v) (h : DataW.Trod enc Try.prog W b0 (fun _ => true) true 76 v d p) : ∃ l : List Ac, SlB W 3 v l.length (l.flatMap acells) ∧ True := by
 obtain ⟨l, h1, h2, h3⟩ := open_slc Try.underlying76 cellsAc (by decide) acells _ el_ac hv h
 exact ⟨l, ⟨h1, h2⟩, trivial⟩
def GInv (P : List VP) (i : Nat) : Prop := vldV P = true ∧ ∀ x ∈ P, ∃ k S, S.length ≤ i ∧ x.2 = tree k S
theorem GInv.zero : GInv [] 0 := ⟨rfl, by simp⟩
theorem GInv.more {P : List VP} {i : Nat} (h : GInv P i) : GInv P (i + 1) := ⟨h.1, fun x hx => by
 obtain ⟨k, S, h1, h2⟩ := h.2 x hx
 exact ⟨k, S, by omega, h2⟩⟩
theorem GInv.step {P : List VP} {i : Nat} {sa po : List Nat} (h : GInv P i) (hi : i < 14) (c : Ac) : GInv (stpV (P, sa, po) c).1 (i + 1) := by
 unfold stpV
 split
 · rename_i h0
   revert h0
   unfold stpR
   split
   · unfold ensO
     rw [if_pos (show vldV (P, sa, po).1 = true from h.1)]
     split
     · exact fun _ => h.more
     · rename_i hf
       split
       · exact fun h0 => absurd h0 (by decide)
       · rename_i hl
         intro _
         refine ⟨insV_vld h.1 (by simpa using hf) (by simpa using hl) (tree_new_vld _), fun x hx => ?_⟩
         rcases mem_ins.1 hx with rfl | hx
         · exact ⟨_, [], by simp, rfl⟩
         · exact h.more.2 x hx
   · split
     · exact fun _ => h.more
     · split
       · unfold shrO
         split
         · rename_i ha
           have ha : isAddr c.a = true := by simp at ha; exact ha.1
           split
           · rename_i hf
             split
             · intro _
               have hm := tr_mem hf
               obtain ⟨k, S, hS, hk⟩ := h.2 _ hm
               have hk : tr P (pos P (own4 c.o)) = tree k S := hk
               have hp := punOf_tree (k := k) (S := S) (by omega) ha
               have e : (punOf (tr P (pos P (own4 c.o))) c.a).1 = tree k (c.a :: S) := by rw [hk, hp]
               show GInv (setV P (own4 c.o) (punOf (tr P (pos P (own4 c.o))) c.a).1) (i + 1)
               rw [e]
               refine ⟨setV_vld h.1 hf (tree_vld_of _ _ (by simp; omega)), fun x hx => ?_⟩
               rcases (mem_set (Srt.of h.1) hf).1 hx with rfl | ⟨hx, _⟩
               · exact ⟨k, c.a :: S, by simp; omega, rfl⟩
               · exact h.more.2 x hx
             · rename_i hn
               exact fun h0 => absurd h0 hn
           · exact fun h0 => absurd h0 (by decide)
         · exact fun h0 => absurd h0 (by decide)
       · unfold drpO
         rw [if_pos (show vldV (P, sa, po).1 = true from h.1)]
         split
         · rename_i hf
           exact fun _ => ⟨dropV_vld h.1 hf, fun x hx => h.more.2 x (mem_drp hx)⟩
         · exact fun h0 => absurd h0 (by decide)
 · exact h.more
theorem stpV_dg {V : VV} (h : VDg V) (c : Ac) : VDg (stpV V c) := by
 unfold stpV
 split
 · unfold stpR
   split
   · exact ensO_dg h (kd_dg _ _)
   · split
     · exact h
     · split
       · exact shrO_dg h
       · exact drpO_dg h
 · exact h
def Sp.st (V : VV) (fp fq : Nat → Prop) : Sp := ⟨fun w v => ∃ ao cap ks ao2 cap2 ks2, v = .tuple #[vval V.2.1 V.2.2 (.slice ao (List.length ks) cap), vval V.2.1 V.2.2 (.slice ao2 (List.length ks2) cap2), .bool true] ∧ ks.map VK.p = V.1 ∧ ks2.map VK.p = V.1 ∧
 RdK w (.slice ao (List.length ks) cap) ks ∧ RdK w (.slice ao2 (List.length ks2) cap2) ks2 ∧ (∀ k, fpK (.slice ao (List.length ks) cap) ks k → fp k ∨ TagV w k) ∧ (∀ k, fpK (.slice ao2 (List.length ks2) cap2) ks2 k → fq k ∨ TagV w k), fun _ _ _ hg ⟨ao, cap, ks, ao2, cap2, ks2, h1, h2, h3, h4, h5, h6, h7⟩ => ⟨ao, cap, ks, ao2, cap2, ks2, h1, h2, h3, h4.kn hg, h5.kn hg, tagsmono hg h6, tagsmono hg h7⟩⟩
theorem st_v {V : VV} {fp fq : Nat → Prop} (w : World) (u : Value) (h : (Sp.st V fp fq).on w u) : ∃ vs v, u = .tuple vs ∧ vs[0]? = some v ∧ (Sp.vv V fp).on w v := by
 obtain ⟨ao, cap, ks, ao2, cap2, ks2, h1, h2, h3, h4, h5, h6, h7⟩ := h
 exact ⟨_, _, h1, rfl, ao, cap, ks, rfl, h2, h4, h6⟩
theorem st_w {V : VV} {fp fq : Nat → Prop} (w : World) (u : Value) (h : (Sp.st V fp fq).on w u) : ∃ vs v, u = .tuple vs ∧ vs[1]? = some v ∧ (Sp.vv V fq).on w v := by
 obtain ⟨ao, cap, ks, ao2, cap2, ks2, h1, h2, h3, h4, h5, h6, h7⟩ := h
 exact ⟨_, _, h1, rfl, ao2, cap2, ks2, rfl, h3, h5, h7⟩
theorem st_ok {V : VV} {fp fq : Nat → Prop} (w : World) (u : Value) (h : (Sp.st V fp fq).on w u) : ∃ vs v, u = .tuple vs ∧ vs[2]? = some v ∧ (Sp.is (.bool true)).on w v := by
 obtain ⟨ao, cap, ks, ao2, cap2, ks2, h1, h2, h3, h4, h5, h6, h7⟩ := h
 exact ⟨_, _, h1, rfl, rfl⟩
theorem step_on {w0 : World} {ks ms : List VK} {ao bo : Option Addr} {cap bap : Nat} {sa po : List Nat} {P : List VP} {r : VV} {c : Ac} (hsa : Dg sa) (hpo : Dg po) (hm : ks.map VK.p = P) (hm2 : ms.map VK.p = P) (ha : RdK w0 (.slice ao ks.length cap) ks) (hb : RdK w0 (.slice bo ms.length bap) ms) (hr : stpV (P, sa, po) c = r) :
   ∀ W, w0.grownBy W none → Calls Try.prog 50 #[vval sa po (.slice ao ks.length cap), vval sa po (.slice bo ms.length bap), aval c] W fun e w' => ∃ v, e = .returned v ∧ W.grownBy w' none ∧ (Sp.st r (fpK (.slice ao ks.length cap) ks) (fpK (.slice bo ms.length bap) ms)).on w' v := fun W g => by
 subst hr
 exact (step_walk ks ms ao bo cap bap sa po hsa hpo P hm hm2 c W (ha.kn g) (hb.kn g)).mono fun e w' ⟨ao, cap, ks, ao2, cap2, ks2, h1, h2, h3, h4, h5, h6, h7, h8⟩ => ⟨_, h1, h8, ao, cap, ks, ao2, cap2, ks2, rfl, h2, h3, h4, h5, h6, h7⟩
end Go.Proofs.Yteakoleceoclkaa
