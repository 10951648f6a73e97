/- Vaults: the plain law of sequences (members; what Ensure, Shred, Drop do to them). -/
import Derived.Test.YteakoleceoclkaaVD
namespace Go.Proofs.Yteakoleceoclkaa
open Go.RowKit
set_option linter.unusedSimpArgs false
set_option linter.unusedVariables false
theorem od_mem {P : List VP} {i : Nat} (h : i < P.length) : od P i ∈ P.map (·.1) := by rw [od_at h]; exact List.mem_map.2 ⟨_, List.getElem_mem h, rfl⟩
theorem fnd_iff {P : List VP} (hs : Srt P) {o : List Nat} : fnd P o = true ↔ o ∈ P.map (·.1) := by
 constructor
 · intro h
   obtain ⟨h1, h2⟩ := fnd_at h
   rw [← h2]
   exact od_mem h1
 · intro h
   obtain ⟨x, hx, rfl⟩ := List.mem_map.1 h
   obtain ⟨i, hi, rfl⟩ := List.getElem_of_mem hx
   exact (fnd_yes hs hi (od_at hi)).2
theorem fnd_not {P : List VP} (hs : Srt P) {o : List Nat} (h : o ∉ P.map (·.1)) : fnd P o = false := by
 cases e : fnd P o with
 | false => rfl
 | true => exact absurd ((fnd_iff hs).1 e) h
theorem mem_ins {P : List VP} {o : List Nat} {t : List Nd} {x : VP} : x ∈ insV P o t ↔ x = (o, t) ∨ x ∈ P := by
 unfold insV
 rw [List.mem_append, List.mem_cons]
 constructor
 · rintro (h | h | h)
   · exact .inr (List.mem_of_mem_take h)
   · exact .inl h
   · exact .inr (List.mem_of_mem_drop h)
 · rintro (h | h)
   · exact .inr (.inl h)
   · rw [← List.take_append_drop (pos P o) P] at h
     exact (List.mem_append.1 h).imp id .inr
theorem ins_len (P : List VP) (o : List Nat) (t : List Nd) : (insV P o t).length = P.length + 1 := by rw [insV_put]; exact atPut_len (pos_le P o) _
def dg1 (n : Nat) : List Nat := n :: zs 31
theorem dg1_inj {n m : Nat} (h : dg1 n = dg1 m) : n = m := (List.cons.inj h).1
theorem wrap_u8 {x : Int} (h1 : 0 ≤ x) (h2 : x < 256) : IntKind.u8.wrap x = x := by simp [IntKind.wrap, IntKind.bits, IntKind.signed]; omega
def FInv (P : List VP) (i : Nat) : Prop := vldV P = true ∧ P.length = i ∧ ∀ o, o ∈ P.map (·.1) ↔ ∃ j, j < i ∧ o = dg1 (3 * j)
theorem FInv.zero : FInv [] 0 := ⟨rfl, rfl, by simp⟩
theorem tree_new_vld (k : List Nat) : vld (tree k []) = true := tree_vld_of k [] (by simp)
theorem FInv.fnd {P : List VP} {i j : Nat} (h : FInv P i) (hj : j < i) : fnd P (dg1 (3 * j)) = true := (fnd_iff (Srt.of h.1)).2 ((h.2.2 _).2 ⟨j, hj, rfl⟩)
theorem FInv.not {P : List VP} {i n : Nat} (h : FInv P i) (hn : ∀ j, j < i → 3 * j ≠ n) : Go.Proofs.Yteakoleceoclkaa.fnd P (dg1 n) = false := fnd_not (Srt.of h.1) fun hm => by
 obtain ⟨j, hj, e⟩ := (h.2.2 _).1 hm
 exact hn j hj (dg1_inj e).symm
theorem FInv.succ {P : List VP} {i : Nat} (h : FInv P i) (hi : i < 64) {T : List Nd} {k : List Nat} (hT : tree k [] = T) : FInv (insV P (dg1 (3 * i)) T) (i + 1) := by
 have hn := h.not (n := 3 * i) fun j hj => by omega
 refine ⟨insV_vld h.1 hn (by rw [h.2.1]; exact hi) (hT ▸ tree_new_vld k), by rw [ins_len, h.2.1], fun o => ?_⟩
 constructor
 · intro ho
   obtain ⟨x, hx, rfl⟩ := List.mem_map.1 ho
   rcases mem_ins.1 hx with rfl | hx
   · exact ⟨i, by omega, rfl⟩
   · obtain ⟨j, hj, e⟩ := (h.2.2 _).1 (List.mem_map.2 ⟨x, hx, rfl⟩)
     exact ⟨j, by omega, e⟩
 · rintro ⟨j, hj, rfl⟩
   by_cases e : j = i
   · subst e
     exact List.mem_map.2 ⟨_, mem_ins.2 (.inl rfl), rfl⟩
   · obtain ⟨x, hx, e2⟩ := List.mem_map.1 ((h.2.2 _).2 ⟨j, by omega, rfl⟩)
     exact List.mem_map.2 ⟨x, mem_ins.2 (.inr hx), e2⟩
theorem ensO_new {P : List VP} {sa po o nx : List Nat} {T : List Nd} (hv : vldV P = true) (hf : fnd P o = false) (hl : P.length < 64) : ensO (P, sa, po) o T nx = ((insV P o T, sa, nx), 0) := by
 unfold ensO
 rw [if_pos hv, if_neg (by rw [hf]; simp), if_neg (by simpa using hl)]
end Go.Proofs.Yteakoleceoclkaa
