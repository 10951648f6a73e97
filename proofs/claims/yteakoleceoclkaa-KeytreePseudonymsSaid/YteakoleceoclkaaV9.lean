/- Vaults: Shred, Drop. (printed by gen_v9.py) -/
import Derived.Test.YteakoleceoclkaaV8
namespace Go.Proofs.Yteakoleceoclkaa
open Go.RowKit Go.Shelf
set_option linter.unusedSimpArgs false
set_option linter.unusedVariables false
theorem KsT.del {w : World} {ms : List VK} (h : KsT w ms) (i : Nat) : KsT w (ms.take i ++ ms.drop (i + 1)) := by
 have hh : ∀ k, k ∈ ms.take i ++ ms.drop (i + 1) → k ∈ ms := fun k hk => by
   rcases List.mem_append.1 hk with hk | hk
   · exact List.mem_of_mem_take hk
   · exact List.mem_of_mem_drop hk
 exact ⟨fun k hk => h.1 k (hh k hk), fun b ⟨k, hk, hb⟩ => h.2 b ⟨k, hh k hk, hb⟩⟩
theorem KsR.del {w : World} {ms : List VK} (h : KsR w ms) (i : Nat) : KsR w (ms.take i ++ ms.drop (i + 1)) := fun k hk => by
 rcases List.mem_append.1 hk with hk | hk
 · exact h k (List.mem_of_mem_take hk)
 · exact h k (List.mem_of_mem_drop hk)
end Go.Proofs.Yteakoleceoclkaa
