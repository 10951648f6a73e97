/- Vaults: Ensure, Shred, Drop of the reference. (printed by gen_va.py) -/
import Derived.Test.YteakoleceoclkaaV9
namespace Go.Proofs.Yteakoleceoclkaa
open Go.RowKit Go.Shelf
set_option linter.unusedSimpArgs false
set_option linter.unusedVariables false
/-! the place of the new key -/
theorem KsR.sub {w : World} {ms ns : List VK} (h : KsR w ms) (hs : ∀ x ∈ ns, x ∈ ms) : KsR w ns := fun k hk => h k (hs k hk)
end Go.Proofs.Yteakoleceoclkaa
