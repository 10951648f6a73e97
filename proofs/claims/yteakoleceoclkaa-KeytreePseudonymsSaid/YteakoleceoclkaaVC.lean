/- Vaults: Shred, Drop of the reference, SameVault. (printed by gen_vc.py) -/
import Derived.Test.YteakoleceoclkaaVB
namespace Go.Proofs.Yteakoleceoclkaa
open Go.RowKit Go.Shelf
set_option linter.unusedSimpArgs false
set_option linter.unusedVariables false
end Go.Proofs.Yteakoleceoclkaa
