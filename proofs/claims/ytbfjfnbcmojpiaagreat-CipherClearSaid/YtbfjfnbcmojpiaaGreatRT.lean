import Derived.Test.YtbfjfnbcmojpiaaGreatY8
import Derived.Test.YtbfjfnbcmojpiaaGreatR1
namespace Go.Proofs.YtbfjfnbcmojpiaaGreat
open Go.RowKit Go.Shelf
set_option linter.unusedSimpArgs false
set_option linter.unusedVariables false
end Go.Proofs.YtbfjfnbcmojpiaaGreat

namespace Go.Proofs.YtbfjfnbcmojpiaaGreat
open Go.RowKit
set_option linter.unusedSimpArgs false
set_option linter.unusedVariables false
attribute [local go_sem] Oper.semAt_some
end Go.Proofs.YtbfjfnbcmojpiaaGreat

namespace Go.Proofs.YtbfjfnbcmojpiaaGreat
open Go.RowKit
set_option linter.unusedSimpArgs false
set_option linter.unusedVariables false
attribute [local go_sem] Oper.semAt_some
end Go.Proofs.YtbfjfnbcmojpiaaGreat

namespace Go.Proofs.YtbfjfnbcmojpiaaGreat
open Go.RowKit
set_option linter.unusedSimpArgs false
set_option linter.unusedVariables false
attribute [local go_sem] Oper.semAt_some
end Go.Proofs.YtbfjfnbcmojpiaaGreat
