/- Leases: Acquire. -/
import Derived.Test.YtafippjpaakonaaW10f
import Derived.Test.YtafippjpaakonaaW10n
namespace Go.Proofs.Ytafippjpaakonaa
open Go.RowKit
set_option linter.unusedSimpArgs false
set_option linter.unusedVariables false
theorem acquire_walk (t : Tb) (n h now d : Int) (s : Value) (w : World) (hR : Rd w s t.ls) (hn : t.ls.length ≤ 1000000) :
    Calls Try.prog 11 #[tval t.next s, .int .i64 n, .int .i64 h, .int .i64 now, .int .i64 d] w (AcqPost (acq cds t n h now d) w) := by
  cases h1 : t.ok with
  | false => exact acquire_bad t n h now d s w hR hn (.inl h1)
  | true =>
    cases h2 : timely now d with
    | false => exact acquire_bad t n h now d s w hR hn (.inr h2)
    | true =>
      cases h3 : look n t.ls with
      | some x => exact acquire_found t n h now d s w hR hn h1 h2 x h3
      | none => exact acquire_none t n h now d s w hR hn h1 h2 h3
end Go.Proofs.Ytafippjpaakonaa
