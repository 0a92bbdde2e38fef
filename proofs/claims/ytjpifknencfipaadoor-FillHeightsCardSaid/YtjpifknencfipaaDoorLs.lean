/- Columns are known, in plain Lean. Conditions: none. -/
import Derived.Test.YtjpifknencfipaaDoorLw
import Derived.Test.YtjpifknencfipaaDoorP54
set_option linter.unusedVariables false
set_option linter.unusedSimpArgs false
namespace Go.Proofs.YtjpifknencfipaaDoor.P
open Go.RowKit Go.Proofs.YtjpifknencfipaaDoorW.PrintWords Go.Proofs.YtjpifknencfipaaDoorW.PrintLast Go.Proofs.YtjpifknencfipaaDoorW.PrintMore

/-! ### Columns are known -/
theorem shown_f {k : Nat} (hk : 10 ≤ k) : gutterlaw14_shown.f k = some true :=
  LeO.liftLe (f := fun k => gutterlaw14_shown.f k) gutterlaw14_shown.mono (k := 10) (by kernel_rfl) hk

end Go.Proofs.YtjpifknencfipaaDoor.P
