-- by a program (wip/tools: a turned copy of the kit's print): not trusted: Lean checks it
import Derived.Test.YtjpifknencfipaaDoorP
namespace Go.Proofs.YtjpifknencfipaaDoor.P
open Go.RowKit Go.Proofs.YtjpifknencfipaaDoorW.PrintWords Go.Proofs.YtjpifknencfipaaDoorW.PrintLast Go.Proofs.YtjpifknencfipaaDoorW.PrintMore
attribute [local go_sem] max2_int min2_int max_two min_two max_three min_three max_four min_four   -- for this text's walks alone
set_option linter.unusedVariables false
set_option linter.unusedSimpArgs false

/-! ### gutterref14_most: function 105 -/
def gutterref14_most.f  : Option (Int) := some 2199023255552
set_option maxHeartbeats 8000000 in
set_option maxRecDepth 100000 in
theorem gutterref14_most.calls  (r : Int) (w : World) (h : gutterref14_most.f  = some r) :
    Calls Tryd.prog 105 #[] w fun e w' => e = .returned (.int .i64 r) ∧ Drawn0 w w' := by
  have H : (some 2199023255552) = some r := h
  clear h
  obtain rfl := Option.some.inj H
  go_enter Tryd.func105, Tryd.ntmps105
  go_wp2
  go_ret
  exact ⟨by first | rfl | (simp; done) | (simp [*]; done), by repeat (first | exact Drawn0.refl _ | apply Drawn0.step)⟩

end Go.Proofs.YtjpifknencfipaaDoor.P
