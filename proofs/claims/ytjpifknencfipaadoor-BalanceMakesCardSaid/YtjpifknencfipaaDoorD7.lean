-- by a program (wip/tools: a turned copy of the kit's print): not trusted: Lean checks it
import Derived.Test.YtjpifknencfipaaDoorP
import Derived.Test.YtjpifknencfipaaDoorPq1
import Derived.Test.YtjpifknencfipaaDoorE26
import Derived.Test.YtjpifknencfipaaDoorP24
import Derived.Test.YtjpifknencfipaaDoorP25
import Derived.Test.YtjpifknencfipaaDoorP37
namespace Go.Proofs.YtjpifknencfipaaDoor.P
open Go.RowKit Go.Proofs.YtjpifknencfipaaDoorW.PrintWords Go.Proofs.YtjpifknencfipaaDoorW.PrintLast Go.Proofs.YtjpifknencfipaaDoorW.PrintMore
attribute [local go_sem] max2_int min2_int max_two min_two max_three min_three max_four min_four   -- for this text's walks alone
set_option linter.unusedVariables false
set_option linter.unusedSimpArgs false

attribute [local go_sem high] eqA26
/-! ### gutterlaw15_BalanceMakes: function 7 -/
def gutterlaw15_BalanceMakes.f (k : Nat) (l0 : List (S32)) (a1 : Int) (a2 : Int) (a3 : Int) : Option (Bool) := (gutterlaw15_shown.f).bind fun t283 => ((gutterlaw15_few.f l0).bind fun t284 => ((balance_Balance.f t284 a1 a2 a3).bind fun bt287 => ((gutterref15_Balance.f k t284 a1 a2 a3).bind fun bt293 => ((balance_Target.f t284 a1).bind fun bt299 => ((gutterref15_Target.f k t284 a1).bind fun bt301 => ((balance_Begin.f t284 a1).bind fun bt303 => ((gutterref15_Begin.f k t284 a1).bind fun bt305 => ((balance_Least.f t284 a1 a3).bind fun bt307 => ((gutterref15_Least.f k t284 a1 a3).bind fun bt311 => (if t283 = true then (if (bt287.1 == bt293.1 && (bt287.2.1 == bt293.2.1 && (bt287.2.2.1 == bt293.2.2.1 && (bt287.2.2.2.1 == bt293.2.2.2.1)))) = true then (if bt287.2.2.2.2 = bt293.2.2.2.2 then (if bt299.1 = bt301.1 then (if bt299.2 = bt301.2 then (if bt303.1 = bt305.1 then (if bt303.2 = bt305.2 then (if bt307.1 = bt311.1 then (if bt307.2.1 = bt311.2.1 then (if (bt307.2.2.1 == bt311.2.2.1) = true then (some (bt307.2.2.2 == bt311.2.2.2)) else (some false)) else (some false)) else (some false)) else (some false)) else (some false)) else (some false)) else (some false)) else (some false)) else (some false)) else (some false)))))))))))
theorem gutterlaw15_BalanceMakes.mono : ∀ a0 a1 a2 a3 k, LeO (gutterlaw15_BalanceMakes.f k a0 a1 a2 a3) (gutterlaw15_BalanceMakes.f (k + 1) a0 a1 a2 a3) := by
  intro a0 a1 a2 a3 k
  unfold gutterlaw15_BalanceMakes.f
  repeat' first
      | (with_reducible exact gutterref15_Balance.mono _ _ _ _ _)
      | (with_reducible exact gutterref15_Begin.mono _ _ _)
      | (with_reducible exact gutterref15_Least.mono _ _ _ _)
      | (with_reducible exact gutterref15_Target.mono _ _ _)
      | (with_reducible exact LeO.refl _)
      | (with_reducible exact LeO.none _)
      | (with_reducible refine LeO.ite ?_ ?_)
      | (with_reducible refine LeO.bind ?_ (fun _ => ?_))
      | exact gutterref15_Balance.mono _ _ _ _ _
      | exact gutterref15_Begin.mono _ _ _
      | exact gutterref15_Least.mono _ _ _ _
      | exact gutterref15_Target.mono _ _ _
      | exact LeO.none _
      | refine LeO.ite ?_ ?_
      | refine LeO.bind ?_ (fun _ => ?_)
end Go.Proofs.YtjpifknencfipaaDoor.P
