-- by a program (wip/tools: a turned copy of the kit's print): not trusted: Lean checks it
import Derived.Test.YtjpifknencfipaaDoorP
import Derived.Test.YtjpifknencfipaaDoorPq1
import Derived.Test.YtjpifknencfipaaDoorE26
import Derived.Test.YtjpifknencfipaaDoorP24
import Derived.Test.YtjpifknencfipaaDoorP25
import Derived.Test.YtjpifknencfipaaDoorP28
import Derived.Test.YtjpifknencfipaaDoorP33
namespace Go.Proofs.YtjpifknencfipaaDoor.P
open Go.RowKit Go.Proofs.YtjpifknencfipaaDoorW.PrintWords Go.Proofs.YtjpifknencfipaaDoorW.PrintLast Go.Proofs.YtjpifknencfipaaDoorW.PrintMore
attribute [local go_sem] max2_int min2_int max_two min_two max_three min_three max_four min_four   -- for this text's walks alone
set_option linter.unusedVariables false
set_option linter.unusedSimpArgs false

attribute [local go_sem high] eqA26
/-! ### gutterlaw15_BalanceFits: function 5 -/
def gutterlaw15_BalanceFits.f (k : Nat) (l0 : List (S32)) (a1 : Int) (a2 : Int) (a3 : Int) : Option (Bool) := (gutterlaw15_shown.f).bind fun t197 => ((gutterlaw15_few.f l0).bind fun t198 => ((balance_Balance.f t198 a1 a2 a3).bind fun bt201 => (if bt201.2.2.2.2 = 0 then ((balance_Target.f t198 a1).bind fun bt207 => ((fill_Cols.f t198 bt201.1).bind fun bt209 => (if t197 = true then (if bt207.2 = 0 then (if bt209.2 = 0 then (if bt209.1 = bt201.2.1 then ((gutterref13_High.f k t198).bind fun t211 => (if bt201.1 ≤ t211 then (if a2 = 0 then (if a2 > 0 then (if bt201.2.2.1 ≥ 1 then (if bt201.2.2.1 ≤ a3 then (some (decide (bt207.1 ≥ a1))) else (some false)) else (some false)) else (if bt209.1 ≤ bt207.1 then (if bt201.2.2.1 ≥ 1 then (if bt201.2.2.1 ≤ a3 then (some (decide (bt207.1 ≥ a1))) else (some false)) else (some false)) else (some false))) else (if bt201.1 ≤ a2 then (if a2 > 0 then (if bt201.2.2.1 ≥ 1 then (if bt201.2.2.1 ≤ a3 then (some (decide (bt207.1 ≥ a1))) else (some false)) else (some false)) else (if bt209.1 ≤ bt207.1 then (if bt201.2.2.1 ≥ 1 then (if bt201.2.2.1 ≤ a3 then (some (decide (bt207.1 ≥ a1))) else (some false)) else (some false)) else (some false))) else (some false))) else (some false))) else (some false)) else (some false)) else (some false)) else (some false)))) else (if t197 = true then (some (bt201.1 == 0 && (bt201.2.1 == 0 && (bt201.2.2.1 == 0 && (!bt201.2.2.2.1))))) else (some false)))))
theorem gutterlaw15_BalanceFits.mono : ∀ a0 a1 a2 a3 k, LeO (gutterlaw15_BalanceFits.f k a0 a1 a2 a3) (gutterlaw15_BalanceFits.f (k + 1) a0 a1 a2 a3) := by
  intro a0 a1 a2 a3 k
  unfold gutterlaw15_BalanceFits.f
  repeat' first
      | (with_reducible exact gutterref13_High.mono _ _)
      | (with_reducible exact LeO.refl _)
      | (with_reducible exact LeO.none _)
      | (with_reducible refine LeO.ite ?_ ?_)
      | (with_reducible refine LeO.bind ?_ (fun _ => ?_))
      | exact gutterref13_High.mono _ _
      | exact LeO.none _
      | refine LeO.ite ?_ ?_
      | refine LeO.bind ?_ (fun _ => ?_)
def gutterlaw15_BalanceFits.T8 : Bool × List (List Nat × List Nat) := (true, [([], []), ([0], [0]), ([1], [1]), ([2, 1], [1, 2]), ([1, 3], [1, 3]), ([4, 1], [4]), ([5], [5]), ([6, 5], [5, 6]), ([5, 7], [5, 7]), ([8, 5], [8]), ([9], [9]), ([9], [9]), ([11, 9], [9, 11]), ([10, 12, 9], [9, 10, 12]), ([9, 13], [9, 13]), ([14, 9], [14]), ([15], [15]), ([16, 15], [15, 16]), ([15], [15]), ([18, 15, 15], [15, 18]), ([17, 19, 15], [15, 17, 19]), ([15, 20], [15, 20]), ([21, 19], [21]), ([22], [22]), ([23, 22], [22, 23]), ([24, 22, 22], [22, 24]), ([25], [25]), ([26, 25], [25, 26]), ([25], [25]), ([27, 28, 25], [25, 27, 28]), ([25, 29, 22], [22, 25, 29]), ([22, 30], [22, 30]), ([31, 25], [31]), ([32], [32]), ([33, 32], [32, 33]), ([34, 32, 32], [32, 34]), ([35], [35]), ([35], [35]), ([36, 37, 35], [35, 36, 37]), ([35, 38, 32], [32, 35, 38]), ([32, 39], [32, 39]), ([40, 35], [40]), ([41], [41]), ([42, 41], [41, 42]), ([43, 41], [41, 43]), ([41, 44], [41, 44]), ([45, 41], [45]), ([46], [46]), ([47, 46], [46, 47]), ([46], [46]), ([48, 49, 46], [46, 48, 49]), ([46, 50], [46, 50]), ([51, 46], [51]), ([52], [52]), ([52], [52]), ([53, 54, 52], [52, 53, 54]), ([52, 55], [52, 55]), ([56, 52, 0, 1, 2, 3, 4, 5, 6, 7, 8, 9, 10, 11, 12, 13, 14, 15, 16, 17, 18, 19, 20, 21, 22, 23, 24, 25, 26, 27, 28, 29, 30, 31, 32, 33, 34, 35, 36, 37, 38, 39, 40, 41, 42, 43, 44, 45, 46, 47, 48, 49, 50, 51, 52, 53, 54, 55, 56], [56])])
def gutterlaw15_BalanceFits.B8 : List Nat := [0, 1, 3, 7, 15, 31, 63, 127, 255, 511, 1023, 1023, 3071, 8191, 16383, 32767, 65535, 131071, 65535, 327679, 1048575, 2097151, 4194303, 8388607, 16777215, 33554431, 67108863, 134217727, 67108863, 536870911, 1073741823, 2147483647, 4294967295, 8589934591, 17179869183, 34359738367, 68719476735, 68719476735, 274877906943, 549755813887, 1099511627775, 2199023255551, 4398046511103, 8796093022207, 17592186044415, 35184372088831, 70368744177663, 140737488355327, 281474976710655, 140737488355327, 1125899906842623, 2251799813685247, 4503599627370495, 9007199254740991, 9007199254740991, 36028797018963967, 72057594037927935, 144115188075855871]
theorem gutterlaw15_BalanceFits.tab8 : rtab .any (opsOf Tryd.f5 8) = gutterlaw15_BalanceFits.T8 := by kernel_rfl
theorem gutterlaw15_BalanceFits.bits8 : waitsOk gutterlaw15_BalanceFits.T8.2 gutterlaw15_BalanceFits.B8 = true := by kernel_rfl
end Go.Proofs.YtjpifknencfipaaDoor.P
