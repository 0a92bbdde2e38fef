-- by a program (wip/tools: a turned copy of the kit's print): not trusted: Lean checks it
import Derived.Test.YtjpifknencfipaaDoorP
import Derived.Test.YtjpifknencfipaaDoorP33
import Derived.Test.YtjpifknencfipaaDoorE41
import Derived.Test.YtjpifknencfipaaDoorP47
import Derived.Test.YtjpifknencfipaaDoorP39
import Derived.Test.YtjpifknencfipaaDoorP40
namespace Go.Proofs.YtjpifknencfipaaDoor.P
open Go.RowKit Go.Proofs.YtjpifknencfipaaDoorW.PrintWords Go.Proofs.YtjpifknencfipaaDoorW.PrintLast Go.Proofs.YtjpifknencfipaaDoorW.PrintMore
attribute [local go_sem] max2_int min2_int max_two min_two max_three min_three max_four min_four   -- for this text's walks alone
set_option linter.unusedVariables false
set_option linter.unusedSimpArgs false

/-! ### gutterlaw17_RowWithin: function 11 -/
def gutterlaw17_RowWithin.l0 : Nat → List (S32) → Int → Bool → Int → Int → Int → List (S58) → Option (Bool)
  | 0, _, _, _, _, _, _, _ => none
  | k + 1, x0, x2, x9, x12, x452000, x452001, x452002 => if x12 < (x452002.length : Int) then (if 0 ≤ x12 then (if (wrap64 (((rd_T58 x452002 x12).f3.f1) + ((rd_T58 x452002 x12).f3.f3))) > x452000 then (if ((rd_T58 x452002 x12).f3.f1) = 0 then (if ((rd_T58 x452002 x12).f3.f3) ≤ x452000 then (some false) else (gutterlaw17_RowWithin.l0 k x0 x2 x9 (wrap64 (x12 + 1)) x452000 x452001 x452002)) else (some false)) else (gutterlaw17_RowWithin.l0 k x0 x2 x9 (wrap64 (x12 + 1)) x452000 x452001 x452002)) else (none)) else ((fill_Cols.f x0 x452000).bind fun bt454 => (if x9 = true then (if bt454.2 = 0 then (if bt454.1 = x452001 then (if x2 = 0 then (if x2 > 0 then (some true) else ((row_Low.f k x452002).bind fun t456 => (some (decide (t456 ≤ x452000))))) else (if x452000 ≤ x2 then (if x2 > 0 then (some true) else ((row_Low.f k x452002).bind fun t457 => (some (decide (t457 ≤ x452000))))) else (some false))) else (some false)) else (some false)) else (some false)))
def gutterlaw17_RowWithin.f (k : Nat) (l0 : List (S32)) (a1 : Int) (a2 : Int) (a3 : Bool) : Option (Bool) := (gutterlaw17_shown.f k).bind fun t441 => ((gutterlaw17_few.f l0).bind fun t442 => ((row_Lay.f t442 a1 64 16 a2 a3).bind fun bt445 => (if bt445.2.2.2 = 0 then (gutterlaw17_RowWithin.l0 k t442 a2 t441 0 bt445.1 bt445.2.1 bt445.2.2.1) else (some t441))))
theorem gutterlaw17_RowWithin.mono_l : ∀ k, (∀ y0 y1 y2 y3 y4 y5 y6, LeO (gutterlaw17_RowWithin.l0 k y0 y1 y2 y3 y4 y5 y6) (gutterlaw17_RowWithin.l0 (k + 1) y0 y1 y2 y3 y4 y5 y6))
  | 0 => fun _ _ _ _ _ _ _ r h => by simp [gutterlaw17_RowWithin.l0] at h
  | k + 1 => by
    have ih0 := gutterlaw17_RowWithin.mono_l k
    · intro y0 y1 y2 y3 y4 y5 y6
      unfold gutterlaw17_RowWithin.l0
      repeat' first
      | (with_reducible exact ih0 _ _ _ _ _ _ _)
      | (with_reducible exact gutterlaw17_shown.mono _)
      | (with_reducible exact row_Low.mono _ _)
      | (with_reducible exact LeO.refl _)
      | (with_reducible exact LeO.none _)
      | (with_reducible refine LeO.ite ?_ ?_)
      | (with_reducible refine LeO.bind ?_ (fun _ => ?_))
      | exact ih0 _ _ _ _ _ _ _
      | exact gutterlaw17_shown.mono _
      | exact row_Low.mono _ _
      | exact LeO.none _
      | refine LeO.ite ?_ ?_
      | refine LeO.bind ?_ (fun _ => ?_)
theorem gutterlaw17_RowWithin.mono : ∀ a0 a1 a2 a3 k, LeO (gutterlaw17_RowWithin.f k a0 a1 a2 a3) (gutterlaw17_RowWithin.f (k + 1) a0 a1 a2 a3) := by
  intro a0 a1 a2 a3 k
  have ih0 := gutterlaw17_RowWithin.mono_l k
  unfold gutterlaw17_RowWithin.f
  repeat' first
      | (with_reducible exact ih0 _ _ _ _ _ _ _)
      | (with_reducible exact gutterlaw17_shown.mono _)
      | (with_reducible exact row_Low.mono _ _)
      | (with_reducible exact LeO.refl _)
      | (with_reducible exact LeO.none _)
      | (with_reducible refine LeO.ite ?_ ?_)
      | (with_reducible refine LeO.bind ?_ (fun _ => ?_))
      | exact ih0 _ _ _ _ _ _ _
      | exact gutterlaw17_shown.mono _
      | exact row_Low.mono _ _
      | exact LeO.none _
      | refine LeO.ite ?_ ?_
      | refine LeO.bind ?_ (fun _ => ?_)
def gutterlaw17_RowWithin.T13 : Bool × List (List Nat × List Nat) := (true, [([], []), ([0], [0]), ([1], [1]), ([2, 1], [1, 2]), ([1, 3], [1, 3]), ([4, 1], [4]), ([5], [5]), ([5], [5]), ([7, 5], [5, 7]), ([6, 8, 5], [5, 6, 8]), ([5, 9], [5, 9]), ([10, 5], [10]), ([11], [11]), ([12, 11], [11, 12]), ([13, 11, 11], [11, 13]), ([14], [14]), ([15, 14], [14, 15]), ([14], [14]), ([16, 17, 14], [14, 16, 17]), ([14, 18, 11], [11, 14, 18]), ([11, 19], [11, 19]), ([20, 14], [20]), ([21], [21]), ([22, 21], [21, 22]), ([23, 21, 21], [21, 23]), ([24], [24]), ([25, 24], [24, 25]), ([26, 24, 24], [24, 26]), ([24], [24]), ([28, 24], [24, 28]), ([27, 29, 24], [24, 27, 29]), ([24, 30, 21], [21, 24, 30]), ([21, 31], [21, 31]), ([32, 27, 0, 1, 2, 3, 4, 5, 6, 7, 8, 9, 10, 11, 12, 13, 14, 15, 16, 17, 18, 19, 20, 21, 22, 23, 24, 25, 26, 27, 28, 29, 30, 31, 32], [32])])
def gutterlaw17_RowWithin.B13 : List Nat := [0, 1, 3, 7, 15, 31, 63, 63, 191, 511, 1023, 2047, 4095, 8191, 16383, 32767, 65535, 32767, 262143, 524287, 1048575, 2097151, 4194303, 8388607, 16777215, 33554431, 67108863, 134217727, 33554431, 301989887, 1073741823, 2147483647, 4294967295, 8589934591]
theorem gutterlaw17_RowWithin.tab13 : rtab .any (opsOf Tryd.f11 13) = gutterlaw17_RowWithin.T13 := by kernel_rfl
theorem gutterlaw17_RowWithin.bits13 : waitsOk gutterlaw17_RowWithin.T13.2 gutterlaw17_RowWithin.B13 = true := by kernel_rfl
end Go.Proofs.YtjpifknencfipaaDoor.P
