-- by a program (wip/tools: a turned copy of the kit's print): not trusted: Lean checks it
import Derived.Test.YtjpifknencfipaaDoorP
import Derived.Test.YtjpifknencfipaaDoorP28
import Derived.Test.YtjpifknencfipaaDoorE41
import Derived.Test.YtjpifknencfipaaDoorP39
import Derived.Test.YtjpifknencfipaaDoorP40
namespace Go.Proofs.YtjpifknencfipaaDoor.P
open Go.RowKit Go.Proofs.YtjpifknencfipaaDoorW.PrintWords Go.Proofs.YtjpifknencfipaaDoorW.PrintLast Go.Proofs.YtjpifknencfipaaDoorW.PrintMore
attribute [local go_sem] max2_int min2_int max_two min_two max_three min_three max_four min_four   -- for this text's walks alone
set_option linter.unusedVariables false
set_option linter.unusedSimpArgs false

/-! ### gutterlaw17_RowAuto: function 13 -/
mutual
def gutterlaw17_RowAuto.j0 : Nat → List (S32) → Bool → Int → Bool → Int → Int → List (S58) → Option (Bool)
  | 0, _, _, _, _, _, _, _ => none
  | k + 1, x0, x7, x8, x36, x486000, x486001, x486002 => if x36 = true then (some x7) else (gutterlaw17_RowAuto.l0 k x0 x7 x8 (mn 1 (x0.length : Int)) 1 x486000 x486001 x486002)
def gutterlaw17_RowAuto.l0 : Nat → List (S32) → Bool → Int → Int → Int → Int → Int → List (S58) → Option (Bool)
  | 0, _, _, _, _, _, _, _, _ => none
  | k + 1, x0, x7, x8, x11, x12, x486000, x486001, x486002 => if x12 < (x0.length : Int) then (if 0 ≤ x12 then (if ((rd_T32 x0 x12).f4) = 2 then (gutterlaw17_RowAuto.l0 k x0 x7 x8 (wrap64 (x11 + 1)) (wrap64 (x12 + 1)) x486000 x486001 x486002) else (gutterlaw17_RowAuto.l0 k x0 x7 x8 x11 (wrap64 (x12 + 1)) x486000 x486001 x486002)) else (none)) else (if x7 = true then (if x486000 = x8 then (some (x486001 == x11)) else (some false)) else (some false))
end
def gutterlaw17_RowAuto.f (k : Nat) (l0 : List (S32)) (a1 : Int) (a2 : Int) : Option (Bool) := (gutterlaw17_shown.f k).bind fun t474 => ((gutterlaw17_few.f l0).bind fun t475 => ((gutterref13_High.f k t475).bind fun t478 => ((row_Lay.f t475 a1 64 16 (wrap64 (t478 + a2)) true).bind fun bt479 => (if bt479.2.2.2 = 0 then (if a2 < 1 then (gutterlaw17_RowAuto.j0 k t475 t474 (wrap64 (t478 + a2)) true bt479.1 bt479.2.1 bt479.2.2.1) else (gutterlaw17_RowAuto.j0 k t475 t474 (wrap64 (t478 + a2)) (decide (a2 > 1000)) bt479.1 bt479.2.1 bt479.2.2.1)) else (gutterlaw17_RowAuto.j0 k t475 t474 (wrap64 (t478 + a2)) true bt479.1 bt479.2.1 bt479.2.2.1)))))
theorem gutterlaw17_RowAuto.mono_l : ∀ k, (∀ y0 y1 y2 y3 y4 y5 y6, LeO (gutterlaw17_RowAuto.j0 k y0 y1 y2 y3 y4 y5 y6) (gutterlaw17_RowAuto.j0 (k + 1) y0 y1 y2 y3 y4 y5 y6)) ∧ (∀ y0 y1 y2 y3 y4 y5 y6 y7, LeO (gutterlaw17_RowAuto.l0 k y0 y1 y2 y3 y4 y5 y6 y7) (gutterlaw17_RowAuto.l0 (k + 1) y0 y1 y2 y3 y4 y5 y6 y7))
  | 0 => ⟨fun _ _ _ _ _ _ _ r h => by simp [gutterlaw17_RowAuto.j0] at h, fun _ _ _ _ _ _ _ _ r h => by simp [gutterlaw17_RowAuto.l0] at h⟩
  | k + 1 => by
    obtain ⟨ih0, ih1⟩ := gutterlaw17_RowAuto.mono_l k
    refine ⟨?_, ?_⟩
    · intro y0 y1 y2 y3 y4 y5 y6
      unfold gutterlaw17_RowAuto.j0
      repeat' first
      | (with_reducible exact ih0 _ _ _ _ _ _ _)
      | (with_reducible exact ih1 _ _ _ _ _ _ _ _)
      | (with_reducible exact gutterlaw17_shown.mono _)
      | (with_reducible exact gutterref13_High.mono _ _)
      | (with_reducible exact LeO.refl _)
      | (with_reducible exact LeO.none _)
      | (with_reducible refine LeO.ite ?_ ?_)
      | (with_reducible refine LeO.bind ?_ (fun _ => ?_))
      | exact ih0 _ _ _ _ _ _ _
      | exact ih1 _ _ _ _ _ _ _ _
      | exact gutterlaw17_shown.mono _
      | exact gutterref13_High.mono _ _
      | exact LeO.none _
      | refine LeO.ite ?_ ?_
      | refine LeO.bind ?_ (fun _ => ?_)
    · intro y0 y1 y2 y3 y4 y5 y6 y7
      unfold gutterlaw17_RowAuto.l0
      repeat' first
      | (with_reducible exact ih0 _ _ _ _ _ _ _)
      | (with_reducible exact ih1 _ _ _ _ _ _ _ _)
      | (with_reducible exact gutterlaw17_shown.mono _)
      | (with_reducible exact gutterref13_High.mono _ _)
      | (with_reducible exact LeO.refl _)
      | (with_reducible exact LeO.none _)
      | (with_reducible refine LeO.ite ?_ ?_)
      | (with_reducible refine LeO.bind ?_ (fun _ => ?_))
      | exact ih0 _ _ _ _ _ _ _
      | exact ih1 _ _ _ _ _ _ _ _
      | exact gutterlaw17_shown.mono _
      | exact gutterref13_High.mono _ _
      | exact LeO.none _
      | refine LeO.ite ?_ ?_
      | refine LeO.bind ?_ (fun _ => ?_)
theorem gutterlaw17_RowAuto.mono : ∀ a0 a1 a2 k, LeO (gutterlaw17_RowAuto.f k a0 a1 a2) (gutterlaw17_RowAuto.f (k + 1) a0 a1 a2) := by
  intro a0 a1 a2 k
  obtain ⟨ih0, ih1⟩ := gutterlaw17_RowAuto.mono_l k
  unfold gutterlaw17_RowAuto.f
  repeat' first
      | (with_reducible exact ih0 _ _ _ _ _ _ _)
      | (with_reducible exact ih1 _ _ _ _ _ _ _ _)
      | (with_reducible exact gutterlaw17_shown.mono _)
      | (with_reducible exact gutterref13_High.mono _ _)
      | (with_reducible exact LeO.refl _)
      | (with_reducible exact LeO.none _)
      | (with_reducible refine LeO.ite ?_ ?_)
      | (with_reducible refine LeO.bind ?_ (fun _ => ?_))
      | exact ih0 _ _ _ _ _ _ _
      | exact ih1 _ _ _ _ _ _ _ _
      | exact gutterlaw17_shown.mono _
      | exact gutterref13_High.mono _ _
      | exact LeO.none _
      | refine LeO.ite ?_ ?_
      | refine LeO.bind ?_ (fun _ => ?_)
end Go.Proofs.YtjpifknencfipaaDoor.P
