-- by a program (wip/tools: a turned copy of the kit's print): not trusted: Lean checks it
import Derived.Test.YtjpifknencfipaaDoorP
import Derived.Test.YtjpifknencfipaaDoorE55
import Derived.Test.YtjpifknencfipaaDoorP28
import Derived.Test.YtjpifknencfipaaDoorE59
import Derived.Test.YtjpifknencfipaaDoorP54
namespace Go.Proofs.YtjpifknencfipaaDoor.P
open Go.RowKit Go.Proofs.YtjpifknencfipaaDoorW.PrintWords Go.Proofs.YtjpifknencfipaaDoorW.PrintLast Go.Proofs.YtjpifknencfipaaDoorW.PrintMore
attribute [local go_sem] max2_int min2_int max_two min_two max_three min_three max_four min_four   -- for this text's walks alone
set_option linter.unusedVariables false
set_option linter.unusedSimpArgs false

/-! ### gutterlaw14_FillAll: function 16 -/
mutual
def gutterlaw14_FillAll.l0 : Nat → List (S32) → Int → Bool → List (S73) → Int → Int → Option (Bool)
  | 0, _, _, _, _, _, _ => none
  | k + 1, x0, x1, x5, x6, x8, x9 => if x9 < (x6.length : Int) then (if 0 ≤ x9 then (if ((rd_T73 x6 x9).f0) = x8 then (if ((rd_T73 x6 x9).f1) ≤ x8 then (gutterlaw14_FillAll.j1 k x0 x1 x5 x6 x8 x9 true) else (if ((rd_T73 x6 x9).f1) > (x0.length : Int) then (gutterlaw14_FillAll.j1 k x0 x1 x5 x6 x8 x9 true) else (if 0 ≤ x8 then (if x8 ≤ ((rd_T73 x6 x9).f1) then (if ((rd_T73 x6 x9).f1) ≤ (x0.length : Int) then ((gutterref13_High.f k ((x0.take (((rd_T73 x6 x9).f1) : Int).toNat).drop (x8 : Int).toNat)).bind fun t607 => (if ((rd_T73 x6 x9).f2) = t607 then (if ((rd_T73 x6 x9).f2) > x1 then (gutterlaw14_FillAll.j1 k x0 x1 x5 x6 x8 x9 (((rd_T73 x6 x9).f1) != (wrap64 (x8 + 1)))) else (gutterlaw14_FillAll.j1 k x0 x1 x5 x6 x8 x9 false)) else (gutterlaw14_FillAll.j1 k x0 x1 x5 x6 x8 x9 true))) else (none)) else (none)) else (none)))) else (gutterlaw14_FillAll.j1 k x0 x1 x5 x6 x8 x9 true)) else (none)) else (if x5 = true then (some (x8 == (x0.length : Int))) else (some false))
def gutterlaw14_FillAll.j1 : Nat → List (S32) → Int → Bool → List (S73) → Int → Int → Bool → Option (Bool)
  | 0, _, _, _, _, _, _, _ => none
  | k + 1, x0, x1, x5, x6, x8, x9, x95 => if x95 = true then (some false) else (gutterlaw14_FillAll.l1 k x0 x1 x5 x6 x9 (wrap64 (x8 + 1)))
def gutterlaw14_FillAll.l1 : Nat → List (S32) → Int → Bool → List (S73) → Int → Int → Option (Bool)
  | 0, _, _, _, _, _, _ => none
  | k + 1, x0, x1, x5, x6, x9, x10 => if 0 ≤ x9 then (if x9 < (x6.length : Int) then (if x10 < ((rd_T73 x6 x9).f1) then (if 0 ≤ x10 then (if x10 < (x0.length : Int) then (if ((rd_T32 x0 x10).f4) = 2 then (some false) else (gutterlaw14_FillAll.l1 k x0 x1 x5 x6 x9 (wrap64 (x10 + 1)))) else (none)) else (none)) else (gutterlaw14_FillAll.l0 k x0 x1 x5 x6 ((rd_T73 x6 x9).f1) (wrap64 (x9 + 1)))) else (none)) else (none)
end
def gutterlaw14_FillAll.f (k : Nat) (l0 : List (S32)) (a1 : Int) : Option (Bool) := (gutterlaw14_shown.f k).bind fun t590 => ((gutterlaw13_Few.f l0).bind fun t591 => ((fill_Fill.f t591 a1).bind fun bt594 => (if bt594.2 = 0 then (gutterlaw14_FillAll.l0 k t591 a1 t590 bt594.1 0 0) else (if t590 = true then (some ((bt594.1.length : Int) == 0)) else (some false)))))
theorem gutterlaw14_FillAll.mono_l : ∀ k, (∀ y0 y1 y2 y3 y4 y5, LeO (gutterlaw14_FillAll.l0 k y0 y1 y2 y3 y4 y5) (gutterlaw14_FillAll.l0 (k + 1) y0 y1 y2 y3 y4 y5)) ∧ (∀ y0 y1 y2 y3 y4 y5 y6, LeO (gutterlaw14_FillAll.j1 k y0 y1 y2 y3 y4 y5 y6) (gutterlaw14_FillAll.j1 (k + 1) y0 y1 y2 y3 y4 y5 y6)) ∧ (∀ y0 y1 y2 y3 y4 y5, LeO (gutterlaw14_FillAll.l1 k y0 y1 y2 y3 y4 y5) (gutterlaw14_FillAll.l1 (k + 1) y0 y1 y2 y3 y4 y5))
  | 0 => ⟨fun _ _ _ _ _ _ r h => by simp [gutterlaw14_FillAll.l0] at h, fun _ _ _ _ _ _ _ r h => by simp [gutterlaw14_FillAll.j1] at h, fun _ _ _ _ _ _ r h => by simp [gutterlaw14_FillAll.l1] at h⟩
  | k + 1 => by
    obtain ⟨ih0, ih1, ih2⟩ := gutterlaw14_FillAll.mono_l k
    refine ⟨?_, ?_, ?_⟩
    · intro y0 y1 y2 y3 y4 y5
      unfold gutterlaw14_FillAll.l0
      repeat' first
      | (with_reducible exact ih0 _ _ _ _ _ _)
      | (with_reducible exact ih1 _ _ _ _ _ _ _)
      | (with_reducible exact ih2 _ _ _ _ _ _)
      | (with_reducible exact gutterlaw14_shown.mono _)
      | (with_reducible exact gutterref13_High.mono _ _)
      | (with_reducible exact LeO.refl _)
      | (with_reducible exact LeO.none _)
      | (with_reducible refine LeO.ite ?_ ?_)
      | (with_reducible refine LeO.bind ?_ (fun _ => ?_))
      | exact ih0 _ _ _ _ _ _
      | exact ih1 _ _ _ _ _ _ _
      | exact ih2 _ _ _ _ _ _
      | exact gutterlaw14_shown.mono _
      | exact gutterref13_High.mono _ _
      | exact LeO.none _
      | refine LeO.ite ?_ ?_
      | refine LeO.bind ?_ (fun _ => ?_)
    · intro y0 y1 y2 y3 y4 y5 y6
      unfold gutterlaw14_FillAll.j1
      repeat' first
      | (with_reducible exact ih0 _ _ _ _ _ _)
      | (with_reducible exact ih1 _ _ _ _ _ _ _)
      | (with_reducible exact ih2 _ _ _ _ _ _)
      | (with_reducible exact gutterlaw14_shown.mono _)
      | (with_reducible exact gutterref13_High.mono _ _)
      | (with_reducible exact LeO.refl _)
      | (with_reducible exact LeO.none _)
      | (with_reducible refine LeO.ite ?_ ?_)
      | (with_reducible refine LeO.bind ?_ (fun _ => ?_))
      | exact ih0 _ _ _ _ _ _
      | exact ih1 _ _ _ _ _ _ _
      | exact ih2 _ _ _ _ _ _
      | exact gutterlaw14_shown.mono _
      | exact gutterref13_High.mono _ _
      | exact LeO.none _
      | refine LeO.ite ?_ ?_
      | refine LeO.bind ?_ (fun _ => ?_)
    · intro y0 y1 y2 y3 y4 y5
      unfold gutterlaw14_FillAll.l1
      repeat' first
      | (with_reducible exact ih0 _ _ _ _ _ _)
      | (with_reducible exact ih1 _ _ _ _ _ _ _)
      | (with_reducible exact ih2 _ _ _ _ _ _)
      | (with_reducible exact gutterlaw14_shown.mono _)
      | (with_reducible exact gutterref13_High.mono _ _)
      | (with_reducible exact LeO.refl _)
      | (with_reducible exact LeO.none _)
      | (with_reducible refine LeO.ite ?_ ?_)
      | (with_reducible refine LeO.bind ?_ (fun _ => ?_))
      | exact ih0 _ _ _ _ _ _
      | exact ih1 _ _ _ _ _ _ _
      | exact ih2 _ _ _ _ _ _
      | exact gutterlaw14_shown.mono _
      | exact gutterref13_High.mono _ _
      | exact LeO.none _
      | refine LeO.ite ?_ ?_
      | refine LeO.bind ?_ (fun _ => ?_)
theorem gutterlaw14_FillAll.mono : ∀ a0 a1 k, LeO (gutterlaw14_FillAll.f k a0 a1) (gutterlaw14_FillAll.f (k + 1) a0 a1) := by
  intro a0 a1 k
  obtain ⟨ih0, ih1, ih2⟩ := gutterlaw14_FillAll.mono_l k
  unfold gutterlaw14_FillAll.f
  repeat' first
      | (with_reducible exact ih0 _ _ _ _ _ _)
      | (with_reducible exact ih1 _ _ _ _ _ _ _)
      | (with_reducible exact ih2 _ _ _ _ _ _)
      | (with_reducible exact gutterlaw14_shown.mono _)
      | (with_reducible exact gutterref13_High.mono _ _)
      | (with_reducible exact LeO.refl _)
      | (with_reducible exact LeO.none _)
      | (with_reducible refine LeO.ite ?_ ?_)
      | (with_reducible refine LeO.bind ?_ (fun _ => ?_))
      | exact ih0 _ _ _ _ _ _
      | exact ih1 _ _ _ _ _ _ _
      | exact ih2 _ _ _ _ _ _
      | exact gutterlaw14_shown.mono _
      | exact gutterref13_High.mono _ _
      | exact LeO.none _
      | refine LeO.ite ?_ ?_
      | refine LeO.bind ?_ (fun _ => ?_)
def gutterlaw14_FillAll.T10 : Bool × List (List Nat × List Nat) := (true, [([], []), ([], []), ([0, 1], [0, 1]), ([2], [2]), ([3], [3]), ([], []), ([4, 5], [4, 5]), ([6], [6]), ([7], [7]), ([7], [7]), ([8, 9, 7], [7, 8, 9]), ([10, 7], [7, 10]), ([11, 7], [7, 11]), ([7], [7]), ([12, 13, 7], [7, 12, 13]), ([7, 14], [7, 14]), ([15, 7], [15]), ([16], [16]), ([16], [16]), ([17, 18, 16], [16, 17, 18]), ([19, 16], [16, 19]), ([20, 16], [16, 20]), ([16], [16]), ([22, 16], [16, 22]), ([21, 23, 16], [16, 21, 23]), ([16, 24], [16, 24]), ([25, 16], [25]), ([26], [26]), ([26], [26]), ([27, 28, 26], [26, 27, 28]), ([29, 26], [26, 29]), ([30, 26], [26, 30]), ([26], [26]), ([26], [26]), ([26], [26]), ([26], [26]), ([34, 35, 26], [26, 34, 35]), ([36, 26], [26, 36]), ([37, 26], [26, 37]), ([32, 33, 38, 26], [26, 32, 33, 38]), ([39, 26, 26], [26, 39]), ([31, 40, 26], [26, 31, 40]), ([26, 41], [26, 41]), ([42, 40], [42]), ([43], [43]), ([43], [43]), ([44, 45, 43], [43, 44, 45]), ([46, 43], [43, 46]), ([47, 43], [43, 47]), ([43], [43]), ([48, 49, 43], [43, 48, 49]), ([50, 43, 43], [43, 50]), ([51], [51]), ([51], [51]), ([52, 53, 51], [51, 52, 53]), ([54, 51], [51, 54]), ([55, 51], [51, 55]), ([51], [51]), ([57, 51], [51, 57]), ([56, 58, 51], [51, 56, 58]), ([51, 59, 43], [43, 51, 59]), ([43, 60], [43, 60])])
def gutterlaw14_FillAll.B10 : List Nat := [0, 0, 3, 7, 15, 0, 63, 127, 255, 255, 1023, 2047, 4095, 255, 16383, 32767, 65535, 131071, 131071, 524287, 1048575, 2097151, 131071, 4325375, 16777215, 33554431, 67108863, 134217727, 134217727, 536870911, 1073741823, 2147483647, 134217727, 134217727, 134217727, 134217727, 51673825279, 120393302015, 257832255487, 545595064319, 1095350878207, 2199023255551, 4398046511103, 8796093022207, 17592186044415, 17592186044415, 70368744177663, 140737488355327, 281474976710655, 17592186044415, 1125899906842623, 2251799813685247, 4503599627370495, 4503599627370495, 18014398509481983, 36028797018963967, 72057594037927935, 4503599627370495, 148618787703226367, 576460752303423487, 1152921504606846975, 2305843009213693951]
theorem gutterlaw14_FillAll.tab10 : rtab .any (opsOf Tryd.f16 10) = gutterlaw14_FillAll.T10 := by kernel_rfl
theorem gutterlaw14_FillAll.bits10 : waitsOk gutterlaw14_FillAll.T10.2 gutterlaw14_FillAll.B10 = true := by kernel_rfl
end Go.Proofs.YtjpifknencfipaaDoor.P
