-- by a program (wip/tools: a turned copy of the kit's print): not trusted: Lean checks it
import Derived.Test.YtjpifknencfipaaDoorP
import Derived.Test.YtjpifknencfipaaDoorE41
import Derived.Test.YtjpifknencfipaaDoorP39
import Derived.Test.YtjpifknencfipaaDoorP40
namespace Go.Proofs.YtjpifknencfipaaDoor.P
open Go.RowKit Go.Proofs.YtjpifknencfipaaDoorW.PrintWords Go.Proofs.YtjpifknencfipaaDoorW.PrintLast Go.Proofs.YtjpifknencfipaaDoorW.PrintMore
attribute [local go_sem] max2_int min2_int max_two min_two max_three min_three max_four min_four   -- for this text's walks alone
set_option linter.unusedVariables false
set_option linter.unusedSimpArgs false

/-! ### gutterlaw17_RowAll: function 10 -/
mutual
def gutterlaw17_RowAll.l0 : Nat → List (S32) → Int → Int → Bool → Int → Int → Int → List (S58) → Option (Bool)
  | 0, _, _, _, _, _, _, _, _ => none
  | k + 1, x0, x2, x3, x13, x16, x428000, x428001, x428002 => if x16 < (x0.length : Int) then (if 0 ≤ x16 then (if x16 < (x428002.length : Int) then (if ((rd_T58 x428002 x16).f0) = ((rd_T32 x0 x16).f0) then (if ((rd_T58 x428002 x16).f1) = ((rd_T32 x0 x16).f1) then (if ((rd_T58 x428002 x16).f3.f3) = ((rd_T32 x0 x16).f2) then (if ((rd_T58 x428002 x16).f3.f2) = x2 then (if ((rd_T58 x428002 x16).f3.f0) = (wrap64 (((rd_T58 x428002 x16).f2) * (wrap64 (x2 + x3)))) then (if ((rd_T58 x428002 x16).f2) ≥ x428001 then (gutterlaw17_RowAll.j1 k x0 x2 x3 x13 x16 true x428000 x428001 x428002 ((rd_T58 x428002 x16).f0) ((rd_T58 x428002 x16).f1) ((rd_T58 x428002 x16).f2) ((rd_T58 x428002 x16).f3.f0) ((rd_T58 x428002 x16).f3.f1) ((rd_T58 x428002 x16).f3.f2) ((rd_T58 x428002 x16).f3.f3)) else (gutterlaw17_RowAll.j1 k x0 x2 x3 x13 x16 (decide (((rd_T58 x428002 x16).f3.f1) < 0)) x428000 x428001 x428002 ((rd_T58 x428002 x16).f0) ((rd_T58 x428002 x16).f1) ((rd_T58 x428002 x16).f2) ((rd_T58 x428002 x16).f3.f0) ((rd_T58 x428002 x16).f3.f1) ((rd_T58 x428002 x16).f3.f2) ((rd_T58 x428002 x16).f3.f3))) else (gutterlaw17_RowAll.j1 k x0 x2 x3 x13 x16 true x428000 x428001 x428002 ((rd_T58 x428002 x16).f0) ((rd_T58 x428002 x16).f1) ((rd_T58 x428002 x16).f2) ((rd_T58 x428002 x16).f3.f0) ((rd_T58 x428002 x16).f3.f1) ((rd_T58 x428002 x16).f3.f2) ((rd_T58 x428002 x16).f3.f3))) else (gutterlaw17_RowAll.j1 k x0 x2 x3 x13 x16 true x428000 x428001 x428002 ((rd_T58 x428002 x16).f0) ((rd_T58 x428002 x16).f1) ((rd_T58 x428002 x16).f2) ((rd_T58 x428002 x16).f3.f0) ((rd_T58 x428002 x16).f3.f1) ((rd_T58 x428002 x16).f3.f2) ((rd_T58 x428002 x16).f3.f3))) else (gutterlaw17_RowAll.j1 k x0 x2 x3 x13 x16 true x428000 x428001 x428002 ((rd_T58 x428002 x16).f0) ((rd_T58 x428002 x16).f1) ((rd_T58 x428002 x16).f2) ((rd_T58 x428002 x16).f3.f0) ((rd_T58 x428002 x16).f3.f1) ((rd_T58 x428002 x16).f3.f2) ((rd_T58 x428002 x16).f3.f3))) else (gutterlaw17_RowAll.j1 k x0 x2 x3 x13 x16 true x428000 x428001 x428002 ((rd_T58 x428002 x16).f0) ((rd_T58 x428002 x16).f1) ((rd_T58 x428002 x16).f2) ((rd_T58 x428002 x16).f3.f0) ((rd_T58 x428002 x16).f3.f1) ((rd_T58 x428002 x16).f3.f2) ((rd_T58 x428002 x16).f3.f3))) else (gutterlaw17_RowAll.j1 k x0 x2 x3 x13 x16 true x428000 x428001 x428002 ((rd_T58 x428002 x16).f0) ((rd_T58 x428002 x16).f1) ((rd_T58 x428002 x16).f2) ((rd_T58 x428002 x16).f3.f0) ((rd_T58 x428002 x16).f3.f1) ((rd_T58 x428002 x16).f3.f2) ((rd_T58 x428002 x16).f3.f3))) else (none)) else (none)) else (if x13 = true then (some (((x0.length : Int) == 0) == (x428001 == 0))) else (some false))
def gutterlaw17_RowAll.j1 : Nat → List (S32) → Int → Int → Bool → Int → Bool → Int → Int → List (S58) → Int → Int → Int → Int → Int → Int → Int → Option (Bool)
  | 0, _, _, _, _, _, _, _, _, _, _, _, _, _, _, _, _ => none
  | k + 1, x0, x2, x3, x13, x16, x122, x428000, x428001, x428002, x430000, x430001, x430002, x430003, x430004, x430005, x430006 => if x122 = true then (some false) else (if x16 = 0 then (if x430002 = 0 then (if x16 > 0 then (if 0 ≤ (wrap64 (x16 - 1)) then (if (wrap64 (x16 - 1)) < (x428002.length : Int) then (if x430002 = ((rd_T58 x428002 (wrap64 (x16 - 1))).f2) then (gutterlaw17_RowAll.j2 k x0 x2 x3 x13 x16 false x428000 x428001 x428002 x430000 x430001 x430002 x430003 x430004 x430005 x430006) else (if x430002 = (wrap64 (((rd_T58 x428002 (wrap64 (x16 - 1))).f2) + 1)) then (gutterlaw17_RowAll.j2 k x0 x2 x3 x13 x16 (x430004 != 0) x428000 x428001 x428002 x430000 x430001 x430002 x430003 x430004 x430005 x430006) else (gutterlaw17_RowAll.j2 k x0 x2 x3 x13 x16 true x428000 x428001 x428002 x430000 x430001 x430002 x430003 x430004 x430005 x430006))) else (none)) else (none)) else (gutterlaw17_RowAll.j2 k x0 x2 x3 x13 x16 false x428000 x428001 x428002 x430000 x430001 x430002 x430003 x430004 x430005 x430006)) else (gutterlaw17_RowAll.j2 k x0 x2 x3 x13 x16 true x428000 x428001 x428002 x430000 x430001 x430002 x430003 x430004 x430005 x430006)) else (if x16 > 0 then (if 0 ≤ (wrap64 (x16 - 1)) then (if (wrap64 (x16 - 1)) < (x428002.length : Int) then (if x430002 = ((rd_T58 x428002 (wrap64 (x16 - 1))).f2) then (gutterlaw17_RowAll.j2 k x0 x2 x3 x13 x16 false x428000 x428001 x428002 x430000 x430001 x430002 x430003 x430004 x430005 x430006) else (if x430002 = (wrap64 (((rd_T58 x428002 (wrap64 (x16 - 1))).f2) + 1)) then (gutterlaw17_RowAll.j2 k x0 x2 x3 x13 x16 (x430004 != 0) x428000 x428001 x428002 x430000 x430001 x430002 x430003 x430004 x430005 x430006) else (gutterlaw17_RowAll.j2 k x0 x2 x3 x13 x16 true x428000 x428001 x428002 x430000 x430001 x430002 x430003 x430004 x430005 x430006))) else (none)) else (none)) else (gutterlaw17_RowAll.j2 k x0 x2 x3 x13 x16 false x428000 x428001 x428002 x430000 x430001 x430002 x430003 x430004 x430005 x430006)))
def gutterlaw17_RowAll.j2 : Nat → List (S32) → Int → Int → Bool → Int → Bool → Int → Int → List (S58) → Int → Int → Int → Int → Int → Int → Int → Option (Bool)
  | 0, _, _, _, _, _, _, _, _, _, _, _, _, _, _, _, _ => none
  | k + 1, x0, x2, x3, x13, x16, x164, x428000, x428001, x428002, x430000, x430001, x430002, x430003, x430004, x430005, x430006 => if x164 = true then (some false) else (if x16 > 0 then (if 0 ≤ (wrap64 (x16 - 1)) then (if (wrap64 (x16 - 1)) < (x428002.length : Int) then (if x430002 = ((rd_T58 x428002 (wrap64 (x16 - 1))).f2) then (if 0 ≤ x16 then (if x16 < (x0.length : Int) then (if x430004 = (wrap64 ((wrap64 (((rd_T58 x428002 (wrap64 (x16 - 1))).f3.f1) + ((rd_T58 x428002 (wrap64 (x16 - 1))).f3.f3))) + ((rd_T32 x0 x16).f3))) then (gutterlaw17_RowAll.l0 k x0 x2 x3 x13 (wrap64 (x16 + 1)) x428000 x428001 x428002) else (some false)) else (none)) else (none)) else (gutterlaw17_RowAll.l0 k x0 x2 x3 x13 (wrap64 (x16 + 1)) x428000 x428001 x428002)) else (none)) else (none)) else (gutterlaw17_RowAll.l0 k x0 x2 x3 x13 (wrap64 (x16 + 1)) x428000 x428001 x428002))
end
def gutterlaw17_RowAll.f (k : Nat) (l0 : List (S32)) (a1 : Int) (a2 : Int) (a3 : Int) (a4 : Int) (a5 : Bool) : Option (Bool) := (gutterlaw17_shown.f k).bind fun t417 => ((gutterlaw17_few.f l0).bind fun t418 => ((row_Lay.f t418 a1 a2 a3 a4 a5).bind fun bt421 => (if bt421.2.2.2 = 0 then (if (bt421.2.2.1.length : Int) = (t418.length : Int) then (gutterlaw17_RowAll.l0 k t418 a2 a3 t417 0 bt421.1 bt421.2.1 bt421.2.2.1) else (some false)) else (if t417 = true then (if (bt421.2.2.1.length : Int) = 0 then (some (bt421.1 == 0)) else (some false)) else (some false)))))
theorem gutterlaw17_RowAll.mono_l : ∀ k, (∀ y0 y1 y2 y3 y4 y5 y6 y7, LeO (gutterlaw17_RowAll.l0 k y0 y1 y2 y3 y4 y5 y6 y7) (gutterlaw17_RowAll.l0 (k + 1) y0 y1 y2 y3 y4 y5 y6 y7)) ∧ (∀ y0 y1 y2 y3 y4 y5 y6 y7 y8 y9 y10 y11 y12 y13 y14 y15, LeO (gutterlaw17_RowAll.j1 k y0 y1 y2 y3 y4 y5 y6 y7 y8 y9 y10 y11 y12 y13 y14 y15) (gutterlaw17_RowAll.j1 (k + 1) y0 y1 y2 y3 y4 y5 y6 y7 y8 y9 y10 y11 y12 y13 y14 y15)) ∧ (∀ y0 y1 y2 y3 y4 y5 y6 y7 y8 y9 y10 y11 y12 y13 y14 y15, LeO (gutterlaw17_RowAll.j2 k y0 y1 y2 y3 y4 y5 y6 y7 y8 y9 y10 y11 y12 y13 y14 y15) (gutterlaw17_RowAll.j2 (k + 1) y0 y1 y2 y3 y4 y5 y6 y7 y8 y9 y10 y11 y12 y13 y14 y15))
  | 0 => ⟨fun _ _ _ _ _ _ _ _ r h => by simp [gutterlaw17_RowAll.l0] at h, fun _ _ _ _ _ _ _ _ _ _ _ _ _ _ _ _ r h => by simp [gutterlaw17_RowAll.j1] at h, fun _ _ _ _ _ _ _ _ _ _ _ _ _ _ _ _ r h => by simp [gutterlaw17_RowAll.j2] at h⟩
  | k + 1 => by
    obtain ⟨ih0, ih1, ih2⟩ := gutterlaw17_RowAll.mono_l k
    refine ⟨?_, ?_, ?_⟩
    · intro y0 y1 y2 y3 y4 y5 y6 y7
      unfold gutterlaw17_RowAll.l0
      repeat' first
      | (with_reducible exact ih0 _ _ _ _ _ _ _ _)
      | (with_reducible exact ih1 _ _ _ _ _ _ _ _ _ _ _ _ _ _ _ _)
      | (with_reducible exact ih2 _ _ _ _ _ _ _ _ _ _ _ _ _ _ _ _)
      | (with_reducible exact gutterlaw17_shown.mono _)
      | (with_reducible exact LeO.refl _)
      | (with_reducible exact LeO.none _)
      | (with_reducible refine LeO.ite ?_ ?_)
      | (with_reducible refine LeO.bind ?_ (fun _ => ?_))
      | exact ih0 _ _ _ _ _ _ _ _
      | exact ih1 _ _ _ _ _ _ _ _ _ _ _ _ _ _ _ _
      | exact ih2 _ _ _ _ _ _ _ _ _ _ _ _ _ _ _ _
      | exact gutterlaw17_shown.mono _
      | exact LeO.none _
      | refine LeO.ite ?_ ?_
      | refine LeO.bind ?_ (fun _ => ?_)
    · intro y0 y1 y2 y3 y4 y5 y6 y7 y8 y9 y10 y11 y12 y13 y14 y15
      unfold gutterlaw17_RowAll.j1
      repeat' first
      | (with_reducible exact ih0 _ _ _ _ _ _ _ _)
      | (with_reducible exact ih1 _ _ _ _ _ _ _ _ _ _ _ _ _ _ _ _)
      | (with_reducible exact ih2 _ _ _ _ _ _ _ _ _ _ _ _ _ _ _ _)
      | (with_reducible exact gutterlaw17_shown.mono _)
      | (with_reducible exact LeO.refl _)
      | (with_reducible exact LeO.none _)
      | (with_reducible refine LeO.ite ?_ ?_)
      | (with_reducible refine LeO.bind ?_ (fun _ => ?_))
      | exact ih0 _ _ _ _ _ _ _ _
      | exact ih1 _ _ _ _ _ _ _ _ _ _ _ _ _ _ _ _
      | exact ih2 _ _ _ _ _ _ _ _ _ _ _ _ _ _ _ _
      | exact gutterlaw17_shown.mono _
      | exact LeO.none _
      | refine LeO.ite ?_ ?_
      | refine LeO.bind ?_ (fun _ => ?_)
    · intro y0 y1 y2 y3 y4 y5 y6 y7 y8 y9 y10 y11 y12 y13 y14 y15
      unfold gutterlaw17_RowAll.j2
      repeat' first
      | (with_reducible exact ih0 _ _ _ _ _ _ _ _)
      | (with_reducible exact ih1 _ _ _ _ _ _ _ _ _ _ _ _ _ _ _ _)
      | (with_reducible exact ih2 _ _ _ _ _ _ _ _ _ _ _ _ _ _ _ _)
      | (with_reducible exact gutterlaw17_shown.mono _)
      | (with_reducible exact LeO.refl _)
      | (with_reducible exact LeO.none _)
      | (with_reducible refine LeO.ite ?_ ?_)
      | (with_reducible refine LeO.bind ?_ (fun _ => ?_))
      | exact ih0 _ _ _ _ _ _ _ _
      | exact ih1 _ _ _ _ _ _ _ _ _ _ _ _ _ _ _ _
      | exact ih2 _ _ _ _ _ _ _ _ _ _ _ _ _ _ _ _
      | exact gutterlaw17_shown.mono _
      | exact LeO.none _
      | refine LeO.ite ?_ ?_
      | refine LeO.bind ?_ (fun _ => ?_)
theorem gutterlaw17_RowAll.mono : ∀ a0 a1 a2 a3 a4 a5 k, LeO (gutterlaw17_RowAll.f k a0 a1 a2 a3 a4 a5) (gutterlaw17_RowAll.f (k + 1) a0 a1 a2 a3 a4 a5) := by
  intro a0 a1 a2 a3 a4 a5 k
  obtain ⟨ih0, ih1, ih2⟩ := gutterlaw17_RowAll.mono_l k
  unfold gutterlaw17_RowAll.f
  repeat' first
      | (with_reducible exact ih0 _ _ _ _ _ _ _ _)
      | (with_reducible exact ih1 _ _ _ _ _ _ _ _ _ _ _ _ _ _ _ _)
      | (with_reducible exact ih2 _ _ _ _ _ _ _ _ _ _ _ _ _ _ _ _)
      | (with_reducible exact gutterlaw17_shown.mono _)
      | (with_reducible exact LeO.refl _)
      | (with_reducible exact LeO.none _)
      | (with_reducible refine LeO.ite ?_ ?_)
      | (with_reducible refine LeO.bind ?_ (fun _ => ?_))
      | exact ih0 _ _ _ _ _ _ _ _
      | exact ih1 _ _ _ _ _ _ _ _ _ _ _ _ _ _ _ _
      | exact ih2 _ _ _ _ _ _ _ _ _ _ _ _ _ _ _ _
      | exact gutterlaw17_shown.mono _
      | exact LeO.none _
      | refine LeO.ite ?_ ?_
      | refine LeO.bind ?_ (fun _ => ?_)

end Go.Proofs.YtjpifknencfipaaDoor.P
