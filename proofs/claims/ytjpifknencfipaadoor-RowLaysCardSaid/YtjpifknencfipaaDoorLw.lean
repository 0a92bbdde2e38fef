/- What the laws share, in plain Lean: how high atoms are and whether they are right as the other package tells it, which columns are the same. Conditions: none. -/
import Derived.Test.YtjpifknencfipaaDoorLx
import Derived.Test.YtjpifknencfipaaDoorP27
import Derived.Test.YtjpifknencfipaaDoorP28
import Derived.Test.YtjpifknencfipaaDoorP67
set_option linter.unusedVariables false
set_option linter.unusedSimpArgs false
namespace Go.Proofs.YtjpifknencfipaaDoor.P
open Go.RowKit Go.Proofs.YtjpifknencfipaaDoorW.PrintWords Go.Proofs.YtjpifknencfipaaDoorW.PrintLast Go.Proofs.YtjpifknencfipaaDoorW.PrintMore
theorem high_l0 (l : List S32) (hn : l.length ≤ 9223372036854775807) (d : Nat) : ∀ (k i : Nat) (s : Int), i ≤ l.length → l.length - i = d → d < k →
    ∃ v, gutterref13_High.l0 k l s (i : Int) = some v ∧ (rightA l = true → s = (if i = 0 then 0 else hiA l 0 i) → v = allA l) := by
  induction d with
  | zero =>
    intro k i s h0 hd hk
    obtain ⟨k, rfl⟩ : ∃ m, k = m + 1 := ⟨k - 1, by omega⟩
    obtain rfl : i = l.length := by omega
    simp only [gutterref13_High.l0]
    rw [if_neg (by omega)]
    exact ⟨s, rfl, fun _ e => by rw [e]; rfl⟩
  | succ d ih =>
    intro k i s h0 hd hk
    obtain ⟨k, rfl⟩ : ∃ m, k = m + 1 := ⟨k - 1, by omega⟩
    have hlt : i < l.length := by omega
    simp only [gutterref13_High.l0]
    rw [if_pos (by omega), if_pos (by omega), wrap64_succ (n := l.length) (by omega) (by omega) hn, rd_32]
    rw [show ((i : Int) + 1) = ((i + 1 : Nat) : Int) by push_cast; rfl]
    by_cases hi : (i : Int) > 0
    · rw [if_pos hi]
      obtain ⟨v, h1, h2⟩ := ih k (i + 1) (wrap64 (wrap64 (s + (atA l i).f2) + (atA l i).f3)) (by omega) (by omega) (by omega)
      refine ⟨v, h1, fun hr e => h2 hr ?_⟩
      have hb := hi_range hr 0 i (by omega) (by omega)
      have hb2 := hi_range hr 0 (i + 1) (by omega) (by omega)
      have hs := hi_succ l 0 i
      have hh := hh_of hr i hlt
      rw [if_neg (by omega)] at e
      rw [if_neg (by omega), e]
      have e1 : (atA l i).f2 = hhA l i := rfl
      have e2 : (atA l i).f3 = spA l i := rfl
      rw [e1, e2, hs]
      unfold stA
      rw [w64 (x := hiA l 0 i + hhA l i) (by omega), w64 (by omega)]
      omega
    · rw [if_neg hi]
      obtain ⟨v, h1, h2⟩ := ih k (i + 1) (wrap64 (s + (atA l i).f2)) (by omega) (by omega) (by omega)
      refine ⟨v, h1, fun hr e => h2 hr ?_⟩
      have hi0 : i = 0 := by omega
      subst hi0
      have hh := hh_of hr 0 hlt
      rw [if_pos rfl] at e
      rw [if_neg (by omega), e]
      have e1 : (atA l 0).f2 = hhA l 0 := rfl
      rw [e1, hi_one, w64 (by omega)]
      omega
theorem high_some (l : List S32) (hn : l.length ≤ 9223372036854775807) : ∃ v, gutterref13_High.f (l.length + 1) l = some v ∧ (rightA l = true → v = allA l) := by
  obtain ⟨v, h1, h2⟩ := high_l0 l hn l.length (l.length + 1) 0 0 (by omega) (by omega) (by omega)
  exact ⟨v, h1, fun hr => h2 hr rfl⟩
theorem high_right (l : List S32) (hr : rightA l = true) {k : Nat} (hk : l.length < k) : gutterref13_High.f k l = some (allA l) := by
  obtain ⟨v, h1, h2⟩ := high_some l (by have := len_of hr; omega)
  rw [← h2 hr]
  exact LeO.liftLe (f := fun k => gutterref13_High.f k l) (gutterref13_High.mono l) h1 hk
theorem ref_right_l0 (l : List S32) (hn : l.length ≤ 9223372036854775807) (d : Nat) : ∀ (k i : Nat), i ≤ l.length → l.length - i = d → d < k →
    gutterref13_Right.l0 k l (i : Int) = some (decide (∀ x ∈ l.drop i, okA x) && decide (l.length ≤ 2000)) := by
  induction d with
  | zero =>
    intro k i h0 hd hk
    obtain ⟨k, rfl⟩ : ∃ m, k = m + 1 := ⟨k - 1, by omega⟩
    obtain rfl : i = l.length := by omega
    simp only [gutterref13_Right.l0]
    rw [if_neg (by omega)]
    simp
    omega
  | succ d ih =>
    intro k i h0 hd hk
    obtain ⟨k, rfl⟩ : ∃ m, k = m + 1 := ⟨k - 1, by omega⟩
    have hlt : i < l.length := by omega
    have hx : rd_T32 l (i : Int) = l[i] := by simp [rd_T32, List.getD_eq_getElem?_getD, List.getElem?_eq_getElem hlt]
    simp only [gutterref13_Right.l0]
    rw [if_pos (by omega), if_pos (by omega), wrap64_succ (n := l.length) (by omega) (by omega) hn, hx, List.drop_eq_getElem_cons hlt]
    have hi := ih k (i + 1) (by omega) (by omega) (by omega)
    rw [Int.natCast_add, Int.natCast_one] at hi
    rw [hi]
    generalize l.drop (i + 1) = ys
    generalize l[i] = y
    by_cases hok : okA y
    · have : decide (∀ x ∈ y :: ys, okA x) = decide (∀ x ∈ ys, okA x) := by simp [hok]
      rw [this]
      unfold okA at hok
      rw [if_neg (by omega), if_neg (by omega), if_neg (by omega), if_neg (by omega), if_neg (by omega), if_neg (by omega), if_neg (by omega), if_neg (by omega), if_neg (by omega)]
    · have : decide (∀ x ∈ y :: ys, okA x) = false := by simp [hok]
      rw [this]
      unfold okA at hok
      repeat' split
      all_goals first
        | rfl
        | (exfalso; omega)
theorem ref_right (l : List S32) (hn : l.length ≤ 2000) {k : Nat} (hk : l.length < k) : gutterref13_Right.f k l = some (rightA l) := by
  have := ref_right_l0 l (by omega) l.length (l.length + 1) 0 (by omega) (by omega) (by omega)
  rw [List.drop_zero] at this
  exact LeO.liftLe (f := fun k => gutterref13_Right.f k l) (gutterref13_Right.mono l) this hk

theorem rd73_eq {a : List S73} {i : Nat} (h : i < a.length) : rd_T73 a (i : Int) = a[i] := by simp [rd_T73, List.getD_eq_getElem?_getD, List.getElem?_eq_getElem h]
end Go.Proofs.YtjpifknencfipaaDoor.P
