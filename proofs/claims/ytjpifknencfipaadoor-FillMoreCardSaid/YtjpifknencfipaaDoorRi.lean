/- atom.Right tells whether atoms are right, in plain Lean. Conditions: none. -/
import Derived.Test.YtjpifknencfipaaDoorP77
import Derived.Test.YtjpifknencfipaaDoorFm
set_option linter.unusedVariables false
set_option linter.unusedSimpArgs false
namespace Go.Proofs.YtjpifknencfipaaDoor.P
open Go.RowKit Go.Proofs.YtjpifknencfipaaDoorW.PrintWords Go.Proofs.YtjpifknencfipaaDoorW.PrintLast Go.Proofs.YtjpifknencfipaaDoorW.PrintMore

theorem wrap64_succ {i : Int} {n : Nat} (h0 : 0 ≤ i) (h : i < (n : Int)) (hn : n ≤ 9223372036854775807) : wrap64 (i + 1) = i + 1 := by
  unfold wrap64
  omega

theorem right_step (x : S32) (r : Option Bool) :
    (if x.f2 ≥ 1 then (if x.f2 ≤ 1073741824 then ((atom_areSizes.f (([x.f3] : List Int))).bind fun t757 => (if x.f0 ≥ 0 then (if x.f0 < 200 then (if t757 = true then (if (x.f1 ≥ 0) then (if x.f4 < 0 then (some false) else (if x.f4 > 2 then (some false) else r)) else (some false)) else (some false)) else (if t757 = true then (some false) else (some false))) else (if t757 = true then (some false) else (some false)))) else (if x.f0 ≥ 0 then (if x.f0 < 200 then (some false) else (some false)) else (some false))) else (if x.f0 ≥ 0 then (if x.f0 < 200 then (some false) else (some false)) else (some false)))
      = if okA x then r else some false := by
  have e : atom_areSizes.f [x.f3] = some (!badSizeA x.f3) := by simp [atom_areSizes.f]
  rw [e]
  simp only [Option.bind_some]
  have hb : (!badSizeA x.f3) = decide (0 ≤ x.f3 ∧ x.f3 ≤ 1048576) := by
    unfold badSizeA
    by_cases h1 : x.f3 < 0
    · have : ¬ (0 ≤ x.f3 ∧ x.f3 ≤ 1048576) := by omega
      simp [h1, this]
    · by_cases h2 : 1048576 < x.f3
      · have : ¬ (0 ≤ x.f3 ∧ x.f3 ≤ 1048576) := by omega
        simp [h2, this]
      · have : 0 ≤ x.f3 ∧ x.f3 ≤ 1048576 := by omega
        simp [h1, h2, this]
  rw [hb]
  simp only [decide_eq_true_eq]
  by_cases h : okA x
  · rw [if_pos h]
    unfold okA at h
    rw [if_pos (by omega), if_pos (by omega), if_pos (by omega), if_pos (by omega), if_pos (by omega), if_pos (by omega), if_neg (by omega), if_neg (by omega)]
  · rw [if_neg h]
    unfold okA at h
    repeat' split
    all_goals first
      | rfl
      | (exfalso; omega)

theorem right_l0 (l : List S32) (hn : l.length ≤ 9223372036854775807) (d : Nat) : ∀ (k i : Nat), i ≤ l.length → l.length - i = d → d < k →
    atom_Right.l0 k l l (l.length : Int) (i : Int) = some (decide (∀ x ∈ l.drop i, okA x) && decide (l.length ≤ 2000)) := by
  induction d with
  | zero =>
    intro k i h0 hd hk
    obtain ⟨k, rfl⟩ : ∃ m, k = m + 1 := ⟨k - 1, by omega⟩
    obtain rfl : i = l.length := by omega
    simp only [atom_Right.l0]
    rw [if_neg (by omega)]
    simp
    omega
  | succ d ih =>
    intro k i h0 hd hk
    obtain ⟨k, rfl⟩ : ∃ m, k = m + 1 := ⟨k - 1, by omega⟩
    have hlt : i < l.length := by omega
    simp only [atom_Right.l0]
    rw [if_pos (by omega), if_pos (by omega), if_pos (by omega), right_step, wrap64_succ (n := l.length) (by omega) (by omega) hn]
    have hx : rd_T32 l (i : Int) = l[i] := by simp [rd_T32, List.getD_eq_getElem?_getD, List.getElem?_eq_getElem hlt]
    rw [hx, List.drop_eq_getElem_cons hlt]
    have hi := ih k (i + 1) (by omega) (by omega) (by omega)
    rw [Int.natCast_add, Int.natCast_one] at hi
    rw [hi]
    generalize l.drop (i + 1) = ys
    generalize l[i] = y
    by_cases hok : okA y
    · rw [if_pos hok]
      simp [hok]
    · rw [if_neg hok]
      simp [hok]

theorem right_f (l : List S32) (hn : l.length ≤ 9223372036854775807) : atom_Right.f (l.length + 1) l = some (rightA l) := by
  have := right_l0 l hn l.length (l.length + 1) 0 (by omega) (by omega) (by omega)
  unfold atom_Right.f rightA
  rw [List.drop_zero] at this
  exact this

end Go.Proofs.YtjpifknencfipaaDoor.P
