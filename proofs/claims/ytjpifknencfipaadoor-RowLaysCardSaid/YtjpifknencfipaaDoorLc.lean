/- What the laws of the balance and of rows share, in plain Lean: what is balanced, that a search goes up and passes no height that would do. Conditions: none. -/
import Derived.Test.YtjpifknencfipaaDoorLt
import Derived.Test.YtjpifknencfipaaDoorP33
set_option linter.unusedVariables false
set_option linter.unusedSimpArgs false
namespace Go.Proofs.YtjpifknencfipaaDoor.P
open Go.RowKit Go.Proofs.YtjpifknencfipaaDoorW.PrintWords Go.Proofs.YtjpifknencfipaaDoorW.PrintLast Go.Proofs.YtjpifknencfipaaDoorW.PrintMore

theorem cols_fine (l : List S32) (h : Int) (hf : fineA l h = true) : fill_Cols.f l h = some (numA l h, 0) := by
  unfold fill_Cols.f fill_Fill.f numA
  rw [if_pos hf, if_pos hf, Option.bind_some, List.length_map]
theorem open_parts {l : List S32} {n : Int} (h : openA l n = true) : rightA l = true ∧ l.length ≤ 200 ∧ 1 ≤ n ∧ n ≤ 50 := by
  unfold openA at h
  simp only [Bool.and_eq_true, decide_eq_true_eq] at h
  exact ⟨h.1.1.1, h.1.1.2, h.1.2, h.2⟩

end Go.Proofs.YtjpifknencfipaaDoor.P
