/- What the laws of the balance and of rows share, in plain Lean: what is balanced, that a search goes up and passes no height that would do. Conditions: none. -/
import Derived.Test.YtjpifknencfipaaDoorLt
import Derived.Test.YtjpifknencfipaaDoorP33
set_option linter.unusedVariables false
set_option linter.unusedSimpArgs false
namespace Go.Proofs.YtjpifknencfipaaDoor.P
open Go.RowKit Go.Proofs.YtjpifknencfipaaDoorW.PrintWords Go.Proofs.YtjpifknencfipaaDoorW.PrintLast Go.Proofs.YtjpifknencfipaaDoorW.PrintMore

theorem cols_fine (l : List S32) (h : Int) (hf : fineA l h = true) : fill_Cols.f l h = some (numA l h, 0) := by
  unfold fill_Cols.f fill_Fill.f numA
  rw [if_pos hf, if_pos hf, Option.bind_some, List.length_map]
theorem bal_yes (l : List S32) (n avail b : Int) (h : openA l n = true) (hb : budA b = true) (h0 : 0 ≤ avail) (h1 : avail ≤ 2199023255552) :
    balance_Balance.f l n avail b = some (lowA (leastBA l n b).1 avail, numA l (lowA (leastBA l n b).1 avail), (leastBA l n b).2.1, (leastBA l n b).2.2, 0) := by
  unfold balance_Balance.f
  rw [if_pos (by rw [h, hb, decide_eq_true h0, decide_eq_true h1]; rfl)]
theorem open_yes15 (l : List S32) (n : Int) (hr : rightA l = true) (hl : l.length ≤ 200) (h1 : 1 ≤ n) (h2 : n ≤ 50) : openA l n = true := by
  unfold openA
  rw [hr, decide_eq_true hl, decide_eq_true h1, decide_eq_true h2]
  rfl
theorem open_parts {l : List S32} {n : Int} (h : openA l n = true) : rightA l = true ∧ l.length ≤ 200 ∧ 1 ≤ n ∧ n ≤ 50 := by
  unfold openA at h
  simp only [Bool.and_eq_true, decide_eq_true_eq] at h
  exact ⟨h.1.1.1, h.1.1.2, h.1.2, h.2⟩

/-- A search goes up, as long as there are too many columns. -/
theorem search_up {l : List S32} (hr : rightA l = true) (hn : l.length ≤ 200) (n : Int) (h1 : 1 ≤ n) (h2 : n ≤ 50) : ∀ k, (∀ j, j < k → ¬ numA l (hgtA l (beginA l n) j) ≤ targetA l n) → beginA l n ≤ hgtA l (beginA l n) k ∧ hgtA l (beginA l n) k ≤ allA l
  | 0, _ => ⟨Int.le_refl _, begin_le_all hr hn n h1 h2⟩
  | k + 1, hno => by
    have ih := search_up hr hn n h1 h2 k (fun j hj => hno j (by omega))
    have hbr := begin_range hr hn n h1 h2
    have hrg := hgt_range l hr (beginA l n) hbr.1 (by omega) k
    have hle := hgt_le_all hr (beginA l n) hbr.1 (begin_le_all hr hn n h1 h2) (k + 1)
    rcases next_mem hr _ hrg.1 hrg.2 with ⟨_, q⟩ | ⟨q, _⟩
    · have := num_all hr _ hrg.1 hrg.2 q
      have hx := hno k (by omega)
      unfold targetA at hx
      omega
    · refine ⟨?_, hle.2⟩
      show beginA l n ≤ nextA l (hgtA l (beginA l n) k)
      omega
/-- No height from the highest atom on that is less would do. -/
theorem search_least {l : List S32} (hr : rightA l = true) (hn : l.length ≤ 200) (n : Int) (h1 : 1 ≤ n) (h2 : n ≤ 50) (x : Int) (hx : tallA l ≤ x) : ∀ k, (∀ j, j < k → ¬ numA l (hgtA l (beginA l n) j) ≤ targetA l n) → x < hgtA l (beginA l n) k → targetA l n < numA l x
  | 0, _, hlt => begin_says hr hn n h1 h2 x hx hlt
  | k + 1, hno, hlt => by
    by_cases hk : x < hgtA l (beginA l n) k
    · exact search_least hr hn n h1 h2 x hx k (fun j hj => hno j (by omega)) hk
    · have hbr := begin_range hr hn n h1 h2
      have hrg := hgt_range l hr (beginA l n) hbr.1 (by omega) k
      have hle := hgt_le_all hr (beginA l n) hbr.1 (begin_le_all hr hn n h1 h2) (k + 1)
      have hal := all_range l hr
      have := over_num hr (hgtA l (beginA l n) k) x hrg.1 (by omega) (by omega) (.inr hlt)
      rw [this]
      have := hno k (by omega)
      omega

theorem must_none (l : List S32) : ∀ d i, (∀ j, i ≤ j → j < i + d → bkA l j ≠ 2) → mustA l i d = 0
  | 0, _, _ => rfl
  | d + 1, i, h => by
    unfold mustA
    rw [if_neg (h i (by omega) (by omega)), must_none l d (i + 1) (fun j h1 h2 => h j (by omega) (by omega))]
theorem num_pos {l : List S32} (h : Int) (hf : fineA l h = true) (hl : 0 < l.length) : 1 ≤ numA l h := by
  unfold numA
  rw [if_pos hf]
  have := (fill_lt l h 0).2 (by rw [beg_zero]; exact hl)
  omega
/-- One column: then it has them all, and is as high as all together. -/
theorem one_all {l : List S32} (hr : rightA l = true) (h : Int) (h0 : tallA l ≤ h) (h1 : h ≤ allA l) (hn : numA l h ≤ 1) : h = allA l := by
  have ht := tall_range l hr
  have hal := all_range l hr
  by_cases hz : l.length = 0
  · have : allA l = 0 := by unfold allA; rw [if_pos hz]
    omega
  · have hf := fine_of l hr h (by omega) (by omega)
    have hp := num_pos h hf (by omega)
    have hlen : (fillA l h).length = 1 := by
      unfold numA at hp hn
      rw [if_pos hf] at hp hn
      omega
    have hb := beg_end l h
    rw [hlen, beg_succ, beg_zero] at hb
    have hs := (end_says l h 0 (by omega)).2.1
    rw [hb] at hs
    have ha : allA l = hiA l 0 l.length := by unfold allA; rw [if_neg hz]
    rcases hs with e | e
    · omega
    · rw [e, hi_one] at ha
      have := (tall_ge l).2 0 (by omega)
      omega

end Go.Proofs.YtjpifknencfipaaDoor.P
