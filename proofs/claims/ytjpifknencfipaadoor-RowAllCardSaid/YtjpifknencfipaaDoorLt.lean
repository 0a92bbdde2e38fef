/- The search in plain Lean: its heights one behind the other, what its passes are, where it ends. Conditions: none. · Where a search ends, in plain Lean: it finds the least height; within a thousand passes, where the atoms are few; how much columns of a height can hold. Conditions: none. · The highest atom, as both packages tell it, in plain Lean. Conditions: none. -/
import Derived.Test.YtjpifknencfipaaDoorLx
import Derived.Test.YtjpifknencfipaaDoorLo
import Derived.Test.YtjpifknencfipaaDoorP66
import Derived.Test.YtjpifknencfipaaDoorP32
set_option linter.unusedVariables false
set_option linter.unusedSimpArgs false
namespace Go.Proofs.YtjpifknencfipaaDoor.P
open Go.RowKit

/-- The height that a search takes behind one. -/
def nextA (l : List S32) (h : Int) : Int := if fineA l h = true then shortA l h else 0
/-- The height of pass i, where the search begins at h. -/
def hgtA (l : List S32) (h : Int) : Nat → Int
  | 0 => h
  | i + 1 => nextA l (hgtA l h i)
theorem hgt_shift (l : List S32) (h : Int) : ∀ i, hgtA l (nextA l h) i = hgtA l h (i + 1)
  | 0 => rfl
  | i + 1 => by
    show nextA l (hgtA l (nextA l h) i) = _
    rw [hgt_shift l h i]
    rfl
theorem search_found (l : List S32) (t : Int) : ∀ (k n i : Nat) (h : Int), k < n → (∀ j, j < k → ¬ numA l (hgtA l h j) ≤ t) → numA l (hgtA l h k) ≤ t → searchA l t n i h = some (hgtA l h k, i + k + 1)
  | 0, n, i, h, hk, _, hy => by
    obtain ⟨n, rfl⟩ : ∃ m, n = m + 1 := ⟨n - 1, by omega⟩
    have hy : numA l h ≤ t := hy
    unfold searchA
    rw [if_pos hy]
    rfl
  | k + 1, n, i, h, hk, hno, hy => by
    obtain ⟨n, rfl⟩ : ∃ m, n = m + 1 := ⟨n - 1, by omega⟩
    have h0 : ¬ numA l h ≤ t := hno 0 (by omega)
    have ih := search_found l t k n (i + 1) (nextA l h) (by omega) (fun j hj => by rw [hgt_shift]; exact hno (j + 1) (by omega)) (by rw [hgt_shift]; exact hy)
    rw [hgt_shift] at ih
    unfold searchA
    rw [if_neg h0]
    refine Eq.trans ih ?_
    rw [show i + 1 + k + 1 = i + (k + 1) + 1 by omega]
theorem search_none (l : List S32) (t : Int) : ∀ (n i : Nat) (h : Int), (∀ j, j < n → ¬ numA l (hgtA l h j) ≤ t) → searchA l t n i h = none
  | 0, _, _, _ => rfl
  | n + 1, i, h, hno => by
    have h0 : ¬ numA l h ≤ t := hno 0 (by omega)
    unfold searchA
    rw [if_neg h0]
    exact search_none l t n (i + 1) (nextA l h) (fun j hj => by rw [hgt_shift]; exact hno (j + 1) (by omega))

/-- A pass. -/
structure Pv where
  i : Int
  h : Int
  n : Int
def Pv.enc (x : Pv) : Array Value := #[.int .i64 x.i, .agg #[.int .i64 x.h, .int .i64 x.n]]
def pvA (l : List S32) (h : Int) (i : Nat) : Pv := ⟨(i : Int) + 1, hgtA l h i, numA l (hgtA l h i)⟩
def pvsA (l : List S32) (h : Int) : Nat → List Pv
  | 0 => []
  | n + 1 => pvsA l h n ++ [pvA l h n]
theorem pvs_len (l : List S32) (h : Int) : ∀ n, (pvsA l h n).length = n
  | 0 => rfl
  | n + 1 => by simp [pvsA, pvs_len l h n]
theorem pvs_mem (l : List S32) (h : Int) (t : Int) : ∀ n, (∀ x ∈ pvsA l h n, ¬ x.n ≤ t) → ∀ j, j < n → ¬ numA l (hgtA l h j) ≤ t
  | 0, _, j, hj => by omega
  | n + 1, hx, j, hj => by
    by_cases e : j = n
    · subst e
      exact hx (pvA l h j) (by simp [pvsA])
    · exact pvs_mem l h t n (fun x hm => hx x (by simp [pvsA, hm])) j (by omega)

/-- A number of columns is none below 0, and none above that of the atoms. -/
theorem num_range (l : List S32) (h : Int) : 0 ≤ numA l h ∧ numA l h ≤ l.length := by
  unfold numA
  have := fill_len l h
  split
  · omega
  · omega
theorem fine_of (l : List S32) (hr : rightA l = true) (h : Int) (h0 : 0 ≤ h) (h1 : h ≤ 2199023255552) : fineA l h = true := by
  unfold fineA
  simp only [Bool.and_eq_true, decide_eq_true_eq]
  exact ⟨⟨hr, h0⟩, h1⟩
/-- The next height is within the bounds. -/
theorem next_range (l : List S32) (hr : rightA l = true) (h : Int) (h0 : 0 ≤ h) (h1 : h ≤ 2199023255552) : 0 ≤ nextA l h ∧ nextA l h ≤ 2149580800000 := by
  unfold nextA
  rw [if_pos (fine_of l hr h h0 h1)]
  rcases short_says l hr h h0 with ⟨e, _⟩ | ⟨hgt, ⟨c, hm, hne, he⟩, _⟩
  · rw [e]; omega
  · obtain ⟨q1, q2⟩ := mem_cols l h c _ _ hm
    have ho : c.o = (endA l h c.a).2 := by rw [q2]; rfl
    rcases end_over l h c.a q1 with ⟨q, _⟩ | ⟨_, r2, r3, _, _⟩
    · exact absurd (ho.trans q) hne
    · rw [← ho] at r2 r3
      have := hi_range hr c.a (c.o + 1) (by omega) (by omega)
      rw [he]
      omega
theorem hgt_range (l : List S32) (hr : rightA l = true) (h : Int) (h0 : 0 ≤ h) (h1 : h ≤ 2199023255552) : ∀ i, 0 ≤ hgtA l h i ∧ hgtA l h i ≤ 2199023255552
  | 0 => ⟨h0, h1⟩
  | i + 1 => by
    have ih := hgt_range l hr h h0 h1 i
    have := next_range l hr (hgtA l h i) ih.1 ih.2
    show 0 ≤ nextA l (hgtA l h i) ∧ nextA l (hgtA l h i) ≤ _
    omega

/-! ### Where a search begins -/
theorem fold_max (l : List S32) : ∀ n : Int, n ≤ l.foldl (fun n x => max n x.f2) n ∧ (∀ x ∈ l, x.f2 ≤ l.foldl (fun n x => max n x.f2) n) ∧ ∀ B, n ≤ B → (∀ x ∈ l, x.f2 ≤ B) → l.foldl (fun n x => max n x.f2) n ≤ B := by
  induction l with
  | nil => exact fun n => ⟨Int.le_refl _, fun x hx => (by cases hx), fun B hB _ => hB⟩
  | cons y ys ih =>
    intro n
    obtain ⟨h1, h2, h3⟩ := ih (max n y.f2)
    rw [List.foldl_cons]
    refine ⟨by omega, fun x hx => ?_, fun B hB hx => h3 B (by have := hx y List.mem_cons_self; omega) (fun x hm => hx x (List.mem_cons_of_mem _ hm))⟩
    rcases List.mem_cons.1 hx with rfl | hx
    · omega
    · exact h2 x hx
theorem tall_ge (l : List S32) : 0 ≤ tallA l ∧ ∀ i, i < l.length → hhA l i ≤ tallA l := by
  obtain ⟨h1, h2, _⟩ := fold_max l 0
  refine ⟨h1, fun i hi => ?_⟩
  have : hhA l i = l[i].f2 := by simp [hhA, atA, List.getD_eq_getElem?_getD, List.getElem?_eq_getElem hi]
  rw [this]
  exact h2 _ (List.getElem_mem hi)
theorem tall_le (l : List S32) (B : Int) (hB : 0 ≤ B) (h : ∀ i, i < l.length → hhA l i ≤ B) : tallA l ≤ B := by
  refine (fold_max l 0).2.2 B hB fun x hx => ?_
  obtain ⟨i, hi, rfl⟩ := List.getElem_of_mem hx
  have := h i hi
  have e : hhA l i = l[i].f2 := by simp [hhA, atA, List.getD_eq_getElem?_getD, List.getElem?_eq_getElem hi]
  rwa [e] at this
theorem tall_range (l : List S32) (hr : rightA l = true) : 0 ≤ tallA l ∧ tallA l ≤ 1073741824 :=
  ⟨(tall_ge l).1, tall_le l _ (by omega) (fun i hi => (hh_of hr i hi).2.1)⟩
/-- The sum of the first i heights. -/
def sumTo (l : List S32) : Nat → Int
  | 0 => 0
  | n + 1 => sumTo l n + hhA l n
theorem sum_take (l : List S32) : ∀ i, i ≤ l.length → ((l.take i).map (·.f2)).foldl (· + ·) 0 = sumTo l i
  | 0, _ => by simp [sumTo]
  | i + 1, hi => by
    rw [List.take_succ_eq_append_getElem (by omega), List.map_append, List.foldl_append, sum_take l i (by omega)]
    have e : l[i].f2 = hhA l i := by simp [hhA, atA, List.getD_eq_getElem?_getD, List.getElem?_eq_getElem (show i < l.length by omega)]
    simp only [List.map_cons, List.map_nil, List.foldl_cons, List.foldl_nil, e]
    rfl
theorem sum_eq (l : List S32) : sumA l = sumTo l l.length := by
  have := sum_take l l.length (Nat.le_refl _)
  rwa [List.take_length] at this
theorem sumTo_range {l : List S32} (hr : rightA l = true) : ∀ i, i ≤ l.length → 0 ≤ sumTo l i ∧ sumTo l i ≤ (i : Int) * 1073741824
  | 0, _ => by simp [sumTo]
  | i + 1, hi => by
    have ih := sumTo_range hr i (by omega)
    have hh := hh_of hr i (by omega)
    show 0 ≤ sumTo l i + hhA l i ∧ sumTo l i + hhA l i ≤ _
    rw [Int.natCast_add, Int.natCast_one, Int.add_mul]
    omega
theorem sum_range {l : List S32} (hr : rightA l = true) (hn : l.length ≤ 200) : 0 ≤ sumA l ∧ sumA l ≤ 214748364800 := by
  rw [sum_eq]
  have := sumTo_range hr l.length (Nat.le_refl _)
  omega
theorem target_range (l : List S32) (n : Int) (h1 : 1 ≤ n) (h2 : n ≤ 50) (hl : l.length ≤ 200) : 1 ≤ targetA l n ∧ targetA l n ≤ 200 ∧ n ≤ targetA l n := by
  have := num_range l (allA l)
  unfold targetA
  omega
/-- The rounded-up share: what is less times the number is less. -/
theorem ceil_says (s t : Int) (ht : 1 ≤ t) (hs : 0 ≤ s) : 0 ≤ (s + t - 1) / t ∧ (s + t - 1) / t ≤ s ∧ s ≤ t * ((s + t - 1) / t) ∧ ∀ h : Int, h < (s + t - 1) / t → t * h < s := by
  have h1 := Int.emod_add_mul_ediv (s + t - 1) t
  have h2 := Int.emod_lt_of_pos (s + t - 1) (show 0 < t by omega)
  have h3 := Int.emod_nonneg (s + t - 1) (show t ≠ 0 by omega)
  have h0 : 0 ≤ (s + t - 1) / t := Int.ediv_nonneg (by omega) (by omega)
  refine ⟨h0, ?_, by omega, fun h hh => ?_⟩
  · by_cases hz : s = 0
    · subst hz
      rw [Int.ediv_eq_zero_of_lt (by omega) (by omega)]
      exact Int.le_refl _
    · refine Int.le_of_lt_add_one ((Int.ediv_lt_iff_lt_mul (by omega)).2 ?_)
      have : s + t - 1 < s * t + t := by
        have : s * 1 ≤ s * t := Int.mul_le_mul_of_nonneg_left ht hs
        omega
      rw [Int.add_mul]
      omega
  · have h5 : t * h ≤ t * ((s + t - 1) / t - 1) := Int.mul_le_mul_of_nonneg_left (by omega) (by omega)
    rw [Int.mul_sub, Int.mul_one] at h5
    omega
theorem begin_range {l : List S32} (hr : rightA l = true) (hn : l.length ≤ 200) (n : Int) (h1 : 1 ≤ n) (h2 : n ≤ 50) : 0 ≤ beginA l n ∧ beginA l n ≤ 214748364800 := by
  have hs := sum_range hr hn
  have ht := target_range l n h1 h2 hn
  have hc := ceil_says (sumA l) (targetA l n) ht.1 hs.1
  have hta := tall_range l hr
  unfold beginA
  omega

/-! ### Tallest -/
theorem rd32_f2 (l : List S32) (i : Nat) : (rd_T32 l (i : Int)).f2 = hhA l i := by rw [rd_32]; rfl
theorem fold_snoc (l : List S32) (i : Nat) (hi : i < l.length) : (l.take (i + 1)).foldl (fun n x => max n x.f2) 0 = max ((l.take i).foldl (fun n x => max n x.f2) 0) (hhA l i) := by
  rw [List.take_succ_eq_append_getElem hi, List.foldl_append]
  have e : hhA l i = l[i].f2 := by simp [hhA, atA, List.getD_eq_getElem?_getD, List.getElem?_eq_getElem hi]
  rw [e]
  rfl

end Go.Proofs.YtjpifknencfipaaDoor.P

namespace Go.Proofs.YtjpifknencfipaaDoor.P
open Go.RowKit

theorem search_spec (l : List S32) (t : Int) : ∀ (n i : Nat) (h : Int),
    (∃ k, k < n ∧ searchA l t n i h = some (hgtA l h k, i + k + 1) ∧ numA l (hgtA l h k) ≤ t ∧ ∀ j, j < k → ¬ numA l (hgtA l h j) ≤ t) ∨
    (searchA l t n i h = none ∧ ∀ j, j < n → ¬ numA l (hgtA l h j) ≤ t)
  | 0, _, _ => .inr ⟨rfl, fun j hj => by omega⟩
  | n + 1, i, h => by
    by_cases h0 : numA l h ≤ t
    · exact .inl ⟨0, by omega, search_found l t 0 (n + 1) i h (by omega) (fun j hj => by omega) h0, h0, fun j hj => by omega⟩
    · rcases search_spec l t n (i + 1) (nextA l h) with ⟨k, h1, h2, h3, h4⟩ | ⟨h1, h2⟩
      · have h5 : ∀ j, j < k + 1 → ¬ numA l (hgtA l h j) ≤ t := fun j hj => by
          cases j with
          | zero => exact h0
          | succ j => rw [← hgt_shift]; exact h4 j (by omega)
        rw [hgt_shift] at h3
        exact .inl ⟨k + 1, by omega, search_found l t (k + 1) (n + 1) i h (by omega) h5 h3, h3, h5⟩
      · have h5 : ∀ j, j < n + 1 → ¬ numA l (hgtA l h j) ≤ t := fun j hj => by
          cases j with
          | zero => exact h0
          | succ j => rw [← hgt_shift]; exact h2 j (by omega)
        exact .inr ⟨search_none l t (n + 1) i h h5, h5⟩
/-- What Least tells. -/
theorem least_spec (l : List S32) (n b : Int) (hb : 1 ≤ b) :
    (∃ k : Nat, (k : Int) < b ∧ leastBA l n b = (hgtA l (beginA l n) k, (k : Int) + 1, true) ∧ numA l (hgtA l (beginA l n) k) ≤ targetA l n ∧ ∀ j, j < k → ¬ numA l (hgtA l (beginA l n) j) ≤ targetA l n) ∨
    (leastBA l n b = (allA l, b, false) ∧ ∀ j : Nat, (j : Int) < b → ¬ numA l (hgtA l (beginA l n) j) ≤ targetA l n) := by
  rcases search_spec l (targetA l n) b.toNat 0 (beginA l n) with ⟨k, h1, h2, h3, h4⟩ | ⟨h1, h2⟩
  · refine .inl ⟨k, by omega, ?_, h3, h4⟩
    unfold leastBA
    rw [h2]
    simp
  · refine .inr ⟨?_, fun j hj => h2 j (by omega)⟩
    unfold leastBA
    rw [h1]

/-! ### Heights of the search are at most what all together have -/
theorem sum_hi {l : List S32} (hr : rightA l = true) (a : Nat) : ∀ d, a + 1 + d ≤ l.length → sumTo l (a + 1 + d) - sumTo l a ≤ hiA l a (a + 1 + d)
  | 0, h => by
    rw [Nat.add_zero, hi_one]
    show sumTo l a + hhA l a - sumTo l a ≤ _
    omega
  | d + 1, h => by
    have ih := sum_hi hr a d (by omega)
    have hs := hi_succ l a (a + 1 + d)
    have hh := hh_of hr (a + 1 + d) (by omega)
    have e : sumTo l (a + 1 + d + 1) = sumTo l (a + 1 + d) + hhA l (a + 1 + d) := rfl
    rw [show a + 1 + (d + 1) = a + 1 + d + 1 from rfl, e, hs]
    unfold stA
    omega
theorem sum_le_all {l : List S32} (hr : rightA l = true) : sumA l ≤ allA l := by
  rw [sum_eq]
  unfold allA
  by_cases h0 : l.length = 0
  · rw [if_pos h0, h0]
    exact Int.le_refl _
  · rw [if_neg h0]
    have := sum_hi hr 0 (l.length - 1) (by omega)
    rw [show 0 + 1 + (l.length - 1) = l.length by omega] at this
    simpa [sumTo] using this
theorem tall_le_all {l : List S32} (hr : rightA l = true) : tallA l ≤ allA l := by
  refine tall_le l _ (all_range l hr).1 fun i hi => ?_
  rw [← hi_one]
  exact hi_all l hr i (i + 1) (by omega) (by omega)
theorem begin_le_all {l : List S32} (hr : rightA l = true) (hn : l.length ≤ 200) (n : Int) (h1 : 1 ≤ n) (h2 : n ≤ 50) : beginA l n ≤ allA l := by
  have hs := sum_range hr hn
  have ht := target_range l n h1 h2 hn
  have hc := ceil_says (sumA l) (targetA l n) ht.1 hs.1
  have := sum_le_all hr
  have := tall_le_all hr
  unfold beginA
  omega
theorem next_le_all {l : List S32} (hr : rightA l = true) (h : Int) (h0 : 0 ≤ h) (h1 : h ≤ 2199023255552) : nextA l h ≤ allA l := by
  unfold nextA
  rw [if_pos (fine_of l hr h h0 h1)]
  rcases short_says l hr h h0 with ⟨e, _⟩ | ⟨hgt, ⟨c, hm, hne, he⟩, _⟩
  · rw [e]; exact (all_range l hr).1
  · obtain ⟨q1, q2⟩ := mem_cols l h c _ _ hm
    have ho : c.o = (endA l h c.a).2 := by rw [q2]; rfl
    rcases end_over l h c.a q1 with ⟨q, _⟩ | ⟨_, r2, r3, _, _⟩
    · exact absurd (ho.trans q) hne
    · rw [← ho] at r2 r3
      rw [he]
      exact hi_all l hr c.a (c.o + 1) (by omega) (by omega)
theorem hgt_le_all {l : List S32} (hr : rightA l = true) (h : Int) (h0 : 0 ≤ h) (h1 : h ≤ allA l) : ∀ i, 0 ≤ hgtA l h i ∧ hgtA l h i ≤ allA l
  | 0 => ⟨h0, h1⟩
  | i + 1 => by
    have ih := hgt_le_all hr h h0 h1 i
    have ha := all_range l hr
    exact ⟨(next_range l hr (hgtA l h i) ih.1 (by omega)).1, next_le_all hr _ ih.1 (by omega)⟩

/-! ### How much columns hold -/
theorem col_holds {l : List S32} (hr : rightA l = true) (h : Int) (ht : tallA l ≤ h) (a : Nat) (ha : a < l.length) : sumTo l (endA l h a).1 - sumTo l a ≤ h := by
  have hb := end_bounds l h a ha
  have hs := (end_says l h a ha).2.1
  have h1 := sum_hi hr a ((endA l h a).1 - (a + 1)) (by omega)
  rw [show a + 1 + ((endA l h a).1 - (a + 1)) = (endA l h a).1 by omega] at h1
  rcases hs with e | e
  · omega
  · rw [e] at h1 ⊢
    rw [hi_one] at h1
    have := (tall_ge l).2 a ha
    omega
theorem cols_hold {l : List S32} (hr : rightA l = true) (h : Int) (ht : tallA l ≤ h) : ∀ i, i ≤ (fillA l h).length → sumTo l (begA l h i) ≤ (i : Int) * h
  | 0, _ => by simp [beg_zero, sumTo]
  | i + 1, hi => by
    have ih := cols_hold hr h ht i (by omega)
    have := col_holds hr h ht (begA l h i) ((fill_lt l h i).1 (by omega))
    rw [beg_succ, Int.natCast_add, Int.natCast_one, Int.add_mul]
    omega
theorem sum_holds {l : List S32} (hr : rightA l = true) (h : Int) (ht : tallA l ≤ h) (h1 : h ≤ 2199023255552) : sumA l ≤ numA l h * h := by
  have := cols_hold hr h ht _ (Nat.le_refl _)
  rw [beg_end, ← sum_eq] at this
  have h0 := (tall_ge l).1
  unfold numA
  rw [if_pos (fine_of l hr h (by omega) h1)]
  exact this
/-- Below where a search begins there are too many columns. -/
theorem begin_says {l : List S32} (hr : rightA l = true) (hn : l.length ≤ 200) (n : Int) (h1 : 1 ≤ n) (h2 : n ≤ 50) (h : Int) (ht : tallA l ≤ h) (hb : h < beginA l n) : targetA l n < numA l h := by
  have hs := sum_range hr hn
  have htr := target_range l n h1 h2 hn
  have hc := ceil_says (sumA l) (targetA l n) htr.1 hs.1
  have hbr := begin_range hr hn n h1 h2
  have h0 := (tall_ge l).1
  have hlt : h < (sumA l + targetA l n - 1) / targetA l n := by
    unfold beginA at hb
    omega
  have hx := hc.2.2.2 h hlt
  have hy := sum_holds hr h ht (by omega)
  refine Int.lt_of_not_ge fun hle => ?_
  have : numA l h * h ≤ targetA l n * h := Int.mul_le_mul_of_nonneg_right hle (by omega)
  omega

/-! ### Between two heights of a search -/
theorem over_num {l : List S32} (hr : rightA l = true) (h x : Int) (h0 : 0 ≤ h) (hx : h ≤ x) (hx1 : x ≤ 2199023255552) (hn : nextA l h = 0 ∨ x < nextA l h) : numA l x = numA l h := by
  have hf := fine_of l hr h h0 (by omega)
  have hf2 := fine_of l hr x (by omega) hx1
  have : fillA l x = fillA l h := by
    refine fill_same l h x hx fun c hm hne => ?_
    unfold nextA at hn
    rw [if_pos hf] at hn
    rcases short_says l hr h h0 with ⟨e, q⟩ | ⟨hgt, _, q⟩
    · exact absurd (q c hm) hne
    · have := q c hm hne
      omega
  unfold numA
  rw [if_pos hf, if_pos hf2, this]

/-! ### A search ends -/
theorem cntGt (L : List Int) (h x : Int) (hx : x ∈ L) (hh : h < x) : (L.filter (fun y => decide (x < y))).length < (L.filter (fun y => decide (h < y))).length := by
  have mono : ∀ M : List Int, (M.filter (fun y => decide (x < y))).length ≤ (M.filter (fun y => decide (h < y))).length := fun M => by
    induction M with
    | nil => simp
    | cons y ys ih =>
      rw [List.filter_cons, List.filter_cons]
      by_cases h1 : x < y
      · have h2 : h < y := by omega
        rw [if_pos (by simpa using h1), if_pos (by simpa using h2)]
        simp only [List.length_cons]
        omega
      · rw [if_neg (by simpa using h1)]
        split
        · simp only [List.length_cons]; omega
        · exact ih
  induction L with
  | nil => cases hx
  | cons y ys ih =>
    have hm := mono ys
    rw [List.filter_cons, List.filter_cons]
    by_cases hy : x = y
    · subst hy
      rw [if_neg (by simp), if_pos (by simpa using hh)]
      simp only [List.length_cons]
      omega
    · have := ih ((List.mem_cons.1 hx).resolve_left hy)
      by_cases h1 : x < y
      · have h2 : h < y := by omega
        rw [if_pos (by simpa using h1), if_pos (by simpa using h2)]
        simp only [List.length_cons]
        omega
      · rw [if_neg (by simpa using h1)]
        split
        · simp only [List.length_cons]; omega
        · exact this
theorem runs_mem (l : List S32) (a : Nat) : ∀ n d, d < n → hiA l a (a + d + 1) ∈ runsA l a n
  | 0, d, h => by omega
  | n + 1, d, h => by
    rw [runsA, List.mem_append]
    by_cases e : d = n
    · subst e; simp
    · exact .inl (runs_mem l a n d (by omega))
theorem pairs_mem (l : List S32) (a b : Nat) (hab : a < b) (hb : b ≤ l.length) : ∀ n, a < n → hiA l a b ∈ pairsA l n
  | 0, h => by omega
  | n + 1, h => by
    rw [pairsA, List.mem_append]
    by_cases e : a = n
    · subst e
      have := runs_mem l a (l.length - a) (b - a - 1) (by omega)
      rw [show a + (b - a - 1) + 1 = b by omega] at this
      exact .inr this
    · exact .inl (pairs_mem l a b hab hb n (by omega))
theorem pairs_few (l : List S32) : ∀ n, n ≤ l.length → 2 * (pairsA l n).length + n * n ≤ 2 * (n * l.length) + n
  | 0, _ => by simp [pairsA]
  | n + 1, h => by
    have ih := pairs_few l n (by omega)
    simp only [pairsA, List.length_append, runs_len]
    have e1 : (n + 1) * (n + 1) = n * n + 2 * n + 1 := by rw [Nat.add_mul, Nat.mul_add]; omega
    have e2 : (n + 1) * l.length = n * l.length + l.length := by rw [Nat.add_mul]; omega
    rw [e1, e2]
    omega
theorem pairs_820 (l : List S32) (hl : l.length ≤ 40) : (pairsA l l.length).length ≤ 820 := by
  have h1 := pairs_few l l.length (Nat.le_refl _)
  have h2 := Nat.mul_le_mul hl hl
  omega
/-- As long as there is a next height, it is a greater one of all heights. -/
theorem next_mem {l : List S32} (hr : rightA l = true) (h : Int) (h0 : 0 ≤ h) (h1 : h ≤ 2199023255552) : (nextA l h = 0 ∧ ∀ c ∈ fillA l h, c.o = 0) ∨ (h < nextA l h ∧ nextA l h ∈ pairsA l l.length) := by
  unfold nextA
  rw [if_pos (fine_of l hr h h0 h1)]
  rcases short_says l hr h h0 with e | ⟨hgt, ⟨c, hm, hne, he⟩, _⟩
  · exact .inl e
  · obtain ⟨q1, q2⟩ := mem_cols l h c _ _ hm
    have ho : c.o = (endA l h c.a).2 := by rw [q2]; rfl
    rcases end_over l h c.a q1 with ⟨q, _⟩ | ⟨_, r2, r3, _, _⟩
    · exact absurd (ho.trans q) hne
    · rw [← ho] at r2 r3
      exact .inr ⟨hgt, by rw [he]; exact pairs_mem l c.a (c.o + 1) (by omega) (by omega) _ (by omega)⟩
/-- Where each height so far had one that was too much, at most 820 are gone. -/
theorem search_short {l : List S32} (hr : rightA l = true) (hl : l.length ≤ 40) (h : Int) (h0 : 0 ≤ h) (h1 : h ≤ 2199023255552) (k : Nat) (hk : ∀ j, j < k → nextA l (hgtA l h j) ≠ 0) : k ≤ 820 := by
  have key : ∀ k, (∀ j, j < k → nextA l (hgtA l h j) ≠ 0) → k + ((pairsA l l.length).filter (fun y => decide (hgtA l h k < y))).length ≤ ((pairsA l l.length).filter (fun y => decide (h < y))).length := by
    intro k
    induction k with
    | zero => intro _; simp [hgtA]; exact Nat.le_refl _
    | succ k ih =>
      intro hk
      have := ih (fun j hj => hk j (by omega))
      have hrg := hgt_range l hr h h0 h1 k
      rcases next_mem hr (hgtA l h k) hrg.1 hrg.2 with ⟨e, _⟩ | ⟨q1, q2⟩
      · exact absurd e (hk k (by omega))
      · have := cntGt (pairsA l l.length) (hgtA l h k) (nextA l (hgtA l h k)) q2 q1
        show k + 1 + ((pairsA l l.length).filter (fun y => decide (nextA l (hgtA l h k) < y))).length ≤ _
        omega
  have h2 := key k hk
  have h3 := List.length_filter_le (fun y => decide (h < y)) (pairsA l l.length)
  have h4 := pairs_820 l hl
  omega
/-- Where nothing was too much there are as many columns as breaks that must be, and one more: at most the target. -/
theorem num_all {l : List S32} (hr : rightA l = true) (h : Int) (h0 : 0 ≤ h) (h1 : h ≤ 2199023255552) (hno : ∀ c ∈ fillA l h, c.o = 0) : numA l h = numA l (allA l) := by
  have ha := all_range l hr
  by_cases hh : h ≤ allA l
  · have : fillA l (allA l) = fillA l h := fill_same l h _ hh fun c hm hne => absurd (hno c hm) hne
    unfold numA
    rw [if_pos (fine_of l hr h h0 h1), if_pos (fine_of l hr _ ha.1 (by omega)), this]
  · have := fill_count l hr h h0 (by omega)
    have h2 := fill_count l hr (allA l) ha.1 (Int.le_refl _)
    unfold numA
    rw [if_pos (fine_of l hr h h0 h1), if_pos (fine_of l hr _ ha.1 (by omega)), this, h2]
/-- A search of a thousand passes ends, where the atoms are at most forty. -/
theorem least_exact {l : List S32} (hr : rightA l = true) (hl : l.length ≤ 40) (n : Int) (h1 : 1 ≤ n) (h2 : n ≤ 50) (b : Int) (hb : 1000 ≤ b) :
    ∃ k : Nat, (k : Int) < b ∧ leastBA l n b = (hgtA l (beginA l n) k, (k : Int) + 1, true) ∧ numA l (hgtA l (beginA l n) k) ≤ targetA l n ∧ ∀ j, j < k → ¬ numA l (hgtA l (beginA l n) j) ≤ targetA l n := by
  rcases least_spec l n b (by omega) with h | ⟨_, hno⟩
  · exact h
  · exfalso
    have hbr := begin_range hr (by omega) n h1 h2
    have : (1000 : Nat) ≤ 820 := search_short hr hl (beginA l n) hbr.1 (by omega) 1000 fun j hj hz => by
      have hrg := hgt_range l hr (beginA l n) hbr.1 (by omega) j
      rcases next_mem hr _ hrg.1 hrg.2 with ⟨_, q⟩ | ⟨q, _⟩
      · have := num_all hr _ hrg.1 hrg.2 q
        have hx := hno j (by omega)
        unfold targetA at hx
        omega
      · omega
    omega

end Go.Proofs.YtjpifknencfipaaDoor.P

namespace Go.Proofs.YtjpifknencfipaaDoor.P
open Go.RowKit Go.Proofs.YtjpifknencfipaaDoorW.PrintWords Go.Proofs.YtjpifknencfipaaDoorW.PrintLast Go.Proofs.YtjpifknencfipaaDoorW.PrintMore

theorem great2 (a b : Int) (h : 0 ≤ a) (k : Nat) (hk : 3 ≤ k) : fill_greatest.f k [a, b] = some (max a b) := by
  obtain ⟨k, rfl⟩ : ∃ m, k = m + 3 := ⟨k - 3, by omega⟩
  have e1 : mx 0 a = a := by unfold mx; split <;> omega
  have e2 : mx a b = max a b := by unfold mx; split <;> omega
  simp [fill_greatest.f, fill_greatest.l0, rd, wrap64, e1, e2]
theorem tall_l0 (l : List S32) (hn : l.length ≤ 2000) (d : Nat) : ∀ (k i : Nat), i ≤ l.length → l.length - i = d → d + 3 < k →
    fill_Tallest.l0 k ((l.take i).foldl (fun n x => max n x.f2) 0) l (l.length : Int) (i : Int) = some (tallA l) := by
  induction d with
  | zero =>
    intro k i h0 hd hk
    obtain ⟨k, rfl⟩ : ∃ m, k = m + 1 := ⟨k - 1, by omega⟩
    obtain rfl : i = l.length := by omega
    simp only [fill_Tallest.l0]
    rw [if_neg (by omega), List.take_length]
    rfl
  | succ d ih =>
    intro k i h0 hd hk
    obtain ⟨k, rfl⟩ : ∃ m, k = m + 1 := ⟨k - 1, by omega⟩
    simp only [fill_Tallest.l0]
    have h1 := (fold_max (l.take i) 0).1
    rw [if_pos (by omega), if_pos (by omega), if_pos (by omega), rd32_f2, great2 _ _ h1 k (by omega), Option.bind_some, ← fold_snoc l i (by omega), w64 (x := (i : Int) + 1) (by omega), show ((i : Int) + 1) = ((i + 1 : Nat) : Int) by push_cast; rfl]
    exact ih k (i + 1) (by omega) (by omega) (by omega)
theorem tall_k (l : List S32) (hn : l.length ≤ 2000) {k : Nat} (hk : l.length + 3 < k) : fill_Tallest.f k l = some (tallA l) := by
  have := tall_l0 l hn l.length k 0 (by omega) (by omega) (by omega)
  simpa [fill_Tallest.f] using this
theorem tall_f (l : List S32) (hn : l.length ≤ 2000) : fill_Tallest.f (l.length + 4) l = some (tallA l) := tall_k l hn (by omega)
theorem rtall_l0 (l : List S32) (hn : l.length ≤ 2000) (d : Nat) : ∀ (k i : Nat), i ≤ l.length → l.length - i = d → d < k →
    gutterref14_Tallest.l0 k l ((l.take i).foldl (fun n x => max n x.f2) 0) (i : Int) = some (tallA l) := by
  induction d with
  | zero =>
    intro k i h0 hd hk
    obtain ⟨k, rfl⟩ : ∃ m, k = m + 1 := ⟨k - 1, by omega⟩
    obtain rfl : i = l.length := by omega
    simp only [gutterref14_Tallest.l0]
    rw [if_neg (by omega), List.take_length]
    rfl
  | succ d ih =>
    intro k i h0 hd hk
    obtain ⟨k, rfl⟩ : ∃ m, k = m + 1 := ⟨k - 1, by omega⟩
    simp only [gutterref14_Tallest.l0]
    have e : ∀ x y : Int, mx x y = max x y := fun x y => by unfold mx; split <;> omega
    rw [if_pos (by omega), if_pos (by omega), rd32_f2, e, ← fold_snoc l i (by omega), w64 (x := (i : Int) + 1) (by omega), show ((i : Int) + 1) = ((i + 1 : Nat) : Int) by push_cast; rfl]
    exact ih k (i + 1) (by omega) (by omega) (by omega)
theorem rtall_k (l : List S32) (hn : l.length ≤ 2000) {k : Nat} (hk : l.length < k) : gutterref14_Tallest.f k l = some (tallA l) := by
  have := rtall_l0 l hn l.length k 0 (by omega) (by omega) (by omega)
  simpa [gutterref14_Tallest.f] using this

end Go.Proofs.YtjpifknencfipaaDoor.P
