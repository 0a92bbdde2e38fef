/- Where the pieces of a row lie, in plain Lean: which column each is in, where that column begins. Conditions: none. -/
import Derived.Test.YtjpifknencfipaaDoorLr
import Derived.Test.YtjpifknencfipaaDoorP40
set_option linter.unusedVariables false
set_option linter.unusedSimpArgs false
namespace Go.Proofs.YtjpifknencfipaaDoor.P
open Go.RowKit Go.Proofs.YtjpifknencfipaaDoorW.PrintWords Go.Proofs.YtjpifknencfipaaDoorW.PrintLast Go.Proofs.YtjpifknencfipaaDoorW.PrintMore

theorem frags_get (l : List S32) (w gap : Int) (i a : Nat) : ∀ n k, k < n → (fragsA l w gap i a n)[k]? = some (fragA l w gap i a (a + k))
  | 0, k, h => by omega
  | n + 1, k, h => by
    show (fragsA l w gap i a n ++ [fragA l w gap i a (a + n)])[k]? = _
    by_cases hk : k < n
    · rw [List.getElem?_append_left (by rw [frags_len]; exact hk)]
      exact frags_get l w gap i a n k hk
    · obtain rfl : k = n := by omega
      rw [List.getElem?_append_right (by rw [frags_len]; omega), frags_len, Nat.sub_self]
      rfl

/-- Which column an atom is in, where that column begins. -/
def locF : List ColA → Nat → Nat → Nat × Nat
  | [], j, i => (j, 0)
  | c :: cs, j, i => if i < c.b then (j, c.a) else locF cs (j + 1) i

theorem row_locs (l : List S32) (w gap h : Int) : ∀ n a j, l.length - a ≤ n → a ≤ l.length →
    (rowA l w gap j (colsA l h n a)).length = l.length - a ∧
    (∀ i, a ≤ i → i < l.length → (rowA l w gap j (colsA l h n a))[i - a]? = some (fragA l w gap (locF (colsA l h n a) j i).1 (locF (colsA l h n a) j i).2 i)) ∧
    (∀ i, a ≤ i → i < l.length → j ≤ (locF (colsA l h n a) j i).1 ∧ (locF (colsA l h n a) j i).1 < j + (colsA l h n a).length ∧ (locF (colsA l h n a) j i).2 ≤ i ∧ i < (endA l h (locF (colsA l h n a) j i).2).1) ∧
    (∀ i, a < i → i < l.length → locF (colsA l h n a) j i = locF (colsA l h n a) j (i - 1) ∨ ((locF (colsA l h n a) j i).1 = (locF (colsA l h n a) j (i - 1)).1 + 1 ∧ (locF (colsA l h n a) j i).2 = i)) ∧
    (a < l.length → locF (colsA l h n a) j a = (j, a))
  | 0, a, j, hn, ha => ⟨by simp [colsA, rowA]; omega, fun i h1 h2 => by omega, fun i h1 h2 => by omega, fun i h1 h2 => by omega, fun h1 => by omega⟩
  | n + 1, a, j, hn, ha => by
    unfold colsA
    by_cases hlt : a < l.length
    · rw [if_pos hlt]
      have hb := end_bounds l h a hlt
      obtain ⟨i1, i2, i3, i4, i5⟩ := row_locs l w gap h n (endA l h a).1 (j + 1) (by omega) hb.2
      have hin : ∀ i, i < (endA l h a).1 → locF (colA l h a :: colsA l h n (endA l h a).1) j i = (j, a) := fun i hi => if_pos hi
      have hout : ∀ i, ¬ i < (endA l h a).1 → locF (colA l h a :: colsA l h n (endA l h a).1) j i = locF (colsA l h n (endA l h a).1) (j + 1) i := fun i hi => if_neg hi
      have hrow : rowA l w gap j (colA l h a :: colsA l h n (endA l h a).1) = fragsA l w gap j a ((endA l h a).1 - a) ++ rowA l w gap (j + 1) (colsA l h n (endA l h a).1) := rfl
      refine ⟨?_, fun i h1 h2 => ?_, fun i h1 h2 => ?_, fun i h1 h2 => ?_, fun h1 => hin a hb.1⟩
      · rw [hrow, List.length_append, frags_len, i1]
        omega
      · rw [hrow]
        by_cases q : i < (endA l h a).1
        · rw [hin i q, List.getElem?_append_left (by rw [frags_len]; omega), frags_get l w gap j a _ _ (by omega), show a + (i - a) = i by omega]
        · rw [hout i q, List.getElem?_append_right (by rw [frags_len]; omega), frags_len, show i - a - ((endA l h a).1 - a) = i - (endA l h a).1 by omega]
          exact i2 i (by omega) h2
      · by_cases q : i < (endA l h a).1
        · rw [hin i q]
          exact ⟨Nat.le_refl _, by simp, h1, q⟩
        · rw [hout i q]
          obtain ⟨q1, q2, q3, q4⟩ := i3 i (by omega) h2
          exact ⟨by omega, by rw [List.length_cons]; omega, q3, q4⟩
      · by_cases q : i < (endA l h a).1
        · rw [hin i q, hin (i - 1) (by omega)]
          exact .inl rfl
        · rw [hout i q]
          by_cases q2 : i = (endA l h a).1
          · subst q2
            rw [i5 h2, hin _ (by omega)]
            exact .inr ⟨rfl, rfl⟩
          · rw [hout (i - 1) (by omega)]
            exact i4 i (by omega) h2
    · rw [if_neg hlt]
      exact ⟨by simp [rowA]; omega, fun i h1 h2 => by omega, fun i h1 h2 => by omega, fun i h1 h2 => by omega, fun h1 => by omega⟩

/-- The column of an atom, where it begins. -/
def colF (l : List S32) (h : Int) (i : Nat) : Nat := (locF (fillA l h) 0 i).1
def begF (l : List S32) (h : Int) (i : Nat) : Nat := (locF (fillA l h) 0 i).2
theorem rowF_len (l : List S32) (w gap h : Int) : (rowA l w gap 0 (fillA l h)).length = l.length := by
  have := (row_locs l w gap h l.length 0 0 (by omega) (by omega)).1
  rwa [Nat.sub_zero] at this
theorem rowF_get (l : List S32) (w gap h : Int) (i : Nat) (hi : i < l.length) : (rowA l w gap 0 (fillA l h)).getD i z58 = fragA l w gap (colF l h i) (begF l h i) i := by
  have := (row_locs l w gap h l.length 0 0 (by omega) (by omega)).2.1 i (by omega) hi
  rw [Nat.sub_zero] at this
  rw [List.getD_eq_getElem?_getD]
  unfold fillA
  rw [this]
  rfl
theorem rowF_in (l : List S32) (h : Int) (i : Nat) (hi : i < l.length) : colF l h i < (fillA l h).length ∧ begF l h i ≤ i ∧ i < (endA l h (begF l h i)).1 := by
  have := (row_locs l 0 0 h l.length 0 0 (by omega) (by omega)).2.2.1 i (by omega) hi
  rw [Nat.zero_add] at this
  exact this.2
theorem rowF_next (l : List S32) (h : Int) (i : Nat) (h0 : 0 < i) (hi : i < l.length) : (colF l h i = colF l h (i - 1) ∧ begF l h i = begF l h (i - 1)) ∨ (colF l h i = colF l h (i - 1) + 1 ∧ begF l h i = i) := by
  have := (row_locs l 0 0 h l.length 0 0 (by omega) (by omega)).2.2.2.1 i (by omega) hi
  rcases this with e | e
  · exact .inl ⟨congrArg Prod.fst e, congrArg Prod.snd e⟩
  · exact .inr e
theorem rowF_zero (l : List S32) (h : Int) (hi : 0 < l.length) : colF l h 0 = 0 ∧ begF l h 0 = 0 := by
  have := (row_locs l 0 0 h l.length 0 0 (by omega) (by omega)).2.2.2.2 hi
  exact ⟨congrArg Prod.fst this, congrArg Prod.snd this⟩


/-! ### The pieces, one by one -/
def fewR (l : List S32) : List S32 := (fewA l).take 40
theorem fewR_len (l : List S32) : (fewR l).length ≤ 40 := by simp [fewR]; omega
theorem few17_f (l : List S32) : gutterlaw17_few.f l = some (fewR l) := by
  unfold gutterlaw17_few.f
  rw [few_f, Option.bind_some]
  have hmn : mn ((fewA l).length : Int) 40 = ((min (fewA l).length 40 : Nat) : Int) := by unfold mn; omega
  rw [hmn, if_pos (by omega), if_pos (by omega), Int.toNat_natCast]
  congr 1
  unfold fewR
  rw [List.take_eq_take_iff]
  omega
/-- How low a piece begins, in its column. -/
def topF (l : List S32) (h : Int) (i : Nat) : Int := hiA l (begF l h i) (i + 1) - hhA l i
theorem piece (l : List S32) (w gap h : Int) (i : Nat) (hi : i < l.length) :
    rd_T58 (rowA l w gap 0 (fillA l h)) (i : Int) = ⟨(atA l i).f0, (atA l i).f1, colF l h i, ⟨colF l h i * (w + gap), topF l h i, w, (atA l i).f2⟩⟩ := by
  rw [rd_58, rowF_get l w gap h i hi]
  rfl
theorem top_range {l : List S32} (hr : rightA l = true) (h : Int) (i : Nat) (hi : i < l.length) : 0 ≤ topF l h i ∧ topF l h i ≤ 2149580800000 ∧ (begF l h i = i → topF l h i = 0) ∧ (begF l h i ≠ i → topF l h i = hiA l (begF l h i) i + spA l i) := by
  have hh := hh_of hr i hi
  have hin := rowF_in l h i hi
  unfold topF
  by_cases q : begF l h i = i
  · rw [q, hi_one]
    omega
  · have h1 := hi_range hr (begF l h i) i (by omega) (by omega)
    have h2 := hi_range hr (begF l h i) (i + 1) (by omega) (by omega)
    have h3 := hi_succ l (begF l h i) i
    unfold stA at h3
    omega
/-- A piece in a column of several reaches no lower than the row is high. -/
theorem reach_le {l : List S32} (hr : rightA l = true) (h : Int) (i : Nat) (hi : i < l.length) : begF l h i = i ∨ topF l h i + hhA l i ≤ h := by
  have hin := rowF_in l h i hi
  by_cases q : begF l h i = i
  · exact .inl q
  · refine .inr ?_
    have he := end_bounds l h (begF l h i) (by omega)
    rcases (end_says l h (begF l h i) (by omega)).2.1 with e | e
    · have := hi_mono l hr (begF l h i) ((endA l h (begF l h i)).1 - (i + 1)) (i + 1) (by omega)
      rw [show i + 1 + ((endA l h (begF l h i)).1 - (i + 1)) = (endA l h (begF l h i)).1 by omega] at this
      unfold topF
      omega
    · omega
theorem reach_eq (l : List S32) (w gap h : Int) (hr : rightA l = true) (i : Nat) (hi : i < l.length) : reachF (rd_T58 (rowA l w gap 0 (fillA l h)) (i : Int)) = topF l h i + hhA l i := by
  rw [piece l w gap h i hi]
  have := top_range hr h i hi
  have := hh_of hr i hi
  show wrap64 (topF l h i + hhA l i) = _
  rw [w64 (by omega)]
theorem low_le (m : Int) : ∀ (l : List S58) (n : Int), n ≤ m → (∀ f, f ∈ l → reachF f ≤ m) → lowF n l ≤ m
  | [], n, hn, _ => hn
  | f :: fs, n, hn, h => by
    have h0 := h f (by simp)
    have h1 : mx n (reachF f) ≤ m := by
      unfold mx
      split <;> omega
    exact low_le m fs _ h1 (fun g hg => h g (by simp [hg]))
theorem low_ge : ∀ (l : List S58) (n : Int), n ≤ lowF n l ∧ ∀ f, f ∈ l → reachF f ≤ lowF n l
  | [], n => ⟨Int.le_refl _, fun f hf => by cases hf⟩
  | f :: fs, n => by
    have ih := low_ge fs (mx n (reachF f))
    have h1 : n ≤ mx n (reachF f) ∧ reachF f ≤ mx n (reachF f) := by
      unfold mx
      split <;> omega
    show n ≤ lowF (mx n (reachF f)) fs ∧ ∀ g, g ∈ f :: fs → reachF g ≤ lowF (mx n (reachF f)) fs
    refine ⟨by omega, fun g hg => ?_⟩
    rcases List.mem_cons.1 hg with rfl | hg
    · omega
    · exact ih.2 g hg
theorem mem_row {l : List S32} {w gap h : Int} {f : S58} (hf : f ∈ rowA l w gap 0 (fillA l h)) : ∃ i, i < l.length ∧ f = rd_T58 (rowA l w gap 0 (fillA l h)) (i : Int) := by
  obtain ⟨i, hi, rfl⟩ := List.getElem_of_mem hf
  refine ⟨i, by rw [rowF_len] at hi; exact hi, ?_⟩
  rw [rd_58]
  simp [List.getD_eq_getElem?_getD, List.getElem?_eq_getElem hi]
theorem row_mem {l : List S32} {w gap h : Int} (i : Nat) (hi : i < l.length) : rd_T58 (rowA l w gap 0 (fillA l h)) (i : Int) ∈ rowA l w gap 0 (fillA l h) := by
  have hl : i < (rowA l w gap 0 (fillA l h)).length := by rw [rowF_len]; exact hi
  rw [rd_58]
  simp only [List.getD_eq_getElem?_getD, List.getElem?_eq_getElem hl, Option.getD_some]
  exact List.getElem_mem hl
theorem fill_none (l : List S32) (h : Int) : ((l.length : Int) == 0) = ((fillA l h).length == (0 : Int)) := by
  have h1 := fill_lt l h 0
  rw [beg_zero] at h1
  rw [Bool.eq_iff_iff, beq_iff_eq, beq_iff_eq]
  omega

end Go.Proofs.YtjpifknencfipaaDoor.P
