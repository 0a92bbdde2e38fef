/- What the laws share, in plain Lean: where columns begin and end, cut atoms, columns with more height, columns where all together have at most the height. Conditions: none. -/
import Derived.Test.YtjpifknencfipaaDoorLo
set_option linter.unusedVariables false
set_option linter.unusedSimpArgs false
namespace Go.Proofs.YtjpifknencfipaaDoor.P
open Go.RowKit

/-- Lifts: more steps, the same answer. -/
theorem LeO.lift {α : Type} {f : Nat → Option α} (hm : ∀ k, Go.Proofs.YtjpifknencfipaaDoorW.PrintWords.LeO (f k) (f (k + 1))) {k : Nat} {r : α} (h : f k = some r) : ∀ d, f (k + d) = some r
  | 0 => h
  | d + 1 => hm _ _ (LeO.lift hm h d)
theorem LeO.liftLe {α : Type} {f : Nat → Option α} (hm : ∀ k, Go.Proofs.YtjpifknencfipaaDoorW.PrintWords.LeO (f k) (f (k + 1))) {k m : Nat} {r : α} (h : f k = some r) (hk : k ≤ m) : f m = some r := by
  obtain ⟨d, rfl⟩ := Nat.exists_eq_add_of_le hk
  exact LeO.lift hm h d

/-- Where column i begins, column 0 beginning at a. -/
def iterA (l : List S32) (h : Int) (a : Nat) : Nat → Nat
  | 0 => a
  | i + 1 => (endA l h (iterA l h a i)).1
theorem iter_shift (l : List S32) (h : Int) (a : Nat) : ∀ i, iterA l h (endA l h a).1 i = iterA l h a (i + 1)
  | 0 => rfl
  | i + 1 => by
    show (endA l h (iterA l h (endA l h a).1 i)).1 = _
    rw [iter_shift l h a i]
    rfl
theorem iter_stays (l : List S32) (h : Int) (a : Nat) (ha : l.length ≤ a) : ∀ i, l.length ≤ iterA l h a i
  | 0 => ha
  | i + 1 => by
    have := iter_stays l h a ha i
    show l.length ≤ (endA l h (iterA l h a i)).1
    unfold endA
    rw [show l.length - (iterA l h a i + 1) = 0 by omega]
    simp [scanA]
    omega
theorem cols_get (l : List S32) (h : Int) : ∀ n a, l.length - a ≤ n → ∀ i, (colsA l h n a)[i]? = if iterA l h a i < l.length then some (colA l h (iterA l h a i)) else none
  | 0, a, hn, i => by
    have := iter_stays l h a (by omega) i
    rw [if_neg (by omega)]
    simp [colsA]
  | n + 1, a, hn, i => by
    unfold colsA
    by_cases ha : a < l.length
    · rw [if_pos ha]
      cases i with
      | zero => simp [iterA, ha]
      | succ i =>
        have hb := end_bounds l h a ha
        rw [List.getElem?_cons_succ, cols_get l h n (endA l h a).1 (by omega) i, iter_shift]
    · rw [if_neg ha]
      have := iter_stays l h a (by omega) i
      rw [if_neg (by omega)]
      simp
/-- Where column i begins. -/
def begA (l : List S32) (h : Int) (i : Nat) : Nat := iterA l h 0 i
theorem beg_zero (l : List S32) (h : Int) : begA l h 0 = 0 := rfl
theorem beg_succ (l : List S32) (h : Int) (i : Nat) : begA l h (i + 1) = (endA l h (begA l h i)).1 := rfl
theorem fill_get (l : List S32) (h : Int) (i : Nat) : (fillA l h)[i]? = if begA l h i < l.length then some (colA l h (begA l h i)) else none := cols_get l h l.length 0 (by omega) i
theorem fill_lt (l : List S32) (h : Int) (i : Nat) : i < (fillA l h).length ↔ begA l h i < l.length := by
  have := fill_get l h i
  constructor
  · intro hi
    rw [List.getElem?_eq_getElem hi] at this
    by_cases hb : begA l h i < l.length
    · exact hb
    · rw [if_neg hb] at this
      cases this
  · intro hb
    rw [if_pos hb] at this
    exact (List.getElem?_eq_some_iff.1 this).1
theorem beg_le (l : List S32) (h : Int) : ∀ i, i ≤ (fillA l h).length → begA l h i ≤ l.length
  | 0, _ => by rw [beg_zero]; exact Nat.zero_le _
  | i + 1, hi => by
    rw [beg_succ]
    exact (end_bounds l h _ ((fill_lt l h i).1 (by omega))).2
theorem beg_end (l : List S32) (h : Int) : begA l h (fillA l h).length = l.length := by
  have h1 := beg_le l h _ (Nat.le_refl _)
  have h2 := fill_lt l h (fillA l h).length
  have : ¬ begA l h (fillA l h).length < l.length := fun hb => absurd (h2.2 hb) (by omega)
  omega
theorem beg_lt (l : List S32) (h : Int) (i : Nat) (hi : i < (fillA l h).length) : begA l h i < begA l h (i + 1) ∧ begA l h (i + 1) ≤ l.length := by
  rw [beg_succ]
  exact end_bounds l h _ ((fill_lt l h i).1 hi)
theorem beg_ge (l : List S32) (h : Int) : ∀ i, i ≤ (fillA l h).length → i ≤ begA l h i
  | 0, _ => Nat.zero_le _
  | i + 1, hi => by
    have := beg_ge l h i (by omega)
    have := beg_lt l h i (by omega)
    omega
theorem fill_len (l : List S32) (h : Int) : (fillA l h).length ≤ l.length := by
  have := beg_ge l h _ (Nat.le_refl _)
  rw [beg_end] at this
  exact this
/-- What Fill tells. -/
def outA (l : List S32) (h : Int) : List S73 := (fillA l h).map (ColA.out l)
theorem out_len (l : List S32) (h : Int) : (outA l h).length = (fillA l h).length := by simp [outA]
theorem rd_out (l : List S32) (h : Int) (i : Nat) (hi : i < (fillA l h).length) : rd_T73 (outA l h) (i : Int) = ⟨begA l h i, begA l h (i + 1), hiA l (begA l h i) (begA l h (i + 1))⟩ := by
  have hg : (fillA l h)[i]? = some (colA l h (begA l h i)) := by rw [fill_get, if_pos ((fill_lt l h i).1 hi)]
  simp only [rd_T73, Int.toNat_natCast, List.getD_eq_getElem?_getD, outA, List.getElem?_map, hg]
  rfl
theorem rd_32 (l : List S32) (i : Nat) : rd_T32 l (i : Int) = atA l i := by simp [rd_T32, atA]

/-! ### What a column's end says -/
/-- The scan: what it passed is no must, and not too high; where it stopped for a must, there is one (or nothing more). -/
theorem scan_says (l : List S32) (h : Int) (a : Nat) : ∀ n i, i + n = l.length → a < i →
    (∀ j, i ≤ j → j < (scanA l h a n i).1 → bkA l j ≠ 2 ∧ hiA l a (j + 1) ≤ h) ∧
    ((scanA l h a n i).2 = true → (scanA l h a n i).1 < l.length ∧ bkA l (scanA l h a n i).1 ≠ 2 ∧ hiA l a ((scanA l h a n i).1 + 1) > h) ∧
    ((scanA l h a n i).2 = false → (scanA l h a n i).1 = l.length ∨ bkA l (scanA l h a n i).1 = 2)
  | 0, i, hn, ha => by
    simp only [scanA]
    exact ⟨fun j h1 h2 => by omega, fun e => (by cases e), fun _ => .inl (by omega)⟩
  | n + 1, i, hn, ha => by
    unfold scanA
    by_cases hb : bkA l i = 2
    · rw [if_pos hb]
      exact ⟨fun j h1 h2 => by simp only at h2; omega, fun e => (by cases e), fun _ => .inr hb⟩
    · rw [if_neg hb]
      by_cases hh : hiA l a (i + 1) > h
      · rw [if_pos hh]
        exact ⟨fun j h1 h2 => by simp only at h2; omega, fun _ => ⟨by simp only; omega, hb, hh⟩, fun e => (by cases e)⟩
      · rw [if_neg hh]
        obtain ⟨r1, r2, r3⟩ := scan_says l h a n (i + 1) (by omega) (by omega)
        refine ⟨fun j h1 h2 => ?_, r2, r3⟩
        by_cases hj : j = i
        · subst hj
          exact ⟨hb, by omega⟩
        · exact r1 j (by omega) h2
theorem back_says (l : List S32) (a d : Nat) : ∀ k, (backA l a d k = d ∧ ∀ j, a < j → j ≤ k → bkA l j ≠ 0) ∨ (a < backA l a d k ∧ backA l a d k ≤ k ∧ bkA l (backA l a d k) = 0)
  | 0 => .inl ⟨rfl, fun j h1 h2 => by omega⟩
  | k + 1 => by
    unfold backA
    by_cases h1 : k + 1 ≤ a
    · rw [if_pos h1]
      exact .inl ⟨rfl, fun j h2 h3 => by omega⟩
    · rw [if_neg h1]
      by_cases h2 : bkA l (k + 1) = 0
      · rw [if_pos h2]
        exact .inr ⟨by omega, by omega, h2⟩
      · rw [if_neg h2]
        rcases back_says l a d k with ⟨e, r⟩ | ⟨r1, r2, r3⟩
        · refine .inl ⟨e, fun j h3 h4 => ?_⟩
          by_cases hj : j = k + 1
          · subst hj; exact h2
          · exact r j h3 (by omega)
        · exact .inr ⟨r1, by omega, r3⟩
/-- A column's end: within it no break must be; it is no higher than the height, or has one atom; where it ends there may be or must be a break, or nowhere within it one may be. -/
theorem end_says (l : List S32) (h : Int) (a : Nat) (ha : a < l.length) :
    (∀ j, a < j → j < (endA l h a).1 → bkA l j ≠ 2) ∧ (hiA l a (endA l h a).1 ≤ h ∨ (endA l h a).1 = a + 1) ∧
    ((endA l h a).1 = l.length ∨ bkA l (endA l h a).1 = 2 ∨ bkA l (endA l h a).1 = 0 ∨ ∀ j, a < j → j ≤ (endA l h a).1 → bkA l j ≠ 0) := by
  obtain ⟨r1, r2, r3⟩ := scan_says l h a (l.length - (a + 1)) (a + 1) (by omega) (by omega)
  have hsb := scan_bounds l h a (l.length - (a + 1)) (a + 1)
  unfold endA
  simp only []
  generalize scanA l h a (l.length - (a + 1)) (a + 1) = s at r1 r2 r3 hsb
  have hhi : ∀ b, a < b → b ≤ s.1 → hiA l a b ≤ h ∨ b = a + 1 := fun b h1 h2 => by
    by_cases hb : b = a + 1
    · exact .inr hb
    · have := (r1 (b - 1) (by omega) (by omega)).2
      rw [show b - 1 + 1 = b by omega] at this
      exact .inl this
  by_cases hs : s.2 = true
  · rw [if_pos hs]
    simp only []
    rcases back_says l a s.1 s.1 with ⟨e, q⟩ | ⟨q1, q2, q3⟩
    · rw [e]
      exact ⟨fun j h1 h2 => (r1 j (by omega) h2).1, hhi s.1 (by omega) (Nat.le_refl _), .inr (.inr (.inr q))⟩
    · exact ⟨fun j h1 h2 => (r1 j (by omega) (by omega)).1, hhi _ q1 q2, .inr (.inr (.inl q3))⟩
  · rw [if_neg hs]
    simp only []
    refine ⟨fun j h1 h2 => (r1 j (by omega) h2).1, hhi s.1 (by omega) (Nat.le_refl _), ?_⟩
    rcases r3 (by simpa using hs) with e | e
    · exact .inl e
    · exact .inr (.inl e)

end Go.Proofs.YtjpifknencfipaaDoor.P

namespace Go.Proofs.YtjpifknencfipaaDoor.P
open Go.RowKit Go.Proofs.YtjpifknencfipaaDoorW.PrintWords Go.Proofs.YtjpifknencfipaaDoorW.PrintLast Go.Proofs.YtjpifknencfipaaDoorW.PrintMore

theorem w64 {x : Int} (h : -9223372036854775808 ≤ x ∧ x ≤ 9223372036854775807) : wrap64 x = x := by unfold wrap64; omega

/-- The first one hundred and fifty atoms, cut. -/
def fewA (l : List S32) : List S32 := (l.take 150).map cutA
theorem few_len (l : List S32) : (fewA l).length ≤ 150 := by simp [fewA]; omega
theorem few_f (l : List S32) : gutterlaw13_Few.f l = some (fewA l) := rfl


theorem scan_same (l : List S32) (h h' : Int) (hh : h ≤ h') (a : Nat) : ∀ n i, ((scanA l h a n i).2 = true → hiA l a ((scanA l h a n i).1 + 1) > h') → scanA l h' a n i = scanA l h a n i
  | 0, i, _ => rfl
  | n + 1, i, hs => by
    unfold scanA at hs ⊢
    by_cases hb : bkA l i = 2
    · rw [if_pos hb, if_pos hb]
    · rw [if_neg hb] at hs
      rw [if_neg hb, if_neg hb]
      by_cases hi : hiA l a (i + 1) > h
      · rw [if_pos hi] at hs ⊢
        rw [if_pos (hs rfl)]
      · rw [if_neg hi] at hs ⊢
        rw [if_neg (by omega)]
        exact scan_same l h h' hh a n (i + 1) hs
theorem end_over (l : List S32) (h : Int) (a : Nat) (ha : a < l.length) : ((endA l h a).2 = 0 ∧ (scanA l h a (l.length - (a + 1)) (a + 1)).2 = false) ∨
    ((endA l h a).2 = (scanA l h a (l.length - (a + 1)) (a + 1)).1 ∧ a < (endA l h a).2 ∧ (endA l h a).2 < l.length ∧ (scanA l h a (l.length - (a + 1)) (a + 1)).2 = true ∧ hiA l a ((endA l h a).2 + 1) > h) := by
  obtain ⟨_, r2, _⟩ := scan_says l h a (l.length - (a + 1)) (a + 1) (by omega) (by omega)
  have hsb := scan_bounds l h a (l.length - (a + 1)) (a + 1)
  unfold endA
  simp only []
  generalize scanA l h a (l.length - (a + 1)) (a + 1) = s at r2 hsb
  by_cases hs : s.2 = true
  · rw [if_pos hs]
    obtain ⟨q1, _, q3⟩ := r2 hs
    exact .inr ⟨rfl, by simp only; omega, q1, hs, q3⟩
  · rw [if_neg hs]
    exact .inl ⟨rfl, by simpa using hs⟩
theorem end_same (l : List S32) (h h' : Int) (hh : h ≤ h') (a : Nat) (ha : a < l.length) (ho : (endA l h a).2 ≠ 0 → hiA l a ((endA l h a).2 + 1) > h') : endA l h' a = endA l h a := by
  have hs : scanA l h' a (l.length - (a + 1)) (a + 1) = scanA l h a (l.length - (a + 1)) (a + 1) := by
    refine scan_same l h h' hh a _ _ fun e => ?_
    rcases end_over l h a ha with ⟨_, q⟩ | ⟨q1, q2, _, _, _⟩
    · rw [q] at e
      cases e
    · rw [← q1]
      exact ho (by omega)
  unfold endA
  rw [hs]
theorem cols_same (l : List S32) (h h' : Int) (hh : h ≤ h') : ∀ n a, (∀ c ∈ colsA l h n a, c.o ≠ 0 → hiA l c.a (c.o + 1) > h') → colsA l h' n a = colsA l h n a
  | 0, _, _ => rfl
  | n + 1, a, hc => by
    unfold colsA at hc ⊢
    by_cases ha : a < l.length
    · rw [if_pos ha] at hc
      rw [if_pos ha, if_pos ha]
      have he := end_same l h h' hh a ha (hc _ List.mem_cons_self)
      have h1 : colA l h' a = colA l h a := by unfold colA; rw [he]
      rw [h1, he, cols_same l h h' hh n _ (fun c hm => hc c (List.mem_cons_of_mem _ hm))]
    · rw [if_neg ha, if_neg ha]
theorem fill_same (l : List S32) (h h' : Int) (hh : h ≤ h') (hc : ∀ c ∈ fillA l h, c.o ≠ 0 → hiA l c.a (c.o + 1) > h') : fillA l h' = fillA l h := cols_same l h h' hh _ _ hc

/-- Each column of the list. -/
theorem mem_cols (l : List S32) (h : Int) (c : ColA) : ∀ n a, c ∈ colsA l h n a → c.a < l.length ∧ c = colA l h c.a
  | 0, a, hm => by simp [colsA] at hm
  | n + 1, a, hm => by
    unfold colsA at hm
    by_cases ha : a < l.length
    · rw [if_pos ha] at hm
      rcases List.mem_cons.1 hm with rfl | hm
      · exact ⟨ha, rfl⟩
      · exact mem_cols l h c n _ hm
    · rw [if_neg ha] at hm
      cases hm
theorem over_says (l : List S32) (hr : rightA l = true) (h : Int) (h0 : 0 ≤ h) (c : ColA) (hm : c ∈ fillA l h) : (c.o = 0 ∧ c.over l = 0) ∨ (c.o ≠ 0 ∧ c.over l = hiA l c.a (c.o + 1) ∧ c.over l > h) := by
  obtain ⟨h1, h2⟩ := mem_cols l h c _ _ hm
  have ho : c.o = (endA l h c.a).2 := by rw [h2]; rfl
  rcases end_over l h c.a h1 with ⟨q, _⟩ | ⟨_, q2, q3, _, q5⟩
  · exact .inl ⟨ho.trans q, by unfold ColA.over; rw [if_pos (ho.trans q)]⟩
  · rw [← ho] at q2 q3 q5
    have hne : c.o ≠ 0 := by omega
    refine .inr ⟨hne, ?_⟩
    unfold ColA.over
    rw [if_neg hne]
    exact ⟨rfl, q5⟩

/-- The least. -/
theorem least_says (l : List S32) : ∀ (cs : List ColA) (m : Int), (∀ c ∈ cs, 0 ≤ c.over l) → 0 ≤ m →
    0 ≤ leastA l m cs ∧ (m ≠ 0 → leastA l m cs ≠ 0 ∧ leastA l m cs ≤ m) ∧ (∀ c ∈ cs, c.over l ≠ 0 → leastA l m cs ≠ 0 ∧ leastA l m cs ≤ c.over l) ∧ (leastA l m cs = m ∨ ∃ c ∈ cs, leastA l m cs = c.over l ∧ c.over l ≠ 0)
  | [], m, _, hm => ⟨hm, fun h => ⟨h, Int.le_refl _⟩, fun c hc => (by cases hc), .inl rfl⟩
  | c :: cs, m, ho, hm => by
    have hc := ho c List.mem_cons_self
    unfold leastA
    by_cases hcond : c.over l ≠ 0 ∧ (m = 0 ∨ c.over l < m)
    · rw [if_pos hcond]
      obtain ⟨r1, r2, r3, r4⟩ := least_says l cs (c.over l) (fun x hx => ho x (List.mem_cons_of_mem _ hx)) hc
      have r2' := r2 hcond.1
      refine ⟨r1, fun h => ⟨r2'.1, by omega⟩, fun x hx hne => ?_, ?_⟩
      · rcases List.mem_cons.1 hx with rfl | hx
        · exact r2'
        · exact r3 x hx hne
      · rcases r4 with e | ⟨x, hx, e⟩
        · exact .inr ⟨c, List.mem_cons_self, e, hcond.1⟩
        · exact .inr ⟨x, List.mem_cons_of_mem _ hx, e⟩
    · rw [if_neg hcond]
      obtain ⟨r1, r2, r3, r4⟩ := least_says l cs m (fun x hx => ho x (List.mem_cons_of_mem _ hx)) hm
      refine ⟨r1, r2, fun x hx hne => ?_, ?_⟩
      · rcases List.mem_cons.1 hx with rfl | hx
        · have := r2 (by omega)
          exact ⟨this.1, by omega⟩
        · exact r3 x hx hne
      · rcases r4 with e | ⟨x, hx, e⟩
        · exact .inl e
        · exact .inr ⟨x, List.mem_cons_of_mem _ hx, e⟩
/-- The next height: none, and then nothing was too much; or greater than the height, and at most whatever was too much. -/
theorem short_says (l : List S32) (hr : rightA l = true) (h : Int) (h0 : 0 ≤ h) : (shortA l h = 0 ∧ ∀ c ∈ fillA l h, c.o = 0) ∨ (shortA l h > h ∧ (∃ c ∈ fillA l h, c.o ≠ 0 ∧ shortA l h = hiA l c.a (c.o + 1)) ∧ ∀ c ∈ fillA l h, c.o ≠ 0 → shortA l h ≤ hiA l c.a (c.o + 1)) := by
  have hov := fun c hm => over_says l hr h h0 c hm
  obtain ⟨r1, _, r3, r4⟩ := least_says l (fillA l h) 0 (fun c hm => by rcases hov c hm with ⟨_, e⟩ | ⟨_, _, e⟩ <;> omega) (Int.le_refl _)
  rcases r4 with e | ⟨c, hm, e1, e2⟩
  · refine .inl ⟨e, fun c hm => ?_⟩
    rcases hov c hm with ⟨q, _⟩ | ⟨q1, q2, q3⟩
    · exact q
    · exact absurd e (r3 c hm (by omega)).1
  · rcases hov c hm with ⟨_, q⟩ | ⟨q1, q2, q3⟩
    · exact absurd q e2
    · refine .inr ⟨?_, ⟨c, hm, q1, e1.trans q2⟩, fun x hx hne => ?_⟩
      · show leastA l 0 (fillA l h) > h
        rw [e1]
        exact q3
      · rcases hov x hx with ⟨p, _⟩ | ⟨_, p2, p3⟩
        · exact absurd p hne
        · rw [← p2]
          exact (r3 x hx (by omega)).2

/-! ### Where all together have at most the height -/
theorem hi_mono (l : List S32) (hr : rightA l = true) (a : Nat) : ∀ d b, b + d ≤ l.length → hiA l a b ≤ hiA l a (b + d)
  | 0, b, _ => Int.le_refl _
  | d + 1, b, hb => by
    have := hi_mono l hr a d b (by omega)
    have hs := hi_succ l a (b + d)
    have hh := hh_of hr (b + d) (by omega)
    unfold stA at hs
    rw [show b + (d + 1) = b + d + 1 by omega]
    omega
theorem hi_all (l : List S32) (hr : rightA l = true) (a b : Nat) (hab : a < b) (hb : b ≤ l.length) : hiA l a b ≤ allA l := by
  have h1 : hiA l a b ≤ hiA l 0 b := by
    by_cases ha : a = 0
    · subst ha; exact Int.le_refl _
    · have h0 := hi_range hr 0 a (by omega) (by omega)
      have hh := hh_of hr a (by omega)
      unfold hiA at h0 ⊢
      omega
  have h2 := hi_mono l hr 0 (l.length - b) b (by omega)
  rw [show b + (l.length - b) = l.length by omega] at h2
  unfold allA
  rw [if_neg (by omega)]
  omega
theorem all_no_over (l : List S32) (hr : rightA l = true) (h : Int) (h0 : 0 ≤ h) (hh : allA l ≤ h) : ∀ c ∈ fillA l h, c.o = 0 := by
  intro c hm
  obtain ⟨h1, h2⟩ := mem_cols l h c _ _ hm
  have ho : c.o = (endA l h c.a).2 := by rw [h2]; rfl
  rcases end_over l h c.a h1 with ⟨q, _⟩ | ⟨_, q2, q3, _, q5⟩
  · exact ho.trans q
  · have := hi_all l hr c.a ((endA l h c.a).2 + 1) (by omega) (by omega)
    omega
theorem all_range (l : List S32) (hr : rightA l = true) : 0 ≤ allA l ∧ allA l ≤ 2149580800000 := by
  unfold allA
  split
  · omega
  · have := hi_range hr 0 l.length (by omega) (Nat.le_refl _)
    omega
theorem short_all (l : List S32) (hr : rightA l = true) (h : Int) (h0 : 0 ≤ h) (hh : allA l ≤ h) : shortA l h = 0 := by
  rcases short_says l hr h h0 with ⟨e, _⟩ | ⟨_, ⟨c, hm, hne, _⟩, _⟩
  · exact e
  · exact absurd (all_no_over l hr h h0 hh c hm) hne

/-- Breaks that must be, among n atoms from i on. -/
def mustA (l : List S32) (i : Nat) : Nat → Nat
  | 0 => 0
  | n + 1 => (if bkA l i = 2 then 1 else 0) + mustA l (i + 1) n
theorem must_skip (l : List S32) : ∀ d i n, (∀ j, i ≤ j → j < i + d → bkA l j ≠ 2) → mustA l i (d + n) = mustA l (i + d) n
  | 0, i, n, _ => by simp
  | d + 1, i, n, hb => by
    rw [show d + 1 + n = d + n + 1 by omega]
    have e : mustA l i (d + n + 1) = (if bkA l i = 2 then 1 else 0) + mustA l (i + 1) (d + n) := rfl
    rw [e, if_neg (hb i (by omega) (by omega)), must_skip l d (i + 1) n (fun j h1 h2 => hb j (by omega) (by omega)), show i + 1 + d = i + (d + 1) by omega]
    omega
theorem cols_count (l : List S32) (hr : rightA l = true) (h : Int) (h0 : 0 ≤ h) (hh : allA l ≤ h) : ∀ n a, l.length - a ≤ n → a ≤ l.length → (colsA l h n a).length = if a < l.length then 1 + mustA l (a + 1) (l.length - (a + 1)) else 0
  | 0, a, hn, ha => by rw [if_neg (by omega)]; simp [colsA]
  | n + 1, a, hn, ha => by
    unfold colsA
    by_cases hlt : a < l.length
    · rw [if_pos hlt, if_pos hlt]
      have hb := end_bounds l h a hlt
      have hs := end_says l h a hlt
      have hno : (scanA l h a (l.length - (a + 1)) (a + 1)).2 = false := by
        rcases end_over l h a hlt with ⟨_, q⟩ | ⟨_, q2, q3, _, q5⟩
        · exact q
        · have := hi_all l hr a ((endA l h a).2 + 1) (by omega) (by omega)
          omega
      have hend : (endA l h a).1 = l.length ∨ bkA l (endA l h a).1 = 2 := by
        obtain ⟨_, _, r3⟩ := scan_says l h a (l.length - (a + 1)) (a + 1) (by omega) (by omega)
        have he : (endA l h a).1 = (scanA l h a (l.length - (a + 1)) (a + 1)).1 := by
          unfold endA
          simp only []
          rw [if_neg (by rw [hno]; simp)]
        rw [he]
        exact r3 hno
      rw [List.length_cons, cols_count l hr h h0 hh n _ (by omega) hb.2]
      have hsk := must_skip l ((endA l h a).1 - (a + 1)) (a + 1) (l.length - (endA l h a).1) (fun j h1 h2 => hs.1 j (by omega) (by omega))
      rw [show (endA l h a).1 - (a + 1) + (l.length - (endA l h a).1) = l.length - (a + 1) by omega, show a + 1 + ((endA l h a).1 - (a + 1)) = (endA l h a).1 by omega] at hsk
      rw [hsk]
      by_cases he : (endA l h a).1 < l.length
      · rw [if_pos he]
        have hbk : bkA l (endA l h a).1 = 2 := by
          rcases hend with e | e
          · omega
          · exact e
        rw [show l.length - (endA l h a).1 = l.length - ((endA l h a).1 + 1) + 1 by omega]
        conv => rhs; rw [mustA]
        rw [if_pos hbk]
        omega
      · rw [if_neg he, show l.length - (endA l h a).1 = 0 by omega]
        rfl
    · rw [if_neg hlt, if_neg hlt]
      rfl
theorem fill_count (l : List S32) (hr : rightA l = true) (h : Int) (h0 : 0 ≤ h) (hh : allA l ≤ h) : (fillA l h).length = if 0 < l.length then 1 + mustA l 1 (l.length - 1) else 0 := cols_count l hr h h0 hh l.length 0 (by omega) (by omega)

end Go.Proofs.YtjpifknencfipaaDoor.P
