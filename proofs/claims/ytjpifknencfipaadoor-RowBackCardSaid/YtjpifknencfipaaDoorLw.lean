/- What the laws share, in plain Lean: cut atoms, how high atoms are and whether they are right as the other package tells it, which columns are the same, that columns are known. Conditions: none. -/
import Derived.Test.YtjpifknencfipaaDoorLo
import Derived.Test.YtjpifknencfipaaDoorP27
import Derived.Test.YtjpifknencfipaaDoorP28
import Derived.Test.YtjpifknencfipaaDoorP67
set_option linter.unusedVariables false
set_option linter.unusedSimpArgs false
namespace Go.Proofs.YtjpifknencfipaaDoor.P
open Go.RowKit

/-- Lifts: more steps, the same answer. -/
theorem LeO.lift {α : Type} {f : Nat → Option α} (hm : ∀ k, Go.Proofs.YtjpifknencfipaaDoorW.PrintWords.LeO (f k) (f (k + 1))) {k : Nat} {r : α} (h : f k = some r) : ∀ d, f (k + d) = some r
  | 0 => h
  | d + 1 => hm _ _ (LeO.lift hm h d)
theorem LeO.liftLe {α : Type} {f : Nat → Option α} (hm : ∀ k, Go.Proofs.YtjpifknencfipaaDoorW.PrintWords.LeO (f k) (f (k + 1))) {k m : Nat} {r : α} (h : f k = some r) (hk : k ≤ m) : f m = some r := by
  obtain ⟨d, rfl⟩ := Nat.exists_eq_add_of_le hk
  exact LeO.lift hm h d

/-- Where column i begins, column 0 beginning at a. -/
def iterA (l : List S32) (h : Int) (a : Nat) : Nat → Nat
  | 0 => a
  | i + 1 => (endA l h (iterA l h a i)).1
theorem iter_shift (l : List S32) (h : Int) (a : Nat) : ∀ i, iterA l h (endA l h a).1 i = iterA l h a (i + 1)
  | 0 => rfl
  | i + 1 => by
    show (endA l h (iterA l h (endA l h a).1 i)).1 = _
    rw [iter_shift l h a i]
    rfl
theorem iter_stays (l : List S32) (h : Int) (a : Nat) (ha : l.length ≤ a) : ∀ i, l.length ≤ iterA l h a i
  | 0 => ha
  | i + 1 => by
    have := iter_stays l h a ha i
    show l.length ≤ (endA l h (iterA l h a i)).1
    unfold endA
    rw [show l.length - (iterA l h a i + 1) = 0 by omega]
    simp [scanA]
    omega
theorem cols_get (l : List S32) (h : Int) : ∀ n a, l.length - a ≤ n → ∀ i, (colsA l h n a)[i]? = if iterA l h a i < l.length then some (colA l h (iterA l h a i)) else none
  | 0, a, hn, i => by
    have := iter_stays l h a (by omega) i
    rw [if_neg (by omega)]
    simp [colsA]
  | n + 1, a, hn, i => by
    unfold colsA
    by_cases ha : a < l.length
    · rw [if_pos ha]
      cases i with
      | zero => simp [iterA, ha]
      | succ i =>
        have hb := end_bounds l h a ha
        rw [List.getElem?_cons_succ, cols_get l h n (endA l h a).1 (by omega) i, iter_shift]
    · rw [if_neg ha]
      have := iter_stays l h a (by omega) i
      rw [if_neg (by omega)]
      simp
/-- Where column i begins. -/
def begA (l : List S32) (h : Int) (i : Nat) : Nat := iterA l h 0 i
theorem beg_zero (l : List S32) (h : Int) : begA l h 0 = 0 := rfl
theorem beg_succ (l : List S32) (h : Int) (i : Nat) : begA l h (i + 1) = (endA l h (begA l h i)).1 := rfl
theorem fill_get (l : List S32) (h : Int) (i : Nat) : (fillA l h)[i]? = if begA l h i < l.length then some (colA l h (begA l h i)) else none := cols_get l h l.length 0 (by omega) i
theorem fill_lt (l : List S32) (h : Int) (i : Nat) : i < (fillA l h).length ↔ begA l h i < l.length := by
  have := fill_get l h i
  constructor
  · intro hi
    rw [List.getElem?_eq_getElem hi] at this
    by_cases hb : begA l h i < l.length
    · exact hb
    · rw [if_neg hb] at this
      cases this
  · intro hb
    rw [if_pos hb] at this
    exact (List.getElem?_eq_some_iff.1 this).1
theorem beg_le (l : List S32) (h : Int) : ∀ i, i ≤ (fillA l h).length → begA l h i ≤ l.length
  | 0, _ => by rw [beg_zero]; exact Nat.zero_le _
  | i + 1, hi => by
    rw [beg_succ]
    exact (end_bounds l h _ ((fill_lt l h i).1 (by omega))).2
theorem beg_end (l : List S32) (h : Int) : begA l h (fillA l h).length = l.length := by
  have h1 := beg_le l h _ (Nat.le_refl _)
  have h2 := fill_lt l h (fillA l h).length
  have : ¬ begA l h (fillA l h).length < l.length := fun hb => absurd (h2.2 hb) (by omega)
  omega
theorem beg_lt (l : List S32) (h : Int) (i : Nat) (hi : i < (fillA l h).length) : begA l h i < begA l h (i + 1) ∧ begA l h (i + 1) ≤ l.length := by
  rw [beg_succ]
  exact end_bounds l h _ ((fill_lt l h i).1 hi)
theorem beg_ge (l : List S32) (h : Int) : ∀ i, i ≤ (fillA l h).length → i ≤ begA l h i
  | 0, _ => Nat.zero_le _
  | i + 1, hi => by
    have := beg_ge l h i (by omega)
    have := beg_lt l h i (by omega)
    omega
theorem fill_len (l : List S32) (h : Int) : (fillA l h).length ≤ l.length := by
  have := beg_ge l h _ (Nat.le_refl _)
  rw [beg_end] at this
  exact this
/-- What Fill tells. -/
def outA (l : List S32) (h : Int) : List S73 := (fillA l h).map (ColA.out l)
theorem out_len (l : List S32) (h : Int) : (outA l h).length = (fillA l h).length := by simp [outA]
theorem rd_out (l : List S32) (h : Int) (i : Nat) (hi : i < (fillA l h).length) : rd_T73 (outA l h) (i : Int) = ⟨begA l h i, begA l h (i + 1), hiA l (begA l h i) (begA l h (i + 1))⟩ := by
  have hg : (fillA l h)[i]? = some (colA l h (begA l h i)) := by rw [fill_get, if_pos ((fill_lt l h i).1 hi)]
  simp only [rd_T73, Int.toNat_natCast, List.getD_eq_getElem?_getD, outA, List.getElem?_map, hg]
  rfl
theorem rd_32 (l : List S32) (i : Nat) : rd_T32 l (i : Int) = atA l i := by simp [rd_T32, atA]

/-! ### What a column's end says -/
/-- The scan: what it passed is no must, and not too high; where it stopped for a must, there is one (or nothing more). -/
theorem scan_says (l : List S32) (h : Int) (a : Nat) : ∀ n i, i + n = l.length → a < i →
    (∀ j, i ≤ j → j < (scanA l h a n i).1 → bkA l j ≠ 2 ∧ hiA l a (j + 1) ≤ h) ∧
    ((scanA l h a n i).2 = true → (scanA l h a n i).1 < l.length ∧ bkA l (scanA l h a n i).1 ≠ 2 ∧ hiA l a ((scanA l h a n i).1 + 1) > h) ∧
    ((scanA l h a n i).2 = false → (scanA l h a n i).1 = l.length ∨ bkA l (scanA l h a n i).1 = 2)
  | 0, i, hn, ha => by
    simp only [scanA]
    exact ⟨fun j h1 h2 => by omega, fun e => (by cases e), fun _ => .inl (by omega)⟩
  | n + 1, i, hn, ha => by
    unfold scanA
    by_cases hb : bkA l i = 2
    · rw [if_pos hb]
      exact ⟨fun j h1 h2 => by simp only at h2; omega, fun e => (by cases e), fun _ => .inr hb⟩
    · rw [if_neg hb]
      by_cases hh : hiA l a (i + 1) > h
      · rw [if_pos hh]
        exact ⟨fun j h1 h2 => by simp only at h2; omega, fun _ => ⟨by simp only; omega, hb, hh⟩, fun e => (by cases e)⟩
      · rw [if_neg hh]
        obtain ⟨r1, r2, r3⟩ := scan_says l h a n (i + 1) (by omega) (by omega)
        refine ⟨fun j h1 h2 => ?_, r2, r3⟩
        by_cases hj : j = i
        · subst hj
          exact ⟨hb, by omega⟩
        · exact r1 j (by omega) h2
theorem back_says (l : List S32) (a d : Nat) : ∀ k, (backA l a d k = d ∧ ∀ j, a < j → j ≤ k → bkA l j ≠ 0) ∨ (a < backA l a d k ∧ backA l a d k ≤ k ∧ bkA l (backA l a d k) = 0)
  | 0 => .inl ⟨rfl, fun j h1 h2 => by omega⟩
  | k + 1 => by
    unfold backA
    by_cases h1 : k + 1 ≤ a
    · rw [if_pos h1]
      exact .inl ⟨rfl, fun j h2 h3 => by omega⟩
    · rw [if_neg h1]
      by_cases h2 : bkA l (k + 1) = 0
      · rw [if_pos h2]
        exact .inr ⟨by omega, by omega, h2⟩
      · rw [if_neg h2]
        rcases back_says l a d k with ⟨e, r⟩ | ⟨r1, r2, r3⟩
        · refine .inl ⟨e, fun j h3 h4 => ?_⟩
          by_cases hj : j = k + 1
          · subst hj; exact h2
          · exact r j h3 (by omega)
        · exact .inr ⟨r1, by omega, r3⟩
/-- A column's end: within it no break must be; it is no higher than the height, or has one atom; where it ends there may be or must be a break, or nowhere within it one may be. -/
theorem end_says (l : List S32) (h : Int) (a : Nat) (ha : a < l.length) :
    (∀ j, a < j → j < (endA l h a).1 → bkA l j ≠ 2) ∧ (hiA l a (endA l h a).1 ≤ h ∨ (endA l h a).1 = a + 1) ∧
    ((endA l h a).1 = l.length ∨ bkA l (endA l h a).1 = 2 ∨ bkA l (endA l h a).1 = 0 ∨ ∀ j, a < j → j ≤ (endA l h a).1 → bkA l j ≠ 0) := by
  obtain ⟨r1, r2, r3⟩ := scan_says l h a (l.length - (a + 1)) (a + 1) (by omega) (by omega)
  have hsb := scan_bounds l h a (l.length - (a + 1)) (a + 1)
  unfold endA
  simp only []
  generalize scanA l h a (l.length - (a + 1)) (a + 1) = s at r1 r2 r3 hsb
  have hhi : ∀ b, a < b → b ≤ s.1 → hiA l a b ≤ h ∨ b = a + 1 := fun b h1 h2 => by
    by_cases hb : b = a + 1
    · exact .inr hb
    · have := (r1 (b - 1) (by omega) (by omega)).2
      rw [show b - 1 + 1 = b by omega] at this
      exact .inl this
  by_cases hs : s.2 = true
  · rw [if_pos hs]
    simp only []
    rcases back_says l a s.1 s.1 with ⟨e, q⟩ | ⟨q1, q2, q3⟩
    · rw [e]
      exact ⟨fun j h1 h2 => (r1 j (by omega) h2).1, hhi s.1 (by omega) (Nat.le_refl _), .inr (.inr (.inr q))⟩
    · exact ⟨fun j h1 h2 => (r1 j (by omega) (by omega)).1, hhi _ q1 q2, .inr (.inr (.inl q3))⟩
  · rw [if_neg hs]
    simp only []
    refine ⟨fun j h1 h2 => (r1 j (by omega) h2).1, hhi s.1 (by omega) (Nat.le_refl _), ?_⟩
    rcases r3 (by simpa using hs) with e | e
    · exact .inl e
    · exact .inr (.inl e)

end Go.Proofs.YtjpifknencfipaaDoor.P

namespace Go.Proofs.YtjpifknencfipaaDoor.P
open Go.RowKit Go.Proofs.YtjpifknencfipaaDoorW.PrintWords Go.Proofs.YtjpifknencfipaaDoorW.PrintLast Go.Proofs.YtjpifknencfipaaDoorW.PrintMore

theorem w64 {x : Int} (h : -9223372036854775808 ≤ x ∧ x ≤ 9223372036854775807) : wrap64 x = x := by unfold wrap64; omega

/-- The first one hundred and fifty atoms, cut. -/
def fewA (l : List S32) : List S32 := (l.take 150).map cutA
theorem few_len (l : List S32) : (fewA l).length ≤ 150 := by simp [fewA]; omega
theorem few_f (l : List S32) : gutterlaw13_Few.f l = some (fewA l) := rfl

/-! ### High -/
theorem high_l0 (l : List S32) (hn : l.length ≤ 9223372036854775807) (d : Nat) : ∀ (k i : Nat) (s : Int), i ≤ l.length → l.length - i = d → d < k →
    ∃ v, gutterref13_High.l0 k l s (i : Int) = some v ∧ (rightA l = true → s = (if i = 0 then 0 else hiA l 0 i) → v = allA l) := by
  induction d with
  | zero =>
    intro k i s h0 hd hk
    obtain ⟨k, rfl⟩ : ∃ m, k = m + 1 := ⟨k - 1, by omega⟩
    obtain rfl : i = l.length := by omega
    simp only [gutterref13_High.l0]
    rw [if_neg (by omega)]
    exact ⟨s, rfl, fun _ e => by rw [e]; rfl⟩
  | succ d ih =>
    intro k i s h0 hd hk
    obtain ⟨k, rfl⟩ : ∃ m, k = m + 1 := ⟨k - 1, by omega⟩
    have hlt : i < l.length := by omega
    simp only [gutterref13_High.l0]
    rw [if_pos (by omega), if_pos (by omega), wrap64_succ (n := l.length) (by omega) (by omega) hn, rd_32]
    rw [show ((i : Int) + 1) = ((i + 1 : Nat) : Int) by push_cast; rfl]
    by_cases hi : (i : Int) > 0
    · rw [if_pos hi]
      obtain ⟨v, h1, h2⟩ := ih k (i + 1) (wrap64 (wrap64 (s + (atA l i).f2) + (atA l i).f3)) (by omega) (by omega) (by omega)
      refine ⟨v, h1, fun hr e => h2 hr ?_⟩
      have hb := hi_range hr 0 i (by omega) (by omega)
      have hb2 := hi_range hr 0 (i + 1) (by omega) (by omega)
      have hs := hi_succ l 0 i
      have hh := hh_of hr i hlt
      rw [if_neg (by omega)] at e
      rw [if_neg (by omega), e]
      have e1 : (atA l i).f2 = hhA l i := rfl
      have e2 : (atA l i).f3 = spA l i := rfl
      rw [e1, e2, hs]
      unfold stA
      rw [w64 (x := hiA l 0 i + hhA l i) (by omega), w64 (by omega)]
      omega
    · rw [if_neg hi]
      obtain ⟨v, h1, h2⟩ := ih k (i + 1) (wrap64 (s + (atA l i).f2)) (by omega) (by omega) (by omega)
      refine ⟨v, h1, fun hr e => h2 hr ?_⟩
      have hi0 : i = 0 := by omega
      subst hi0
      have hh := hh_of hr 0 hlt
      rw [if_pos rfl] at e
      rw [if_neg (by omega), e]
      have e1 : (atA l 0).f2 = hhA l 0 := rfl
      rw [e1, hi_one, w64 (by omega)]
      omega
theorem high_some (l : List S32) (hn : l.length ≤ 9223372036854775807) : ∃ v, gutterref13_High.f (l.length + 1) l = some v ∧ (rightA l = true → v = allA l) := by
  obtain ⟨v, h1, h2⟩ := high_l0 l hn l.length (l.length + 1) 0 0 (by omega) (by omega) (by omega)
  exact ⟨v, h1, fun hr => h2 hr rfl⟩
theorem high_right (l : List S32) (hr : rightA l = true) {k : Nat} (hk : l.length < k) : gutterref13_High.f k l = some (allA l) := by
  obtain ⟨v, h1, h2⟩ := high_some l (by have := len_of hr; omega)
  rw [← h2 hr]
  exact LeO.liftLe (f := fun k => gutterref13_High.f k l) (gutterref13_High.mono l) h1 hk
theorem high_any (l : List S32) (hn : l.length ≤ 150) : ∃ v, ∀ k, l.length < k → gutterref13_High.f k l = some v := by
  obtain ⟨v, h1, _⟩ := high_some l (by omega)
  exact ⟨v, fun k hk => LeO.liftLe (f := fun k => gutterref13_High.f k l) (gutterref13_High.mono l) h1 hk⟩

/-! ### Right, as the other package tells it -/
theorem ref_right_l0 (l : List S32) (hn : l.length ≤ 9223372036854775807) (d : Nat) : ∀ (k i : Nat), i ≤ l.length → l.length - i = d → d < k →
    gutterref13_Right.l0 k l (i : Int) = some (decide (∀ x ∈ l.drop i, okA x) && decide (l.length ≤ 2000)) := by
  induction d with
  | zero =>
    intro k i h0 hd hk
    obtain ⟨k, rfl⟩ : ∃ m, k = m + 1 := ⟨k - 1, by omega⟩
    obtain rfl : i = l.length := by omega
    simp only [gutterref13_Right.l0]
    rw [if_neg (by omega)]
    simp
    omega
  | succ d ih =>
    intro k i h0 hd hk
    obtain ⟨k, rfl⟩ : ∃ m, k = m + 1 := ⟨k - 1, by omega⟩
    have hlt : i < l.length := by omega
    have hx : rd_T32 l (i : Int) = l[i] := by simp [rd_T32, List.getD_eq_getElem?_getD, List.getElem?_eq_getElem hlt]
    simp only [gutterref13_Right.l0]
    rw [if_pos (by omega), if_pos (by omega), wrap64_succ (n := l.length) (by omega) (by omega) hn, hx, List.drop_eq_getElem_cons hlt]
    have hi := ih k (i + 1) (by omega) (by omega) (by omega)
    rw [Int.natCast_add, Int.natCast_one] at hi
    rw [hi]
    generalize l.drop (i + 1) = ys
    generalize l[i] = y
    by_cases hok : okA y
    · have : decide (∀ x ∈ y :: ys, okA x) = decide (∀ x ∈ ys, okA x) := by simp [hok]
      rw [this]
      unfold okA at hok
      rw [if_neg (by omega), if_neg (by omega), if_neg (by omega), if_neg (by omega), if_neg (by omega), if_neg (by omega), if_neg (by omega), if_neg (by omega), if_neg (by omega)]
    · have : decide (∀ x ∈ y :: ys, okA x) = false := by simp [hok]
      rw [this]
      unfold okA at hok
      repeat' split
      all_goals first
        | rfl
        | (exfalso; omega)
theorem ref_right (l : List S32) (hn : l.length ≤ 2000) {k : Nat} (hk : l.length < k) : gutterref13_Right.f k l = some (rightA l) := by
  have := ref_right_l0 l (by omega) l.length (l.length + 1) 0 (by omega) (by omega) (by omega)
  rw [List.drop_zero] at this
  exact LeO.liftLe (f := fun k => gutterref13_Right.f k l) (gutterref13_Right.mono l) this hk

/-! ### Same -/
theorem s73_ext {x y : S73} (h0 : x.f0 = y.f0) (h1 : x.f1 = y.f1) (h2 : x.f2 = y.f2) : x = y := by cases x; cases y; simp_all
theorem neq73 (x y : S73) : ((!(x.f0 == y.f0) || (!(x.f1 == y.f1) || (!(x.f2 == y.f2)))) = true) ↔ x ≠ y := by
  constructor
  · rintro h rfl
    simp at h
  · intro h
    by_cases h0 : x.f0 = y.f0
    · by_cases h1 : x.f1 = y.f1
      · by_cases h2 : x.f2 = y.f2
        · exact absurd (s73_ext h0 h1 h2) h
        · simp [h2]
      · simp [h1]
    · simp [h0]
theorem rd73_eq {a : List S73} {i : Nat} (h : i < a.length) : rd_T73 a (i : Int) = a[i] := by simp [rd_T73, List.getD_eq_getElem?_getD, List.getElem?_eq_getElem h]
theorem ext_drop {α : Type} {a b : List α} {i : Nat} (ha : i < a.length) (hb : i < b.length) : (a.drop i = b.drop i) ↔ (a[i] = b[i] ∧ a.drop (i + 1) = b.drop (i + 1)) := by
  rw [List.drop_eq_getElem_cons ha, List.drop_eq_getElem_cons hb, List.cons.injEq]
theorem same_l0 (a b : List S73) (hab : a.length = b.length) (hn : a.length ≤ 9223372036854775807) (d : Nat) : ∀ (k i : Nat), i ≤ a.length → a.length - i = d → d < k →
    ∃ r, api_Col.l0 k a b (a.length : Int) (i : Int) = some r ∧ (r = true ↔ a.drop i = b.drop i) := by
  induction d with
  | zero =>
    intro k i h0 hd hk
    obtain ⟨k, rfl⟩ : ∃ m, k = m + 1 := ⟨k - 1, by omega⟩
    simp only [api_Col.l0]
    rw [if_neg (by omega)]
    refine ⟨true, rfl, ?_⟩
    rw [List.drop_eq_nil_of_le (by omega), List.drop_eq_nil_of_le (by omega)]
    simp
  | succ d ih =>
    intro k i h0 hd hk
    obtain ⟨k, rfl⟩ : ∃ m, k = m + 1 := ⟨k - 1, by omega⟩
    have hlt : i < a.length := by omega
    simp only [api_Col.l0]
    rw [if_pos (by omega), if_pos (by omega), if_pos (by omega), if_pos (by omega), wrap64_succ (n := a.length) (by omega) (by omega) hn, rd73_eq hlt, rd73_eq (show i < b.length by omega)]
    rw [ext_drop hlt (by omega)]
    obtain ⟨r, h1, h2⟩ := ih k (i + 1) (by omega) (by omega) (by omega)
    rw [Int.natCast_add, Int.natCast_one] at h1
    by_cases hne : a[i] = b[i]
    · rw [if_neg (fun e => (neq73 _ _).1 e hne)]
      exact ⟨r, h1, by rw [h2]; simp [hne]⟩
    · rw [if_pos ((neq73 _ _).2 hne)]
      exact ⟨false, rfl, by simp [hne]⟩
theorem same_f (a b : List S73) (hn : a.length ≤ 9223372036854775807) {k : Nat} (hk : a.length < k) : ∃ r, fill_Same.f k a b = some r ∧ (r = true ↔ a = b) := by
  unfold fill_Same.f api_Col.f
  by_cases hab : a.length = b.length
  · rw [if_pos (by omega)]
    obtain ⟨r, h1, h2⟩ := same_l0 a b hab hn a.length (a.length + 1) 0 (by omega) (by omega) (by omega)
    have h3 : api_Col.l0 k a b (a.length : Int) 0 = some r := LeO.liftLe (f := fun k => api_Col.l0 k a b (a.length : Int) 0) (fun k => (api_Col.mono_l k) a b _ _) h1 hk
    rw [h3]
    exact ⟨r, rfl, by simpa using h2⟩
  · rw [if_neg (by omega)]
    exact ⟨false, rfl, by simp; exact fun e => hab (by rw [e])⟩
theorem same_yes (a : List S73) (hn : a.length ≤ 9223372036854775807) {k : Nat} (hk : a.length < k) : fill_Same.f k a a = some true := by
  obtain ⟨r, h1, h2⟩ := same_f a a hn hk
  rw [h1, h2.2 rfl]

end Go.Proofs.YtjpifknencfipaaDoor.P

namespace Go.Proofs.YtjpifknencfipaaDoor.P
open Go.RowKit

theorem scan_same (l : List S32) (h h' : Int) (hh : h ≤ h') (a : Nat) : ∀ n i, ((scanA l h a n i).2 = true → hiA l a ((scanA l h a n i).1 + 1) > h') → scanA l h' a n i = scanA l h a n i
  | 0, i, _ => rfl
  | n + 1, i, hs => by
    unfold scanA at hs ⊢
    by_cases hb : bkA l i = 2
    · rw [if_pos hb, if_pos hb]
    · rw [if_neg hb] at hs
      rw [if_neg hb, if_neg hb]
      by_cases hi : hiA l a (i + 1) > h
      · rw [if_pos hi] at hs ⊢
        rw [if_pos (hs rfl)]
      · rw [if_neg hi] at hs ⊢
        rw [if_neg (by omega)]
        exact scan_same l h h' hh a n (i + 1) hs
theorem end_over (l : List S32) (h : Int) (a : Nat) (ha : a < l.length) : ((endA l h a).2 = 0 ∧ (scanA l h a (l.length - (a + 1)) (a + 1)).2 = false) ∨
    ((endA l h a).2 = (scanA l h a (l.length - (a + 1)) (a + 1)).1 ∧ a < (endA l h a).2 ∧ (endA l h a).2 < l.length ∧ (scanA l h a (l.length - (a + 1)) (a + 1)).2 = true ∧ hiA l a ((endA l h a).2 + 1) > h) := by
  obtain ⟨_, r2, _⟩ := scan_says l h a (l.length - (a + 1)) (a + 1) (by omega) (by omega)
  have hsb := scan_bounds l h a (l.length - (a + 1)) (a + 1)
  unfold endA
  simp only []
  generalize scanA l h a (l.length - (a + 1)) (a + 1) = s at r2 hsb
  by_cases hs : s.2 = true
  · rw [if_pos hs]
    obtain ⟨q1, _, q3⟩ := r2 hs
    exact .inr ⟨rfl, by simp only; omega, q1, hs, q3⟩
  · rw [if_neg hs]
    exact .inl ⟨rfl, by simpa using hs⟩
theorem end_same (l : List S32) (h h' : Int) (hh : h ≤ h') (a : Nat) (ha : a < l.length) (ho : (endA l h a).2 ≠ 0 → hiA l a ((endA l h a).2 + 1) > h') : endA l h' a = endA l h a := by
  have hs : scanA l h' a (l.length - (a + 1)) (a + 1) = scanA l h a (l.length - (a + 1)) (a + 1) := by
    refine scan_same l h h' hh a _ _ fun e => ?_
    rcases end_over l h a ha with ⟨_, q⟩ | ⟨q1, q2, _, _, _⟩
    · rw [q] at e
      cases e
    · rw [← q1]
      exact ho (by omega)
  unfold endA
  rw [hs]
theorem cols_same (l : List S32) (h h' : Int) (hh : h ≤ h') : ∀ n a, (∀ c ∈ colsA l h n a, c.o ≠ 0 → hiA l c.a (c.o + 1) > h') → colsA l h' n a = colsA l h n a
  | 0, _, _ => rfl
  | n + 1, a, hc => by
    unfold colsA at hc ⊢
    by_cases ha : a < l.length
    · rw [if_pos ha] at hc
      rw [if_pos ha, if_pos ha]
      have he := end_same l h h' hh a ha (hc _ List.mem_cons_self)
      have h1 : colA l h' a = colA l h a := by unfold colA; rw [he]
      rw [h1, he, cols_same l h h' hh n _ (fun c hm => hc c (List.mem_cons_of_mem _ hm))]
    · rw [if_neg ha, if_neg ha]
theorem fill_same (l : List S32) (h h' : Int) (hh : h ≤ h') (hc : ∀ c ∈ fillA l h, c.o ≠ 0 → hiA l c.a (c.o + 1) > h') : fillA l h' = fillA l h := cols_same l h h' hh _ _ hc

/-- Each column of the list. -/
theorem mem_cols (l : List S32) (h : Int) (c : ColA) : ∀ n a, c ∈ colsA l h n a → c.a < l.length ∧ c = colA l h c.a
  | 0, a, hm => by simp [colsA] at hm
  | n + 1, a, hm => by
    unfold colsA at hm
    by_cases ha : a < l.length
    · rw [if_pos ha] at hm
      rcases List.mem_cons.1 hm with rfl | hm
      · exact ⟨ha, rfl⟩
      · exact mem_cols l h c n _ hm
    · rw [if_neg ha] at hm
      cases hm
theorem over_says (l : List S32) (hr : rightA l = true) (h : Int) (h0 : 0 ≤ h) (c : ColA) (hm : c ∈ fillA l h) : (c.o = 0 ∧ c.over l = 0) ∨ (c.o ≠ 0 ∧ c.over l = hiA l c.a (c.o + 1) ∧ c.over l > h) := by
  obtain ⟨h1, h2⟩ := mem_cols l h c _ _ hm
  have ho : c.o = (endA l h c.a).2 := by rw [h2]; rfl
  rcases end_over l h c.a h1 with ⟨q, _⟩ | ⟨_, q2, q3, _, q5⟩
  · exact .inl ⟨ho.trans q, by unfold ColA.over; rw [if_pos (ho.trans q)]⟩
  · rw [← ho] at q2 q3 q5
    have hne : c.o ≠ 0 := by omega
    refine .inr ⟨hne, ?_⟩
    unfold ColA.over
    rw [if_neg hne]
    exact ⟨rfl, q5⟩

/-- The least. -/
theorem least_says (l : List S32) : ∀ (cs : List ColA) (m : Int), (∀ c ∈ cs, 0 ≤ c.over l) → 0 ≤ m →
    0 ≤ leastA l m cs ∧ (m ≠ 0 → leastA l m cs ≠ 0 ∧ leastA l m cs ≤ m) ∧ (∀ c ∈ cs, c.over l ≠ 0 → leastA l m cs ≠ 0 ∧ leastA l m cs ≤ c.over l) ∧ (leastA l m cs = m ∨ ∃ c ∈ cs, leastA l m cs = c.over l ∧ c.over l ≠ 0)
  | [], m, _, hm => ⟨hm, fun h => ⟨h, Int.le_refl _⟩, fun c hc => (by cases hc), .inl rfl⟩
  | c :: cs, m, ho, hm => by
    have hc := ho c List.mem_cons_self
    unfold leastA
    by_cases hcond : c.over l ≠ 0 ∧ (m = 0 ∨ c.over l < m)
    · rw [if_pos hcond]
      obtain ⟨r1, r2, r3, r4⟩ := least_says l cs (c.over l) (fun x hx => ho x (List.mem_cons_of_mem _ hx)) hc
      have r2' := r2 hcond.1
      refine ⟨r1, fun h => ⟨r2'.1, by omega⟩, fun x hx hne => ?_, ?_⟩
      · rcases List.mem_cons.1 hx with rfl | hx
        · exact r2'
        · exact r3 x hx hne
      · rcases r4 with e | ⟨x, hx, e⟩
        · exact .inr ⟨c, List.mem_cons_self, e, hcond.1⟩
        · exact .inr ⟨x, List.mem_cons_of_mem _ hx, e⟩
    · rw [if_neg hcond]
      obtain ⟨r1, r2, r3, r4⟩ := least_says l cs m (fun x hx => ho x (List.mem_cons_of_mem _ hx)) hm
      refine ⟨r1, r2, fun x hx hne => ?_, ?_⟩
      · rcases List.mem_cons.1 hx with rfl | hx
        · have := r2 (by omega)
          exact ⟨this.1, by omega⟩
        · exact r3 x hx hne
      · rcases r4 with e | ⟨x, hx, e⟩
        · exact .inl e
        · exact .inr ⟨x, List.mem_cons_of_mem _ hx, e⟩
/-- The next height: none, and then nothing was too much; or greater than the height, and at most whatever was too much. -/
theorem short_says (l : List S32) (hr : rightA l = true) (h : Int) (h0 : 0 ≤ h) : (shortA l h = 0 ∧ ∀ c ∈ fillA l h, c.o = 0) ∨ (shortA l h > h ∧ (∃ c ∈ fillA l h, c.o ≠ 0 ∧ shortA l h = hiA l c.a (c.o + 1)) ∧ ∀ c ∈ fillA l h, c.o ≠ 0 → shortA l h ≤ hiA l c.a (c.o + 1)) := by
  have hov := fun c hm => over_says l hr h h0 c hm
  obtain ⟨r1, _, r3, r4⟩ := least_says l (fillA l h) 0 (fun c hm => by rcases hov c hm with ⟨_, e⟩ | ⟨_, _, e⟩ <;> omega) (Int.le_refl _)
  rcases r4 with e | ⟨c, hm, e1, e2⟩
  · refine .inl ⟨e, fun c hm => ?_⟩
    rcases hov c hm with ⟨q, _⟩ | ⟨q1, q2, q3⟩
    · exact q
    · exact absurd e (r3 c hm (by omega)).1
  · rcases hov c hm with ⟨_, q⟩ | ⟨q1, q2, q3⟩
    · exact absurd q e2
    · refine .inr ⟨?_, ⟨c, hm, q1, e1.trans q2⟩, fun x hx hne => ?_⟩
      · show leastA l 0 (fillA l h) > h
        rw [e1]
        exact q3
      · rcases hov x hx with ⟨p, _⟩ | ⟨_, p2, p3⟩
        · exact absurd p hne
        · rw [← p2]
          exact (r3 x hx (by omega)).2

/-! ### Where all together have at most the height -/
theorem hi_mono (l : List S32) (hr : rightA l = true) (a : Nat) : ∀ d b, b + d ≤ l.length → hiA l a b ≤ hiA l a (b + d)
  | 0, b, _ => Int.le_refl _
  | d + 1, b, hb => by
    have := hi_mono l hr a d b (by omega)
    have hs := hi_succ l a (b + d)
    have hh := hh_of hr (b + d) (by omega)
    unfold stA at hs
    rw [show b + (d + 1) = b + d + 1 by omega]
    omega
theorem hi_all (l : List S32) (hr : rightA l = true) (a b : Nat) (hab : a < b) (hb : b ≤ l.length) : hiA l a b ≤ allA l := by
  have h1 : hiA l a b ≤ hiA l 0 b := by
    by_cases ha : a = 0
    · subst ha; exact Int.le_refl _
    · have h0 := hi_range hr 0 a (by omega) (by omega)
      have hh := hh_of hr a (by omega)
      unfold hiA at h0 ⊢
      omega
  have h2 := hi_mono l hr 0 (l.length - b) b (by omega)
  rw [show b + (l.length - b) = l.length by omega] at h2
  unfold allA
  rw [if_neg (by omega)]
  omega
theorem all_no_over (l : List S32) (hr : rightA l = true) (h : Int) (h0 : 0 ≤ h) (hh : allA l ≤ h) : ∀ c ∈ fillA l h, c.o = 0 := by
  intro c hm
  obtain ⟨h1, h2⟩ := mem_cols l h c _ _ hm
  have ho : c.o = (endA l h c.a).2 := by rw [h2]; rfl
  rcases end_over l h c.a h1 with ⟨q, _⟩ | ⟨_, q2, q3, _, q5⟩
  · exact ho.trans q
  · have := hi_all l hr c.a ((endA l h c.a).2 + 1) (by omega) (by omega)
    omega
theorem all_range (l : List S32) (hr : rightA l = true) : 0 ≤ allA l ∧ allA l ≤ 2149580800000 := by
  unfold allA
  split
  · omega
  · have := hi_range hr 0 l.length (by omega) (Nat.le_refl _)
    omega
theorem short_all (l : List S32) (hr : rightA l = true) (h : Int) (h0 : 0 ≤ h) (hh : allA l ≤ h) : shortA l h = 0 := by
  rcases short_says l hr h h0 with ⟨e, _⟩ | ⟨_, ⟨c, hm, hne, _⟩, _⟩
  · exact e
  · exact absurd (all_no_over l hr h h0 hh c hm) hne

/-- Breaks that must be, among n atoms from i on. -/
def mustA (l : List S32) (i : Nat) : Nat → Nat
  | 0 => 0
  | n + 1 => (if bkA l i = 2 then 1 else 0) + mustA l (i + 1) n
theorem must_skip (l : List S32) : ∀ d i n, (∀ j, i ≤ j → j < i + d → bkA l j ≠ 2) → mustA l i (d + n) = mustA l (i + d) n
  | 0, i, n, _ => by simp
  | d + 1, i, n, hb => by
    rw [show d + 1 + n = d + n + 1 by omega]
    have e : mustA l i (d + n + 1) = (if bkA l i = 2 then 1 else 0) + mustA l (i + 1) (d + n) := rfl
    rw [e, if_neg (hb i (by omega) (by omega)), must_skip l d (i + 1) n (fun j h1 h2 => hb j (by omega) (by omega)), show i + 1 + d = i + (d + 1) by omega]
    omega
theorem cols_count (l : List S32) (hr : rightA l = true) (h : Int) (h0 : 0 ≤ h) (hh : allA l ≤ h) : ∀ n a, l.length - a ≤ n → a ≤ l.length → (colsA l h n a).length = if a < l.length then 1 + mustA l (a + 1) (l.length - (a + 1)) else 0
  | 0, a, hn, ha => by rw [if_neg (by omega)]; simp [colsA]
  | n + 1, a, hn, ha => by
    unfold colsA
    by_cases hlt : a < l.length
    · rw [if_pos hlt, if_pos hlt]
      have hb := end_bounds l h a hlt
      have hs := end_says l h a hlt
      have hno : (scanA l h a (l.length - (a + 1)) (a + 1)).2 = false := by
        rcases end_over l h a hlt with ⟨_, q⟩ | ⟨_, q2, q3, _, q5⟩
        · exact q
        · have := hi_all l hr a ((endA l h a).2 + 1) (by omega) (by omega)
          omega
      have hend : (endA l h a).1 = l.length ∨ bkA l (endA l h a).1 = 2 := by
        obtain ⟨_, _, r3⟩ := scan_says l h a (l.length - (a + 1)) (a + 1) (by omega) (by omega)
        have he : (endA l h a).1 = (scanA l h a (l.length - (a + 1)) (a + 1)).1 := by
          unfold endA
          simp only []
          rw [if_neg (by rw [hno]; simp)]
        rw [he]
        exact r3 hno
      rw [List.length_cons, cols_count l hr h h0 hh n _ (by omega) hb.2]
      have hsk := must_skip l ((endA l h a).1 - (a + 1)) (a + 1) (l.length - (endA l h a).1) (fun j h1 h2 => hs.1 j (by omega) (by omega))
      rw [show (endA l h a).1 - (a + 1) + (l.length - (endA l h a).1) = l.length - (a + 1) by omega, show a + 1 + ((endA l h a).1 - (a + 1)) = (endA l h a).1 by omega] at hsk
      rw [hsk]
      by_cases he : (endA l h a).1 < l.length
      · rw [if_pos he]
        have hbk : bkA l (endA l h a).1 = 2 := by
          rcases hend with e | e
          · omega
          · exact e
        rw [show l.length - (endA l h a).1 = l.length - ((endA l h a).1 + 1) + 1 by omega]
        conv => rhs; rw [mustA]
        rw [if_pos hbk]
        omega
      · rw [if_neg he, show l.length - (endA l h a).1 = 0 by omega]
        rfl
    · rw [if_neg hlt, if_neg hlt]
      rfl
theorem fill_count (l : List S32) (hr : rightA l = true) (h : Int) (h0 : 0 ≤ h) (hh : allA l ≤ h) : (fillA l h).length = if 0 < l.length then 1 + mustA l 1 (l.length - 1) else 0 := cols_count l hr h h0 hh l.length 0 (by omega) (by omega)

end Go.Proofs.YtjpifknencfipaaDoor.P
