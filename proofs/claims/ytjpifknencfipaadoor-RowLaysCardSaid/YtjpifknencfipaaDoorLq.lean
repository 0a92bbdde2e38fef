/- The other packages' columns, search, balance are the same ones, in plain Lean. Conditions: none. -/
import Derived.Test.YtjpifknencfipaaDoorLc
import Derived.Test.YtjpifknencfipaaDoorLw
import Derived.Test.YtjpifknencfipaaDoorP37
set_option linter.unusedVariables false
set_option linter.unusedSimpArgs false
namespace Go.Proofs.YtjpifknencfipaaDoor.P
open Go.RowKit Go.Proofs.YtjpifknencfipaaDoorW.PrintWords Go.Proofs.YtjpifknencfipaaDoorW.PrintLast Go.Proofs.YtjpifknencfipaaDoorW.PrintMore

theorem sub_at (l : List S32) (a b i : Nat) (hi : i < b - a) (hb : b ≤ l.length) : atA ((l.take b).drop a) i = atA l (a + i) := by
  unfold atA
  rw [List.getD_eq_getElem?_getD, List.getD_eq_getElem?_getD, List.getElem?_drop, List.getElem?_take_of_lt (by omega)]
theorem sub_pre (l : List S32) (a b : Nat) (hb : b ≤ l.length) : ∀ i, i ≤ b - a → preA ((l.take b).drop a) i = preA l (a + i) - preA l a
  | 0, _ => by simp [preA]
  | i + 1, hi => by
    have e := sub_at l a b i (by omega) hb
    show preA ((l.take b).drop a) i + stA ((l.take b).drop a) i = preA l (a + i) + stA l (a + i) - preA l a
    rw [sub_pre l a b hb i (by omega)]
    unfold stA spA hhA
    rw [e]
    omega
theorem sub_right (l : List S32) (hr : rightA l = true) (a b : Nat) : rightA ((l.take b).drop a) = true := by
  unfold rightA at hr ⊢
  simp only [Bool.and_eq_true, decide_eq_true_eq] at hr ⊢
  refine ⟨fun x hx => hr.1 x (List.mem_of_mem_take (List.mem_of_mem_drop hx)), ?_⟩
  rw [List.length_drop, List.length_take]
  omega
theorem ref_high (l : List S32) (hr : rightA l = true) (a b : Nat) (hab : a < b) (hb : b ≤ l.length) {k : Nat} (hk : l.length < k) : gutterref14_high.f k l (a : Int) (b : Int) = some (hiA l a b) := by
  unfold gutterref14_high.f
  rw [if_pos (by omega), if_pos (by omega), if_pos (by omega)]
  simp only [Int.toNat_natCast]
  have hlen : ((l.take b).drop a).length = b - a := by rw [List.length_drop, List.length_take]; omega
  rw [high_right _ (sub_right l hr a b) (by rw [hlen]; omega), Option.bind_some]
  unfold allA
  rw [hlen, if_neg (by omega)]
  have h1 := sub_pre l a b hb (b - a) (Nat.le_refl _)
  have h2 := sub_at l a b 0 (by omega) hb
  unfold hiA
  rw [h1, show a + (b - a) = b by omega]
  have h3 : spA ((l.take b).drop a) 0 = spA l a := by unfold spA; rw [h2]; rfl
  rw [h3]
  simp [preA]

theorem ref_l1 (l : List S32) (a d : Nat) (hd : d < l.length) (hn : l.length ≤ 150) : ∀ (x k : Nat), x ≤ d → x < k → gutterref14_end.l1 k l (a : Int) (d : Int) (x : Int) = some ((backA l a d x : Int), (d : Int))
  | 0, k, hx, hk => by
    obtain ⟨k, rfl⟩ : ∃ m, k = m + 1 := ⟨k - 1, by omega⟩
    simp only [gutterref14_end.l1]
    rw [if_neg (by omega)]
    rfl
  | x + 1, k, hx, hk => by
    obtain ⟨k, rfl⟩ : ∃ m, k = m + 1 := ⟨k - 1, by omega⟩
    simp only [gutterref14_end.l1]
    unfold backA
    by_cases h1 : x + 1 ≤ a
    · rw [if_neg (by omega), if_pos h1]
    · rw [if_pos (by omega), if_pos (by omega), if_pos (by omega), if_neg h1, rd_32]
      by_cases h2 : bkA l (x + 1) = 0
      · rw [if_pos (show (atA l (x + 1)).f4 = 0 from h2), if_pos h2]
      · rw [if_neg (show ¬ (atA l (x + 1)).f4 = 0 from h2), if_neg h2, w64 (by omega), show (((x + 1 : Nat) : Int) - 1) = (x : Int) by push_cast; omega]
        exact ref_l1 l a d hd hn x k (by omega) (by omega)
theorem ref_end_l0 (l : List S32) (hr : rightA l = true) (hn : l.length ≤ 150) (h : Int) (a : Nat) : ∀ (n i k : Nat), i + n = l.length → a < i → n + 320 ≤ k →
    gutterref14_end.l0 k l (a : Int) h (i : Int) = some (if (scanA l h a n i).2 = true then ((backA l a (scanA l h a n i).1 (scanA l h a n i).1 : Int), ((scanA l h a n i).1 : Int)) else (((scanA l h a n i).1 : Int), 0))
  | 0, i, k, hi, ha, hk => by
    obtain ⟨k, rfl⟩ : ∃ m, k = m + 1 := ⟨k - 1, by omega⟩
    simp only [gutterref14_end.l0, scanA]
    rw [if_neg (by omega)]
    obtain rfl : i = l.length := by omega
    rfl
  | n + 1, i, k, hi, ha, hk => by
    obtain ⟨k, rfl⟩ : ∃ m, k = m + 1 := ⟨k - 1, by omega⟩
    simp only [gutterref14_end.l0]
    unfold scanA
    rw [if_pos (by omega), if_pos (by omega), rd_32, w64 (by omega), show ((i : Int) + 1) = ((i + 1 : Nat) : Int) by push_cast; rfl]
    by_cases hb : bkA l i = 2
    · rw [if_pos (show (atA l i).f4 = 2 from hb), if_pos hb]
      rfl
    · rw [if_neg (show ¬ (atA l i).f4 = 2 from hb), if_neg hb, ref_high l hr a (i + 1) (by omega) (by omega) (by omega), Option.bind_some]
      by_cases hh : hiA l a (i + 1) > h
      · rw [if_pos hh, if_pos hh, if_pos rfl, ref_l1 l a i (by omega) hn i k (Nat.le_refl _) (by omega)]
      · rw [if_neg hh, if_neg hh]
        exact ref_end_l0 l hr hn h a n (i + 1) k (by omega) (by omega) (by omega)
theorem ref_end (l : List S32) (hr : rightA l = true) (hn : l.length ≤ 150) (h : Int) (a : Nat) (ha : a < l.length) {k : Nat} (hk : 500 ≤ k) : gutterref14_end.f k l (a : Int) h = some (((endA l h a).1 : Int), ((endA l h a).2 : Int)) := by
  unfold gutterref14_end.f
  rw [w64 (by omega), show ((a : Int) + 1) = ((a + 1 : Nat) : Int) by push_cast; rfl, ref_end_l0 l hr hn h a (l.length - (a + 1)) (a + 1) k (by omega) (by omega) (by omega)]
  unfold endA
  simp only []
  split
  · rfl
  · rfl

theorem ref_is (l : List S32) (hn : l.length ≤ 150) (h : Int) {k : Nat} (hk : 500 ≤ k) : gutterref14_is.f k l h = some (fineA l h) := by
  unfold gutterref14_is.f fineA
  rw [ref_right l (by omega) (by omega), Option.bind_some]
  by_cases hr : rightA l = true
  · rw [if_pos hr, hr]
    by_cases h0 : h ≥ 0
    · rw [if_pos h0]
      have : gutterref14_most.f = some 2199023255552 := rfl
      rw [this, Option.bind_some]
      simp [h0]
    · rw [if_neg h0]
      have : decide (0 ≤ h) = false := decide_eq_false (by omega)
      rw [this]
      rfl
  · rw [if_neg hr]
    have : rightA l = false := by simpa using hr
    rw [this]
    rfl
theorem ref_fill_l0 (l : List S32) (hr : rightA l = true) (hn : l.length ≤ 150) (h : Int) : ∀ (n a k : Nat) (acc : List S73), l.length - a ≤ n → a ≤ l.length → acc.length ≤ a → n + 501 ≤ k →
    gutterref14_Fill.l0 k l h acc (a : Int) = some (acc ++ (colsA l h n a).map (ColA.out l), 0)
  | 0, a, k, acc, hna, ha, hacc, hk => by
    obtain ⟨k, rfl⟩ : ∃ m, k = m + 1 := ⟨k - 1, by omega⟩
    simp only [gutterref14_Fill.l0, colsA]
    rw [if_neg (by omega)]
    simp
  | n + 1, a, k, acc, hna, ha, hacc, hk => by
    obtain ⟨k, rfl⟩ : ∃ m, k = m + 1 := ⟨k - 1, by omega⟩
    simp only [gutterref14_Fill.l0]
    unfold colsA
    by_cases hlt : a < l.length
    · have hb := end_bounds l h a hlt
      rw [if_pos (by omega), if_pos hlt, ref_end l hr hn h a hlt (by omega), Option.bind_some]
      simp only []
      rw [ref_high l hr a _ hb.1 hb.2 (by omega), Option.bind_some, if_pos (by omega), ref_fill_l0 l hr hn h n (endA l h a).1 k _ (by omega) hb.2 (by rw [List.length_append]; simp; omega) (by omega)]
      rw [List.map_cons, List.append_assoc]
      rfl
    · rw [if_neg (by omega), if_neg hlt]
      simp
theorem ref_fill (l : List S32) (hn : l.length ≤ 150) (h : Int) {k : Nat} (hk : 1000 ≤ k) : gutterref14_Fill.f k l h = fill_Fill.f l h := by
  unfold gutterref14_Fill.f fill_Fill.f
  rw [ref_is l hn h (by omega), Option.bind_some]
  by_cases hf : fineA l h = true
  · rw [if_pos hf, if_pos hf]
    have hr : rightA l = true := by
      unfold fineA at hf
      simp only [Bool.and_eq_true] at hf
      exact hf.1.1
    have := ref_fill_l0 l hr hn h l.length 0 k [] (by omega) (by omega) (by simp) (by omega)
    simpa [fillA] using this
  · rw [if_neg hf, if_neg hf]
theorem ref_short_l0 (l : List S32) (hr : rightA l = true) (hn : l.length ≤ 150) (h : Int) : ∀ (n a k : Nat) (m : Int), l.length - a ≤ n → a ≤ l.length → 0 ≤ m → n + 501 ≤ k →
    gutterref14_Short.l0 k l h m (decide (0 < m)) (a : Int) = some (leastA l m (colsA l h n a), decide (0 < leastA l m (colsA l h n a)), 0)
  | 0, a, k, m, hna, ha, hm, hk => by
    obtain ⟨k, rfl⟩ : ∃ q, k = q + 1 := ⟨k - 1, by omega⟩
    simp only [gutterref14_Short.l0, colsA, leastA]
    rw [if_neg (by omega)]
  | n + 1, a, k, m, hna, ha, hm, hk => by
    obtain ⟨k, rfl⟩ : ∃ q, k = q + 1 := ⟨k - 1, by omega⟩
    simp only [gutterref14_Short.l0]
    unfold colsA
    by_cases hlt : a < l.length
    · have hb := end_bounds l h a hlt
      rw [if_pos (by omega), if_pos hlt, ref_end l hr hn h a hlt (by omega), Option.bind_some]
      simp only []
      have ih := fun m hm => ref_short_l0 l hr hn h n (endA l h a).1 k m (by omega) hb.2 hm (by omega)
      have hco : (colA l h a).over l = if (endA l h a).2 = 0 then 0 else hiA l a ((endA l h a).2 + 1) := rfl
      have eL : leastA l m (colA l h a :: colsA l h n (endA l h a).1) = leastA l (if (colA l h a).over l ≠ 0 ∧ (m = 0 ∨ (colA l h a).over l < m) then (colA l h a).over l else m) (colsA l h n (endA l h a).1) := rfl
      rw [eL, hco]
      rcases end_over l h a hlt with ⟨q, _⟩ | ⟨_, q2, q3, _, _⟩
      · rw [q, if_neg (by omega)]
        simp only [if_true]
        rw [if_neg (by simp)]
        exact ih m hm
      · have hh := hi_range hr a ((endA l h a).2 + 1) (by omega) (by omega)
        rw [if_pos (by omega), if_neg (show ¬ (endA l h a).2 = 0 by omega), w64 (by omega), show (((endA l h a).2 : Int) + 1) = (((endA l h a).2 + 1 : Nat) : Int) by push_cast; rfl, ref_high l hr a _ (by omega) (by omega) (by omega), Option.bind_some]
        by_cases hm0 : 0 < m
        · rw [if_pos (decide_eq_true hm0)]
          by_cases hlt2 : hiA l a ((endA l h a).2 + 1) < m
          · rw [if_pos hlt2, if_pos (by omega)]
            have := ih (hiA l a ((endA l h a).2 + 1)) (by omega)
            rw [decide_eq_true (show 0 < hiA l a ((endA l h a).2 + 1) by omega)] at this
            exact this
          · rw [if_neg hlt2, if_neg (by omega)]
            exact ih m hm
        · rw [if_neg (by simpa using hm0), if_pos (by omega)]
          have := ih (hiA l a ((endA l h a).2 + 1)) (by omega)
          rw [decide_eq_true (show 0 < hiA l a ((endA l h a).2 + 1) by omega)] at this
          exact this
    · rw [if_neg (by omega), if_neg hlt]
      rfl
theorem ref_short (l : List S32) (hn : l.length ≤ 150) (h : Int) {k : Nat} (hk : 1000 ≤ k) : gutterref14_Short.f k l h = fill_Short.f l h := by
  unfold gutterref14_Short.f fill_Short.f
  rw [ref_is l hn h (by omega), Option.bind_some]
  by_cases hf : fineA l h = true
  · rw [if_pos hf, if_pos hf]
    have hr : rightA l = true := by
      unfold fineA at hf
      simp only [Bool.and_eq_true] at hf
      exact hf.1.1
    exact ref_short_l0 l hr hn h l.length 0 k 0 (by omega) (by omega) (by omega) (by omega)
  · rw [if_neg hf, if_neg hf]
theorem ref_cols (l : List S32) (hn : l.length ≤ 150) (h : Int) {k : Nat} (hk : 1000 ≤ k) : gutterref14_Cols.f k l h = fill_Cols.f l h := by
  unfold gutterref14_Cols.f fill_Cols.f
  rw [ref_fill l hn h hk]

theorem rf_is (l : List S32) (hl : l.length ≤ 40) (n b : Int) {k : Nat} (hk : 500 ≤ k) : gutterref15_is.f k l n b = some (openA l n && budA b) := by
  unfold gutterref15_is.f
  rw [ref_right l (by omega) (by omega), Option.bind_some]
  unfold openA budA
  by_cases hr : rightA l = true
  · rw [if_pos hr, hr, if_pos (by omega), decide_eq_true (show l.length ≤ 200 by omega)]
    by_cases q1 : n ≥ 1
    · rw [if_pos q1, decide_eq_true (show 1 ≤ n from q1)]
      by_cases q2 : n ≤ 50
      · rw [if_pos q2, decide_eq_true q2]
        by_cases q3 : b ≥ 1
        · rw [if_pos q3, decide_eq_true (show 1 ≤ b from q3)]
          rfl
        · rw [if_neg q3, decide_eq_false (show ¬ 1 ≤ b from q3)]
          rfl
      · rw [if_neg q2, decide_eq_false q2]
        rfl
    · rw [if_neg q1, decide_eq_false (show ¬ 1 ≤ n from q1)]
      rfl
  · rw [if_neg hr]
    simp [hr]
theorem rf_target (l : List S32) (hr : rightA l = true) (hl : l.length ≤ 40) (n : Int) {k : Nat} (hk : 1000 ≤ k) : gutterref15_target.f k l n = some (targetA l n) := by
  have hal := all_range l hr
  unfold gutterref15_target.f
  rw [high_right l hr (by omega), Option.bind_some, ref_cols l (by omega) (allA l) hk, cols_fine l _ (fine_of l hr _ hal.1 (by omega)), Option.bind_some]
  have e : mx n (numA l (allA l)) = targetA l n := by unfold mx targetA; split <;> omega
  simp only
  rw [e]
theorem rf_begin_l0 (l : List S32) (hr : rightA l = true) (hl : l.length ≤ 40) (n : Int) (h1 : 1 ≤ n) (h2 : n ≤ 50) (d : Nat) : ∀ (k i : Nat), i ≤ l.length → l.length - i = d → d + 1001 ≤ k →
    gutterref15_begin.l0 k l n (sumTo l i) (i : Int) = some (beginA l n) := by
  induction d with
  | zero =>
    intro k i h0 hd hk
    obtain ⟨k, rfl⟩ : ∃ m, k = m + 1 := ⟨k - 1, by omega⟩
    obtain rfl : i = l.length := by omega
    have ht := target_range l n h1 h2 (by omega)
    have hs := sum_range hr (by omega)
    rw [sum_eq] at hs
    simp only [gutterref15_begin.l0]
    rw [if_neg (by omega), rf_target l hr hl n (by omega), Option.bind_some, rtall_k l (by omega) (by omega), Option.bind_some, if_neg (by omega), w64 (x := sumTo l l.length + targetA l n) (by omega), w64 (x := sumTo l l.length + targetA l n - 1) (by omega), Int.tdiv_eq_ediv_of_nonneg (by omega)]
    have q1 : 0 ≤ (sumTo l l.length + targetA l n - 1) / targetA l n := Int.ediv_nonneg (by omega) (by omega)
    have q2 : (sumTo l l.length + targetA l n - 1) / targetA l n ≤ sumTo l l.length + targetA l n - 1 := Int.ediv_le_self _ (by omega)
    rw [w64 (by omega)]
    have e : mx (tallA l) ((sumTo l l.length + targetA l n - 1) / targetA l n) = beginA l n := by
      unfold mx beginA
      rw [sum_eq]
      split <;> omega
    rw [e]
  | succ d ih =>
    intro k i h0 hd hk
    obtain ⟨k, rfl⟩ : ∃ m, k = m + 1 := ⟨k - 1, by omega⟩
    have hs := sumTo_range hr (i + 1) (by omega)
    have es : sumTo l (i + 1) = sumTo l i + hhA l i := rfl
    simp only [gutterref15_begin.l0]
    rw [if_pos (by omega), if_pos (by omega), rd32_f2, ← es, w64 (x := sumTo l (i + 1)) (by omega), w64 (x := (i : Int) + 1) (by omega), show ((i : Int) + 1) = ((i + 1 : Nat) : Int) by push_cast; rfl]
    exact ih k (i + 1) (by omega) (by omega) (by omega)
theorem rf_begin (l : List S32) (hr : rightA l = true) (hl : l.length ≤ 40) (n : Int) (h1 : 1 ≤ n) (h2 : n ≤ 50) {k : Nat} (hk : 1100 ≤ k) : gutterref15_begin.f k l n = some (beginA l n) :=
  rf_begin_l0 l hr hl n h1 h2 l.length k 0 (by omega) (by omega) (by omega)
theorem rf_least_l0 (l : List S32) (hr : rightA l = true) (hl : l.length ≤ 40) (n b : Int) (hb : b ≤ 1000) (d : Nat) : ∀ (k i : Nat) (h : Int), (b + 1 - ((i : Int) + 1)).toNat = d → (i : Int) ≤ b → 0 ≤ h → h ≤ 2199023255552 → d + 1002 ≤ k →
    gutterref15_Least.l0 k l n b h ((i : Int) + 1) = some (match searchA l (targetA l n) d i h with | some (x, p) => (x, (p : Int), true, 0) | none => (allA l, b, false, 0)) := by
  induction d with
  | zero =>
    intro k i h hd hi h0 h1 hk
    obtain ⟨k, rfl⟩ : ∃ m, k = m + 1 := ⟨k - 1, by omega⟩
    simp only [gutterref15_Least.l0]
    rw [if_neg (by omega), high_right l hr (by omega), Option.bind_some]
    rfl
  | succ d ih =>
    intro k i h hd hi h0 h1 hk
    obtain ⟨k, rfl⟩ : ∃ m, k = m + 1 := ⟨k - 1, by omega⟩
    have hf := fine_of l hr h h0 h1
    have hnr := next_range l hr h h0 h1
    simp only [gutterref15_Least.l0]
    rw [if_pos (by omega), ref_cols l (by omega) h (by omega), cols_fine l h hf, Option.bind_some, rf_target l hr hl n (by omega), Option.bind_some]
    simp only
    by_cases q : numA l h ≤ targetA l n
    · rw [if_pos q]
      unfold searchA
      rw [if_pos q]
      simp
    · rw [if_neg q]
      have hs : fill_Short.f l h = some (nextA l h, decide (0 < shortA l h), 0) := by
        unfold fill_Short.f nextA
        rw [if_pos hf, if_pos hf]
      rw [ref_short l (by omega) h (by omega), hs, Option.bind_some, w64 (by omega), show ((i : Int) + 1 + 1) = (((i + 1 : Nat) : Int) + 1) by push_cast; rfl]
      simp only
      rw [ih k (i + 1) (nextA l h) (by omega) (by omega) hnr.1 (by omega) (by omega)]
      have e : searchA l (targetA l n) (d + 1) i h = searchA l (targetA l n) d (i + 1) (nextA l h) := by
        conv => lhs; unfold searchA
        rw [if_neg q]
        rfl
      rw [e]
theorem rf_least (l : List S32) (hl : l.length ≤ 40) (n b : Int) {k : Nat} (hk : 3000 ≤ k) : gutterref15_Least.f k l n b = balance_Least.f l n b := by
  unfold gutterref15_Least.f balance_Least.f
  rw [rf_is l hl n b (by omega), Option.bind_some]
  by_cases hob : (openA l n && budA b) = true
  · rw [if_pos hob, if_pos hob]
    simp only [Bool.and_eq_true] at hob
    obtain ⟨hr, hl2, h1, h2⟩ := open_parts hob.1
    have hb := hob.2
    unfold budA at hb
    simp only [Bool.and_eq_true, decide_eq_true_eq] at hb
    have hbr := begin_range hr hl2 n h1 h2
    rw [rf_begin l hr hl n h1 h2 (by omega), Option.bind_some]
    have := rf_least_l0 l hr hl n b hb.2 b.toNat k 0 (beginA l n) (by omega) (by omega) hbr.1 (by omega) (by omega)
    rw [Int.natCast_zero, Int.zero_add] at this
    rw [this]
    unfold leastBA
    cases searchA l (targetA l n) b.toNat 0 (beginA l n) <;> rfl
  · rw [if_neg hob, if_neg hob]
theorem rf_balance (l : List S32) (hl : l.length ≤ 40) (n a b : Int) {k : Nat} (hk : 3000 ≤ k) : gutterref15_Balance.f k l n a b = balance_Balance.f l n a b := by
  obtain ⟨k, rfl⟩ : ∃ m, k = m + 1 := ⟨k - 1, by omega⟩
  unfold gutterref15_Balance.f
  rw [rf_least l hl n b hk]
  unfold balance_Least.f balance_Balance.f
  by_cases hob : (openA l n && budA b) = true
  · rw [if_pos hob, Option.bind_some, if_pos rfl]
    have hob2 := hob
    simp only [Bool.and_eq_true] at hob2
    obtain ⟨hr, hl2, h1, h2⟩ := open_parts hob2.1
    have hal := all_range l hr
    by_cases q1 : a < 0
    · rw [if_pos q1, if_neg (by rw [hob]; simp; omega)]
      simp only [gutterref15_Balance.j0]
      rw [if_pos trivial]
    · rw [if_neg q1]
      by_cases q2 : a > 2199023255552
      · rw [decide_eq_true q2, if_neg (by rw [hob]; simp; omega)]
        simp only [gutterref15_Balance.j0]
        rw [if_pos trivial]
      · rw [decide_eq_false q2, if_pos (by rw [hob, decide_eq_true (show 0 ≤ a by omega), decide_eq_true (show a ≤ 2199023255552 by omega)]; rfl)]
        have hf : 0 ≤ (leastBA l n b).1 ∧ (leastBA l n b).1 ≤ allA l := by
          have hb := hob2.2
          unfold budA at hb
          simp only [Bool.and_eq_true, decide_eq_true_eq] at hb
          rcases least_spec l n b hb.1 with ⟨j, hj, he, _, _⟩ | ⟨he, _⟩
          · have hbr := begin_range hr hl2 n h1 h2
            have hup := hgt_le_all hr (beginA l n) hbr.1 (begin_le_all hr hl2 n h1 h2) j
            rw [he]
            exact hup
          · rw [he]
            exact ⟨hal.1, Int.le_refl _⟩
        simp only [gutterref15_Balance.j0]
        generalize (leastBA l n b).1 = H at hf
        rw [if_neg (by simp)]
        by_cases q3 : a > 0
        · have e : mn H a = lowA H a := by unfold mn lowA; rw [if_pos q3]; split <;> omega
          have hlow : 0 ≤ lowA H a ∧ lowA H a ≤ H := by unfold lowA; split <;> omega
          rw [if_pos q3, e, ref_cols l (by omega) _ (by omega), cols_fine l _ (fine_of l hr _ hlow.1 (by omega)), Option.bind_some]
        · have e : lowA H a = H := by unfold lowA; rw [if_neg q3]
          rw [if_neg q3, e, ref_cols l (by omega) _ (by omega), cols_fine l _ (fine_of l hr _ hf.1 (by omega)), Option.bind_some]
  · rw [if_neg hob, Option.bind_some, if_neg (by simp), if_neg (by simp [hob])]
    simp only [gutterref15_Balance.j0]
    rw [if_pos trivial]
end Go.Proofs.YtjpifknencfipaaDoor.P
