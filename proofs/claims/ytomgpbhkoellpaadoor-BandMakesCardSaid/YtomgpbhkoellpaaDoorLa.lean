/- What the laws of bands share, in plain Lean: the first thirty spans, which are bands, how many lengths they have, where so many fit, which are the same, as the printed functions tell it. Conditions: none. · What the laws of bands share further, in plain Lean: that a span is taken out; how long bands are; how many lengths they have, as counts. Conditions: none. -/
import Derived.Test.YtomgpbhkoellpaaDoorTo
import Derived.Test.YtomgpbhkoellpaaDoorP12
import Derived.Test.YtomgpbhkoellpaaDoorP25
import Derived.Test.YtomgpbhkoellpaaDoorP27
import Derived.Test.YtomgpbhkoellpaaDoorP19
import Derived.Test.YtomgpbhkoellpaaDoorP11
set_option linter.unusedVariables false
set_option linter.unusedSimpArgs false
namespace Go.Proofs.YtomgpbhkoellpaaDoor.P
open Go.RowKit Go.Proofs.YtomgpbhkoellpaaDoorW.PrintWords Go.Proofs.YtomgpbhkoellpaaDoorW.PrintLast Go.Proofs.YtomgpbhkoellpaaDoorW.PrintMore

def few3 (l : List S24) : List S24 := l.take 30
theorem few3_len (l : List S24) : (few3 l).length ≤ 30 := by simp [few3]; omega
theorem few3_f (l : List S24) : gutterlaw03_few.f l = some (few3 l) := by
  unfold gutterlaw03_few.f
  have hmn : mn (l.length : Int) 30 = ((min l.length 30 : Nat) : Int) := by unfold mn; omega
  rw [hmn, if_pos (by omega), if_pos (by omega), Int.toNat_natCast]
  congr 1
  unfold few3
  rw [List.take_eq_take_iff]
  omega

/-! ### Which are the same -/
theorem ne_span (x y : S24) : ((!(x.f0 == y.f0) || (!(x.f1 == y.f1))) = true) ↔ x ≠ y := by
  constructor
  · rintro h rfl
    simp at h
  · intro h
    have : ¬ (x.f0 = y.f0 ∧ x.f1 = y.f1) := fun e => h (S24.ext2 e.1 e.2)
    simp only [Bool.or_eq_true, Bool.not_eq_true', beq_eq_false_iff_ne]
    omega
theorem drop_eq_step (l m : List S24) (i : Nat) (hl : i < l.length) (hm : i < m.length) : (l.drop i = m.drop i) ↔ (l.getD i z24 = m.getD i z24 ∧ l.drop (i + 1) = m.drop (i + 1)) := by
  rw [drop_24 l i hl, drop_24 m i hm, List.cons.injEq]
theorem rsame_l0 (l m : List S24) (hn : l.length ≤ 100000) (hm : m.length = l.length) (d : Nat) : ∀ (k i : Nat), l.length - i = d → d < k → i ≤ l.length → gutterref03_Same.l0 k l m (i : Int) = some (decide (l.drop i = m.drop i)) := by
  induction d with
  | zero =>
    intro k i hd hk hi
    obtain ⟨k, rfl⟩ : ∃ m, k = m + 1 := ⟨k - 1, by omega⟩
    simp only [gutterref03_Same.l0]
    rw [if_neg (by omega), List.drop_eq_nil_of_le (by omega), List.drop_eq_nil_of_le (by omega)]
    rfl
  | succ d ih =>
    intro k i hd hk hi
    obtain ⟨k, rfl⟩ : ∃ m, k = m + 1 := ⟨k - 1, by omega⟩
    simp only [gutterref03_Same.l0]
    rw [if_pos (by omega), if_pos (by omega), if_pos (by omega), rd_24, rd_24, w64 (by omega), show ((i : Int) + 1) = ((i + 1 : Nat) : Int) by push_cast; rfl, ih k (i + 1) (by omega) (by omega) (by omega)]
    by_cases h : l.getD i z24 = m.getD i z24
    · rw [if_neg (fun e => (ne_span _ _).1 e h)]
      congr 1
      exact decide_eq_decide.2 ⟨fun e => (drop_eq_step l m i (by omega) (by omega)).2 ⟨h, e⟩, fun e => ((drop_eq_step l m i (by omega) (by omega)).1 e).2⟩
    · rw [if_pos ((ne_span _ _).2 h), decide_eq_false (fun e => h ((drop_eq_step l m i (by omega) (by omega)).1 e).1)]
theorem rsame_f (l m : List S24) (hn : l.length ≤ 100000) {k : Nat} (hk : l.length < k) : gutterref03_Same.f k l m = some (decide (l = m)) := by
  unfold gutterref03_Same.f
  by_cases h : l.length = m.length
  · rw [if_pos (by omega)]
    exact rsame_l0 l m hn h.symm l.length k 0 (by omega) hk (Nat.zero_le _)
  · rw [if_neg (by omega), decide_eq_false (fun e => h (by rw [e]))]
theorem asame_l0 (l m : List S24) (hn : l.length ≤ 100000) (hm : m.length = l.length) (d : Nat) : ∀ (k i : Nat), l.length - i = d → d < k → i ≤ l.length → api_Span.l0 k l m (l.length : Int) (i : Int) = some (decide (l.drop i = m.drop i)) := by
  induction d with
  | zero =>
    intro k i hd hk hi
    obtain ⟨k, rfl⟩ : ∃ m, k = m + 1 := ⟨k - 1, by omega⟩
    simp only [api_Span.l0]
    rw [if_neg (by omega), List.drop_eq_nil_of_le (by omega), List.drop_eq_nil_of_le (by omega)]
    rfl
  | succ d ih =>
    intro k i hd hk hi
    obtain ⟨k, rfl⟩ : ∃ m, k = m + 1 := ⟨k - 1, by omega⟩
    simp only [api_Span.l0]
    rw [if_pos (by omega), if_pos (by omega), if_pos (by omega), if_pos (by omega), rd_24, rd_24, w64 (by omega), show ((i : Int) + 1) = ((i + 1 : Nat) : Int) by push_cast; rfl, ih k (i + 1) (by omega) (by omega) (by omega)]
    by_cases h : l.getD i z24 = m.getD i z24
    · rw [if_neg (fun e => (ne_span _ _).1 e h)]
      congr 1
      exact decide_eq_decide.2 ⟨fun e => (drop_eq_step l m i (by omega) (by omega)).2 ⟨h, e⟩, fun e => ((drop_eq_step l m i (by omega) (by omega)).1 e).2⟩
    · rw [if_pos ((ne_span _ _).2 h), decide_eq_false (fun e => h ((drop_eq_step l m i (by omega) (by omega)).1 e).1)]
theorem bsame_f (l m : List S24) (hn : l.length ≤ 100000) {k : Nat} (hk : l.length < k) : band_Same.f k l m = some (decide (l = m)) := by
  unfold band_Same.f api_Span.f
  by_cases h : l.length = m.length
  · have e : api_Span.l0 k l m (l.length : Int) 0 = some (decide (l = m)) := asame_l0 l m hn h.symm l.length k 0 (by omega) hk (Nat.zero_le _)
    rw [if_pos (by omega), e]
    rfl
  · rw [if_neg (by omega), decide_eq_false (fun e => h (by rw [e]))]
    rfl

/-! ### Which are bands, as the other package tells it -/
theorem r01_right (a : Int) : gutterref01_Right.f a = some (decide (-1073741824 ≤ a) && decide (a ≤ 1073741824)) := by
  unfold gutterref01_Right.f
  split
  · next h => rw [decide_eq_true (show -1073741824 ≤ a from h)]; rfl
  · next h => rw [decide_eq_false (show ¬ -1073741824 ≤ a from h)]; rfl
theorem rright_l0 (l : List S24) (hn : l.length ≤ 1000000) (d : Nat) : ∀ (k i : Nat) (a : Int), l.length - i = d → d < k → i ≤ l.length → -1073741825 ≤ a → (i = 0 → a = -1073741825) → (0 < i → a = (l.getD (i - 1) z24).f1) →
    gutterref03_Right.l0 k l (i : Int) = some (chD a (l.drop i)) := by
  induction d with
  | zero =>
    intro k i a hd hk hi ha h0 h1
    obtain ⟨k, rfl⟩ : ∃ m, k = m + 1 := ⟨k - 1, by omega⟩
    simp only [gutterref03_Right.l0]
    rw [if_neg (by omega), List.drop_eq_nil_of_le (by omega)]
    rfl
  | succ d ih =>
    intro k i a hd hk hi ha h0 h1
    obtain ⟨k, rfl⟩ : ∃ m, k = m + 1 := ⟨k - 1, by omega⟩
    simp only [gutterref03_Right.l0]
    rw [if_pos (by omega), if_pos (by omega), rd_24, r01_right, r01_right, drop_24 l i (by omega)]
    obtain ⟨x, hx⟩ : ∃ x, l.getD i z24 = x := ⟨_, rfl⟩
    rw [hx]
    simp only [Option.bind_some, Bool.and_eq_true, decide_eq_true_eq]
    have nx : a < x.f0 ∧ x.f0 < x.f1 ∧ x.f1 ≤ 1073741824 → gutterref03_Right.l0 k l (wrap64 ((i : Int) + 1)) = some (chD a (x :: l.drop (i + 1))) := by
      intro h
      rw [w64 (by omega), show ((i : Int) + 1) = ((i + 1 : Nat) : Int) by push_cast; rfl, ih k (i + 1) x.f1 (by omega) (by omega) (by omega) (by omega) (fun e => by omega) (fun _ => by rw [Nat.add_sub_cancel, hx])]
      unfold chD
      rw [decide_eq_true h.1, decide_eq_true h.2.1, decide_eq_true h.2.2]
      cases l.drop (i + 1) <;> simp [chD]
    have no : ¬ (a < x.f0 ∧ x.f0 < x.f1 ∧ x.f1 ≤ 1073741824) → chD a (x :: l.drop (i + 1)) = false := by
      intro h
      unfold chD
      by_cases h1 : a < x.f0
      · by_cases h2 : x.f0 < x.f1
        · rw [decide_eq_false (show ¬ x.f1 ≤ 1073741824 by omega)]
          simp
        · rw [decide_eq_false h2]
          simp
      · rw [decide_eq_false h1]
        simp
    by_cases c1 : -1073741824 ≤ x.f0 ∧ x.f0 ≤ 1073741824
    · rw [if_pos c1]
      by_cases c2 : -1073741824 ≤ x.f1 ∧ x.f1 ≤ 1073741824
      · rw [if_pos c2]
        by_cases c3 : x.f0 ≥ x.f1
        · rw [if_pos c3, no (by omega)]
        · rw [if_neg c3]
          by_cases c4 : 0 < i
          · rw [if_pos (by omega), w64 (x := (i : Int) - 1) (by omega), if_pos (by omega), if_pos (by omega), show ((i : Int) - 1) = ((i - 1 : Nat) : Int) by omega, rd_24, ← h1 c4]
            by_cases c5 : a ≥ x.f0
            · rw [if_pos c5, no (by omega)]
            · rw [if_neg c5]
              exact nx ⟨by omega, by omega, by omega⟩
          · rw [if_neg (by omega)]
            have := h0 (by omega)
            exact nx ⟨by omega, by omega, by omega⟩
      · rw [if_neg c2, no (by omega)]
    · rw [if_neg c1, no (by omega)]
theorem rright_f (l : List S24) (hn : l.length ≤ 1000000) {k : Nat} (hk : l.length < k) : gutterref03_Right.f k l = some (rightD l) :=
  rright_l0 l hn l.length k 0 (-1073741825) (by omega) hk (Nat.zero_le _) (by omega) (fun _ => rfl) (fun h => by omega)

/-! ### What Plus, Less, Both tell -/
theorem plus_f (l : List S24) (x : S24) (hl : l.length ≤ 1000) : band_Plus.f l x.f0 x.f1 = some (if (rightD l && rightD [x]) = true then (plusB l x, 0) else ([], 30)) := by
  unfold band_Plus.f
  rw [if_pos hl]
  split <;> rfl
theorem less_f (l : List S24) (x : S24) (hl : l.length ≤ 1000) : band_Less.f l x.f0 x.f1 = some (if (rightD l && rightD [x]) = true then (lessB l x, 0) else ([], 30)) := by
  unfold band_Less.f
  rw [if_pos hl]
  split <;> rfl
theorem both_f (l m : List S24) (hl : l.length ≤ 1000) (hm : m.length ≤ 1000) : band_Both.f l m = some (if (rightD l && rightD m) = true then (bothB l m, 0) else ([], 30)) := by
  unfold band_Both.f
  rw [if_pos ⟨hl, hm⟩]
  split <;> rfl

end Go.Proofs.YtomgpbhkoellpaaDoor.P

namespace Go.Proofs.YtomgpbhkoellpaaDoor.P
open Go.RowKit Go.Proofs.YtomgpbhkoellpaaDoorW.PrintWords Go.Proofs.YtomgpbhkoellpaaDoorW.PrintLast Go.Proofs.YtomgpbhkoellpaaDoorW.PrintMore

/-! ### How long bands are -/
theorem foldP_len : ∀ (ps : List (Int × Int)) (o : List S24), (foldP ps o).length ≤ o.length + ps.length
  | [], o => Nat.le_refl _
  | p :: ps, o => by
    have h1 := foldP_len ps (addB o p.1 p.2)
    have h2 := (addB_len o p.1 p.2).2
    show (foldP ps (addB o p.1 p.2)).length ≤ _
    rw [List.length_cons]
    omega
theorem insB_len (x : S24) : ∀ l : List S24, (insB x l).length = l.length + 1
  | [] => rfl
  | y :: ys => by
    unfold insB
    have := insB_len x ys
    split <;> simp [this]
theorem plusB_len (l : List S24) (x : S24) : (plusB l x).length ≤ l.length + 1 := by
  have := foldP_len (putP (insB x l)) []
  unfold plusB
  rw [show (putP (insB x l)).length = l.length + 1 by simp [putP, insB_len]] at this
  simpa using this
theorem cuts_len (x : S24) : ∀ l : List S24, (l.flatMap (cutP x)).length ≤ 2 * l.length
  | [] => Nat.le_refl _
  | y :: ys => by
    have := cuts_len x ys
    rw [List.flatMap_cons, List.length_append, List.length_cons]
    have h : (cutP x y).length ≤ 2 := by
      unfold cutP
      split <;> simp
    omega
theorem lessB_len (l : List S24) (x : S24) : (lessB l x).length ≤ 2 * l.length := by
  have h1 := foldP_len (l.flatMap (cutP x)) []
  have h2 := cuts_len x l
  unfold lessB
  rw [List.length_nil] at h1
  omega
theorem mets_len (b : List S24) : ∀ a : List S24, (a.flatMap (metP b)).length = a.length * b.length
  | [] => by simp
  | y :: ys => by
    rw [List.flatMap_cons, List.length_append, mets_len b ys, List.length_cons, Nat.succ_mul]
    simp [metP]
    omega
theorem bothB_len (a b : List S24) : (bothB a b).length ≤ a.length * b.length := by
  have h1 := foldP_len (a.flatMap (metP b)) []
  rw [mets_len] at h1
  unfold bothB
  simpa using h1

/-! ### Which are bands -/
theorem plus_right {l : List S24} {x : S24} (hl : rightD l = true) (hx : rightD [x] = true) : rightD (plusB l x) = true := (rightD_iff _).2 (plus_spec ((rightD_iff _).1 hl) ((rightD_one x).1 hx)).1
theorem less_right {l : List S24} {x : S24} (hl : rightD l = true) (hx : rightD [x] = true) : rightD (lessB l x) = true := (rightD_iff _).2 (less_spec x ((rightD_iff _).1 hl) ((rightD_one x).1 hx).2.1).1
theorem both_right {l m : List S24} (hl : rightD l = true) (hm : rightD m = true) : rightD (bothB l m) = true := (rightD_iff _).2 (both_spec ((rightD_iff _).1 hl) ((rightD_iff _).1 hm)).1
theorem plus_has {l : List S24} {x : S24} (hl : rightD l = true) (hx : rightD [x] = true) (n : Int) : hasB (plusB l x) n = true ↔ hasB l n = true ∨ (x.f0 ≤ n ∧ n < x.f1) := (plus_spec ((rightD_iff _).1 hl) ((rightD_one x).1 hx)).2 n
theorem less_has {l : List S24} {x : S24} (hl : rightD l = true) (hx : rightD [x] = true) (n : Int) : hasB (lessB l x) n = true ↔ hasB l n = true ∧ ¬ (x.f0 ≤ n ∧ n < x.f1) := (less_spec x ((rightD_iff _).1 hl) ((rightD_one x).1 hx).2.1).2 n
theorem both_has {l m : List S24} (hl : rightD l = true) (hm : rightD m = true) (n : Int) : hasB (bothB l m) n = true ↔ hasB l n = true ∧ hasB m n = true := (both_spec ((rightD_iff _).1 hl) ((rightD_iff _).1 hm)).2 n
theorem one_has (x : S24) (n : Int) : hasB [x] n = true ↔ x.f0 ≤ n ∧ n < x.f1 := by simp [hasB]
theorem extD {l m : List S24} (hl : rightD l = true) (hm : rightD m = true) (h : ∀ n, hasB l n = true ↔ hasB m n = true) : l = m := right_ext ((rightD_iff _).1 hl) ((rightD_iff _).1 hm) h
theorem plus_ok {l : List S24} {x : S24} (hl : rightD l = true) (hx : rightD [x] = true) (hn : l.length ≤ 1000) : band_Plus.f l x.f0 x.f1 = some (plusB l x, 0) := by rw [plus_f l x hn, hl, hx]; rfl
theorem less_ok {l : List S24} {x : S24} (hl : rightD l = true) (hx : rightD [x] = true) (hn : l.length ≤ 1000) : band_Less.f l x.f0 x.f1 = some (lessB l x, 0) := by rw [less_f l x hn, hl, hx]; rfl
theorem both_ok {l m : List S24} (hl : rightD l = true) (hm : rightD m = true) (hn : l.length ≤ 1000) (hn' : m.length ≤ 1000) : band_Both.f l m = some (bothB l m, 0) := by rw [both_f l m hn hn', hl, hm]; rfl
theorem plus_no {l : List S24} {x : S24} (h : (rightD l && rightD [x]) = false) (hn : l.length ≤ 1000) : band_Plus.f l x.f0 x.f1 = some ([], 30) := by rw [plus_f l x hn, h]; rfl
theorem less_no {l : List S24} {x : S24} (h : (rightD l && rightD [x]) = false) (hn : l.length ≤ 1000) : band_Less.f l x.f0 x.f1 = some ([], 30) := by rw [less_f l x hn, h]; rfl
theorem both_no {l m : List S24} (h : (rightD l && rightD m) = false) (hn : l.length ≤ 1000) (hn' : m.length ≤ 1000) : band_Both.f l m = some ([], 30) := by rw [both_f l m hn hn', h]; rfl

/-! ### How many lengths -/
theorem total_ok {l : List S24} (hl : rightD l = true) (hn : l.length ≤ 1000) : band_Total.f l = some (ctB (hasB l)) := by
  have h := (rightD_iff l).1 hl
  unfold band_Total.f
  rw [if_pos hn, if_pos hl, lenB_ct (by omega) h.1 h.2]
theorem cnt_bounds (p : Int → Bool) (a : Int) : ∀ k : Nat, 0 ≤ cntB p a k ∧ cntB p a k ≤ k
  | 0 => ⟨Int.le_refl _, Int.le_refl _⟩
  | k + 1 => by
    have := cnt_bounds p a k
    unfold cntB
    split <;> omega
theorem ct_bounds (p : Int → Bool) : 0 ≤ ctB p ∧ ctB p ≤ 2147483650 := cnt_bounds p _ _

end Go.Proofs.YtomgpbhkoellpaaDoor.P
