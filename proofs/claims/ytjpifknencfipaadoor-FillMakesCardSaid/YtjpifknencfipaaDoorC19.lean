/- The law FillMakes answers true, whatever comes in, and leaves what came in as it was: the row and the tied card. Conditions: none. -/
import Derived.Test.YtjpifknencfipaaDoorRows
import Derived.Test.YtjpifknencfipaaDoorTie
import Derived.Test.YtjpifknencfipaaDoorCards
import Derived.Test.YtjpifknencfipaaDoorRw
import Derived.Test.YtjpifknencfipaaDoorRd
import Derived.Test.YtjpifknencfipaaDoorLs
import Derived.Test.YtjpifknencfipaaDoorP19
import Derived.WalkKit
import Derived.ProofKit
import Derived.OpenShut
import Derived.ChangeOld
import Derived.Below
import Derived.SizedLaws
import Derived.JoinedOf
import Derived.ChangeVars
import Derived.SevenTiedAt
import Derived.Stop.Joined
set_option linter.unusedVariables false
set_option linter.unusedSimpArgs false
namespace Go.Proofs.YtjpifknencfipaaDoor.P
open Go.RowKit Go.Proofs.YtjpifknencfipaaDoorW.PrintWords Go.Proofs.YtjpifknencfipaaDoorW.PrintLast Go.Proofs.YtjpifknencfipaaDoorW.PrintMore

/-! ### Some atoms of the list -/
theorem sub_at (l : List S32) (a b i : Nat) (hi : i < b - a) (hb : b ≤ l.length) : atA ((l.take b).drop a) i = atA l (a + i) := by
  unfold atA
  rw [List.getD_eq_getElem?_getD, List.getD_eq_getElem?_getD, List.getElem?_drop, List.getElem?_take_of_lt (by omega)]
theorem sub_pre (l : List S32) (a b : Nat) (hb : b ≤ l.length) : ∀ i, i ≤ b - a → preA ((l.take b).drop a) i = preA l (a + i) - preA l a
  | 0, _ => by simp [preA]
  | i + 1, hi => by
    have e := sub_at l a b i (by omega) hb
    show preA ((l.take b).drop a) i + stA ((l.take b).drop a) i = preA l (a + i) + stA l (a + i) - preA l a
    rw [sub_pre l a b hb i (by omega)]
    unfold stA spA hhA
    rw [e]
    omega
theorem sub_right (l : List S32) (hr : rightA l = true) (a b : Nat) : rightA ((l.take b).drop a) = true := by
  unfold rightA at hr ⊢
  simp only [Bool.and_eq_true, decide_eq_true_eq] at hr ⊢
  refine ⟨fun x hx => hr.1 x (List.mem_of_mem_take (List.mem_of_mem_drop hx)), ?_⟩
  rw [List.length_drop, List.length_take]
  omega
theorem ref_high (l : List S32) (hr : rightA l = true) (a b : Nat) (hab : a < b) (hb : b ≤ l.length) {k : Nat} (hk : l.length < k) : gutterref14_high.f k l (a : Int) (b : Int) = some (hiA l a b) := by
  unfold gutterref14_high.f
  rw [if_pos (by omega), if_pos (by omega), if_pos (by omega)]
  simp only [Int.toNat_natCast]
  have hlen : ((l.take b).drop a).length = b - a := by rw [List.length_drop, List.length_take]; omega
  rw [high_right _ (sub_right l hr a b) (by rw [hlen]; omega), Option.bind_some]
  unfold allA
  rw [hlen, if_neg (by omega)]
  have h1 := sub_pre l a b hb (b - a) (Nat.le_refl _)
  have h2 := sub_at l a b 0 (by omega) hb
  unfold hiA
  rw [h1, show a + (b - a) = b by omega]
  have h3 : spA ((l.take b).drop a) 0 = spA l a := by unfold spA; rw [h2]; rfl
  rw [h3]
  simp [preA]

/-! ### Where a column ends -/
theorem ref_l1 (l : List S32) (a d : Nat) (hd : d < l.length) (hn : l.length ≤ 150) : ∀ (x k : Nat), x ≤ d → x < k → gutterref14_end.l1 k l (a : Int) (d : Int) (x : Int) = some ((backA l a d x : Int), (d : Int))
  | 0, k, hx, hk => by
    obtain ⟨k, rfl⟩ : ∃ m, k = m + 1 := ⟨k - 1, by omega⟩
    simp only [gutterref14_end.l1]
    rw [if_neg (by omega)]
    rfl
  | x + 1, k, hx, hk => by
    obtain ⟨k, rfl⟩ : ∃ m, k = m + 1 := ⟨k - 1, by omega⟩
    simp only [gutterref14_end.l1]
    unfold backA
    by_cases h1 : x + 1 ≤ a
    · rw [if_neg (by omega), if_pos h1]
    · rw [if_pos (by omega), if_pos (by omega), if_pos (by omega), if_neg h1, rd_32]
      by_cases h2 : bkA l (x + 1) = 0
      · rw [if_pos (show (atA l (x + 1)).f4 = 0 from h2), if_pos h2]
      · rw [if_neg (show ¬ (atA l (x + 1)).f4 = 0 from h2), if_neg h2, w64 (by omega), show (((x + 1 : Nat) : Int) - 1) = (x : Int) by push_cast; omega]
        exact ref_l1 l a d hd hn x k (by omega) (by omega)
theorem ref_end_l0 (l : List S32) (hr : rightA l = true) (hn : l.length ≤ 150) (h : Int) (a : Nat) : ∀ (n i k : Nat), i + n = l.length → a < i → n + 320 ≤ k →
    gutterref14_end.l0 k l (a : Int) h (i : Int) = some (if (scanA l h a n i).2 = true then ((backA l a (scanA l h a n i).1 (scanA l h a n i).1 : Int), ((scanA l h a n i).1 : Int)) else (((scanA l h a n i).1 : Int), 0))
  | 0, i, k, hi, ha, hk => by
    obtain ⟨k, rfl⟩ : ∃ m, k = m + 1 := ⟨k - 1, by omega⟩
    simp only [gutterref14_end.l0, scanA]
    rw [if_neg (by omega)]
    obtain rfl : i = l.length := by omega
    rfl
  | n + 1, i, k, hi, ha, hk => by
    obtain ⟨k, rfl⟩ : ∃ m, k = m + 1 := ⟨k - 1, by omega⟩
    simp only [gutterref14_end.l0]
    unfold scanA
    rw [if_pos (by omega), if_pos (by omega), rd_32, w64 (by omega), show ((i : Int) + 1) = ((i + 1 : Nat) : Int) by push_cast; rfl]
    by_cases hb : bkA l i = 2
    · rw [if_pos (show (atA l i).f4 = 2 from hb), if_pos hb]
      rfl
    · rw [if_neg (show ¬ (atA l i).f4 = 2 from hb), if_neg hb, ref_high l hr a (i + 1) (by omega) (by omega) (by omega), Option.bind_some]
      by_cases hh : hiA l a (i + 1) > h
      · rw [if_pos hh, if_pos hh, if_pos rfl, ref_l1 l a i (by omega) hn i k (Nat.le_refl _) (by omega)]
      · rw [if_neg hh, if_neg hh]
        exact ref_end_l0 l hr hn h a n (i + 1) k (by omega) (by omega) (by omega)
theorem ref_end (l : List S32) (hr : rightA l = true) (hn : l.length ≤ 150) (h : Int) (a : Nat) (ha : a < l.length) {k : Nat} (hk : 500 ≤ k) : gutterref14_end.f k l (a : Int) h = some (((endA l h a).1 : Int), ((endA l h a).2 : Int)) := by
  unfold gutterref14_end.f
  rw [w64 (by omega), show ((a : Int) + 1) = ((a + 1 : Nat) : Int) by push_cast; rfl, ref_end_l0 l hr hn h a (l.length - (a + 1)) (a + 1) k (by omega) (by omega) (by omega)]
  unfold endA
  simp only []
  split
  · rfl
  · rfl

/-! ### Columns, the next height -/
theorem ref_is (l : List S32) (hn : l.length ≤ 150) (h : Int) {k : Nat} (hk : 500 ≤ k) : gutterref14_is.f k l h = some (fineA l h) := by
  unfold gutterref14_is.f fineA
  rw [ref_right l (by omega) (by omega), Option.bind_some]
  by_cases hr : rightA l = true
  · rw [if_pos hr, hr]
    by_cases h0 : h ≥ 0
    · rw [if_pos h0]
      have : gutterref14_most.f = some 2199023255552 := rfl
      rw [this, Option.bind_some]
      simp [h0]
    · rw [if_neg h0]
      have : decide (0 ≤ h) = false := decide_eq_false (by omega)
      rw [this]
      rfl
  · rw [if_neg hr]
    have : rightA l = false := by simpa using hr
    rw [this]
    rfl
theorem ref_fill_l0 (l : List S32) (hr : rightA l = true) (hn : l.length ≤ 150) (h : Int) : ∀ (n a k : Nat) (acc : List S73), l.length - a ≤ n → a ≤ l.length → acc.length ≤ a → n + 501 ≤ k →
    gutterref14_Fill.l0 k l h acc (a : Int) = some (acc ++ (colsA l h n a).map (ColA.out l), 0)
  | 0, a, k, acc, hna, ha, hacc, hk => by
    obtain ⟨k, rfl⟩ : ∃ m, k = m + 1 := ⟨k - 1, by omega⟩
    simp only [gutterref14_Fill.l0, colsA]
    rw [if_neg (by omega)]
    simp
  | n + 1, a, k, acc, hna, ha, hacc, hk => by
    obtain ⟨k, rfl⟩ : ∃ m, k = m + 1 := ⟨k - 1, by omega⟩
    simp only [gutterref14_Fill.l0]
    unfold colsA
    by_cases hlt : a < l.length
    · have hb := end_bounds l h a hlt
      rw [if_pos (by omega), if_pos hlt, ref_end l hr hn h a hlt (by omega), Option.bind_some]
      simp only []
      rw [ref_high l hr a _ hb.1 hb.2 (by omega), Option.bind_some, if_pos (by omega), ref_fill_l0 l hr hn h n (endA l h a).1 k _ (by omega) hb.2 (by rw [List.length_append]; simp; omega) (by omega)]
      rw [List.map_cons, List.append_assoc]
      rfl
    · rw [if_neg (by omega), if_neg hlt]
      simp
theorem ref_fill (l : List S32) (hn : l.length ≤ 150) (h : Int) {k : Nat} (hk : 1000 ≤ k) : gutterref14_Fill.f k l h = fill_Fill.f l h := by
  unfold gutterref14_Fill.f fill_Fill.f
  rw [ref_is l hn h (by omega), Option.bind_some]
  by_cases hf : fineA l h = true
  · rw [if_pos hf, if_pos hf]
    have hr : rightA l = true := by
      unfold fineA at hf
      simp only [Bool.and_eq_true] at hf
      exact hf.1.1
    have := ref_fill_l0 l hr hn h l.length 0 k [] (by omega) (by omega) (by simp) (by omega)
    simpa [fillA] using this
  · rw [if_neg hf, if_neg hf]
theorem ref_short_l0 (l : List S32) (hr : rightA l = true) (hn : l.length ≤ 150) (h : Int) : ∀ (n a k : Nat) (m : Int), l.length - a ≤ n → a ≤ l.length → 0 ≤ m → n + 501 ≤ k →
    gutterref14_Short.l0 k l h m (decide (0 < m)) (a : Int) = some (leastA l m (colsA l h n a), decide (0 < leastA l m (colsA l h n a)), 0)
  | 0, a, k, m, hna, ha, hm, hk => by
    obtain ⟨k, rfl⟩ : ∃ q, k = q + 1 := ⟨k - 1, by omega⟩
    simp only [gutterref14_Short.l0, colsA, leastA]
    rw [if_neg (by omega)]
  | n + 1, a, k, m, hna, ha, hm, hk => by
    obtain ⟨k, rfl⟩ : ∃ q, k = q + 1 := ⟨k - 1, by omega⟩
    simp only [gutterref14_Short.l0]
    unfold colsA
    by_cases hlt : a < l.length
    · have hb := end_bounds l h a hlt
      rw [if_pos (by omega), if_pos hlt, ref_end l hr hn h a hlt (by omega), Option.bind_some]
      simp only []
      have ih := fun m hm => ref_short_l0 l hr hn h n (endA l h a).1 k m (by omega) hb.2 hm (by omega)
      have hco : (colA l h a).over l = if (endA l h a).2 = 0 then 0 else hiA l a ((endA l h a).2 + 1) := rfl
      have eL : leastA l m (colA l h a :: colsA l h n (endA l h a).1) = leastA l (if (colA l h a).over l ≠ 0 ∧ (m = 0 ∨ (colA l h a).over l < m) then (colA l h a).over l else m) (colsA l h n (endA l h a).1) := rfl
      rw [eL, hco]
      rcases end_over l h a hlt with ⟨q, _⟩ | ⟨_, q2, q3, _, _⟩
      · rw [q, if_neg (by omega)]
        simp only [if_true]
        rw [if_neg (by simp)]
        exact ih m hm
      · have hh := hi_range hr a ((endA l h a).2 + 1) (by omega) (by omega)
        rw [if_pos (by omega), if_neg (show ¬ (endA l h a).2 = 0 by omega), w64 (by omega), show (((endA l h a).2 : Int) + 1) = (((endA l h a).2 + 1 : Nat) : Int) by push_cast; rfl, ref_high l hr a _ (by omega) (by omega) (by omega), Option.bind_some]
        by_cases hm0 : 0 < m
        · rw [if_pos (decide_eq_true hm0)]
          by_cases hlt2 : hiA l a ((endA l h a).2 + 1) < m
          · rw [if_pos hlt2, if_pos (by omega)]
            have := ih (hiA l a ((endA l h a).2 + 1)) (by omega)
            rw [decide_eq_true (show 0 < hiA l a ((endA l h a).2 + 1) by omega)] at this
            exact this
          · rw [if_neg hlt2, if_neg (by omega)]
            exact ih m hm
        · rw [if_neg (by simpa using hm0), if_pos (by omega)]
          have := ih (hiA l a ((endA l h a).2 + 1)) (by omega)
          rw [decide_eq_true (show 0 < hiA l a ((endA l h a).2 + 1) by omega)] at this
          exact this
    · rw [if_neg (by omega), if_neg hlt]
      rfl
theorem ref_short (l : List S32) (hn : l.length ≤ 150) (h : Int) {k : Nat} (hk : 1000 ≤ k) : gutterref14_Short.f k l h = fill_Short.f l h := by
  unfold gutterref14_Short.f fill_Short.f
  rw [ref_is l hn h (by omega), Option.bind_some]
  by_cases hf : fineA l h = true
  · rw [if_pos hf, if_pos hf]
    have hr : rightA l = true := by
      unfold fineA at hf
      simp only [Bool.and_eq_true] at hf
      exact hf.1.1
    exact ref_short_l0 l hr hn h l.length 0 k 0 (by omega) (by omega) (by omega) (by omega)
  · rw [if_neg hf, if_neg hf]
theorem ref_cols (l : List S32) (hn : l.length ≤ 150) (h : Int) {k : Nat} (hk : 1000 ≤ k) : gutterref14_Cols.f k l h = fill_Cols.f l h := by
  unfold gutterref14_Cols.f fill_Cols.f
  rw [ref_fill l hn h hk]
theorem ref_same_l0 (a : List S73) (hn : a.length ≤ 9223372036854775807) (d : Nat) : ∀ (k i : Nat), i ≤ a.length → a.length - i = d → d < k → gutterref14_Same.l0 k a a (i : Int) = some true := by
  induction d with
  | zero =>
    intro k i h0 hd hk
    obtain ⟨k, rfl⟩ : ∃ m, k = m + 1 := ⟨k - 1, by omega⟩
    simp only [gutterref14_Same.l0]
    rw [if_neg (by omega)]
  | succ d ih =>
    intro k i h0 hd hk
    obtain ⟨k, rfl⟩ : ∃ m, k = m + 1 := ⟨k - 1, by omega⟩
    simp only [gutterref14_Same.l0]
    rw [if_pos (by omega), if_pos (by omega), if_pos (by omega), if_neg (fun e => (neq73 _ _).1 e rfl), wrap64_succ (n := a.length) (by omega) (by omega) hn, show ((i : Int) + 1) = ((i + 1 : Nat) : Int) by push_cast; rfl]
    exact ih k (i + 1) (by omega) (by omega) (by omega)
theorem ref_same (a : List S73) (hn : a.length ≤ 9223372036854775807) {k : Nat} (hk : a.length < k) : gutterref14_Same.f k a a = some true := by
  unfold gutterref14_Same.f
  rw [if_pos rfl]
  exact ref_same_l0 a hn a.length k 0 (by omega) (by omega) hk

theorem FillMakes_true (l0 : List S32) (a1 : Int) : gutterlaw14_FillMakes.f 2000 l0 a1 = some true := by
  unfold gutterlaw14_FillMakes.f
  have hf := few_len l0
  rw [shown_f (by omega), Option.bind_some, few_f, Option.bind_some]
  generalize fewA l0 = l at hf
  rw [ref_fill l hf a1 (by omega), ref_cols l hf a1 (by omega), ref_short l hf a1 (by omega)]
  have hF : ∃ x : List S73 × Int, fill_Fill.f l a1 = some x ∧ x.1.length ≤ 150 := by
    unfold fill_Fill.f
    have := fill_len l a1
    split
    · exact ⟨_, rfl, by simp; omega⟩
    · exact ⟨_, rfl, by simp⟩
  obtain ⟨x, hx, hxl⟩ := hF
  have hS : ∃ y, fill_Short.f l a1 = some y := by
    unfold fill_Short.f
    split
    · exact ⟨_, rfl⟩
    · exact ⟨_, rfl⟩
  obtain ⟨y, hy⟩ := hS
  unfold fill_Cols.f
  rw [hx, hy]
  simp only [Option.bind_some]
  rw [if_pos trivial, ref_same x.1 (by omega) (by omega), Option.bind_some]
  simp

end Go.Proofs.YtjpifknencfipaaDoor.P
namespace Go.Proofs.YtjpifknencfipaaDoor.FillMakesRow
open Go
set_option maxRecDepth 100000
theorem h10 : (Rows.fillMakesRow.inPlace == Tryd.prog.inPlace 19) = true := by kernel_rfl
theorem h11 : (Rows.fillMakesRow.unfollowed == Tryd.prog.unfollowed 19) = true := by kernel_rfl
theorem h12 : (Rows.fillMakesRow.recurses == Tryd.prog.recurses 19) = true := by kernel_rfl
theorem h13 : (Rows.fillMakesRow.named == Tryd.prog.varsNamed 19) = true := by kernel_rfl
theorem g1 : (Rows.fillMakesRow.plainKeys == Tryd.prog.plainKeys) = true := Rd.g1
theorem g4 : (Rows.fillMakesRow.lifted == Tryd.prog.liftsFinal) = true := Rd.g4
theorem g5 : (Tryd.prog.make == some Rows.fillMakesRow.make) = true := Rd.g5
theorem closed : joinedFacts Tryd.prog 19 Tryd.f19 Rows.fillMakesSpec Rows.fillMakesRow = true := by
  unfold joinedFacts
  rw [Rd.f2, Rd.f3, Rd.f7, Rd.f9, h10, h11, h12, h13, g1, Rd.g2, Rd.g3, g4, g5]
  kernel_rfl
end Go.Proofs.YtjpifknencfipaaDoor.FillMakesRow

namespace Go.Proofs.YtjpifknencfipaaDoor.FillMakesRow
open Go.ChangeShapes Go.WideShapes Go.ChangeAt Go.RowKit Go.Proofs.YtjpifknencfipaaDoor Go.Proofs.YtjpifknencfipaaDoor.P
set_option maxRecDepth 100000 in
theorem lifted (os : Os) (started : os.Started) (H : Type) (enc : TypeId × Value → H) :
    ReturnsInHanded {} Tryd.checked os 19 .any (fun w args => (Rows.fillMakesSpec.pre enc Tryd.prog Tryd.f19 [] false w args ∧ laidMetH Tryd.prog R.L1 w) ∧ sizedMet enc Tryd.prog Tryd.f19 (OpenSpec.ofChange Rows.fillMakesSpec) false w args)
      (Rows.fillMakesSpec.post enc Tryd.prog Tryd.f19 false true false false) := by
  refine returnsInHanded_of_change_and (C := Tryd.checked) (X := fun w _ => laidMetH Tryd.prog R.L1 w) (fun _ _ _ hh h => h.of_heap hh) R.own started (by kernel_rfl) Tryd.func19
    (ChangeSpec.witness_at (enc := enc) (C := Tryd.checked) (os := os) (X := fun w _ => laidMetH Tryd.prog R.L1 w) false (World.laidAll Tryd.prog os R.L1) #[.slice none 0 0, .int .i64 0] 8 rfl (by kernel_rfl) (by kernel_rfl) (by kernel_rfl) (by kernel_rfl) (by kernel_rfl) (R.met1 os _)) ?_
  intro W base args ds gs before hval0 hW _ _ hL _
  have hval : ∀ (j : Nat) t v, Tryd.f19.params[j]? = some t → args[j]? = some v → Value.okWide Tryd.prog W .any base t v := hval0
  have hW' := hW
  obtain ⟨p, q, hA0, hV, rfl, hfz, hnd⟩ := hW
  have hA : DataW.TrodAll enc Tryd.prog W 0 (fun _ => true) true Tryd.f19.params.toList args.toList ds p := hA0
  rw [Tryd.params19] at hA hval
  obtain ⟨v0, vs0, d0, ds0, p0, q0, hargs, rfl, rfl, h0, r0⟩ := trodAll_cons hA
  obtain ⟨v1, vs1, d1, ds1, p1, q1, rfl, rfl, rfl, h1, r1⟩ := trodAll_cons r0
  obtain ⟨rfl, rfl, rfl⟩ := trodAll_nil r1
  obtain rfl : args = #[v0, v1] := by cases args; simp_all
  obtain ⟨rfl, rfl⟩ := trodVars_none hV
  obtain ⟨A0, len0, cap0, rfl⟩ := okWide_slice Tryd.underlying22 (hval 0 22 v0 rfl rfl)
  have k0 := h0
  have lt0 : ∀ x ∈ p0, x.block < W.heap.size := by obtain ⟨m, hm⟩ := k0; exact DataW.trod_lt m _ _ _ hm
  obtain ⟨l0, e0, c0, K0⟩ := R.atoms_in h0
  subst e0
  obtain ⟨a1, rfl, rfl, rfl, w1⟩ := open_int Tryd.underlying2 (hval 1 2 v1 rfl rfl) h1
  refine (gutterlaw14_FillMakes.calls (2000) _ _ l0 a1 true W K0 c0 (R.gl1 hL) (FillMakes_true l0 a1)).mono fun e W' ⟨he, bel⟩ => ?_
  subst he
  exact ⟨_, rfl, _, _, _, [], _, [], hW', trodAll_mk1 (shut_bool Tryd.underlying4 _), (trodAll_cons_mk (Below.trod R.laidOut (by kernel_rfl) (of_decide_eq_true (by kernel_rfl)) k0 bel lt0) (trodAll_cons_mk (shut_int Tryd.underlying2 w1) trodAll_mk0)), rfl, bel.frame _, fun h => by cases h⟩
set_option maxRecDepth 100000
theorem named : Tryd.prog.funcNamed Rows.fillMakesRow.func = some 19 := by kernel_rfl
theorem inst : Tryd.f19.isInstance Tryd.prog Rows.fillMakesRow.origin Rows.fillMakesRow.targs := of_decide_eq_true (by kernel_rfl)
theorem wrap : Tryd.f19.isWrapper Tryd.prog Rows.fillMakesRow.wrapper Rows.fillMakesRow.mainSum := by unfold Func.isWrapper; first | (rw [if_pos (by decide +kernel)]; kernel_rfl) | (rw [if_neg (by decide +kernel)]; exact ⟨rfl, rfl⟩)
theorem goes : false = Rows.fillMakesRow.goesBy Tryd.pinned.checked.prog := by kernel_rfl
theorem byText : Rows.fillMakesRow.wfByText (OpenSpec.ofChange Rows.fillMakesSpec) = true := by kernel_rfl
theorem over : Rows.FillMakesSaid :=
  OpenClaim.holds_of_wide 19 Tryd.f19 rfl rfl rfl rfl rfl rfl rfl ⟨rfl, rfl, rfl, rfl, rfl⟩ rfl rfl rfl rfl rfl named Tryd.func19 closed inst wrap
    (fun os started H enc _ => lifted os started H enc)
theorem noStand : ∀ (j : Nat) (t : TypeId), Tryd.f19.params[j]? = some t → Tryd.prog.wantsStandIn t = false := by
  intro j t ht
  rw [Tryd.params19] at ht
  have h3 : t = 2 ∨ t = 22 := by
    match j, ht with
    | 0, ht => cases ht; simp
    | 1, ht => cases ht; simp
    | j + 2, ht => simp at ht
  rcases h3 with rfl | rfl
  · exact R.stand2
  · exact R.stand22
end Go.Proofs.YtjpifknencfipaaDoor.FillMakesRow
namespace Go.Proofs.YtjpifknencfipaaDoor
open Go
/-- The tied card. -/
theorem fillMakes_card : Rows.FillMakesCardSaid :=
  Claim7.holds_tied_plain_at .later [] [.sentinel] true (true, "b9d29a5a8ac8ffd65bd7abf0387edf791e422c0f8ec1e9ac251d4174caa9c425") true
    FillMakesRow.over (fun _ h => by cases h) FillMakesRow.byText (fun _ h => by cases h) fillMakes_row_tie rfl ⟨rfl, rfl⟩ R.mainFact rfl
    (fun f fn hf hfn => by
      obtain rfl : f = 19 := (Option.some.inj (FillMakesRow.named.symm.trans hf)).symm
      obtain rfl : fn = Tryd.f19 := (Option.some.inj (Tryd.func19.symm.trans hfn)).symm
      exact ⟨R.looksFact, FillMakesRow.noStand⟩)
    FillMakesRow.goes
#print axioms fillMakes_card
end Go.Proofs.YtjpifknencfipaaDoor
