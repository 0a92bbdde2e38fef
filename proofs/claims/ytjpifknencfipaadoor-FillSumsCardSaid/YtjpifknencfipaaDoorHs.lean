/- Heights as a set: the list that insertion builds is what sorting any list without repeats of the same numbers gives; what a map that is ranged over has handed out so far. Conditions: none. -/
import Derived.Test.YtjpifknencfipaaDoorNy
import Derived.Maps.Range
import Derived.Maps.RangeWalk
import Derived.Maps.Ext
import Derived.Sort.KeysCollected
set_option linter.unusedVariables false
set_option linter.unusedSimpArgs false
namespace Go.Proofs.YtjpifknencfipaaDoor.P
open Go.RowKit Go.Maps

theorem mem_insA (x y : Int) : ∀ t : List Int, y ∈ insA x t ↔ y = x ∨ y ∈ t
  | [] => by simp [insA]
  | z :: zs => by
    unfold insA
    split
    · simp
    · split
      · next h => subst h; simp
      · simp only [List.mem_cons, mem_insA x y zs]
        constructor
        · rintro (h | h | h)
          · exact .inr (.inl h)
          · exact .inl h
          · exact .inr (.inr h)
        · rintro (h | h | h)
          · exact .inr (.inl h)
          · exact .inl h
          · exact .inr (.inr h)
theorem sort_insA (x : Int) : ∀ t : List Int, t.Pairwise (· < ·) → (insA x t).Pairwise (· < ·)
  | [], _ => by simp [insA]
  | z :: zs, h => by
    obtain ⟨h1, h2⟩ := List.pairwise_cons.1 h
    unfold insA
    split
    · next hx =>
      refine List.pairwise_cons.2 ⟨fun y hy => ?_, h⟩
      rcases List.mem_cons.1 hy with rfl | hy
      · exact hx
      · have := h1 y hy; omega
    · split
      · exact h
      · next hx hne =>
        refine List.pairwise_cons.2 ⟨fun y hy => ?_, sort_insA x zs h2⟩
        rcases (mem_insA x y zs).1 hy with rfl | hy
        · omega
        · exact h1 y hy
theorem fold_insA : ∀ (xs t : List Int), t.Pairwise (· < ·) → (xs.foldl (fun t x => insA x t) t).Pairwise (· < ·) ∧ ∀ y, y ∈ xs.foldl (fun t x => insA x t) t ↔ y ∈ t ∨ y ∈ xs
  | [], t, h => ⟨h, fun y => by simp⟩
  | x :: xs, t, h => by
    obtain ⟨h1, h2⟩ := fold_insA xs (insA x t) (sort_insA x t h)
    refine ⟨h1, fun y => ?_⟩
    rw [List.foldl_cons, h2, mem_insA, List.mem_cons]
    constructor
    · rintro ((h | h) | h)
      · exact .inr (.inl h)
      · exact .inl h
      · exact .inr (.inr h)
    · rintro (h | h | h)
      · exact .inl (.inr h)
      · exact .inl (.inl h)
      · exact .inr h
theorem heights_sorted (l : List S32) : (heightsA l).Pairwise (· < ·) := (fold_insA _ [0] (by simp)).1
theorem mem_heights (l : List S32) (y : Int) : y ∈ heightsA l ↔ y = 0 ∨ y ∈ pairsA l l.length := by
  rw [heightsA, (fold_insA _ [0] (by simp)).2]
  simp
/-- Sorting any list without repeats of the same numbers. -/
theorem sort_heights (l : List S32) (ss : List Int) (hn : ss.Nodup) (hm : ∀ x, x ∈ ss ↔ x ∈ heightsA l) : ss.mergeSort (fun x y => decide (x ≤ y)) = heightsA l := by
  have tr : ∀ a b c : Int, decide (a ≤ b) = true → decide (b ≤ c) = true → decide (a ≤ c) = true := fun a b c h1 h2 => by simp only [decide_eq_true_eq] at *; omega
  have tot : ∀ a b : Int, (decide (a ≤ b) || decide (b ≤ a)) = true := fun a b => by simp only [Bool.or_eq_true, decide_eq_true_eq]; omega
  have hs := heights_sorted l
  have hnd : (heightsA l).Nodup := hs.imp (fun h => by omega)
  refine List.Perm.eq_of_pairwise (le := fun a b => decide (a ≤ b) = true) (fun a b _ _ h1 h2 => ?_) (List.pairwise_mergeSort tr tot ss) (hs.imp fun h => by simp only [decide_eq_true_eq]; omega) ((List.mergeSort_perm ss _).trans ((List.perm_ext_iff_of_nodup hn hnd).2 hm))
  simp only [decide_eq_true_eq] at h1 h2
  omega

/-! ### The keys -/
theorem runs_len (l : List S32) (a : Nat) : ∀ n, (runsA l a n).length = n
  | 0 => rfl
  | n + 1 => by simp [runsA, runs_len l a n]
theorem pairs_len (l : List S32) (hl : l.length ≤ 200) : ∀ n, (pairsA l n).length ≤ n * 200
  | 0 => by simp [pairsA]
  | n + 1 => by
    have := pairs_len l hl n
    simp only [pairsA, List.length_append, runs_len]
    omega
/-- The keys after i whole rounds and n steps of the next. -/
def keysA (l : List S32) (i n : Nat) : List Int := 0 :: (pairsA l i ++ runsA l i n)
theorem keys_len (l : List S32) (hl : l.length ≤ 200) (i n : Nat) (hi : i ≤ l.length) (hn : n ≤ l.length) : (keysA l i n).length ≤ 40401 := by
  have h1 := pairs_len l hl i
  have h2 := runs_len l i n
  simp only [keysA, List.length_cons, List.length_append, h2]
  omega
theorem keys_succ (l : List S32) (i n : Nat) : keysA l i (n + 1) = keysA l i n ++ [hiA l i (i + n + 1)] := by
  simp [keysA, runsA]
theorem keys_next (l : List S32) (i : Nat) : keysA l (i + 1) 0 = keysA l i (l.length - i) := by
  simp [keysA, runsA, pairsA]
theorem keys_start (l : List S32) : keysA l 0 0 = [0] := rfl
theorem keys_end (l : List S32) (x : Int) : x ∈ keysA l l.length 0 ↔ x ∈ heightsA l := by
  rw [mem_heights]
  simp [keysA, runsA]

abbrev setI (xs : List Int) : DataW Unit := setOf (.lit (.bool true)) (xs.map (Lit.int .i64))
theorem setI_snoc (xs : List Int) (x : Int) : setI (xs ++ [x]) = (setI xs).put (.int .i64 x) (.lit (.bool true)) := by
  rw [setI, List.map_append]
  exact setOf_snoc _ _ _
theorem setI_has (xs : List Int) (x : Int) : has (setI xs) (.int .i64 x) = true ↔ x ∈ xs := by
  rw [has_setOf _ _ _ (fun y hy => by obtain ⟨z, _, rfl⟩ := List.mem_map.1 hy; trivial), List.any_eq_true]
  constructor
  · rintro ⟨y, hy, h⟩
    obtain ⟨z, hz, rfl⟩ := List.mem_map.1 hy
    have : z = x := by simpa [Lit.sameKey] using h
    exact this ▸ hz
  · intro h
    exact ⟨.int .i64 x, List.mem_map.2 ⟨x, h, rfl⟩, by simp [Lit.sameKey]⟩

/-- The keys met so far. -/
def CollI (D0 : DataW Unit) (left : Lit → Bool) (ss : List Int) : Prop := ss.Nodup ∧ ∀ x, x ∈ ss ↔ (has D0 (.int .i64 x) = true ∧ left (.int .i64 x) = false)
theorem CollI.start (D0 : DataW Unit) : CollI D0 (has D0) [] := ⟨List.nodup_nil, fun x => by cases has D0 (.int .i64 x) <;> simp⟩
theorem CollI.step {D0 : DataW Unit} {left : Lit → Bool} {ss : List Int} (h : CollI D0 left ss) {x : Int} {y : DataW Unit} (hlk : left (.int .i64 x) = true) (hat : ∀ zd, D0.atKey (.int .i64 x) zd = y) : CollI D0 (fun z => left z && !z.sameKey (.int .i64 x)) (ss ++ [x]) := by
  have hhas : has D0 (.int .i64 x) = true := has_true_of_atKey hat
  have hnew : x ∉ ss := fun hx => by have := ((h.2 x).1 hx).2; rw [hlk] at this; cases this
  refine ⟨List.nodup_append.2 ⟨h.1, by simp, fun a ha b hb => by simp at hb; subst hb; exact fun e => hnew (e ▸ ha)⟩, fun y => ?_⟩
  by_cases hy : y = x
  · subst hy; simp [hhas, Lit.sameKey]
  · simp [h.2 y, hy, Lit.sameKey]
theorem CollI.done {l : List S32} {left : Lit → Bool} {ss : List Int} (h : CollI (setI (keysA l l.length 0)) left ss) (hl : ∀ kl, left kl = false) : ss.mergeSort (fun x y => decide (x ≤ y)) = heightsA l :=
  sort_heights l ss h.1 fun x => by rw [h.2 x, hl, setI_has, keys_end]; simp

end Go.Proofs.YtjpifknencfipaaDoor.P
