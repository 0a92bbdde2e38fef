/- What the other package makes of two bands, in plain Lean: a band of the lengths that one has, that the first one alone has, that both have; so the two packages make the same bands. Conditions: none. -/
import Derived.Test.YtomgpbhkoellpaaDoorLa
import Derived.Test.YtomgpbhkoellpaaDoorP14
import Derived.Test.YtomgpbhkoellpaaDoorP16
import Derived.Test.YtomgpbhkoellpaaDoorP18
set_option linter.unusedVariables false
set_option linter.unusedSimpArgs false
namespace Go.Proofs.YtomgpbhkoellpaaDoor.P
open Go.RowKit Go.Proofs.YtomgpbhkoellpaaDoorW.PrintWords Go.Proofs.YtomgpbhkoellpaaDoorW.PrintLast Go.Proofs.YtomgpbhkoellpaaDoorW.PrintMore

theorem has_l0 (l : List S24) (n : Int) (hn : l.length ≤ 100000) (d : Nat) : ∀ (k i : Nat), l.length - i = d → d < k → i ≤ l.length → gutterref03_has.l0 k l n (i : Int) = some (hasB (l.drop i) n) := by
  induction d with
  | zero =>
    intro k i hd hk hi
    obtain ⟨k, rfl⟩ : ∃ m, k = m + 1 := ⟨k - 1, by omega⟩
    simp only [gutterref03_has.l0]
    rw [if_neg (by omega), List.drop_eq_nil_of_le (by omega)]
    rfl
  | succ d ih =>
    intro k i hd hk hi
    obtain ⟨k, rfl⟩ : ∃ m, k = m + 1 := ⟨k - 1, by omega⟩
    simp only [gutterref03_has.l0]
    rw [if_pos (by omega), if_pos (by omega), rd_24, w64 (by omega), show ((i : Int) + 1) = ((i + 1 : Nat) : Int) by push_cast; rfl, ih k (i + 1) (by omega) (by omega) (by omega), drop_24 l i (by omega)]
    generalize l.getD i z24 = x
    by_cases h1 : n ≥ x.f0
    · rw [if_pos h1]
      by_cases h2 : n < x.f1
      · rw [if_pos h2, (hasB_cons x _ n).2 (.inl ⟨h1, h2⟩)]
      · rw [if_neg h2]
        congr 1
        rw [Bool.eq_iff_iff, hasB_cons]
        exact ⟨.inr, fun e => e.resolve_left (by omega)⟩
    · rw [if_neg h1]
      congr 1
      rw [Bool.eq_iff_iff, hasB_cons]
      exact ⟨.inr, fun e => e.resolve_left (by omega)⟩
theorem has_f (l : List S24) (n : Int) (hn : l.length ≤ 100000) {k : Nat} (hk : l.length < k) : gutterref03_has.f k l n = some (hasB l n) := has_l0 l n hn l.length k 0 (by omega) hk (Nat.zero_le _)

/-- 0: that one has, 1: that the first one alone has, 2: that both have. -/
def inB (a b : List S24) (how : Int) (n : Int) : Bool := if how = 0 then hasB a n || hasB b n else if how = 1 then hasB a n && !hasB b n else if how = 2 then hasB a n && hasB b n else false
/-- The pieces from mark i on. -/
def ofP (a b : List S24) (how : Int) (M : List Int) : Nat → Nat → List (Int × Int)
  | 0, _ => []
  | d + 1, i => (if inB a b how (M.getD i 0) = true then [(M.getD i 0, M.getD (i + 1) 0)] else []) ++ ofP a b how M d (i + 1)
/-- The last end, if there is one, is n at most. -/
def EndLe (l : List S24) (n : Int) : Prop := ∀ pre y, l = pre ++ [y] → y.f1 ≤ n
theorem EndLe.le {l : List S24} {n m : Int} (h : EndLe l n) (hm : n ≤ m) : EndLe l m := fun pre y e => by have := h pre y e; omega
theorem snoc_inj {pre pre' : List S24} {y y' : S24} (h : pre ++ [y] = pre' ++ [y']) : pre = pre' ∧ y = y' := by
  have := List.append_inj' h rfl
  exact ⟨this.1, by simpa using this.2⟩
theorem addB_end {l : List S24} {f t : Int} (h : EndLe l f) (hft : f ≤ t) : EndLe (addB l f t) t := by
  rcases List.eq_nil_or_concat l with rfl | ⟨pre, y, rfl⟩
  · unfold addB
    split
    · intro pre y e
      simp at e
    · intro pre y e
      have := snoc_inj (pre := []) e
      rw [← this.2]
      exact Int.le_refl _
  · rw [List.concat_eq_append] at h ⊢
    have hy := h pre y rfl
    rw [addB_snoc]
    split
    · exact h.le hft
    · split
      · intro p z e
        rw [← (snoc_inj e).2]
        show max y.f1 t ≤ t
        omega
      · intro p z e
        rw [show pre ++ [y, ⟨f, t⟩] = (pre ++ [y]) ++ [(⟨f, t⟩ : S24)] by simp] at e
        rw [← (snoc_inj e).2]
        exact Int.le_refl _

theorem of_in (a b : List S24) (how : Int) (hh : how = 0 ∨ how = 1 ∨ how = 2) (n : Int) (r : Bool → Option (List S24)) :
    (if how = 0 then (if hasB a n = true then r true else (if hasB b n = true then r true else (if how = 1 then (if how = 2 then r false else r false) else (if how = 2 then r false else r false)))) else (if how = 1 then (if hasB a n = true then (if hasB b n = true then (if how = 2 then r (hasB b n) else r false) else r true) else (if how = 2 then r false else r false)) else (if how = 2 then (if hasB a n = true then r (hasB b n) else r false) else r false)))
      = r (inB a b how n) := by
  unfold inB
  rcases hh with rfl | rfl | rfl <;> cases hasB a n <;> cases hasB b n <;> simp

theorem of_l0 (a b : List S24) (how : Int) (hh : how = 0 ∨ how = 1 ∨ how = 2) (ha : a.length ≤ 1000) (hb : b.length ≤ 1000) (M : List Int) (hM : UpI M) (hn : M.length ≤ 100000) : ∀ (d i k : Nat) (out : List S24), M.length - (i + 1) = d → i ≤ M.length → out.length ≤ i → (i < M.length → EndLe out (M.getD i 0)) → 1001 + 3 * (d + 1) ≤ k →
    gutterref03_of.l0 k a b how out M (i : Int) = some (foldP (ofP a b how M d i) out)
  | 0, i, k, out, hd, hi, ho, he, hk => by
    obtain ⟨k, rfl⟩ : ∃ m, k = m + 1 := ⟨k - 1, by omega⟩
    simp only [gutterref03_of.l0]
    rw [w64 (by omega), if_neg (by omega)]
    rfl
  | d + 1, i, k, out, hd, hi, ho, he, hk => by
    obtain ⟨k, rfl⟩ : ∃ m, k = m + 3 := ⟨k - 3, by omega⟩
    have hlt : i < M.length := by omega
    have hmm := up_getD hM i (i + 1) (by omega) (by omega)
    have hE := he hlt
    have ih := fun out ho he => of_l0 a b how hh ha hb M hM hn d (i + 1) k out (by omega) (by omega) ho he (by omega)
    have ih' : ∀ out, out.length ≤ i + 1 → EndLe out (M.getD (i + 1) 0) → gutterref03_of.l0 k a b how out M (wrap64 ((i : Int) + 1)) = some (foldP (ofP a b how M d (i + 1)) out) := fun out ho he => by
      rw [w64 (by omega), show ((i : Int) + 1) = ((i + 1 : Nat) : Int) by push_cast; rfl]
      exact ih out ho (fun _ => he)
    have ih3 : ∀ out, out.length ≤ i + 1 → EndLe out (M.getD (i + 1) 0) → gutterref03_of.l0 k a b how out M ((i : Int) + 1) = some (foldP (ofP a b how M d (i + 1)) out) := fun out ho he => by
      have := ih' out ho he
      rwa [w64 (by omega)] at this
    simp only [gutterref03_of.l0]
    rw [w64 (by omega), if_pos (by omega), if_pos (by omega), if_pos (by omega), rd_nat, has_f a _ (by omega) (by omega), Option.bind_some, has_f b _ (by omega) (by omega), Option.bind_some]
    rw [of_in a b how hh (M.getD i 0) (fun x => gutterref03_of.j1 (k + 2) a b how out M (i : Int) x)]
    have hskip : gutterref03_of.j2 (k + 1) a b how out M (i : Int) true = some (foldP (ofP a b how M d (i + 1)) out) := by
      simp only [gutterref03_of.j2]
      rw [if_pos trivial]
      exact ih' out (by omega) (hE.le hmm)
    unfold ofP
    cases hin : inB a b how (M.getD i 0) with
    | false =>
      simp only [gutterref03_of.j1]
      rw [if_neg (by simp), if_neg (by simp), List.nil_append]
      exact hskip
    | true =>
      have hnext : ((i : Int) + 1) = ((i + 1 : Nat) : Int) := by push_cast; rfl
      have hg : foldP ([(M.getD i 0, M.getD (i + 1) 0)] ++ ofP a b how M d (i + 1)) out = foldP (ofP a b how M d (i + 1)) (addB out (M.getD i 0) (M.getD (i + 1) 0)) := rfl
      simp only [gutterref03_of.j1]
      rw [if_pos trivial, if_pos (by omega), if_pos (by omega), w64 (by omega), if_pos (by omega), if_pos (by omega), hnext, rd_nat, rd_nat, if_pos trivial, hg]
      have hal := addB_len out (M.getD i 0) (M.getD (i + 1) 0)
      have hae := addB_end hE hmm
      have ih2 := ih' (addB out (M.getD i 0) (M.getD (i + 1) 0)) (by omega) hae
      rw [w64 (by omega)] at ih2
      by_cases heq : M.getD i 0 = M.getD (i + 1) 0
      · rw [show (M.getD i 0 == M.getD (i + 1) 0) = true by simpa using heq, hskip, addB_empty (by omega)]
      · rw [show (M.getD i 0 == M.getD (i + 1) 0) = false by simpa using heq]
        simp only [gutterref03_of.j2]
        rw [if_neg (by simp)]
        rcases List.eq_nil_or_concat out with rfl | ⟨pre, y, rfl⟩
        · have e : addB [] (M.getD i 0) (M.getD (i + 1) 0) = [⟨M.getD i 0, M.getD (i + 1) 0⟩] := by
            unfold addB
            rw [if_neg (by omega)]
          rw [e] at ih2 ⊢
          rw [if_neg (by simp), if_pos (by omega), if_pos (by omega), w64 (by omega), if_pos (by omega), if_pos (by omega), if_pos (by simp)]
          rw [hnext, rd_nat, rd_nat, ← hnext]
          exact ih2
        · rw [List.concat_eq_append] at *
          have hy := hE pre y rfl
          have hlen : (pre ++ [y]).length = pre.length + 1 := by simp
          have hrd : rd_T24 (pre ++ [y]) (pre.length : Int) = y := by rw [rd_24]; simp [List.getD_eq_getElem?_getD]
          have hlo : pre.length + 1 ≤ i := by rw [← hlen]; exact ho
          have hs : addB (pre ++ [y]) (M.getD i 0) (M.getD (i + 1) 0) = if y.f1 ≥ M.getD i 0 then pre ++ [⟨y.f0, max y.f1 (M.getD (i + 1) 0)⟩] else pre ++ [y, ⟨M.getD i 0, M.getD (i + 1) 0⟩] := by
            rw [addB_snoc, if_neg (by omega)]
          rw [hs] at ih2 ⊢
          rw [hlen, if_pos (by omega), w64 (x := ((pre.length + 1 : Nat) : Int) - 1) (by omega), show (((pre.length + 1 : Nat) : Int) - 1) = (pre.length : Int) by omega, if_pos (by omega), if_pos (by omega), if_pos (by omega), if_pos (by omega), hrd, rd_nat, w64 (x := (i : Int) + 1) (by omega), hnext, rd_nat]
          by_cases ht : y.f1 = M.getD i 0
          · rw [if_pos ht, if_pos (by omega), if_pos (by omega)]
            simp only [Int.toNat_natCast]
            have hset : (pre ++ [y]).set pre.length (⟨y.f0, M.getD (i + 1) 0⟩ : S24) = pre ++ [⟨y.f0, M.getD (i + 1) 0⟩] := by
              rw [List.set_append_right _ _ (Nat.le_refl _), Nat.sub_self]
              rfl
            rw [if_pos (by omega), show max y.f1 (M.getD (i + 1) 0) = M.getD (i + 1) 0 by omega] at ih2 ⊢
            rw [hset, ← hnext]
            exact ih2
          · rw [if_neg ht, if_pos (by omega), if_pos (by omega), if_pos (by omega)]
            rw [if_neg (by omega)] at ih2 ⊢
            rw [← hnext]
            have e2 : pre ++ [y] ++ [(⟨M.getD i 0, M.getD (i + 1) 0⟩ : S24)] = pre ++ [y, ⟨M.getD i 0, M.getD (i + 1) 0⟩] := by simp
            rw [e2]
            exact ih2

/-! ### What such a band has -/
theorem ofP_mem (a b : List S24) (how : Int) (M : List Int) (p : Int × Int) : ∀ (d i : Nat), p ∈ ofP a b how M d i → ∃ j, i ≤ j ∧ j < i + d ∧ inB a b how (M.getD j 0) = true ∧ p = (M.getD j 0, M.getD (j + 1) 0)
  | 0, i, h => by simp [ofP] at h
  | d + 1, i, h => by
    unfold ofP at h
    rcases List.mem_append.1 h with h | h
    · split at h
      · next hin => exact ⟨i, Nat.le_refl _, by omega, hin, by simpa using h⟩
      · cases h
    · obtain ⟨j, h1, h2, h3, h4⟩ := ofP_mem a b how M p d (i + 1) h
      exact ⟨j, by omega, by omega, h3, h4⟩
theorem mem_ofP (a b : List S24) (how : Int) (M : List Int) : ∀ (d i j : Nat), i ≤ j → j < i + d → inB a b how (M.getD j 0) = true → (M.getD j 0, M.getD (j + 1) 0) ∈ ofP a b how M d i
  | 0, i, j, h1, h2, _ => by omega
  | d + 1, i, j, h1, h2, h3 => by
    unfold ofP
    by_cases e : j = i
    · subst e
      rw [if_pos h3]
      simp
    · exact List.mem_append_right _ (mem_ofP a b how M d (i + 1) j (by omega) (by omega) h3)
theorem ofP_srt (a b : List S24) (how : Int) (M : List Int) (hM : UpI M) : ∀ (d i : Nat) (lo : Int), i + d + 1 ≤ M.length ∨ d = 0 → lo ≤ M.getD i 0 → Srt lo (ofP a b how M d i)
  | 0, i, lo, _, _ => trivial
  | d + 1, i, lo, hd, hlo => by
    have hm := up_getD hM i (i + 1) (by omega) (by omega)
    unfold ofP
    split
    · exact ⟨fun _ => ⟨hlo, ofP_srt a b how M hM d (i + 1) _ (by omega) hm⟩, fun _ => ofP_srt a b how M hM d (i + 1) lo (by omega) (by omega)⟩
    · exact ofP_srt a b how M hM d (i + 1) lo (by omega) (by omega)
theorem ends_mem (z : Int) : ∀ l : List S24, z ∈ endsB l ↔ ∃ x ∈ l, z = x.f0 ∨ z = x.f1
  | [] => by simp [endsB]
  | x :: xs => by
    show z ∈ x.f0 :: x.f1 :: endsB xs ↔ _
    rw [List.mem_cons, List.mem_cons, ends_mem z xs]
    simp [or_assoc]
theorem sortI_mem (z : Int) (l : List Int) : z ∈ sortI l ↔ z ∈ l := by
  have : ∀ (l o : List Int), z ∈ l.foldl (fun o x => insI x o) o ↔ z ∈ o ∨ z ∈ l := by
    intro l
    induction l with
    | nil => intro o; simp
    | cons x xs ih =>
      intro o
      rw [List.foldl_cons, ih, insI_mem, List.mem_cons]
      exact ⟨fun e => by rcases e with (e | e) | e <;> simp [e], fun e => by rcases e with e | e | e <;> simp [e]⟩
  have := this l []
  simpa [sortI] using this
theorem mark_le {M : List Int} (hM : UpI M) {z : Int} (hz : z ∈ M) (j : Nat) (hj : j + 1 < M.length) (h : z < M.getD (j + 1) 0) : z ≤ M.getD j 0 := by
  obtain ⟨t, ht, rfl⟩ := List.getElem_of_mem hz
  have e : M[t] = M.getD t 0 := by simp [List.getD_eq_getElem?_getD, List.getElem?_eq_getElem ht]
  rw [e] at h ⊢
  by_cases q : t ≤ j
  · exact up_getD hM t j q (by omega)
  · have := up_getD hM (j + 1) t (by omega) ht
    omega
theorem has_const {M : List Int} (hM : UpI M) (c : List S24) (hc : ∀ x ∈ c, x.f0 ∈ M ∧ x.f1 ∈ M) (j : Nat) (hj : j + 1 < M.length) (n : Int) (h0 : M.getD j 0 ≤ n) (h1 : n < M.getD (j + 1) 0) : hasB c n = hasB c (M.getD j 0) := by
  rw [Bool.eq_iff_iff, hasB_mem, hasB_mem]
  constructor
  · rintro ⟨x, hx, q1, q2⟩
    exact ⟨x, hx, mark_le hM (hc x hx).1 j hj (by omega), by omega⟩
  · rintro ⟨x, hx, q1, q2⟩
    refine ⟨x, hx, by omega, ?_⟩
    refine Int.lt_of_not_ge fun q => ?_
    have := mark_le hM (hc x hx).2 j hj (by omega)
    omega
theorem find_mark : ∀ {M : List Int}, UpI M → ∀ {f t n : Int}, f ∈ M → t ∈ M → f ≤ n → n < t → ∃ j, j + 1 < M.length ∧ M.getD j 0 ≤ n ∧ n < M.getD (j + 1) 0
  | [], _, f, t, n, hf, _, _, _ => by cases hf
  | [y], _, f, t, n, hf, ht, h0, h1 => by
    simp at hf ht
    omega
  | y :: z :: zs, hM, f, t, n, hf, ht, h0, h1 => by
    obtain ⟨m1, m2⟩ := List.pairwise_cons.1 hM
    by_cases hz : n < z
    · refine ⟨0, by simp, ?_, hz⟩
      rcases List.mem_cons.1 hf with rfl | hf
      · exact h0
      · have := m1 f hf
        show y ≤ n
        omega
    · have ht' : t ∈ z :: zs := by
        rcases List.mem_cons.1 ht with rfl | ht
        · have := m1 z (by simp)
          omega
        · exact ht
      obtain ⟨j, j1, j2, j3⟩ := find_mark m2 (f := z) (t := t) (n := n) (by simp) ht' (by omega) h1
      exact ⟨j + 1, by simpa using j1, by simpa using j2, by simpa using j3⟩

/-- The band of how, of two bands. -/
def ofB (a b : List S24) (how : Int) : List S24 := foldP (ofP a b how (sortI (endsB (a ++ b))) ((sortI (endsB (a ++ b))).length - 1) 0) []
theorem of_f (a b : List S24) (how : Int) (hh : how = 0 ∨ how = 1 ∨ how = 2) (ha : a.length ≤ 100) (hb : b.length ≤ 100) {k : Nat} (hk : 3000 ≤ k) : gutterref03_of.f k a b how = some (ofB a b how) := by
  have hl : (sortI (endsB (a ++ b))).length ≤ 400 := by rw [sortI_len, ends_len, List.length_append]; omega
  unfold gutterref03_of.f gutterref03_marks.f
  rw [if_pos (by omega), Option.bind_some]
  have := of_l0 a b how hh (by omega) (by omega) _ (sortI_up (endsB (a ++ b))) (by omega) ((sortI (endsB (a ++ b))).length - 1) 0 k [] (by omega) (by omega) (by simp) (fun _ pre y e => by simp at e) (by omega)
  exact this
theorem of_spec {a b : List S24} (how : Int) (hh : how = 0 ∨ how = 1 ∨ how = 2) (ha : rightB a) (hb : rightB b) : rightB (ofB a b how) ∧ ∀ n, hasB (ofB a b how) n = inB a b how n := by
  obtain ⟨M, hMd⟩ : ∃ M, sortI (endsB (a ++ b)) = M := ⟨_, rfl⟩
  have hM : UpI M := hMd ▸ sortI_up _
  have hmem : ∀ z, z ∈ M ↔ ∃ x ∈ a ++ b, z = x.f0 ∨ z = x.f1 := fun z => by rw [← hMd, sortI_mem, ends_mem]
  have hma : ∀ x ∈ a, x.f0 ∈ M ∧ x.f1 ∈ M := fun x hx => ⟨(hmem _).2 ⟨x, by simp [hx], .inl rfl⟩, (hmem _).2 ⟨x, by simp [hx], .inr rfl⟩⟩
  have hmb : ∀ x ∈ b, x.f0 ∈ M ∧ x.f1 ∈ M := fun x hx => ⟨(hmem _).2 ⟨x, by simp [hx], .inl rfl⟩, (hmem _).2 ⟨x, by simp [hx], .inr rfl⟩⟩
  have hrange : ∀ z ∈ M, -1073741824 ≤ z ∧ z ≤ 1073741824 := fun z hz => by
    obtain ⟨x, hx, e⟩ := (hmem z).1 hz
    have hs : spanB x := by
      rcases List.mem_append.1 hx with h | h
      · exact right_mem ha x h
      · exact right_mem hb x h
    unfold spanB at hs
    omega
  have hget : ∀ j, j < M.length → M.getD j 0 ∈ M := fun j hj => by
    have : M.getD j 0 = M[j] := by simp [List.getD_eq_getElem?_getD, List.getElem?_eq_getElem hj]
    rw [this]
    exact List.getElem_mem hj
  unfold ofB
  rw [hMd]
  have hsrt : Srt (-1073741824) (ofP a b how M (M.length - 1) 0) := by
    by_cases h0 : M.length = 0
    · rw [h0]
      exact trivial
    · exact ofP_srt a b how M hM _ 0 _ (by omega) (hrange _ (hget 0 (by omega))).1
  obtain ⟨h1, h2⟩ := band_of _ hsrt (fun p hp q => by
    obtain ⟨j, j1, j2, j3, rfl⟩ := ofP_mem a b how M p _ _ hp
    exact (hrange _ (hget (j + 1) (by omega))).2)
  refine ⟨h1, fun n => ?_⟩
  have hconst : ∀ j, j + 1 < M.length → M.getD j 0 ≤ n → n < M.getD (j + 1) 0 → inB a b how n = inB a b how (M.getD j 0) := fun j hj q1 q2 => by
    unfold inB
    rw [has_const hM a hma j hj n q1 q2, has_const hM b hmb j hj n q1 q2]
  rw [Bool.eq_iff_iff, h2 n]
  constructor
  · rintro ⟨p, hp, q1, q2⟩
    obtain ⟨j, j1, j2, j3, rfl⟩ := ofP_mem a b how M p _ _ hp
    rw [hconst j (by omega) q1 q2]
    exact j3
  · intro hin
    have hx : ∃ x ∈ a ++ b, x.f0 ≤ n ∧ n < x.f1 := by
      have hor : hasB a n = true ∨ hasB b n = true := by
        unfold inB at hin
        rcases hh with rfl | rfl | rfl <;> simp at hin
        · exact hin
        · exact .inl hin.1
        · exact .inl hin.1
      rcases hor with h | h
      · obtain ⟨x, hx, q⟩ := hasB_mem.1 h
        exact ⟨x, by simp [hx], q⟩
      · obtain ⟨x, hx, q⟩ := hasB_mem.1 h
        exact ⟨x, by simp [hx], q⟩
    obtain ⟨x, hx, q1, q2⟩ := hx
    obtain ⟨j, j1, j2, j3⟩ := find_mark hM ((hmem _).2 ⟨x, hx, .inl rfl⟩) ((hmem _).2 ⟨x, hx, .inr rfl⟩) q1 q2
    rw [hconst j j1 j2 j3] at hin
    exact ⟨_, mem_ofP a b how M _ 0 j (Nat.zero_le _) (by omega) hin, j2, j3⟩

theorem of_plus {l : List S24} {x : S24} (hl : rightB l) (hx : spanB x) : ofB l [x] 0 = plusB l x := by
  obtain ⟨h1, h2⟩ := of_spec 0 (.inl rfl) hl ((rightD_iff _).1 ((rightD_one x).2 hx))
  obtain ⟨h3, h4⟩ := plus_spec hl hx
  refine right_ext h1 h3 fun n => ?_
  rw [h2, h4]
  simp [inB, hasB]
theorem of_less {l : List S24} {x : S24} (hl : rightB l) (hx : spanB x) : ofB l [x] 1 = lessB l x := by
  obtain ⟨h1, h2⟩ := of_spec 1 (.inr (.inl rfl)) hl ((rightD_iff _).1 ((rightD_one x).2 hx))
  obtain ⟨h3, h4⟩ := less_spec x hl hx.2.1
  refine right_ext h1 h3 fun n => ?_
  rw [h2, h4]
  unfold inB
  rw [if_neg (by omega), if_pos rfl, Bool.eq_iff_iff]
  simp [hasB]
  try omega
theorem of_both {l m : List S24} (hl : rightB l) (hm : rightB m) : ofB l m 2 = bothB l m := by
  obtain ⟨h1, h2⟩ := of_spec 2 (.inr (.inr rfl)) hl hm
  obtain ⟨h3, h4⟩ := both_spec hl hm
  refine right_ext h1 h3 fun n => ?_
  rw [h2, h4]
  simp [inB]

theorem rplus_f (l : List S24) (x : S24) (hl : l.length ≤ 100) {k : Nat} (hk : 3000 ≤ k) : gutterref03_Plus.f k l x.f0 x.f1 = some (if (rightD l && rightD [x]) = true then (plusB l x, 0) else ([], 30)) := by
  unfold gutterref03_Plus.f
  rw [rright_f l (by omega) (by omega), Option.bind_some]
  cases h1 : rightD l with
  | false => rfl
  | true =>
    rw [if_pos rfl, rright_f _ (by simp) (by simp; omega), Option.bind_some]
    cases h2 : rightD [x] with
    | false => rfl
    | true => rw [if_pos rfl, of_f l [x] 0 (.inl rfl) hl (by simp) hk, Option.bind_some, of_plus ((rightD_iff l).1 h1) ((rightD_one x).1 h2)]; rfl
theorem rless_f (l : List S24) (x : S24) (hl : l.length ≤ 100) {k : Nat} (hk : 3000 ≤ k) : gutterref03_Less.f k l x.f0 x.f1 = some (if (rightD l && rightD [x]) = true then (lessB l x, 0) else ([], 30)) := by
  unfold gutterref03_Less.f
  rw [rright_f l (by omega) (by omega), Option.bind_some]
  cases h1 : rightD l with
  | false => rfl
  | true =>
    rw [if_pos rfl, rright_f _ (by simp) (by simp; omega), Option.bind_some]
    cases h2 : rightD [x] with
    | false => rfl
    | true => rw [if_pos rfl, of_f l [x] 1 (.inr (.inl rfl)) hl (by simp) hk, Option.bind_some, of_less ((rightD_iff l).1 h1) ((rightD_one x).1 h2)]; rfl
theorem rboth_f (l m : List S24) (hl : l.length ≤ 100) (hm : m.length ≤ 100) {k : Nat} (hk : 3000 ≤ k) : gutterref03_Both.f k l m = some (if (rightD l && rightD m) = true then (bothB l m, 0) else ([], 30)) := by
  unfold gutterref03_Both.f
  rw [rright_f l (by omega) (by omega), Option.bind_some]
  cases h1 : rightD l with
  | false => rfl
  | true =>
    rw [if_pos rfl, rright_f m (by omega) (by omega), Option.bind_some]
    cases h2 : rightD m with
    | false => rfl
    | true => rw [if_pos rfl, of_f l m 2 (.inr (.inr rfl)) hl hm hk, Option.bind_some, of_both ((rightD_iff l).1 h1) ((rightD_iff m).1 h2)]; rfl

end Go.Proofs.YtomgpbhkoellpaaDoor.P
