/- What the laws of rows share, in plain Lean: the first forty atoms, that pieces are known, how a row lies. Conditions: none. -/
import Derived.Test.YtjpifknencfipaaDoorLx
import Derived.Test.YtjpifknencfipaaDoorP39
set_option linter.unusedVariables false
set_option linter.unusedSimpArgs false
namespace Go.Proofs.YtjpifknencfipaaDoor.P
open Go.RowKit Go.Proofs.YtjpifknencfipaaDoorW.PrintWords Go.Proofs.YtjpifknencfipaaDoorW.PrintLast Go.Proofs.YtjpifknencfipaaDoorW.PrintMore

theorem shown17 {k : Nat} (hk : 10 ≤ k) : gutterlaw17_shown.f k = some true :=
  LeO.liftLe (f := fun k => gutterlaw17_shown.f k) gutterlaw17_shown.mono (k := 10) (by kernel_rfl) hk

theorem lay_ok {l : List S32} {n w gap avail : Int} (auto : Bool) (h : layOkA l n w gap avail = true) :
    row_Lay.f l n w gap avail auto = some (rowHA l n avail auto, ((fillA l (rowHA l n avail auto)).length : Int), rowA l w gap 0 (fillA l (rowHA l n avail auto)), 0) := if_pos h
theorem lay_bad {l : List S32} {n w gap avail : Int} (auto : Bool) (h : ¬ layOkA l n w gap avail = true) : row_Lay.f l n w gap avail auto = some (0, 0, [], 160) := if_neg h
theorem lay_right {l : List S32} {n w gap avail : Int} (h : layOkA l n w gap avail = true) : rightA l = true ∧ 0 ≤ avail ∧ avail ≤ 1099511627776 ∧ 1 ≤ n ∧ n ≤ 50 ∧ openA l n = true ∧ 0 ≤ w ∧ w ≤ 1048576 ∧ 0 ≤ gap ∧ gap ≤ 1048576 := by
  obtain ⟨ho, hw, hg, h0, h1⟩ := lay_parts h
  obtain ⟨p1, p2, p3, p4⟩ := openA_parts ho
  exact ⟨p1, h0, h1, p3, p4, ho, hw.1, hw.2, hg.1, hg.2⟩

/-! ### How low pieces reach, which are the same -/
theorem rd_58 (l : List S58) (i : Nat) : rd_T58 l (i : Int) = l.getD i z58 := by simp [rd_T58]
def reachF (f : S58) : Int := wrap64 (f.f3.f1 + f.f3.f3)
def lowF (n : Int) (l : List S58) : Int := l.foldl (fun n f => mx n (reachF f)) n
theorem drop_58 (l : List S58) (i : Nat) (hi : i < l.length) : l.drop i = l.getD i z58 :: l.drop (i + 1) := by
  rw [List.drop_eq_getElem_cons hi]
  simp [List.getD_eq_getElem?_getD, List.getElem?_eq_getElem hi]
theorem low_l0 (l : List S58) (hn : l.length ≤ 100000) (d : Nat) : ∀ (k i : Nat) (n : Int), l.length - i = d → d < k → i ≤ l.length → row_Low.l0 k n l (l.length : Int) (i : Int) = some (lowF n (l.drop i)) := by
  induction d with
  | zero =>
    intro k i n hd hk hi
    obtain ⟨k, rfl⟩ : ∃ m, k = m + 1 := ⟨k - 1, by omega⟩
    simp only [row_Low.l0]
    rw [if_neg (by omega), List.drop_eq_nil_of_le (by omega)]
    rfl
  | succ d ih =>
    intro k i n hd hk hi
    obtain ⟨k, rfl⟩ : ∃ m, k = m + 1 := ⟨k - 1, by omega⟩
    simp only [row_Low.l0]
    rw [if_pos (by omega), if_pos (by omega), if_pos (by omega), rd_58, w64 (x := (i : Int) + 1) (by omega), show ((i : Int) + 1) = ((i + 1 : Nat) : Int) by push_cast; rfl, ih k (i + 1) _ (by omega) (by omega) (by omega), drop_58 l i (by omega)]
    rfl
theorem low_f (l : List S58) (hn : l.length ≤ 100000) {k : Nat} (hk : l.length < k) : row_Low.f k l = some (lowF 0 l) := low_l0 l hn l.length k 0 0 (by omega) hk (Nat.zero_le _)
def eqF (x y : S58) : Bool := !(!(x.f0 == y.f0) || (!(x.f1 == y.f1) || (!(x.f2 == y.f2) || ((!(x.f3.f0 == y.f3.f0) || (!(x.f3.f1 == y.f3.f1) || (!(x.f3.f2 == y.f3.f2) || (!(x.f3.f3 == y.f3.f3)))))))))
theorem eqF_self (x : S58) : eqF x x = true := by simp [eqF]
def sameF : List S58 → List S58 → Bool
  | x :: xs, y :: ys => eqF x y && sameF xs ys
  | _, _ => true
theorem sameF_self : ∀ l, sameF l l = true
  | [] => rfl
  | x :: xs => by simp [sameF, eqF_self, sameF_self xs]
theorem rsame_l0 (l m : List S58) (hn : l.length ≤ 100000) (hm : m.length = l.length) (d : Nat) : ∀ (k i : Nat), l.length - i = d → d < k → i ≤ l.length → gutterref17_Same.l0 k l m (i : Int) = some (sameF (l.drop i) (m.drop i)) := by
  induction d with
  | zero =>
    intro k i hd hk hi
    obtain ⟨k, rfl⟩ : ∃ m, k = m + 1 := ⟨k - 1, by omega⟩
    simp only [gutterref17_Same.l0]
    rw [if_neg (by omega), List.drop_eq_nil_of_le (by omega)]
    rfl
  | succ d ih =>
    intro k i hd hk hi
    obtain ⟨k, rfl⟩ : ∃ m, k = m + 1 := ⟨k - 1, by omega⟩
    simp only [gutterref17_Same.l0]
    rw [if_pos (by omega), if_pos (by omega), if_pos (by omega), rd_58, rd_58, w64 (x := (i : Int) + 1) (by omega), show ((i : Int) + 1) = ((i + 1 : Nat) : Int) by push_cast; rfl, ih k (i + 1) (by omega) (by omega) (by omega), drop_58 l i (by omega), drop_58 m i (by omega)]
    show (if _ = true then _ else _) = some (eqF _ _ && _)
    unfold eqF
    split
    · next h => rw [h]; rfl
    · next h => rw [Bool.not_eq_true] at h; rw [h]; simp
theorem rsame_f (l m : List S58) (hn : l.length ≤ 100000) {k : Nat} (hk : l.length < k) : gutterref17_Same.f k l m = some (decide (l.length = m.length) && sameF l m) := by
  unfold gutterref17_Same.f
  by_cases h : l.length = m.length
  · rw [if_pos (by omega), decide_eq_true h]
    exact rsame_l0 l m hn h.symm l.length k 0 (by omega) hk (Nat.zero_le _)
  · rw [if_neg (by omega), decide_eq_false h]
    rfl

end Go.Proofs.YtjpifknencfipaaDoor.P
