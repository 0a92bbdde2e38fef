/- errors.Is of a sentinel with itself is true, so band's 'told' of its own sentinel is its number; which lists are bands, as the printed functions tell it. Conditions: the sentinel's variable holds an error of errors.New's make. -/
import Derived.Test.YtomgpbhkoellpaaDoorChecked
import Derived.Test.YtomgpbhkoellpaaDoorGl
import Derived.WalkKit
import Derived.LaidEql
import Derived.Stop.Asserts
import Derived.RowKitTokens
import Derived.Test.YtomgpbhkoellpaaDoorFm
import Derived.Test.YtomgpbhkoellpaaDoorP21
import Derived.Lib.Hide
set_option linter.unusedVariables false
set_option linter.unusedSimpArgs false
namespace Go.Proofs.YtomgpbhkoellpaaDoor
open Go.RowKit Go.Extern.Stop Go.Stop Go.Extern

theorem Tryd.callTypeOf (v : Value) (w : World) : (callFunc 62 #[.iface 106 v]).run Tryd.prog w = .ok (.value (.iface 93 (.agg #[.pointer (some ⟨1, 106, none⟩)]))) w := by kernel_rfl
theorem Tryd.callComparable (w : World) : (callFunc 88 #[.agg #[.pointer (some ⟨1, 106, none⟩)]]).run Tryd.prog w = .ok (.value (.bool true)) w := by kernel_rfl
theorem Tryd.isMethodComparable (v : Value) (w : World) : (Go.method 243 93 v "Comparable").run Tryd.prog w = .ok (88, v) w := by kernel_rfl
theorem Tryd.isComp : (Tryd.prog.info? 106).map (·.comparable) = some true := by kernel_rfl
theorem Tryd.isSize : (Tryd.prog.info? 131).map (·.size) = some 1 := by kernel_rfl

set_option maxHeartbeats 1000000 in
set_option maxRecDepth 100000 in
/-- errors.Is(x, x), x a pointer to an errors.errorString. -/
theorem is_same (a : Addr) (w : World) :
    Calls Tryd.prog 47 #[.iface 106 (.pointer (some a)), .iface 106 (.pointer (some a))] w fun e w' => e = .returned (.bool true) ∧ w = w' := by
  obtain ⟨i, hi, hcmp⟩ := Option.map_eq_some_iff.1 Tryd.isComp
  obtain ⟨j, hj, hjs⟩ := Option.map_eq_some_iff.1 Tryd.isSize
  have h8 := Tryd.callTypeOf
  have h32 := Tryd.callComparable
  have mR := Tryd.isMethodComparable
  have heq := run_eql_iface_ptr_same (P := Tryd.prog) w a Tryd.underlying54 Tryd.underlying106 hi hcmp hj
  go_enter Tryd.func47, Tryd.ntmps47
  go_wp2
  refine wp_loop_rounds 1 ?_
  rw [rounds_succ]
  go_wp2
  go_ret
  exact ⟨rfl, rfl⟩

/-- band.told(errBand). -/
theorem told_band (a : Addr) (w : World) (hc : w.cell? ⟨0, 0, none⟩ = some (.iface 106 (.pointer (some a)))) :
    Calls Tryd.prog 35 #[.iface 106 (.pointer (some a))] w fun e w' => e = .returned (.int .i64 30) ∧ w = w' := by
  go_enter Tryd.func35, Tryd.ntmps35
  go_wp2_with (go_at_call 47; refine (is_same _ _).mono ?_; rintro e w' ⟨rfl, rfl⟩)
  go_ret
  exact ⟨rfl, rfl⟩

end Go.Proofs.YtomgpbhkoellpaaDoor

namespace Go.Proofs.YtomgpbhkoellpaaDoor.P
open Go.RowKit Go.Proofs.YtomgpbhkoellpaaDoorW.PrintWords Go.Proofs.YtomgpbhkoellpaaDoorW.PrintLast Go.Proofs.YtomgpbhkoellpaaDoorW.PrintMore

theorem w64 {x : Int} (h : -9223372036854775808 ≤ x ∧ x ≤ 9223372036854775807) : wrap64 x = x := by unfold wrap64; omega
theorem rd_24 (l : List S24) (i : Nat) : rd_T24 l (i : Int) = l.getD i z24 := by simp [rd_T24]
theorem drop_24 (l : List S24) (i : Nat) (hi : i < l.length) : l.drop i = l.getD i z24 :: l.drop (i + 1) := by
  rw [List.drop_eq_getElem_cons hi]
  simp [List.getD_eq_getElem?_getD, List.getElem?_eq_getElem hi]
theorem unit_right (a : Int) : unit_Right.f a = some (decide (-1073741824 ≤ a) && decide (a ≤ 1073741824)) := by
  unfold unit_Right.f
  split
  · next h => rw [decide_eq_true (show -1073741824 ≤ a from h)]; rfl
  · next h => rw [decide_eq_false (show ¬ -1073741824 ≤ a from h)]; rfl
theorem are_step (a : Int) (x : S24) (r : Option Bool) : -1073741825 ≤ a →
    ((unit_Right.f x.f0).bind fun t251 => (if t251 = true then ((unit_Right.f x.f1).bind fun t252 => (if t252 = true then (if x.f0 ≤ a then (some false) else (if x.f0 ≥ x.f1 then (some false) else r)) else (some false))) else (some false)))
      = if a < x.f0 ∧ x.f0 < x.f1 ∧ x.f1 ≤ 1073741824 then r else some false := by
  intro ha
  rw [unit_right, Option.bind_some, unit_right]
  simp only [Option.bind_some, Bool.and_eq_true, decide_eq_true_eq]
  by_cases h : a < x.f0 ∧ x.f0 < x.f1 ∧ x.f1 ≤ 1073741824
  · rw [if_pos h, if_pos (by omega), if_pos (by omega), if_neg (by omega), if_neg (by omega)]
  · rw [if_neg h]
    repeat' split
    all_goals first
      | rfl
      | (exfalso; omega)
theorem are_l0 (l : List S24) (hn : l.length ≤ 1000000) (d : Nat) : ∀ (k i : Nat) (a : Int), l.length - i = d → d < k → i ≤ l.length → -1073741825 ≤ a → band_areRight.l0 k a l (l.length : Int) (i : Int) = some (chD a (l.drop i)) := by
  induction d with
  | zero =>
    intro k i a hd hk hi ha
    obtain ⟨k, rfl⟩ : ∃ m, k = m + 1 := ⟨k - 1, by omega⟩
    simp only [band_areRight.l0]
    rw [if_neg (by omega), List.drop_eq_nil_of_le (by omega)]
    rfl
  | succ d ih =>
    intro k i a hd hk hi ha
    obtain ⟨k, rfl⟩ : ∃ m, k = m + 1 := ⟨k - 1, by omega⟩
    simp only [band_areRight.l0]
    rw [if_pos (by omega), if_pos (by omega), if_pos (by omega), rd_24, are_step a _ _ ha, drop_24 l i (by omega), w64 (by omega), show ((i : Int) + 1) = ((i + 1 : Nat) : Int) by push_cast; rfl]
    generalize l.getD i z24 = x
    unfold chD
    by_cases h : a < x.f0 ∧ x.f0 < x.f1 ∧ x.f1 ≤ 1073741824
    · rw [if_pos h, ih k (i + 1) x.f1 (by omega) (by omega) (by omega) (by omega), decide_eq_true h.1, decide_eq_true h.2.1, decide_eq_true h.2.2]
      rfl
    · rw [if_neg h]
      by_cases h1 : a < x.f0
      · by_cases h2 : x.f0 < x.f1
        · rw [decide_eq_false (show ¬ x.f1 ≤ 1073741824 by omega)]
          simp
        · rw [decide_eq_false h2]
          simp
      · rw [decide_eq_false h1]
        simp
theorem are_f (l : List S24) (hn : l.length ≤ 1000000) {k : Nat} (hk : l.length < k) : band_areRight.f k l = some (rightD l) := are_l0 l hn l.length k 0 _ (by omega) hk (Nat.zero_le _) (by omega)
theorem right_f (l : List S24) (hn : l.length ≤ 1000000) {k : Nat} (hk : l.length < k) : band_Right.f k l = some (rightD l) := by
  unfold band_Right.f
  rw [are_f l hn hk]
  rfl

end Go.Proofs.YtomgpbhkoellpaaDoor.P
