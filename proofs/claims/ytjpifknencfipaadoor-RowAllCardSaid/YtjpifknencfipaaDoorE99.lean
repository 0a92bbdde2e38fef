/- errors.Is of a sentinel with itself is true, so each layer's 'told' of its own sentinel is that layer's number. Conditions: the sentinel's variable holds an error of errors.New's make. · areSizes of atom and of row: whether each of some numbers is from 0 to 2^20; by contracts of slices.IndexFunc and slices.ContainsFunc at a predicate that leaves the world alone. Conditions: the slice's cells hold the numbers. · atom.areSizes: whether each of some numbers is from 0 to 2^20. Conditions: the slice reads as the list. -/
import Derived.Test.YtjpifknencfipaaDoorChecked
import Derived.Test.YtjpifknencfipaaDoorGl
import Derived.WalkKit
import Derived.LaidEql
import Derived.Stop.Asserts
import Derived.RowKitTokens
import Derived.Test.YtjpifknencfipaaDoorP
import Derived.Test.YtjpifknencfipaaDoorWMore
import Derived.Lib.Hide
import Derived.Test.YtjpifknencfipaaDoorFm
set_option linter.unusedVariables false
set_option linter.unusedSimpArgs false
namespace Go.Proofs.YtjpifknencfipaaDoor
open Go.RowKit Go.Extern.Stop Go.Stop Go.Extern

theorem Tryd.callTypeOf (v : Value) (w : World) : (callFunc 108 #[.iface 186 v]).run Tryd.prog w = .ok (.value (.iface 168 (.agg #[.pointer (some ⟨3, 186, none⟩)]))) w := by kernel_rfl
theorem Tryd.callComparable (w : World) : (callFunc 151 #[.agg #[.pointer (some ⟨3, 186, none⟩)]]).run Tryd.prog w = .ok (.value (.bool true)) w := by kernel_rfl
theorem Tryd.isMethodComparable (v : Value) (w : World) : (Go.method 323 168 v "Comparable").run Tryd.prog w = .ok (151, v) w := by kernel_rfl
theorem Tryd.isComp : (Tryd.prog.info? 186).map (·.comparable) = some true := by kernel_rfl
theorem Tryd.isSize : (Tryd.prog.info? 211).map (·.size) = some 1 := by kernel_rfl

set_option maxHeartbeats 1000000 in
set_option maxRecDepth 100000 in
/-- errors.Is(x, x), x a pointer to an errors.errorString. -/
theorem is_same (a : Addr) (w : World) :
    Calls Tryd.prog 95 #[.iface 186 (.pointer (some a)), .iface 186 (.pointer (some a))] w fun e w' => e = .returned (.bool true) ∧ w = w' := by
  obtain ⟨i, hi, hcmp⟩ := Option.map_eq_some_iff.1 Tryd.isComp
  obtain ⟨j, hj, hjs⟩ := Option.map_eq_some_iff.1 Tryd.isSize
  have h8 := Tryd.callTypeOf
  have h32 := Tryd.callComparable
  have mR := Tryd.isMethodComparable
  have heq := run_eql_iface_ptr_same (P := Tryd.prog) w a Tryd.underlying83 Tryd.underlying186 hi hcmp hj
  go_enter Tryd.func95, Tryd.ntmps95
  go_wp2
  refine wp_loop_rounds 1 ?_
  rw [rounds_succ]
  go_wp2
  go_ret
  exact ⟨rfl, rfl⟩

/-- fill.told(errFill). -/
theorem told_fill (a : Addr) (w : World) (hc : w.cell? ⟨2, 0, none⟩ = some (.iface 186 (.pointer (some a)))) :
    Calls Tryd.prog 84 #[.iface 186 (.pointer (some a))] w fun e w' => e = .returned (.int .i64 130) ∧ w = w' := by
  go_enter Tryd.func84, Tryd.ntmps84
  go_wp2_with (go_at_call 95; refine (is_same _ _).mono ?_; rintro e w' ⟨rfl, rfl⟩)
  go_ret
  exact ⟨rfl, rfl⟩
/-- balance.told(errBalance). -/
theorem told_balance (a : Addr) (w : World) (hc : w.cell? ⟨0, 0, none⟩ = some (.iface 186 (.pointer (some a)))) :
    Calls Tryd.prog 70 #[.iface 186 (.pointer (some a))] w fun e w' => e = .returned (.int .i64 140) ∧ w = w' := by
  go_enter Tryd.func70, Tryd.ntmps70
  go_wp2_with (go_at_call 95; refine (is_same _ _).mono ?_; rintro e w' ⟨rfl, rfl⟩)
  go_ret
  exact ⟨rfl, rfl⟩
/-- row.told(errRow). -/
theorem told_row (a : Addr) (w : World) (hc : w.cell? ⟨1, 0, none⟩ = some (.iface 186 (.pointer (some a)))) :
    Calls Tryd.prog 80 #[.iface 186 (.pointer (some a))] w fun e w' => e = .returned (.int .i64 160) ∧ w = w' := by
  go_enter Tryd.func80, Tryd.ntmps80
  go_wp2_with (go_at_call 95; refine (is_same _ _).mono ?_; rintro e w' ⟨rfl, rfl⟩)
  go_ret
  exact ⟨rfl, rfl⟩

end Go.Proofs.YtjpifknencfipaaDoor

namespace Go.Proofs.YtjpifknencfipaaDoor
open Go.RowKit Go.Proofs.YtjpifknencfipaaDoorW.PrintWords Go.Proofs.YtjpifknencfipaaDoorW.PrintLast Go.Proofs.YtjpifknencfipaaDoorW.PrintMore

theorem ret_int {k : IntKind} {a b : Int} (h : a = b) : Ending.returned (.int k a) = .returned (.int k b) := by rw [h]
theorem ret_bool {a b : Bool} (h : a = b) : Ending.returned (.bool a) = .returned (.bool b) := by rw [h]
/-- The first place where a predicate holds, or -1. -/
def idxP (p : Int → Bool) : List Int → Int → Int
  | [], _ => -1
  | x :: xs, i => if p x = true then i else idxP p xs (i + 1)
theorem idxP_any (p : Int → Bool) : ∀ (xs : List Int) (i : Int), 0 ≤ i → decide (0 ≤ idxP p xs i) = xs.any p
  | [], i, h => by simp [idxP]
  | x :: xs, i, h => by
    have ih := idxP_any p xs (i + 1) (by omega)
    unfold idxP
    cases hp : p x with
    | true => simp [hp, h]
    | false => simp [hp, ih]
theorem ints_at {w : World} {A : Option Addr} {n : Nat} {xs : List Int} (h : Kd.C (Kd.int .i64) w A n xs) (k : Nat) (hk : k < n) : ∃ ad, A = some ad ∧ w.cell? (ad.add k) = some (.int .i64 (xs.getD k 0)) := by
  obtain ⟨ad, c, e, _, hK, hc⟩ := Kd.C_get h 0 k (by omega) (by omega)
  have hK' : c = [.int .i64 (xs.getD k 0)] := hK
  subst hK'
  have := hc 0 _ rfl
  exact ⟨ad, e, by simpa [Kd.int, Kd.scalar, List.getD_eq_getElem?_getD] using this⟩

set_option maxHeartbeats 1000000 in
set_option maxRecDepth 100000 in
theorem indexFunc_any (f : Nat) (hcf : ∀ args w, (callFunc f args).run Tryd.prog w = .ok (.enter f args) w) (p : Int → Bool) (hp : ∀ a w, Calls Tryd.prog f #[.int .i64 a] w fun e w' => e = .returned (.bool (p a)) ∧ w = w') (A : Option Addr) (c : Nat) (xs : List Int) (w : World) (hlen : xs.length ≤ maxLen) (hr : Kd.C (Kd.int .i64) w A xs.length xs) :
    Calls Tryd.prog 113 #[.slice A xs.length c, .func (.func f) #[] #[]] w fun e w' => e = .returned (.int .i64 (idxP p xs 0)) ∧ w = w' := by
  unfold maxLen at hlen
  have HP := Lib.hid hp
  clear hp
  have HR := Aside0.mk hr
  clear hr
  go_enter Tryd.func113, Tryd.ntmps113
  go_wp2
  go_loop [5, 8] (fun u i => ∃ k : Nat, i = .int .i64 k ∧ k ≤ xs.length ∧ Hid (idxP p xs 0 = idxP p (xs.drop k) k)) (fun _ i => xs.length - (intOf i).toNat)
  case atStart => exact ⟨0, rfl, Nat.zero_le _, Lib.hid (by simp)⟩
  case round =>
    obtain ⟨k, rfl, hk, HI⟩ := hrel
    by_cases hlt : k < xs.length
    · obtain ⟨ad, rfl, hc⟩ := ints_at HR.out k hlt
      have hst : xs.drop k = xs.getD k 0 :: xs.drop (k + 1) := by
        rw [List.drop_eq_getElem_cons hlt]; simp [List.getD_eq_getElem?_getD, List.getElem?_eq_getElem hlt]
      have HI2 : Hid (idxP p xs 0 = if p (xs.getD k 0) = true then (k : Int) else idxP p (xs.drop (k + 1)) ((k : Int) + 1)) := Lib.hid (by rw [HI.out, hst]; rfl)
      clear HI hst
      obtain ⟨y, hy⟩ : ∃ y, xs.getD k 0 = y := ⟨_, rfl⟩
      rw [hy] at hc HI2
      clear hy
      cases hpy : p y with
      | true =>
        have HP1 : ∀ w, Calls Tryd.prog f #[.int .i64 y] w fun e w' => e = .returned (.bool true) ∧ w = w' := fun w => by have := HP.out y w; rwa [hpy] at this
        have HP2 := Lib.hid HP1
        have HI3 : Hid (idxP p xs 0 = k) := Lib.hid (by rw [HI2.out, if_pos hpy])
        clear HP1 HP HI2 hpy
        go_wp2_with ((with_reducible refine (HP2.out _).mono ?_); rintro e w' ⟨rfl, rfl⟩)
        go_ret
        exact ⟨ret_int HI3.out.symm, rfl⟩
      | false =>
        have HP1 : ∀ w, Calls Tryd.prog f #[.int .i64 y] w fun e w' => e = .returned (.bool false) ∧ w = w' := fun w => by have := HP.out y w; rwa [hpy] at this
        have HP2 := Lib.hid HP1
        have HI3 : Hid (idxP p xs 0 = idxP p (xs.drop (k + 1)) ((k : Int) + 1)) := Lib.hid (by rw [HI2.out, if_neg (by simp [hpy])])
        clear HP1 HI2 hpy
        go_wp2_with ((with_reducible refine (HP2.out _).mono ?_); rintro e w' ⟨rfl, rfl⟩)
        go_round
        case rel => exact ⟨k + 1, by go_num, by omega, by simpa using HI3⟩
        case measure => simp [intOf]; omega
    · have he : k = xs.length := by omega
      have HI3 : Hid (idxP p xs 0 = -1) := Lib.hid (by rw [HI.out, he]; simp [idxP])
      clear HI he
      go_wp2
      go_ret
      exact ⟨ret_int HI3.out.symm, rfl⟩

theorem cf112 : ∀ args w, (callFunc 112 args).run Tryd.prog w = .ok (.enter 112 args) w := fun _ _ => by kernel_rfl
theorem cf101 : ∀ args w, (callFunc 101 args).run Tryd.prog w = .ok (.enter 101 args) w := fun _ _ => by kernel_rfl
def badSize (a : Int) : Bool := decide (a < 0) || decide (1048576 < a)
theorem pred112 (a : Int) (w : World) : Calls Tryd.prog 112 #[.int .i64 a] w fun e w' => e = .returned (.bool (badSize a)) ∧ w = w' := by
  go_enter Tryd.func112, Tryd.ntmps112
  go_wp2
  all_goals
    go_ret
    exact ⟨ret_bool (by simp [badSize, *]), rfl⟩

theorem pred101 (a : Int) (w : World) : Calls Tryd.prog 101 #[.int .i64 a] w fun e w' => e = .returned (.bool (badSize a)) ∧ w = w' := by
  go_enter Tryd.func101, Tryd.ntmps101
  go_wp2
  all_goals
    go_ret
    exact ⟨ret_bool (by simp [badSize, *]), rfl⟩

theorem containsFunc_any (f : Nat) (hcf : ∀ args w, (callFunc f args).run Tryd.prog w = .ok (.enter f args) w) (p : Int → Bool) (hp : ∀ a w, Calls Tryd.prog f #[.int .i64 a] w fun e w' => e = .returned (.bool (p a)) ∧ w = w') (A : Option Addr) (c : Nat) (xs : List Int) (w : World) (hlen : xs.length ≤ maxLen) (hr : Kd.C (Kd.int .i64) w A xs.length xs) :
    Calls Tryd.prog 100 #[.slice A xs.length c, .func (.func f) #[] #[]] w fun e w' => e = .returned (.bool (xs.any p)) ∧ w = w' := by
  have h1 := Lib.hid (indexFunc_any f hcf p hp A c xs w hlen hr)
  have h2 := Lib.hid (idxP_any p xs 0 (by omega))
  clear hcf hp hr hlen
  go_enter Tryd.func100, Tryd.ntmps100
  go_wp2_with (go_at_call 113; refine h1.out.mono ?_; rintro e w' ⟨rfl, rfl⟩)
  go_ret
  exact ⟨ret_bool h2.out, rfl⟩
/-- atom.areSizes. -/
theorem areSizes99 (A : Option Addr) (c : Nat) (xs : List Int) (w : World) (hlen : xs.length ≤ maxLen) (hr : Kd.C (Kd.int .i64) w A xs.length xs) :
    Calls Tryd.prog 99 #[.slice A xs.length c] w fun e w' => e = .returned (.bool (!xs.any badSize)) ∧ w = w' := by
  have h1 := Lib.hid (containsFunc_any 112 cf112 badSize pred112 A c xs w hlen hr)
  clear hr hlen
  go_enter Tryd.func99, Tryd.ntmps99
  go_wp2_with (go_at_call 100; refine h1.out.mono ?_; rintro e w' ⟨rfl, rfl⟩)
  go_ret
  exact ⟨rfl, rfl⟩
/-- row.areSizes. -/
theorem areSizes78 (A : Option Addr) (c : Nat) (xs : List Int) (w : World) (hlen : xs.length ≤ maxLen) (hr : Kd.C (Kd.int .i64) w A xs.length xs) :
    Calls Tryd.prog 78 #[.slice A xs.length c] w fun e w' => e = .returned (.bool (!xs.any badSize)) ∧ w = w' := by
  have h1 := Lib.hid (containsFunc_any 101 cf101 badSize pred101 A c xs w hlen hr)
  clear hr hlen
  go_enter Tryd.func78, Tryd.ntmps78
  go_wp2_with (go_at_call 100; refine h1.out.mono ?_; rintro e w' ⟨rfl, rfl⟩)
  go_ret
  exact ⟨rfl, rfl⟩

end Go.Proofs.YtjpifknencfipaaDoor

namespace Go.Proofs.YtjpifknencfipaaDoor.P
open Go.RowKit Go.Proofs.YtjpifknencfipaaDoorW.PrintWords Go.Proofs.YtjpifknencfipaaDoorW.PrintLast Go.Proofs.YtjpifknencfipaaDoorW.PrintMore
theorem atom_areSizes.calls (A0 : Option Addr) (c0 : Nat) (l0 : List Int) (r : Bool) (w : World) (hr0 : Kd.C (Kd.int .i64) w A0 l0.length l0) (hc0 : l0.length ≤ c0) (h : atom_areSizes.f l0 = some r) :
    Calls Tryd.prog 99 #[.slice A0 l0.length c0] w fun e w' => e = .returned (.bool r) ∧ Drawn0 w w' := by
  refine (areSizes99 A0 c0 l0 w (by have := hr0.2.1; unfold maxLen; omega) hr0).mono ?_
  rintro e w' ⟨rfl, rfl⟩
  obtain rfl : (!l0.any badSizeA) = r := Option.some.inj h
  exact ⟨rfl, Drawn0.refl _⟩
end Go.Proofs.YtjpifknencfipaaDoor.P
