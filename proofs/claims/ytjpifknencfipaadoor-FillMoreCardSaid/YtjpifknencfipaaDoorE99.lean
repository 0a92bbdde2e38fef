/- atom.areSizes: whether each of some numbers is from 0 to 2^20. Conditions: the slice reads as the list. -/
import Derived.Test.YtjpifknencfipaaDoorFm
import Derived.Test.YtjpifknencfipaaDoorSz
set_option linter.unusedVariables false
namespace Go.Proofs.YtjpifknencfipaaDoor.P
open Go.RowKit Go.Proofs.YtjpifknencfipaaDoorW.PrintWords Go.Proofs.YtjpifknencfipaaDoorW.PrintLast Go.Proofs.YtjpifknencfipaaDoorW.PrintMore
theorem atom_areSizes.calls (A0 : Option Addr) (c0 : Nat) (l0 : List Int) (r : Bool) (w : World) (hr0 : Kd.C (Kd.int .i64) w A0 l0.length l0) (hc0 : l0.length ≤ c0) (h : atom_areSizes.f l0 = some r) :
    Calls Tryd.prog 99 #[.slice A0 l0.length c0] w fun e w' => e = .returned (.bool r) ∧ Drawn0 w w' := by
  refine (areSizes99 A0 c0 l0 w (by have := hr0.2.1; unfold maxLen; omega) hr0).mono ?_
  rintro e w' ⟨rfl, rfl⟩
  obtain rfl : (!l0.any badSizeA) = r := Option.some.inj h
  exact ⟨rfl, Drawn0.refl _⟩
end Go.Proofs.YtjpifknencfipaaDoor.P
