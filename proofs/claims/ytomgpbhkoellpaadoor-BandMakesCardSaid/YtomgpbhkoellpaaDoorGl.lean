/- The sentinel's cell (errBand: variable 0), as a predicate on worlds that each new block and each write above leaves alone. Conditions: none. -/
import Derived.Test.YtomgpbhkoellpaaDoorProg
import Derived.Below
set_option linter.unusedVariables false
namespace Go.Proofs.YtomgpbhkoellpaaDoor
open Go.RowKit

/-- A package variable holds an error of errors.New's make. -/
def Sent (g : Nat) (w : World) : Prop := ∃ a : Addr, w.cell? ⟨g, 0, none⟩ = some (.iface 106 (.pointer (some a)))
theorem Sent.of_below {g : Nat} {w w1 : World} (h : Sent g w) (hb : Below w.heap.size w w1) : Sent g w1 := by
  obtain ⟨a, h⟩ := h
  exact ⟨a, (hb.cell (World.block_lt_of_cell? w _ h)).trans h⟩

/-- errBand's. -/
def Gl (k : Nat) (w : World) : Prop := Sent 0 w
theorem Gl.of_below {k : Nat} {w w1 : World} (h : Gl k w) (hb : Below w.heap.size w w1) : Gl k w1 := Sent.of_below h hb
theorem Gl.le {j k : Nat} {w : World} (h : Gl k w) (hj : j ≤ k) : Gl j w := h

end Go.Proofs.YtomgpbhkoellpaaDoor
