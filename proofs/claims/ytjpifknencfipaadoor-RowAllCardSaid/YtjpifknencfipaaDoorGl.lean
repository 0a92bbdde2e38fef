/- The sentinels' cells (errFill: variable 2, errBalance: 0, errRow: 1), as a predicate on worlds that each new block and each write above leaves alone. Conditions: none. -/
import Derived.Test.YtjpifknencfipaaDoorProg
import Derived.Below
namespace Go.Proofs.YtjpifknencfipaaDoor
open Go.RowKit

/-- A package variable holds an error of errors.New's make. -/
def Sent (g : Nat) (w : World) : Prop := ∃ a : Addr, w.cell? ⟨g, 0, none⟩ = some (.iface 186 (.pointer (some a)))
theorem Sent.of_below {g : Nat} {w w1 : World} (h : Sent g w) (hb : Below w.heap.size w w1) : Sent g w1 := by
  obtain ⟨a, h⟩ := h
  exact ⟨a, (hb.cell (World.block_lt_of_cell? w _ h)).trans h⟩

/-- k = 1: errFill's; 2: errBalance's too; 3: errRow's too. -/
def Gl (k : Nat) (w : World) : Prop := Sent 2 w ∧ (2 ≤ k → Sent 0 w) ∧ (3 ≤ k → Sent 1 w)
theorem Gl.of_below {k : Nat} {w w1 : World} (h : Gl k w) (hb : Below w.heap.size w w1) : Gl k w1 :=
  ⟨h.1.of_below hb, fun e => (h.2.1 e).of_below hb, fun e => (h.2.2 e).of_below hb⟩
theorem Gl.le {j k : Nat} {w : World} (h : Gl k w) (hj : j ≤ k) : Gl j w :=
  ⟨h.1, fun e => h.2.1 (Nat.le_trans e hj), fun e => h.2.2 (Nat.le_trans e hj)⟩

end Go.Proofs.YtjpifknencfipaaDoor
