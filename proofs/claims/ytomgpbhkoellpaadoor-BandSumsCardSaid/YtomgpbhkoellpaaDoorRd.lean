/- Closed facts of the program that every row asks. Conditions: none. -/
import Derived.Test.YtomgpbhkoellpaaDoorRows
import Derived.JoinedOf
import Derived.SevenTiedAt
import Derived.KernelRfl
namespace Go.Proofs.YtomgpbhkoellpaaDoor.Rd
open Go
set_option maxRecDepth 100000
theorem f2 : laidOutB Tryd.prog = true := by kernel_rfl
theorem f3 : mapsRowed Tryd.prog = true := by kernel_rfl
theorem f7 : (Tryd.prog.stops == []) = true := by kernel_rfl
theorem f9 : (Tryd.prog.stopKnobs == []) = true := by kernel_rfl
theorem g1 : (Rows.bandMakesRow.plainKeys == Tryd.prog.plainKeys) = true := by kernel_rfl
theorem g2 : Tryd.prog.stopsHeard = true := by kernel_rfl
theorem g3 : Tryd.prog.mayEnter = true := by kernel_rfl
theorem g5 : (Tryd.prog.make == some Rows.bandMakesRow.make) = true := by kernel_rfl
theorem g4 : (Rows.bandMakesRow.lifted == Tryd.prog.liftsFinal) = true := by kernel_rfl
end Go.Proofs.YtomgpbhkoellpaaDoor.Rd

namespace Go.Proofs.YtomgpbhkoellpaaDoor.R
open Go
theorem mainFact : Tryd.pinned.checked.prog.mainIs = some (true, "ac9d298ba8180d8e28314710ac8d3f43303b32e2ef07f873131167b130a3c7d2".toList) := by kernel_rfl
theorem looksFact : true = Tryd.pinned.checked.prog.looks [] := by kernel_rfl
theorem stand22 : Tryd.prog.wantsStandIn 22 = false := by kernel_rfl
theorem stand24 : Tryd.prog.wantsStandIn 24 = false := by kernel_rfl
theorem stand2 : Tryd.prog.wantsStandIn 2 = false := by kernel_rfl
theorem stand4 : Tryd.prog.wantsStandIn 4 = false := by kernel_rfl
end Go.Proofs.YtomgpbhkoellpaaDoor.R
