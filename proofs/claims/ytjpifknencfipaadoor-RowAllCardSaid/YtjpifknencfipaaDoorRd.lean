/- Closed facts of the program that every row asks. Conditions: none. -/
import Derived.Test.YtjpifknencfipaaDoorRows
import Derived.JoinedOf
import Derived.SevenTiedAt
import Derived.KernelRfl
namespace Go.Proofs.YtjpifknencfipaaDoor.Rd
open Go
set_option maxRecDepth 100000
theorem f2 : laidOutB Tryd.prog = true := by kernel_rfl
theorem f3 : mapsRowed Tryd.prog = true := by kernel_rfl
theorem f7 : (Tryd.prog.stops == []) = true := by kernel_rfl
theorem f9 : (Tryd.prog.stopKnobs == []) = true := by kernel_rfl
theorem g1 : (Rows.fillEndsRow.plainKeys == Tryd.prog.plainKeys) = true := by kernel_rfl
theorem g2 : Tryd.prog.stopsHeard = true := by kernel_rfl
theorem g3 : Tryd.prog.mayEnter = true := by kernel_rfl
theorem g5 : (Tryd.prog.make == some Rows.fillEndsRow.make) = true := by kernel_rfl
theorem g4 : (Rows.fillEndsRow.lifted == Tryd.prog.liftsFinal) = true := by kernel_rfl
end Go.Proofs.YtjpifknencfipaaDoor.Rd

namespace Go.Proofs.YtjpifknencfipaaDoor.R
open Go
theorem mainFact : Tryd.pinned.checked.prog.mainIs = some (true, "b9d29a5a8ac8ffd65bd7abf0387edf791e422c0f8ec1e9ac251d4174caa9c425".toList) := by kernel_rfl
theorem looksFact : true = Tryd.pinned.checked.prog.looks [] := by kernel_rfl
theorem stand22 : Tryd.prog.wantsStandIn 22 = false := by kernel_rfl
theorem stand69 : Tryd.prog.wantsStandIn 69 = false := by kernel_rfl
theorem stand48 : Tryd.prog.wantsStandIn 48 = false := by kernel_rfl
theorem stand2 : Tryd.prog.wantsStandIn 2 = false := by kernel_rfl
theorem stand3 : Tryd.prog.wantsStandIn 3 = false := by kernel_rfl
theorem stand4 : Tryd.prog.wantsStandIn 4 = false := by kernel_rfl
end Go.Proofs.YtjpifknencfipaaDoor.R
