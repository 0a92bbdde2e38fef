/- errors.Is of a sentinel with itself is true, so each layer's 'told' of its own sentinel is that layer's number. Conditions: the sentinel's variable holds an error of errors.New's make. -/
import Derived.Test.YtjpifknencfipaaDoorChecked
import Derived.Test.YtjpifknencfipaaDoorGl
import Derived.WalkKit
import Derived.LaidEql
import Derived.Stop.Asserts
import Derived.RowKitTokens
namespace Go.Proofs.YtjpifknencfipaaDoor
open Go.RowKit Go.Extern.Stop Go.Stop Go.Extern

theorem Tryd.callTypeOf (v : Value) (w : World) : (callFunc 108 #[.iface 186 v]).run Tryd.prog w = .ok (.value (.iface 168 (.agg #[.pointer (some ⟨3, 186, none⟩)]))) w := by kernel_rfl
theorem Tryd.callComparable (w : World) : (callFunc 151 #[.agg #[.pointer (some ⟨3, 186, none⟩)]]).run Tryd.prog w = .ok (.value (.bool true)) w := by kernel_rfl
theorem Tryd.isMethodComparable (v : Value) (w : World) : (Go.method 323 168 v "Comparable").run Tryd.prog w = .ok (151, v) w := by kernel_rfl
theorem Tryd.isComp : (Tryd.prog.info? 186).map (·.comparable) = some true := by kernel_rfl
theorem Tryd.isSize : (Tryd.prog.info? 211).map (·.size) = some 1 := by kernel_rfl

set_option maxHeartbeats 1000000 in
set_option maxRecDepth 100000 in
/-- errors.Is(x, x), x a pointer to an errors.errorString. -/
theorem is_same (a : Addr) (w : World) :
    Calls Tryd.prog 95 #[.iface 186 (.pointer (some a)), .iface 186 (.pointer (some a))] w fun e w' => e = .returned (.bool true) ∧ w = w' := by
  obtain ⟨i, hi, hcmp⟩ := Option.map_eq_some_iff.1 Tryd.isComp
  obtain ⟨j, hj, hjs⟩ := Option.map_eq_some_iff.1 Tryd.isSize
  have h8 := Tryd.callTypeOf
  have h32 := Tryd.callComparable
  have mR := Tryd.isMethodComparable
  have heq := run_eql_iface_ptr_same (P := Tryd.prog) w a Tryd.underlying83 Tryd.underlying186 hi hcmp hj
  go_enter Tryd.func95, Tryd.ntmps95
  go_wp2
  refine wp_loop_rounds 1 ?_
  rw [rounds_succ]
  go_wp2
  go_ret
  exact ⟨rfl, rfl⟩

/-- fill.told(errFill). -/
theorem told_fill (a : Addr) (w : World) (hc : w.cell? ⟨2, 0, none⟩ = some (.iface 186 (.pointer (some a)))) :
    Calls Tryd.prog 84 #[.iface 186 (.pointer (some a))] w fun e w' => e = .returned (.int .i64 130) ∧ w = w' := by
  go_enter Tryd.func84, Tryd.ntmps84
  go_wp2_with (go_at_call 95; refine (is_same _ _).mono ?_; rintro e w' ⟨rfl, rfl⟩)
  go_ret
  exact ⟨rfl, rfl⟩
/-- balance.told(errBalance). -/
theorem told_balance (a : Addr) (w : World) (hc : w.cell? ⟨0, 0, none⟩ = some (.iface 186 (.pointer (some a)))) :
    Calls Tryd.prog 70 #[.iface 186 (.pointer (some a))] w fun e w' => e = .returned (.int .i64 140) ∧ w = w' := by
  go_enter Tryd.func70, Tryd.ntmps70
  go_wp2_with (go_at_call 95; refine (is_same _ _).mono ?_; rintro e w' ⟨rfl, rfl⟩)
  go_ret
  exact ⟨rfl, rfl⟩
/-- row.told(errRow). -/
theorem told_row (a : Addr) (w : World) (hc : w.cell? ⟨1, 0, none⟩ = some (.iface 186 (.pointer (some a)))) :
    Calls Tryd.prog 80 #[.iface 186 (.pointer (some a))] w fun e w' => e = .returned (.int .i64 160) ∧ w = w' := by
  go_enter Tryd.func80, Tryd.ntmps80
  go_wp2_with (go_at_call 95; refine (is_same _ _).mono ?_; rintro e w' ⟨rfl, rfl⟩)
  go_ret
  exact ⟨rfl, rfl⟩

end Go.Proofs.YtjpifknencfipaaDoor
