/- fill.open: a filler in new memory where atoms and height are right, else the sentinel. Conditions: the slice reads as the list; the sentinel's variable. -/
import Derived.Test.YtjpifknencfipaaDoorRi
import Derived.Test.YtjpifknencfipaaDoorNy
import Derived.Test.YtjpifknencfipaaDoorTo
set_option linter.unusedVariables false
set_option linter.unusedSimpArgs false
namespace Go.Proofs.YtjpifknencfipaaDoor.P
open Go.RowKit Go.Proofs.YtjpifknencfipaaDoorW.PrintWords Go.Proofs.YtjpifknencfipaaDoorW.PrintLast Go.Proofs.YtjpifknencfipaaDoorW.PrintMore

/-- atom.Right, in the form that the walks want. -/
theorem right_calls (A : Option Addr) (c : Nat) (l : List S32) (w : World) (hr : Kd.C k32 w A l.length l) (hc : l.length ≤ c) :
    Calls Tryd.prog 77 #[.slice A l.length c] w fun e w' => e = .returned (.bool (rightA l)) ∧ Below w.heap.size w w' :=
  atom_Right.calls (l.length + 1) A c l (rightA l) w hr hc (right_f l hr.2.1)
theorem right_yes (A : Option Addr) (c : Nat) (l : List S32) (w : World) (hr : Kd.C k32 w A l.length l) (hc : l.length ≤ c) (h : rightA l = true) :
    Calls Tryd.prog 77 #[.slice A l.length c] w fun e w' => e = .returned (.bool true) ∧ Below w.heap.size w w' := h ▸ right_calls A c l w hr hc
theorem right_not (A : Option Addr) (c : Nat) (l : List S32) (w : World) (hr : Kd.C k32 w A l.length l) (hc : l.length ≤ c) (h : rightA l = false) :
    Calls Tryd.prog 77 #[.slice A l.length c] w fun e w' => e = .returned (.bool false) ∧ Below w.heap.size w w' := h ▸ right_calls A c l w hr hc

/-- A filler. -/
def Filler (l : List S32) (h : Int) (g : Nat) (w : World) : Prop := Atoms l g w ∧ w.cell? ⟨g, 1, none⟩ = some (.int .i64 h)
theorem Filler.below {l : List S32} {h : Int} {g : Nat} {w w1 : World} (H : Filler l h g w) (hb : Below w.heap.size w w1) : Filler l h g w1 := ⟨H.1.below hb, pw_cell_below hb H.2⟩
theorem Filler.lt {l : List S32} {h : Int} {g : Nat} {w : World} (H : Filler l h g w) : g < w.heap.size := World.block_lt_of_cell? w _ H.2

set_option maxHeartbeats 1000000 in
set_option maxRecDepth 100000 in
theorem open_yes (A : Option Addr) (c : Nat) (l : List S32) (h : Int) (w : World) (hr : Kd.C k32 w A l.length l) (hc : l.length ≤ c) (hf : fineA l h = true) :
    Calls Tryd.prog 83 #[.slice A l.length c, .int .i64 h] w fun e w' => ∃ g : Nat, e = .returned (.tuple #[.pointer (some ⟨g, 0, none⟩), .nilIface]) ∧ Filler l h g w' ∧ w.heap.size ≤ g ∧ Below w.heap.size w w' := by
  unfold fineA at hf
  simp only [Bool.and_eq_true, decide_eq_true_eq] at hf
  obtain ⟨⟨h1, h2⟩, h3⟩ := hf
  have HR := Lib.hid (right_yes A c l w hr hc h1)
  have HC := Aside0.mk hr
  have hn : l.length ≤ 2000 := len_of h1
  have d1 : decide (h < 0) = false := decide_eq_false (by omega)
  have d2 : decide (2199023255552 < h) = false := decide_eq_false (by omega)
  clear hr h1
  go_enter Tryd.func83, Tryd.ntmps83
  go_wp2_with (go_at_call 77; refine HR.out.mono ?_; rintro e w1 ⟨rfl, hb⟩; have HB := Aside0.mk hb; clear hb)
  go_ret2
  have hb := HB.out
  refine ⟨w1.heap.size, rfl, ⟨⟨A, l.length, ?_, Nat.le_refl _, Kd.C_below HC.out (below_alloc hb _)⟩, ?_⟩, hb.size, below_alloc hb _⟩
  · simp
  · simp

set_option maxHeartbeats 1000000 in
set_option maxRecDepth 100000 in
theorem open_no (A : Option Addr) (c : Nat) (l : List S32) (h : Int) (w : World) (a : Addr) (hr : Kd.C k32 w A l.length l) (hc : l.length ≤ c) (hf : fineA l h = false) (hg : w.cell? ⟨2, 0, none⟩ = some (.iface 186 (.pointer (some a)))) :
    Calls Tryd.prog 83 #[.slice A l.length c, .int .i64 h] w fun e w' => e = .returned (.tuple #[.pointer none, .iface 186 (.pointer (some a))]) ∧ Below w.heap.size w w' := by
  have hn : l.length ≤ 9223372036854775807 := hr.2.1
  cases h1 : rightA l with
  | false =>
    have HR := Lib.hid (right_not A c l w hr hc h1)
    clear hr h1 hf
    go_enter Tryd.func83, Tryd.ntmps83
    go_wp2_with (go_at_call 77; refine HR.out.mono ?_; rintro e w1 ⟨rfl, hb⟩; have HB := Aside0.mk hb; have hg1 := pw_cell_below hb hg; clear hb)
    go_quiet (fail)
    go_wp2
    go_ret2
    exact ⟨rfl, pw_below_drewN HB.out _⟩
  | true =>
    have HR := Lib.hid (right_yes A c l w hr hc h1)
    have hd : decide (h < 0) = true ∨ (decide (h < 0) = false ∧ decide (2199023255552 < h) = true) := by
      unfold fineA at hf
      rw [h1] at hf
      by_cases h2 : h < 0
      · exact .inl (decide_eq_true h2)
      · refine .inr ⟨decide_eq_false h2, decide_eq_true ?_⟩
        have h3 : (decide (0 ≤ h) && decide (h ≤ 2199023255552)) = false := by simpa using hf
        simp only [Bool.and_eq_false_iff, decide_eq_false_iff_not] at h3
        omega
    clear hr h1 hf
    rcases hd with d1 | ⟨d1, d2⟩
    · go_enter Tryd.func83, Tryd.ntmps83
      go_wp2_with (go_at_call 77; refine HR.out.mono ?_; rintro e w1 ⟨rfl, hb⟩; have HB := Aside0.mk hb; have hg1 := pw_cell_below hb hg; clear hb)
      go_quiet (fail)
      go_wp2
      go_ret2
      exact ⟨rfl, pw_below_drewN HB.out _⟩
    · go_enter Tryd.func83, Tryd.ntmps83
      go_wp2_with (go_at_call 77; refine HR.out.mono ?_; rintro e w1 ⟨rfl, hb⟩; have HB := Aside0.mk hb; have hg1 := pw_cell_below hb hg; clear hb)
      go_quiet (fail)
      go_wp2
      go_ret2
      exact ⟨rfl, pw_below_drewN HB.out _⟩

end Go.Proofs.YtjpifknencfipaaDoor.P
