-- by a program (wip/tools: a turned copy of the kit's print): not trusted: Lean checks it
import Derived.Test.YtjpifknencfipaaDoorP
import Derived.Test.YtjpifknencfipaaDoorP28
namespace Go.Proofs.YtjpifknencfipaaDoor.P
open Go.RowKit Go.Proofs.YtjpifknencfipaaDoorW.PrintWords Go.Proofs.YtjpifknencfipaaDoorW.PrintLast Go.Proofs.YtjpifknencfipaaDoorW.PrintMore
attribute [local go_sem] max2_int min2_int max_two min_two max_three min_three max_four min_four   -- for this text's walks alone
set_option linter.unusedVariables false
set_option linter.unusedSimpArgs false

/-! ### gutterref14_high: function 88 -/
def gutterref14_high.f (k : Nat) (l0 : List (S32)) (a1 : Int) (a2 : Int) : Option (Int) := if 0 ≤ a1 then (if a1 ≤ a2 then (if a2 ≤ (l0.length : Int) then ((gutterref13_High.f k ((l0.take (a2 : Int).toNat).drop (a1 : Int).toNat)).bind fun t235 => (some t235)) else (none)) else (none)) else (none)
theorem gutterref14_high.mono : ∀ a0 a1 a2 k, LeO (gutterref14_high.f k a0 a1 a2) (gutterref14_high.f (k + 1) a0 a1 a2) := by
  intro a0 a1 a2 k
  unfold gutterref14_high.f
  repeat' first
      | (with_reducible exact gutterref13_High.mono _ _)
      | (with_reducible exact LeO.refl _)
      | (with_reducible exact LeO.none _)
      | (with_reducible refine LeO.ite ?_ ?_)
      | (with_reducible refine LeO.bind ?_ (fun _ => ?_))
      | exact gutterref13_High.mono _ _
      | exact LeO.none _
      | refine LeO.ite ?_ ?_
      | refine LeO.bind ?_ (fun _ => ?_)
set_option maxHeartbeats 8000000 in
set_option maxRecDepth 100000 in
theorem gutterref14_high.calls (k : Nat) (A0 : Option Addr) (c0 : Nat) (l0 : List (S32)) (a1 : Int) (a2 : Int) (r : Int) (w : World) (hr0 : Kd.C k32 w A0 l0.length l0) (hc0 : l0.length ≤ c0) (h : gutterref14_high.f k l0 a1 a2 = some r) :
    Calls Tryd.prog 88 #[.slice A0 l0.length c0, .int .i64 a1, .int .i64 a2] w fun e w' => e = .returned (.int .i64 r) ∧ Drawn0 w w' := by
  have HR0 := Aside0.mk hr0
  have HC0 := Aside0.mk hc0
  clear hr0 hc0
  have H : (if 0 ≤ a1 then (if a1 ≤ a2 then (if a2 ≤ (l0.length : Int) then ((gutterref13_High.f k ((l0.take (a2 : Int).toNat).drop (a1 : Int).toNat)).bind fun t235 => (some t235)) else (none)) else (none)) else (none)) = some r := h
  clear h
  by_cases c4 : 0 ≤ a1
  · rw [if_pos c4] at H
    have c4b0 := eq_true c4
    have c4b1 : decide (0 ≤ a1) = true := decide_eq_true c4
    clear c4
    by_cases c5 : a1 ≤ a2
    · rw [if_pos c5] at H
      have c5b0 := eq_true c5
      have c5b1 : decide (a1 ≤ a2) = true := decide_eq_true c5
      clear c5
      by_cases c6 : a2 ≤ (l0.length : Int)
      · rw [if_pos c6] at H
        have c6b0 := eq_true c6
        have c6b1 : decide (a2 ≤ (l0.length : Int)) = true := decide_eq_true c6
        clear c6
        obtain ⟨y231, hy231⟩ : ∃ y_ : List (S32), y_ = ((l0.take (a2 : Int).toNat).drop (a1 : Int).toNat) := ⟨_, rfl⟩
        replace H : ((gutterref13_High.f k y231).bind fun t235 => (some t235)) = some r := by first | (rw [hy231]; with_reducible exact H) | (have H2_ := (Option.bind_some _ _).symm.trans H; rw [hy231]; with_reducible exact H2_) | (have H2_ := (Option.bind_some _ _).symm.trans H; with_reducible exact H2_) | with_reducible exact H | (rw [hy231]; exact H) | exact H
        have Ny231 := Aside0.mk hy231
        clear hy231
        replace H := Option.bind_eq_some_iff.mp H
        obtain ⟨t235, A70, H⟩ := H
        replace H : (some t235) = some r := H
        have A7 := Aside0.mk A70
        clear A70
        obtain rfl := Option.some.inj H
        have q8 : (a2 : Int) ≤ ((l0.length : Int) : Int) := of_decide_eq_true (by first | (with_reducible assumption) | assumption)
        obtain ⟨i08, hi08, _, hsz8, _⟩ := info_parts info32
        have hroom8 : l0.length ≤ c0 := HC0.out
        have hC8 : Kd.C k32 _ A0 l0.length l0 := HR0.out
        have ql8 : (a1 : Int) ≤ (a2 : Int) := of_decide_eq_true (by first | (with_reducible assumption) | assumption)
        have q08 : (0 : Int) ≤ (a1 : Int) := of_decide_eq_true (by first | (with_reducible assumption) | assumption)
        have hcut8 := cut_mid (P := Tryd.prog) 22 32 .i64 .i64 Tryd.underlying22 hi08 5 hsz8 A0 l0.length c0 a1 a2 q08 ql8 q8 hroom8
        have hr8 := Kd.C_mid (lo := (a1 : Int).toNat) (hi := (a2 : Int).toNat) (c := c0) hC8 (by omega) (by omega) hroom8
        obtain ⟨A8, hA8⟩ : ∃ A1, A1 = (if c0 = (a1 : Int).toNat then A0 else (A0 : Option Addr).map (·.add ((a1 : Int).toNat * 5))) := ⟨_, rfl⟩
        obtain ⟨c8, hc8⟩ : ∃ c1, c1 = c0 - (a1 : Int).toNat := ⟨_, rfl⟩
        have hy8 : y231.length = (a2 : Int).toNat - (a1 : Int).toNat := (by rw [Ny231.out, List.length_drop, List.length_take] <;> omega)
        rw [show ((l0).take (a2 : Int).toNat).drop (a1 : Int).toNat = y231 from Ny231.out.symm] at hr8
        replace hr8 : Kd.C k32 _ A8 y231.length y231 := (by rw [hA8]; exact hr8)
        rw [← hy8, ← hA8, ← hc8] at hcut8
        have HR234 := Aside0.mk hr8
        have HC234 := Aside0.mk (show y231.length ≤ c8 from by rw [hy8, hc8]; exact Nat.sub_le_sub_right (Nat.le_trans (by omega) hroom8) _)
        clear hr8 hC8 hroom8 hi08 hsz8 hc8
        have KY8 := Aside0.mk hy8
        have KA8 := Aside0.mk hA8
        clear hy8 hA8
        replace q8 := eq_true q8
        go_enter Tryd.func88, Tryd.ntmps88
        go_wp2_with (first | ((with_reducible refine gate_callee (f := 28) rfl ?_); refine goesL_ (some 11) rfl rfl Tryd.func28 (by kernel_rfl) rfl #[.slice A8 y231.length c8] rfl (by (try simp only [List.map_toArray, List.map_cons, List.map_nil]); first | done | rfl | (simp only [List.length_drop, List.length_take]; rfl)) ?_; (with_reducible refine (gutterref13_High.calls k _ _ y231 t235 _ ?side1 ?side2 A7.out).mono ?_); (case side1 => repeat (first | exact HR234.out | (with_reducible refine Kd.C_alloc ?_ _) | (with_reducible refine Kd.C_drewN ?_ _) | (with_reducible refine Kd.C_drew ?_))); (case side2 => exact HC234.out); rintro e w' ⟨rfl, ⟨nd, rfl⟩⟩; refine ⟨_, rfl, ?_⟩))
        go_ret
        exact ⟨by first | rfl | (simp; done) | (simp [*]; done), by repeat (first | exact Drawn0.refl _ | apply Drawn0.step)⟩
      · rw [if_neg c6] at H
        exact absurd H (by simp)
    · rw [if_neg c5] at H
      exact absurd H (by simp)
  · rw [if_neg c4] at H
    exact absurd H (by simp)

end Go.Proofs.YtjpifknencfipaaDoor.P
