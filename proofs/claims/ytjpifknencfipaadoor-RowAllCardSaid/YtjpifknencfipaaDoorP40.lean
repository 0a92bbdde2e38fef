-- by a program (wip/tools: a turned copy of the kit's print): not trusted: Lean checks it
import Derived.Test.YtjpifknencfipaaDoorP
import Derived.Test.YtjpifknencfipaaDoorE82
namespace Go.Proofs.YtjpifknencfipaaDoor.P
open Go.RowKit Go.Proofs.YtjpifknencfipaaDoorW.PrintWords Go.Proofs.YtjpifknencfipaaDoorW.PrintLast Go.Proofs.YtjpifknencfipaaDoorW.PrintMore
attribute [local go_sem] max2_int min2_int max_two min_two max_three min_three max_four min_four   -- for this text's walks alone
set_option linter.unusedVariables false
set_option linter.unusedSimpArgs false

/-! ### gutterlaw17_few: function 40 -/
def gutterlaw17_few.f (l0 : List (S32)) : Option ((List (S32))) := (gutterlaw13_Few.f l0).bind fun t359 => (if 0 ≤ (mn (t359.length : Int) 40) then (if (mn (t359.length : Int) 40) ≤ (t359.length : Int) then (some (t359.take ((mn (t359.length : Int) 40) : Int).toNat)) else (none)) else (none))
set_option maxHeartbeats 8000000 in
set_option maxRecDepth 100000 in
theorem gutterlaw17_few.calls (A0 : Option Addr) (c0 : Nat) (l0 : List (S32)) (r : List (S32)) (w : World) (hr0 : Kd.C k32 w A0 l0.length l0) (hc0 : l0.length ≤ c0) (h : gutterlaw17_few.f l0 = some r) :
    Calls Tryd.prog 40 #[.slice A0 l0.length c0] w fun e w' => ∃ v0_ : Value, e = .returned (v0_) ∧ Kd.R k32 32 w' w.heap.size (fun _ => True) v0_ r ∧ Below w.heap.size w w' := by
  have HR0 := Aside0.mk hr0
  have HC0 := Aside0.mk hc0
  clear hr0 hc0
  have HB := Aside0.mk (Below.refl w.heap.size w)
  have H : ((gutterlaw13_Few.f l0).bind fun t359 => (if 0 ≤ (mn (t359.length : Int) 40) then (if (mn (t359.length : Int) 40) ≤ (t359.length : Int) then (some (t359.take ((mn (t359.length : Int) 40) : Int).toNat)) else (none)) else (none))) = some r := h
  clear h
  replace H := Option.bind_eq_some_iff.mp H
  obtain ⟨t359, A20, H⟩ := H
  replace H : (if 0 ≤ (mn (t359.length : Int) 40) then (if (mn (t359.length : Int) 40) ≤ (t359.length : Int) then (some (t359.take ((mn (t359.length : Int) 40) : Int).toNat)) else (none)) else (none)) = some r := H
  have A2 := Aside0.mk A20
  clear A20
  obtain ⟨ji3, hji3⟩ : ∃ j_ : Int, (mn (t359.length : Int) 40) = j_ := ⟨_, rfl⟩
  replace H : (if 0 ≤ (ji3) then (if (ji3) ≤ (t359.length : Int) then (some (t359.take ((ji3) : Int).toNat)) else (none)) else (none)) = some r := by first | (rw [hji3] at H; exact H) | (simp only [hji3] at H ⊢; exact H)
  (try rw [hji3] at A2)
  (try (have hji3h : ji3 ≤ 40 := by (rw [← hji3]; unfold mn; (repeat' split) <;> omega)))
  (try (have hji3g : ji3 ≤ 64 := by omega))
  (try (have hji3l : 0 ≤ ji3 := by (rw [← hji3]; unfold mn; (repeat' split) <;> omega)))
  (try (have hji3m : 0 ≤ ji3 := by omega))
  have hji3_ : (if 40 < (t359.length : Int) then 40 else (t359.length : Int)) = ji3 := hji3
  by_cases c4 : 0 ≤ (ji3)
  · rw [if_pos c4] at H
    have c4b0 := eq_true c4
    have c4b1 : decide (0 ≤ (ji3)) = true := decide_eq_true c4
    clear c4
    by_cases c5 : (ji3) ≤ (t359.length : Int)
    · rw [if_pos c5] at H
      have c5b0 := eq_true c5
      have c5b1 : decide ((ji3) ≤ (t359.length : Int)) = true := decide_eq_true c5
      clear c5
      obtain ⟨y362, hy362⟩ : ∃ y_ : List (S32), y_ = (t359.take ((ji3) : Int).toNat) := ⟨_, rfl⟩
      replace H : (some y362) = some r := by first | (rw [hy362]; with_reducible exact H) | (have H2_ := (Option.bind_some _ _).symm.trans H; rw [hy362]; with_reducible exact H2_) | (have H2_ := (Option.bind_some _ _).symm.trans H; with_reducible exact H2_) | with_reducible exact H | (rw [hy362]; exact H) | exact H
      have Ny362 := Aside0.mk hy362
      clear hy362
      obtain rfl := Option.some.inj H
      go_enter Tryd.func40, Tryd.ntmps40
      go_wp2_with (first | ((with_reducible refine gate_callee (f := 55) rfl ?_); refine goesL_ (some 4) rfl rfl Tryd.func55 (by kernel_rfl) rfl #[.slice A0 l0.length c0] rfl (by (try simp only [List.map_toArray, List.map_cons, List.map_nil]); first | done | rfl | (simp only [List.length_drop, List.length_take]; rfl)) ?_; (with_reducible refine (gutterlaw13_Few.calls _ _ l0 t359 _ ?side1 ?side2 A2.out).mono ?_); (case side1 => repeat (first | exact HR0.out | (with_reducible refine Kd.C_alloc ?_ _) | (with_reducible refine Kd.C_drewN ?_ _) | (with_reducible refine Kd.C_drew ?_))); (case side2 => exact HC0.out); rintro e w6 ⟨v360, rfl, ho0, hb⟩; refine ⟨_, rfl, ?_⟩; have n0_ := Aside0.mk (Kd.R_lower ho0 (below_size (by repeat (first | (with_reducible first | exact HB.out | apply below_alloc | apply pw_below_drewN | apply below_drew1) | exact HB.out)))); have n1_ := Aside0.mk (below_step (by repeat (first | (with_reducible first | exact HB.out | apply below_alloc | apply pw_below_drewN | apply below_drew1) | exact HB.out)) hb); clear HB; have HO361 := n0_; have HB := n1_; clear n0_ n1_; (try clear hb); (try clear hb2); (try clear hk); (try clear hi); (try clear ho0); obtain ⟨Ao7, co7, eo7⟩ := Kd.R_slice HO361.out; subst eo7; have q8 : ((ji3) : Int) ≤ ((t359.length : Int) : Int) := of_decide_eq_true (by first | (with_reducible assumption) | assumption); obtain ⟨i08, hi08, _, hsz8, _⟩ := info_parts info32; have hcut8 := cut_to (P := Tryd.prog) 22 32 .i64 Tryd.underlying22 hi08 Ao7 t359.length co7 (ji3) (of_decide_eq_true (by first | (with_reducible assumption) | assumption)) q8 (Kd.R_reads' HO361.out).2.1; have hr8 := Kd.R_take (m := ((ji3) : Int).toNat) HO361.out (by omega); have hy8 : y362.length = ((ji3) : Int).toNat := (by rw [Ny362.out, List.length_take]; omega); rw [← Ny362.out] at hr8; rw [← hy8] at hr8 hcut8; clear hy8 hi08 hsz8 HO361; have HO364 := Aside0.mk hr8; clear hr8; replace q8 := eq_true q8))
      go_ret
      exact ⟨_, by first | rfl | (simp [errW_none, errW_some] <;> rfl) | (simp only [← hji3]; first | rfl | (simp [errW_none, errW_some] <;> rfl)) | (simp [*, errW_none, errW_some] <;> rfl), by (with_reducible repeat (first | apply Kd.R_alloc | apply Kd.R_drewN | apply Kd.R_drew)); exact HO364.out, by repeat (first | (with_reducible first | exact HB.out | apply below_alloc | apply pw_below_drewN | apply below_drew1) | exact HB.out)⟩
    · rw [if_neg c5] at H
      exact absurd H (by simp)
  · rw [if_neg c4] at H
    exact absurd H (by simp)

end Go.Proofs.YtjpifknencfipaaDoor.P
