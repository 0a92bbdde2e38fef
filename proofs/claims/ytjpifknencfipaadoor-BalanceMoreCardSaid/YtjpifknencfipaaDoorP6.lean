-- by a program (wip/tools: a turned copy of the kit's print): not trusted: Lean checks it
import Derived.Test.YtjpifknencfipaaDoorP
import Derived.Test.YtjpifknencfipaaDoorP24
import Derived.Test.YtjpifknencfipaaDoorP25
import Derived.Test.YtjpifknencfipaaDoorE26
namespace Go.Proofs.YtjpifknencfipaaDoor.P
open Go.RowKit Go.Proofs.YtjpifknencfipaaDoorW.PrintWords Go.Proofs.YtjpifknencfipaaDoorW.PrintLast Go.Proofs.YtjpifknencfipaaDoorW.PrintMore
attribute [local go_sem] max2_int min2_int max_two min_two max_three min_three max_four min_four   -- for this text's walks alone
set_option linter.unusedVariables false
set_option linter.unusedSimpArgs false

/-! ### gutterlaw15_BalanceMore: function 6 -/
def gutterlaw15_BalanceMore.j0 : Nat → Int → Int → Bool → Int → Int → Int → Bool → Int → Int → Int → Bool → Int → Bool → Option (Bool)
  | 0, _, _, _, _, _, _, _, _, _, _, _, _, _ => none
  | k + 1, x3, x4, x11, x13, x16, x17, x18, x19, x20, x21, x22, x23, x72 => if x72 = true then (some false) else (if x19 = 0 then (if x23 = 0 then (if x4 ≥ x3 then (if x18 = true then (if x20 = x16 then (if x21 = x17 then (if x22 = true then (if x11 = true then (if x13 = 0 then (if x3 ≥ 1 then (some ((x19 == 0) == (decide (x3 ≤ 1000)))) else (some ((x19 == 0) == false))) else (some ((x19 == 0) == false))) else (some false)) else (some false)) else (some false)) else (some false)) else (if x11 = true then (if x13 = 0 then (if x3 ≥ 1 then (some ((x19 == 0) == (decide (x3 ≤ 1000)))) else (some ((x19 == 0) == false))) else (some ((x19 == 0) == false))) else (some false))) else (if x11 = true then (if x13 = 0 then (if x3 ≥ 1 then (some ((x19 == 0) == (decide (x3 ≤ 1000)))) else (some ((x19 == 0) == false))) else (some ((x19 == 0) == false))) else (some false))) else (if x11 = true then (if x13 = 0 then (if x3 ≥ 1 then (some ((x19 == 0) == (decide (x3 ≤ 1000)))) else (some ((x19 == 0) == false))) else (some ((x19 == 0) == false))) else (some false))) else (if x11 = true then (if x13 = 0 then (if x3 ≥ 1 then (some ((x19 == 0) == (decide (x3 ≤ 1000)))) else (some ((x19 == 0) == false))) else (some ((x19 == 0) == false))) else (some false)))
def gutterlaw15_BalanceMore.f (k : Nat) (l0 : List (S32)) (a1 : Int) (a2 : Int) (a3 : Int) (a4 : Int) : Option (Bool) := (gutterlaw15_shown.f).bind fun t213 => ((gutterlaw15_few.f l0).bind fun t214 => ((balance_Begin.f t214 a1).bind fun bt217 => ((balance_Begin.f t214 a2).bind fun bt219 => ((balance_Least.f t214 a1 a3).bind fun bt221 => ((balance_Least.f t214 a1 a4).bind fun bt225 => (if bt217.2 = 0 then (if bt219.2 = 0 then (if a2 ≥ a1 then (gutterlaw15_BalanceMore.j0 k a3 a4 t213 bt217.2 bt221.1 bt221.2.1 bt221.2.2.1 bt221.2.2.2 bt225.1 bt225.2.1 bt225.2.2.1 bt225.2.2.2 (decide (bt219.1 > bt217.1))) else (gutterlaw15_BalanceMore.j0 k a3 a4 t213 bt217.2 bt221.1 bt221.2.1 bt221.2.2.1 bt221.2.2.2 bt225.1 bt225.2.1 bt225.2.2.1 bt225.2.2.2 false)) else (gutterlaw15_BalanceMore.j0 k a3 a4 t213 bt217.2 bt221.1 bt221.2.1 bt221.2.2.1 bt221.2.2.2 bt225.1 bt225.2.1 bt225.2.2.1 bt225.2.2.2 false)) else (gutterlaw15_BalanceMore.j0 k a3 a4 t213 bt217.2 bt221.1 bt221.2.1 bt221.2.2.1 bt221.2.2.2 bt225.1 bt225.2.1 bt225.2.2.1 bt225.2.2.2 false)))))))
theorem gutterlaw15_BalanceMore.mono_l : ∀ k, (∀ y0 y1 y2 y3 y4 y5 y6 y7 y8 y9 y10 y11 y12, LeO (gutterlaw15_BalanceMore.j0 k y0 y1 y2 y3 y4 y5 y6 y7 y8 y9 y10 y11 y12) (gutterlaw15_BalanceMore.j0 (k + 1) y0 y1 y2 y3 y4 y5 y6 y7 y8 y9 y10 y11 y12))
  | 0 => fun _ _ _ _ _ _ _ _ _ _ _ _ _ r h => by simp [gutterlaw15_BalanceMore.j0] at h
  | k + 1 => by
    have ih0 := gutterlaw15_BalanceMore.mono_l k
    · intro y0 y1 y2 y3 y4 y5 y6 y7 y8 y9 y10 y11 y12
      unfold gutterlaw15_BalanceMore.j0
      repeat' first
      | (with_reducible exact ih0 _ _ _ _ _ _ _ _ _ _ _ _ _)
      | (with_reducible exact LeO.refl _)
      | (with_reducible exact LeO.none _)
      | (with_reducible refine LeO.ite ?_ ?_)
      | (with_reducible refine LeO.bind ?_ (fun _ => ?_))
      | exact ih0 _ _ _ _ _ _ _ _ _ _ _ _ _
      | exact LeO.none _
      | refine LeO.ite ?_ ?_
      | refine LeO.bind ?_ (fun _ => ?_)
theorem gutterlaw15_BalanceMore.mono : ∀ a0 a1 a2 a3 a4 k, LeO (gutterlaw15_BalanceMore.f k a0 a1 a2 a3 a4) (gutterlaw15_BalanceMore.f (k + 1) a0 a1 a2 a3 a4) := by
  intro a0 a1 a2 a3 a4 k
  have ih0 := gutterlaw15_BalanceMore.mono_l k
  unfold gutterlaw15_BalanceMore.f
  repeat' first
      | (with_reducible exact ih0 _ _ _ _ _ _ _ _ _ _ _ _ _)
      | (with_reducible exact LeO.refl _)
      | (with_reducible exact LeO.none _)
      | (with_reducible refine LeO.ite ?_ ?_)
      | (with_reducible refine LeO.bind ?_ (fun _ => ?_))
      | exact ih0 _ _ _ _ _ _ _ _ _ _ _ _ _
      | exact LeO.none _
      | refine LeO.ite ?_ ?_
      | refine LeO.bind ?_ (fun _ => ?_)
set_option maxHeartbeats 8000000 in
set_option maxRecDepth 100000 in
theorem gutterlaw15_BalanceMore.calls (k : Nat) (A0 : Option Addr) (c0 : Nat) (l0 : List (S32)) (a1 : Int) (a2 : Int) (a3 : Int) (a4 : Int) (r : Bool) (w : World) (hr0 : Kd.C k32 w A0 l0.length l0) (hc0 : l0.length ≤ c0) (hG : Gl 2 w) (h : gutterlaw15_BalanceMore.f k l0 a1 a2 a3 a4 = some r) :
    Calls Tryd.prog 6 #[.slice A0 l0.length c0, .int .i64 a1, .int .i64 a2, .int .i64 a3, .int .i64 a4] w fun e w' => e = .returned (.bool r) ∧ Below w.heap.size w w' := by
  have HR0 := Aside0.mk hr0
  have HC0 := Aside0.mk hc0
  clear hr0 hc0
  have HG := Aside0.mk hG
  clear hG
  have HB := Aside0.mk (Below.refl w.heap.size w)
  have H : ((gutterlaw15_shown.f).bind fun t213 => ((gutterlaw15_few.f l0).bind fun t214 => ((balance_Begin.f t214 a1).bind fun bt217 => ((balance_Begin.f t214 a2).bind fun bt219 => ((balance_Least.f t214 a1 a3).bind fun bt221 => ((balance_Least.f t214 a1 a4).bind fun bt225 => (if bt217.2 = 0 then (if bt219.2 = 0 then (if a2 ≥ a1 then (gutterlaw15_BalanceMore.j0 k a3 a4 t213 bt217.2 bt221.1 bt221.2.1 bt221.2.2.1 bt221.2.2.2 bt225.1 bt225.2.1 bt225.2.2.1 bt225.2.2.2 (decide (bt219.1 > bt217.1))) else (gutterlaw15_BalanceMore.j0 k a3 a4 t213 bt217.2 bt221.1 bt221.2.1 bt221.2.2.1 bt221.2.2.2 bt225.1 bt225.2.1 bt225.2.2.1 bt225.2.2.2 false)) else (gutterlaw15_BalanceMore.j0 k a3 a4 t213 bt217.2 bt221.1 bt221.2.1 bt221.2.2.1 bt221.2.2.2 bt225.1 bt225.2.1 bt225.2.2.1 bt225.2.2.2 false)) else (gutterlaw15_BalanceMore.j0 k a3 a4 t213 bt217.2 bt221.1 bt221.2.1 bt221.2.2.1 bt221.2.2.2 bt225.1 bt225.2.1 bt225.2.2.1 bt225.2.2.2 false)))))))) = some r := h
  clear h
  replace H := Option.bind_eq_some_iff.mp H
  obtain ⟨t213, A60, H⟩ := H
  replace H : ((gutterlaw15_few.f l0).bind fun t214 => ((balance_Begin.f t214 a1).bind fun bt217 => ((balance_Begin.f t214 a2).bind fun bt219 => ((balance_Least.f t214 a1 a3).bind fun bt221 => ((balance_Least.f t214 a1 a4).bind fun bt225 => (if bt217.2 = 0 then (if bt219.2 = 0 then (if a2 ≥ a1 then (gutterlaw15_BalanceMore.j0 k a3 a4 t213 bt217.2 bt221.1 bt221.2.1 bt221.2.2.1 bt221.2.2.2 bt225.1 bt225.2.1 bt225.2.2.1 bt225.2.2.2 (decide (bt219.1 > bt217.1))) else (gutterlaw15_BalanceMore.j0 k a3 a4 t213 bt217.2 bt221.1 bt221.2.1 bt221.2.2.1 bt221.2.2.2 bt225.1 bt225.2.1 bt225.2.2.1 bt225.2.2.2 false)) else (gutterlaw15_BalanceMore.j0 k a3 a4 t213 bt217.2 bt221.1 bt221.2.1 bt221.2.2.1 bt221.2.2.2 bt225.1 bt225.2.1 bt225.2.2.1 bt225.2.2.2 false)) else (gutterlaw15_BalanceMore.j0 k a3 a4 t213 bt217.2 bt221.1 bt221.2.1 bt221.2.2.1 bt221.2.2.2 bt225.1 bt225.2.1 bt225.2.2.1 bt225.2.2.2 false))))))) = some r := H
  have A6 := Aside0.mk A60
  clear A60
  replace H := Option.bind_eq_some_iff.mp H
  obtain ⟨t214, A70, H⟩ := H
  replace H : ((balance_Begin.f t214 a1).bind fun bt217 => ((balance_Begin.f t214 a2).bind fun bt219 => ((balance_Least.f t214 a1 a3).bind fun bt221 => ((balance_Least.f t214 a1 a4).bind fun bt225 => (if bt217.2 = 0 then (if bt219.2 = 0 then (if a2 ≥ a1 then (gutterlaw15_BalanceMore.j0 k a3 a4 t213 bt217.2 bt221.1 bt221.2.1 bt221.2.2.1 bt221.2.2.2 bt225.1 bt225.2.1 bt225.2.2.1 bt225.2.2.2 (decide (bt219.1 > bt217.1))) else (gutterlaw15_BalanceMore.j0 k a3 a4 t213 bt217.2 bt221.1 bt221.2.1 bt221.2.2.1 bt221.2.2.2 bt225.1 bt225.2.1 bt225.2.2.1 bt225.2.2.2 false)) else (gutterlaw15_BalanceMore.j0 k a3 a4 t213 bt217.2 bt221.1 bt221.2.1 bt221.2.2.1 bt221.2.2.2 bt225.1 bt225.2.1 bt225.2.2.1 bt225.2.2.2 false)) else (gutterlaw15_BalanceMore.j0 k a3 a4 t213 bt217.2 bt221.1 bt221.2.1 bt221.2.2.1 bt221.2.2.2 bt225.1 bt225.2.1 bt225.2.2.1 bt225.2.2.2 false)))))) = some r := H
  have A7 := Aside0.mk A70
  clear A70
  replace H := Option.bind_eq_some_iff.mp H
  obtain ⟨⟨t217, t218⟩, A80, H⟩ := H
  replace H : ((balance_Begin.f t214 a2).bind fun bt219 => ((balance_Least.f t214 a1 a3).bind fun bt221 => ((balance_Least.f t214 a1 a4).bind fun bt225 => (if t218 = 0 then (if bt219.2 = 0 then (if a2 ≥ a1 then (gutterlaw15_BalanceMore.j0 k a3 a4 t213 t218 bt221.1 bt221.2.1 bt221.2.2.1 bt221.2.2.2 bt225.1 bt225.2.1 bt225.2.2.1 bt225.2.2.2 (decide (bt219.1 > t217))) else (gutterlaw15_BalanceMore.j0 k a3 a4 t213 t218 bt221.1 bt221.2.1 bt221.2.2.1 bt221.2.2.2 bt225.1 bt225.2.1 bt225.2.2.1 bt225.2.2.2 false)) else (gutterlaw15_BalanceMore.j0 k a3 a4 t213 t218 bt221.1 bt221.2.1 bt221.2.2.1 bt221.2.2.2 bt225.1 bt225.2.1 bt225.2.2.1 bt225.2.2.2 false)) else (gutterlaw15_BalanceMore.j0 k a3 a4 t213 t218 bt221.1 bt221.2.1 bt221.2.2.1 bt221.2.2.2 bt225.1 bt225.2.1 bt225.2.2.1 bt225.2.2.2 false))))) = some r := H
  have A8 := Aside0.mk A80
  clear A80
  replace H := Option.bind_eq_some_iff.mp H
  obtain ⟨⟨t219, t220⟩, A90, H⟩ := H
  replace H : ((balance_Least.f t214 a1 a3).bind fun bt221 => ((balance_Least.f t214 a1 a4).bind fun bt225 => (if t218 = 0 then (if t220 = 0 then (if a2 ≥ a1 then (gutterlaw15_BalanceMore.j0 k a3 a4 t213 t218 bt221.1 bt221.2.1 bt221.2.2.1 bt221.2.2.2 bt225.1 bt225.2.1 bt225.2.2.1 bt225.2.2.2 (decide (t219 > t217))) else (gutterlaw15_BalanceMore.j0 k a3 a4 t213 t218 bt221.1 bt221.2.1 bt221.2.2.1 bt221.2.2.2 bt225.1 bt225.2.1 bt225.2.2.1 bt225.2.2.2 false)) else (gutterlaw15_BalanceMore.j0 k a3 a4 t213 t218 bt221.1 bt221.2.1 bt221.2.2.1 bt221.2.2.2 bt225.1 bt225.2.1 bt225.2.2.1 bt225.2.2.2 false)) else (gutterlaw15_BalanceMore.j0 k a3 a4 t213 t218 bt221.1 bt221.2.1 bt221.2.2.1 bt221.2.2.2 bt225.1 bt225.2.1 bt225.2.2.1 bt225.2.2.2 false)))) = some r := H
  have A9 := Aside0.mk A90
  clear A90
  replace H := Option.bind_eq_some_iff.mp H
  obtain ⟨⟨t221, t222, t223, t224⟩, A100, H⟩ := H
  replace H : ((balance_Least.f t214 a1 a4).bind fun bt225 => (if t218 = 0 then (if t220 = 0 then (if a2 ≥ a1 then (gutterlaw15_BalanceMore.j0 k a3 a4 t213 t218 t221 t222 t223 t224 bt225.1 bt225.2.1 bt225.2.2.1 bt225.2.2.2 (decide (t219 > t217))) else (gutterlaw15_BalanceMore.j0 k a3 a4 t213 t218 t221 t222 t223 t224 bt225.1 bt225.2.1 bt225.2.2.1 bt225.2.2.2 false)) else (gutterlaw15_BalanceMore.j0 k a3 a4 t213 t218 t221 t222 t223 t224 bt225.1 bt225.2.1 bt225.2.2.1 bt225.2.2.2 false)) else (gutterlaw15_BalanceMore.j0 k a3 a4 t213 t218 t221 t222 t223 t224 bt225.1 bt225.2.1 bt225.2.2.1 bt225.2.2.2 false))) = some r := H
  have A10 := Aside0.mk A100
  clear A100
  replace H := Option.bind_eq_some_iff.mp H
  obtain ⟨⟨t225, t226, t227, t228⟩, A110, H⟩ := H
  replace H : (if t218 = 0 then (if t220 = 0 then (if a2 ≥ a1 then (gutterlaw15_BalanceMore.j0 k a3 a4 t213 t218 t221 t222 t223 t224 t225 t226 t227 t228 (decide (t219 > t217))) else (gutterlaw15_BalanceMore.j0 k a3 a4 t213 t218 t221 t222 t223 t224 t225 t226 t227 t228 false)) else (gutterlaw15_BalanceMore.j0 k a3 a4 t213 t218 t221 t222 t223 t224 t225 t226 t227 t228 false)) else (gutterlaw15_BalanceMore.j0 k a3 a4 t213 t218 t221 t222 t223 t224 t225 t226 t227 t228 false)) = some r := H
  have A11 := Aside0.mk A110
  clear A110
  have HC12 := Aside0.mk H
  clear H
  go_enter Tryd.func6, Tryd.ntmps6
  go_upto_region 7 with (first | ((with_reducible refine gate_callee (f := 24) rfl ?_); refine goesL_ (some 24) rfl rfl Tryd.func24 (by kernel_rfl) rfl #[] rfl (by (try simp only [List.map_toArray, List.map_cons, List.map_nil]); first | done | rfl | (simp only [List.length_drop, List.length_take]; rfl)) ?_; (with_reducible refine (gutterlaw15_shown.calls  t213 _ ?side1 A6.out).mono ?_); (case side1 => exact (Gl.of_below HG.out (by repeat (first | (with_reducible first | exact HB.out | apply below_alloc | apply pw_below_drewN | apply below_drew1) | exact HB.out))).le (by decide)); rintro e w13 ⟨rfl, hb⟩; refine ⟨_, rfl, ?_⟩; have n0_ := Aside0.mk (below_step (by repeat (first | (with_reducible first | exact HB.out | apply below_alloc | apply pw_below_drewN | apply below_drew1) | exact HB.out)) hb); clear HB; have HB := n0_; clear n0_; (try clear hb); (try clear hb2); (try clear hk); (try clear hi)) | ((with_reducible refine gate_callee (f := 25) rfl ?_); refine goesL_ (some 26) rfl rfl Tryd.func25 (by kernel_rfl) rfl #[.slice A0 l0.length c0] rfl (by (try simp only [List.map_toArray, List.map_cons, List.map_nil]); first | done | rfl | (simp only [List.length_drop, List.length_take]; rfl)) ?_; (with_reducible refine (gutterlaw15_few.calls _ _ l0 t214 _ ?side1 ?side2 A7.out).mono ?_); (case side1 => repeat (first | exact (Kd.C_below HR0.out HB.out) | (with_reducible refine Kd.C_alloc ?_ _) | (with_reducible refine Kd.C_drewN ?_ _) | (with_reducible refine Kd.C_drew ?_))); (case side2 => exact HC0.out); rintro e w14 ⟨v215, rfl, ho0, hb⟩; refine ⟨_, rfl, ?_⟩; have n0_ := Aside0.mk (Kd.R_lower ho0 (below_size (by repeat (first | (with_reducible first | exact HB.out | apply below_alloc | apply pw_below_drewN | apply below_drew1) | exact HB.out)))); have n1_ := Aside0.mk (below_step (by repeat (first | (with_reducible first | exact HB.out | apply below_alloc | apply pw_below_drewN | apply below_drew1) | exact HB.out)) hb); clear HB; have HO216 := n0_; have HB := n1_; clear n0_ n1_; (try clear hb); (try clear hb2); (try clear hk); (try clear hi); (try clear ho0); obtain ⟨Ao15, co15, eo15⟩ := Kd.R_slice HO216.out; subst eo15) | ((with_reducible refine gate_callee (f := 34) rfl ?_); refine goesL_ (some 30) rfl rfl Tryd.func34 (by kernel_rfl) rfl #[.slice Ao15 t214.length co15, .int .i64 a1] rfl (by (try simp only [List.map_toArray, List.map_cons, List.map_nil]); first | done | rfl | (simp only [List.length_drop, List.length_take]; rfl)) ?_; (with_reducible refine (balance_Begin.calls _ _ t214 a1 t217 t218 _ ?side1 ?side2 ?side3 A8.out).mono ?_); (case side1 => repeat (first | exact (Kd.R_reads' HO216.out).2.2 | (with_reducible refine Kd.C_alloc ?_ _) | (with_reducible refine Kd.C_drewN ?_ _) | (with_reducible refine Kd.C_drew ?_))); (case side2 => exact (Kd.R_reads' HO216.out).2.1); (case side3 => exact (Gl.of_below HG.out (by repeat (first | (with_reducible first | exact HB.out | apply below_alloc | apply pw_below_drewN | apply below_drew1) | exact HB.out))).le (by decide)); rintro e w16 ⟨rfl, hb⟩; refine ⟨_, rfl, ?_⟩; have n0_ := Aside0.mk (Kd.R_below (by (with_reducible repeat (first | apply Kd.R_alloc | apply Kd.R_drewN | apply Kd.R_drew)); exact HO216.out) hb); have n1_ := Aside0.mk (below_step (by repeat (first | (with_reducible first | exact HB.out | apply below_alloc | apply pw_below_drewN | apply below_drew1) | exact HB.out)) hb); clear HO216; clear HB; have HO216 := n0_; have HB := n1_; clear n0_ n1_; (try clear hb); (try clear hb2); (try clear hk); (try clear hi)) | ((with_reducible refine gate_callee (f := 34) rfl ?_); refine goesL_ (some 36) rfl rfl Tryd.func34 (by kernel_rfl) rfl #[.slice Ao15 t214.length co15, .int .i64 a2] rfl (by (try simp only [List.map_toArray, List.map_cons, List.map_nil]); first | done | rfl | (simp only [List.length_drop, List.length_take]; rfl)) ?_; (with_reducible refine (balance_Begin.calls _ _ t214 a2 t219 t220 _ ?side1 ?side2 ?side3 A9.out).mono ?_); (case side1 => repeat (first | exact (Kd.R_reads' HO216.out).2.2 | (with_reducible refine Kd.C_alloc ?_ _) | (with_reducible refine Kd.C_drewN ?_ _) | (with_reducible refine Kd.C_drew ?_))); (case side2 => exact (Kd.R_reads' HO216.out).2.1); (case side3 => exact (Gl.of_below HG.out (by repeat (first | (with_reducible first | exact HB.out | apply below_alloc | apply pw_below_drewN | apply below_drew1) | exact HB.out))).le (by decide)); rintro e w17 ⟨rfl, hb⟩; refine ⟨_, rfl, ?_⟩; have n0_ := Aside0.mk (Kd.R_below (by (with_reducible repeat (first | apply Kd.R_alloc | apply Kd.R_drewN | apply Kd.R_drew)); exact HO216.out) hb); have n1_ := Aside0.mk (below_step (by repeat (first | (with_reducible first | exact HB.out | apply below_alloc | apply pw_below_drewN | apply below_drew1) | exact HB.out)) hb); clear HO216; clear HB; have HO216 := n0_; have HB := n1_; clear n0_ n1_; (try clear hb); (try clear hb2); (try clear hk); (try clear hi)) | ((with_reducible refine gate_callee (f := 29) rfl ?_); refine goesL_ (some 43) rfl rfl Tryd.func29 (by kernel_rfl) rfl #[.slice Ao15 t214.length co15, .int .i64 a1, .int .i64 a3] rfl (by (try simp only [List.map_toArray, List.map_cons, List.map_nil]); first | done | rfl | (simp only [List.length_drop, List.length_take]; rfl)) ?_; (with_reducible refine (balance_Least.calls _ _ t214 a1 a3 t221 t222 t223 t224 _ ?side1 ?side2 ?side3 A10.out).mono ?_); (case side1 => repeat (first | exact (Kd.R_reads' HO216.out).2.2 | (with_reducible refine Kd.C_alloc ?_ _) | (with_reducible refine Kd.C_drewN ?_ _) | (with_reducible refine Kd.C_drew ?_))); (case side2 => exact (Kd.R_reads' HO216.out).2.1); (case side3 => exact (Gl.of_below HG.out (by repeat (first | (with_reducible first | exact HB.out | apply below_alloc | apply pw_below_drewN | apply below_drew1) | exact HB.out))).le (by decide)); rintro e w18 ⟨rfl, hb⟩; refine ⟨_, rfl, ?_⟩; have n0_ := Aside0.mk (Kd.R_below (by (with_reducible repeat (first | apply Kd.R_alloc | apply Kd.R_drewN | apply Kd.R_drew)); exact HO216.out) hb); have n1_ := Aside0.mk (below_step (by repeat (first | (with_reducible first | exact HB.out | apply below_alloc | apply pw_below_drewN | apply below_drew1) | exact HB.out)) hb); clear HO216; clear HB; have HO216 := n0_; have HB := n1_; clear n0_ n1_; (try clear hb); (try clear hb2); (try clear hk); (try clear hi)) | ((with_reducible refine gate_callee (f := 29) rfl ?_); refine goesL_ (some 52) rfl rfl Tryd.func29 (by kernel_rfl) rfl #[.slice Ao15 t214.length co15, .int .i64 a1, .int .i64 a4] rfl (by (try simp only [List.map_toArray, List.map_cons, List.map_nil]); first | done | rfl | (simp only [List.length_drop, List.length_take]; rfl)) ?_; (with_reducible refine (balance_Least.calls _ _ t214 a1 a4 t225 t226 t227 t228 _ ?side1 ?side2 ?side3 A11.out).mono ?_); (case side1 => repeat (first | exact (Kd.R_reads' HO216.out).2.2 | (with_reducible refine Kd.C_alloc ?_ _) | (with_reducible refine Kd.C_drewN ?_ _) | (with_reducible refine Kd.C_drew ?_))); (case side2 => exact (Kd.R_reads' HO216.out).2.1); (case side3 => exact (Gl.of_below HG.out (by repeat (first | (with_reducible first | exact HB.out | apply below_alloc | apply pw_below_drewN | apply below_drew1) | exact HB.out))).le (by decide)); rintro e w19 ⟨rfl, hb⟩; refine ⟨_, rfl, ?_⟩; have n0_ := Aside0.mk (Kd.R_below (by (with_reducible repeat (first | apply Kd.R_alloc | apply Kd.R_drewN | apply Kd.R_drew)); exact HO216.out) hb); have n1_ := Aside0.mk (below_step (by repeat (first | (with_reducible first | exact HB.out | apply below_alloc | apply pw_below_drewN | apply below_drew1) | exact HB.out)) hb); clear HO216; clear HB; have HO216 := n0_; have HB := n1_; clear n0_ n1_; (try clear hb); (try clear hb2); (try clear hk); (try clear hi)))
  (try simp only [Act.put, List.setIfInBounds_toArray, List.set_cons_zero, List.set_cons_succ])
  go_cut [72] (fun v72 wc => ∃ (kq : Nat) (x72_11 : Bool), v72 = .bool x72_11 ∧ Aside0 (gutterlaw15_BalanceMore.j0 kq a3 a4 t213 t218 t221 t222 t223 t224 t225 t226 t227 t228 x72_11 = some r) ∧ Aside0 (kq ≤ k) ∧ Aside0 (Below w.heap.size w wc))
  case first =>
    have H := HC12.out
    clear HC12
    by_cases c20 : t218 = 0
    · rw [if_pos c20] at H
      have c20b0 : (t218 == 0) = true := beq_iff_eq.mpr c20
      have c20b1 : (t218 != 0) = false := bne_eq_false_iff_eq.mpr c20
      clear c20
      (first | rw [c20b0] | (simp only [i64_w, i32_w]; rw [c20b0]) | skip)
      by_cases c21 : t220 = 0
      · rw [if_pos c21] at H
        have c21b0 : (t220 == 0) = true := beq_iff_eq.mpr c21
        have c21b1 : (t220 != 0) = false := bne_eq_false_iff_eq.mpr c21
        clear c21
        by_cases c22 : a2 ≥ a1
        · rw [if_pos c22] at H
          have c22b0 : decide (a1 ≤ a2) = true := decide_eq_true c22
          clear c22
          have H' := Aside0.mk H
          clear H
          go_wp2
          go_meet
          case rel => exact ⟨_, (decide (t219 > t217)), (by first | rfl | (simp; done) | (simp [*]; done)), H', ⟨by first | omega | exact Nat.le_refl _⟩, ⟨by repeat (first | (with_reducible first | exact HB.out | apply below_alloc | apply pw_below_drewN | apply below_drew1) | exact HB.out)⟩⟩
        · rw [if_neg c22] at H
          have c22b0 : decide (a1 ≤ a2) = false := decide_eq_false c22
          clear c22
          have H' := Aside0.mk H
          clear H
          go_wp2
          go_meet
          case rel => exact ⟨_, (false), (by first | rfl | (simp; done) | (simp [*]; done)), H', ⟨by first | omega | exact Nat.le_refl _⟩, ⟨by repeat (first | (with_reducible first | exact HB.out | apply below_alloc | apply pw_below_drewN | apply below_drew1) | exact HB.out)⟩⟩
      · rw [if_neg c21] at H
        have c21b0 : (t220 == 0) = false := beq_eq_false_iff_ne.mpr c21
        have c21b1 : (t220 != 0) = true := bne_iff_ne.mpr c21
        have H' := Aside0.mk H
        clear H
        go_wp2
        go_meet
        case rel => exact ⟨_, (false), (by first | rfl | (simp; done) | (simp [*]; done)), H', ⟨by first | omega | exact Nat.le_refl _⟩, ⟨by repeat (first | (with_reducible first | exact HB.out | apply below_alloc | apply pw_below_drewN | apply below_drew1) | exact HB.out)⟩⟩
    · rw [if_neg c20] at H
      have c20b0 : (t218 == 0) = false := beq_eq_false_iff_ne.mpr c20
      have c20b1 : (t218 != 0) = true := bne_iff_ne.mpr c20
      (first | rw [c20b0] | (simp only [i64_w, i32_w]; rw [c20b0]) | skip)
      have H' := Aside0.mk H
      clear H
      go_wp2
      go_meet
      case rel => exact ⟨_, (false), (by first | rfl | (simp; done) | (simp [*]; done)), H', ⟨by first | omega | exact Nat.le_refl _⟩, ⟨by repeat (first | (with_reducible first | exact HB.out | apply below_alloc | apply pw_below_drewN | apply below_drew1) | exact HB.out)⟩⟩
  case rest =>
    clear HC12
    try clear c2
    try clear p2
    try clear c3
    try clear c6
    try clear c20
    try clear c20b0
    try clear c20b1
    try clear c21
    try clear c21b0
    try clear c21b1
    try clear c22
    try clear c22b0
    obtain ⟨kq, x72_11, rfl, HA, HJ11, HB⟩ := hcut
    cases kq with
    | zero => exact absurd HA.out (by simp [gutterlaw15_BalanceMore.j0])
    | succ kj11 =>
      have H := HA.out
      clear HA
      simp only [gutterlaw15_BalanceMore.j0] at H
      by_cases c23 : x72_11 = true
      · subst c23
        have H1 : (some false) = some r := by rw [if_pos rfl] at H; exact H
        clear H
        have H := H1
        clear H1
        obtain rfl := Option.some.inj H
        go_wp2
        go_ret
        exact ⟨by first | rfl | (simp [errW_none, errW_some] <;> rfl) | (simp [*, errW_none, errW_some] <;> rfl), by repeat (first | (with_reducible first | exact HB.out | apply below_alloc | apply pw_below_drewN | apply below_drew1) | exact HB.out)⟩
      · replace c23 := Bool.eq_false_iff.mpr c23
        subst c23
        have H1 : (if t224 = 0 then (if t228 = 0 then (if a4 ≥ a3 then (if t223 = true then (if t225 = t221 then (if t226 = t222 then (if t227 = true then (if t213 = true then (if t218 = 0 then (if a3 ≥ 1 then (some ((t224 == 0) == (decide (a3 ≤ 1000)))) else (some ((t224 == 0) == false))) else (some ((t224 == 0) == false))) else (some false)) else (some false)) else (some false)) else (some false)) else (if t213 = true then (if t218 = 0 then (if a3 ≥ 1 then (some ((t224 == 0) == (decide (a3 ≤ 1000)))) else (some ((t224 == 0) == false))) else (some ((t224 == 0) == false))) else (some false))) else (if t213 = true then (if t218 = 0 then (if a3 ≥ 1 then (some ((t224 == 0) == (decide (a3 ≤ 1000)))) else (some ((t224 == 0) == false))) else (some ((t224 == 0) == false))) else (some false))) else (if t213 = true then (if t218 = 0 then (if a3 ≥ 1 then (some ((t224 == 0) == (decide (a3 ≤ 1000)))) else (some ((t224 == 0) == false))) else (some ((t224 == 0) == false))) else (some false))) else (if t213 = true then (if t218 = 0 then (if a3 ≥ 1 then (some ((t224 == 0) == (decide (a3 ≤ 1000)))) else (some ((t224 == 0) == false))) else (some ((t224 == 0) == false))) else (some false))) = some r := by rw [if_neg (show ¬ (false = true) by decide)] at H; exact H
        clear H
        have H := H1
        clear H1
        by_cases c24 : t224 = 0
        · rw [if_pos c24] at H
          have c24b0 : (t224 == 0) = true := beq_iff_eq.mpr c24
          have c24b1 : (t224 != 0) = false := bne_eq_false_iff_eq.mpr c24
          clear c24
          by_cases c25 : t228 = 0
          · rw [if_pos c25] at H
            have c25b0 : (t228 == 0) = true := beq_iff_eq.mpr c25
            have c25b1 : (t228 != 0) = false := bne_eq_false_iff_eq.mpr c25
            clear c25
            by_cases c26 : a4 ≥ a3
            · rw [if_pos c26] at H
              have c26b0 : decide (a3 ≤ a4) = true := decide_eq_true c26
              clear c26
              by_cases c27 : t223 = true
              · subst c27
                have H1 : (if t225 = t221 then (if t226 = t222 then (if t227 = true then (if t213 = true then (if t218 = 0 then (if a3 ≥ 1 then (some ((t224 == 0) == (decide (a3 ≤ 1000)))) else (some ((t224 == 0) == false))) else (some ((t224 == 0) == false))) else (some false)) else (some false)) else (some false)) else (some false)) = some r := by rw [if_pos rfl] at H; exact H
                clear H
                have H := H1
                clear H1
                by_cases c28 : t225 = t221
                · rw [if_pos c28] at H
                  have c28b0 : (t225 == t221) = true := beq_iff_eq.mpr c28
                  have c28b1 : (t225 != t221) = false := bne_eq_false_iff_eq.mpr c28
                  clear c28
                  by_cases c29 : t226 = t222
                  · rw [if_pos c29] at H
                    have c29b0 : (t226 == t222) = true := beq_iff_eq.mpr c29
                    have c29b1 : (t226 != t222) = false := bne_eq_false_iff_eq.mpr c29
                    clear c29
                    by_cases c30 : t227 = true
                    · subst c30
                      have H1 : (if t213 = true then (if t218 = 0 then (if a3 ≥ 1 then (some ((t224 == 0) == (decide (a3 ≤ 1000)))) else (some ((t224 == 0) == false))) else (some ((t224 == 0) == false))) else (some false)) = some r := by rw [if_pos rfl] at H; exact H
                      clear H
                      have H := H1
                      clear H1
                      by_cases c31 : t213 = true
                      · subst c31
                        have H1 : (if t218 = 0 then (if a3 ≥ 1 then (some ((t224 == 0) == (decide (a3 ≤ 1000)))) else (some ((t224 == 0) == false))) else (some ((t224 == 0) == false))) = some r := by rw [if_pos rfl] at H; exact H
                        clear H
                        have H := H1
                        clear H1
                        by_cases c32 : t218 = 0
                        · rw [if_pos c32] at H
                          have c32b0 : (t218 == 0) = true := beq_iff_eq.mpr c32
                          have c32b1 : (t218 != 0) = false := bne_eq_false_iff_eq.mpr c32
                          clear c32
                          by_cases c33 : a3 ≥ 1
                          · rw [if_pos c33] at H
                            have c33b0 : decide (1 ≤ a3) = true := decide_eq_true c33
                            clear c33
                            obtain rfl := Option.some.inj H
                            go_wp2
                            go_ret
                            exact ⟨by first | rfl | (simp [errW_none, errW_some] <;> rfl) | (simp [*, errW_none, errW_some] <;> rfl), by repeat (first | (with_reducible first | exact HB.out | apply below_alloc | apply pw_below_drewN | apply below_drew1) | exact HB.out)⟩
                          · rw [if_neg c33] at H
                            have c33b0 : decide (1 ≤ a3) = false := decide_eq_false c33
                            clear c33
                            obtain rfl := Option.some.inj H
                            go_wp2
                            go_ret
                            exact ⟨by first | rfl | (simp [errW_none, errW_some] <;> rfl) | (simp [*, errW_none, errW_some] <;> rfl), by repeat (first | (with_reducible first | exact HB.out | apply below_alloc | apply pw_below_drewN | apply below_drew1) | exact HB.out)⟩
                        · rw [if_neg c32] at H
                          have c32b0 : (t218 == 0) = false := beq_eq_false_iff_ne.mpr c32
                          have c32b1 : (t218 != 0) = true := bne_iff_ne.mpr c32
                          obtain rfl := Option.some.inj H
                          go_wp2
                          go_ret
                          exact ⟨by first | rfl | (simp [errW_none, errW_some] <;> rfl) | (simp [*, errW_none, errW_some] <;> rfl), by repeat (first | (with_reducible first | exact HB.out | apply below_alloc | apply pw_below_drewN | apply below_drew1) | exact HB.out)⟩
                      · replace c31 := Bool.eq_false_iff.mpr c31
                        subst c31
                        have H1 : (some false) = some r := by rw [if_neg (show ¬ (false = true) by decide)] at H; exact H
                        clear H
                        have H := H1
                        clear H1
                        obtain rfl := Option.some.inj H
                        go_wp2
                        go_ret
                        exact ⟨by first | rfl | (simp [errW_none, errW_some] <;> rfl) | (simp [*, errW_none, errW_some] <;> rfl), by repeat (first | (with_reducible first | exact HB.out | apply below_alloc | apply pw_below_drewN | apply below_drew1) | exact HB.out)⟩
                    · replace c30 := Bool.eq_false_iff.mpr c30
                      subst c30
                      have H1 : (some false) = some r := by rw [if_neg (show ¬ (false = true) by decide)] at H; exact H
                      clear H
                      have H := H1
                      clear H1
                      obtain rfl := Option.some.inj H
                      go_wp2
                      go_ret
                      exact ⟨by first | rfl | (simp [errW_none, errW_some] <;> rfl) | (simp [*, errW_none, errW_some] <;> rfl), by repeat (first | (with_reducible first | exact HB.out | apply below_alloc | apply pw_below_drewN | apply below_drew1) | exact HB.out)⟩
                  · rw [if_neg c29] at H
                    have c29b0 : (t226 == t222) = false := beq_eq_false_iff_ne.mpr c29
                    have c29b1 : (t226 != t222) = true := bne_iff_ne.mpr c29
                    obtain rfl := Option.some.inj H
                    go_wp2
                    go_ret
                    exact ⟨by first | rfl | (simp [errW_none, errW_some] <;> rfl) | (simp [*, errW_none, errW_some] <;> rfl), by repeat (first | (with_reducible first | exact HB.out | apply below_alloc | apply pw_below_drewN | apply below_drew1) | exact HB.out)⟩
                · rw [if_neg c28] at H
                  have c28b0 : (t225 == t221) = false := beq_eq_false_iff_ne.mpr c28
                  have c28b1 : (t225 != t221) = true := bne_iff_ne.mpr c28
                  obtain rfl := Option.some.inj H
                  go_wp2
                  go_ret
                  exact ⟨by first | rfl | (simp [errW_none, errW_some] <;> rfl) | (simp [*, errW_none, errW_some] <;> rfl), by repeat (first | (with_reducible first | exact HB.out | apply below_alloc | apply pw_below_drewN | apply below_drew1) | exact HB.out)⟩
              · replace c27 := Bool.eq_false_iff.mpr c27
                subst c27
                have H1 : (if t213 = true then (if t218 = 0 then (if a3 ≥ 1 then (some ((t224 == 0) == (decide (a3 ≤ 1000)))) else (some ((t224 == 0) == false))) else (some ((t224 == 0) == false))) else (some false)) = some r := by rw [if_neg (show ¬ (false = true) by decide)] at H; exact H
                clear H
                have H := H1
                clear H1
                by_cases c34 : t213 = true
                · subst c34
                  have H1 : (if t218 = 0 then (if a3 ≥ 1 then (some ((t224 == 0) == (decide (a3 ≤ 1000)))) else (some ((t224 == 0) == false))) else (some ((t224 == 0) == false))) = some r := by rw [if_pos rfl] at H; exact H
                  clear H
                  have H := H1
                  clear H1
                  by_cases c35 : t218 = 0
                  · rw [if_pos c35] at H
                    have c35b0 : (t218 == 0) = true := beq_iff_eq.mpr c35
                    have c35b1 : (t218 != 0) = false := bne_eq_false_iff_eq.mpr c35
                    clear c35
                    by_cases c36 : a3 ≥ 1
                    · rw [if_pos c36] at H
                      have c36b0 : decide (1 ≤ a3) = true := decide_eq_true c36
                      clear c36
                      obtain rfl := Option.some.inj H
                      go_wp2
                      go_ret
                      exact ⟨by first | rfl | (simp [errW_none, errW_some] <;> rfl) | (simp [*, errW_none, errW_some] <;> rfl), by repeat (first | (with_reducible first | exact HB.out | apply below_alloc | apply pw_below_drewN | apply below_drew1) | exact HB.out)⟩
                    · rw [if_neg c36] at H
                      have c36b0 : decide (1 ≤ a3) = false := decide_eq_false c36
                      clear c36
                      obtain rfl := Option.some.inj H
                      go_wp2
                      go_ret
                      exact ⟨by first | rfl | (simp [errW_none, errW_some] <;> rfl) | (simp [*, errW_none, errW_some] <;> rfl), by repeat (first | (with_reducible first | exact HB.out | apply below_alloc | apply pw_below_drewN | apply below_drew1) | exact HB.out)⟩
                  · rw [if_neg c35] at H
                    have c35b0 : (t218 == 0) = false := beq_eq_false_iff_ne.mpr c35
                    have c35b1 : (t218 != 0) = true := bne_iff_ne.mpr c35
                    obtain rfl := Option.some.inj H
                    go_wp2
                    go_ret
                    exact ⟨by first | rfl | (simp [errW_none, errW_some] <;> rfl) | (simp [*, errW_none, errW_some] <;> rfl), by repeat (first | (with_reducible first | exact HB.out | apply below_alloc | apply pw_below_drewN | apply below_drew1) | exact HB.out)⟩
                · replace c34 := Bool.eq_false_iff.mpr c34
                  subst c34
                  have H1 : (some false) = some r := by rw [if_neg (show ¬ (false = true) by decide)] at H; exact H
                  clear H
                  have H := H1
                  clear H1
                  obtain rfl := Option.some.inj H
                  go_wp2
                  go_ret
                  exact ⟨by first | rfl | (simp [errW_none, errW_some] <;> rfl) | (simp [*, errW_none, errW_some] <;> rfl), by repeat (first | (with_reducible first | exact HB.out | apply below_alloc | apply pw_below_drewN | apply below_drew1) | exact HB.out)⟩
            · rw [if_neg c26] at H
              have c26b0 : decide (a3 ≤ a4) = false := decide_eq_false c26
              clear c26
              by_cases c37 : t213 = true
              · subst c37
                have H1 : (if t218 = 0 then (if a3 ≥ 1 then (some ((t224 == 0) == (decide (a3 ≤ 1000)))) else (some ((t224 == 0) == false))) else (some ((t224 == 0) == false))) = some r := by rw [if_pos rfl] at H; exact H
                clear H
                have H := H1
                clear H1
                by_cases c38 : t218 = 0
                · rw [if_pos c38] at H
                  have c38b0 : (t218 == 0) = true := beq_iff_eq.mpr c38
                  have c38b1 : (t218 != 0) = false := bne_eq_false_iff_eq.mpr c38
                  clear c38
                  by_cases c39 : a3 ≥ 1
                  · rw [if_pos c39] at H
                    have c39b0 : decide (1 ≤ a3) = true := decide_eq_true c39
                    clear c39
                    obtain rfl := Option.some.inj H
                    go_wp2
                    go_ret
                    exact ⟨by first | rfl | (simp [errW_none, errW_some] <;> rfl) | (simp [*, errW_none, errW_some] <;> rfl), by repeat (first | (with_reducible first | exact HB.out | apply below_alloc | apply pw_below_drewN | apply below_drew1) | exact HB.out)⟩
                  · rw [if_neg c39] at H
                    have c39b0 : decide (1 ≤ a3) = false := decide_eq_false c39
                    clear c39
                    obtain rfl := Option.some.inj H
                    go_wp2
                    go_ret
                    exact ⟨by first | rfl | (simp [errW_none, errW_some] <;> rfl) | (simp [*, errW_none, errW_some] <;> rfl), by repeat (first | (with_reducible first | exact HB.out | apply below_alloc | apply pw_below_drewN | apply below_drew1) | exact HB.out)⟩
                · rw [if_neg c38] at H
                  have c38b0 : (t218 == 0) = false := beq_eq_false_iff_ne.mpr c38
                  have c38b1 : (t218 != 0) = true := bne_iff_ne.mpr c38
                  obtain rfl := Option.some.inj H
                  go_wp2
                  go_ret
                  exact ⟨by first | rfl | (simp [errW_none, errW_some] <;> rfl) | (simp [*, errW_none, errW_some] <;> rfl), by repeat (first | (with_reducible first | exact HB.out | apply below_alloc | apply pw_below_drewN | apply below_drew1) | exact HB.out)⟩
              · replace c37 := Bool.eq_false_iff.mpr c37
                subst c37
                have H1 : (some false) = some r := by rw [if_neg (show ¬ (false = true) by decide)] at H; exact H
                clear H
                have H := H1
                clear H1
                obtain rfl := Option.some.inj H
                go_wp2
                go_ret
                exact ⟨by first | rfl | (simp [errW_none, errW_some] <;> rfl) | (simp [*, errW_none, errW_some] <;> rfl), by repeat (first | (with_reducible first | exact HB.out | apply below_alloc | apply pw_below_drewN | apply below_drew1) | exact HB.out)⟩
          · rw [if_neg c25] at H
            have c25b0 : (t228 == 0) = false := beq_eq_false_iff_ne.mpr c25
            have c25b1 : (t228 != 0) = true := bne_iff_ne.mpr c25
            by_cases c40 : t213 = true
            · subst c40
              have H1 : (if t218 = 0 then (if a3 ≥ 1 then (some ((t224 == 0) == (decide (a3 ≤ 1000)))) else (some ((t224 == 0) == false))) else (some ((t224 == 0) == false))) = some r := by rw [if_pos rfl] at H; exact H
              clear H
              have H := H1
              clear H1
              by_cases c41 : t218 = 0
              · rw [if_pos c41] at H
                have c41b0 : (t218 == 0) = true := beq_iff_eq.mpr c41
                have c41b1 : (t218 != 0) = false := bne_eq_false_iff_eq.mpr c41
                clear c41
                by_cases c42 : a3 ≥ 1
                · rw [if_pos c42] at H
                  have c42b0 : decide (1 ≤ a3) = true := decide_eq_true c42
                  clear c42
                  obtain rfl := Option.some.inj H
                  go_wp2
                  go_ret
                  exact ⟨by first | rfl | (simp [errW_none, errW_some] <;> rfl) | (simp [*, errW_none, errW_some] <;> rfl), by repeat (first | (with_reducible first | exact HB.out | apply below_alloc | apply pw_below_drewN | apply below_drew1) | exact HB.out)⟩
                · rw [if_neg c42] at H
                  have c42b0 : decide (1 ≤ a3) = false := decide_eq_false c42
                  clear c42
                  obtain rfl := Option.some.inj H
                  go_wp2
                  go_ret
                  exact ⟨by first | rfl | (simp [errW_none, errW_some] <;> rfl) | (simp [*, errW_none, errW_some] <;> rfl), by repeat (first | (with_reducible first | exact HB.out | apply below_alloc | apply pw_below_drewN | apply below_drew1) | exact HB.out)⟩
              · rw [if_neg c41] at H
                have c41b0 : (t218 == 0) = false := beq_eq_false_iff_ne.mpr c41
                have c41b1 : (t218 != 0) = true := bne_iff_ne.mpr c41
                obtain rfl := Option.some.inj H
                go_wp2
                go_ret
                exact ⟨by first | rfl | (simp [errW_none, errW_some] <;> rfl) | (simp [*, errW_none, errW_some] <;> rfl), by repeat (first | (with_reducible first | exact HB.out | apply below_alloc | apply pw_below_drewN | apply below_drew1) | exact HB.out)⟩
            · replace c40 := Bool.eq_false_iff.mpr c40
              subst c40
              have H1 : (some false) = some r := by rw [if_neg (show ¬ (false = true) by decide)] at H; exact H
              clear H
              have H := H1
              clear H1
              obtain rfl := Option.some.inj H
              go_wp2
              go_ret
              exact ⟨by first | rfl | (simp [errW_none, errW_some] <;> rfl) | (simp [*, errW_none, errW_some] <;> rfl), by repeat (first | (with_reducible first | exact HB.out | apply below_alloc | apply pw_below_drewN | apply below_drew1) | exact HB.out)⟩
        · rw [if_neg c24] at H
          have c24b0 : (t224 == 0) = false := beq_eq_false_iff_ne.mpr c24
          have c24b1 : (t224 != 0) = true := bne_iff_ne.mpr c24
          by_cases c43 : t213 = true
          · subst c43
            have H1 : (if t218 = 0 then (if a3 ≥ 1 then (some ((t224 == 0) == (decide (a3 ≤ 1000)))) else (some ((t224 == 0) == false))) else (some ((t224 == 0) == false))) = some r := by rw [if_pos rfl] at H; exact H
            clear H
            have H := H1
            clear H1
            by_cases c44 : t218 = 0
            · rw [if_pos c44] at H
              have c44b0 : (t218 == 0) = true := beq_iff_eq.mpr c44
              have c44b1 : (t218 != 0) = false := bne_eq_false_iff_eq.mpr c44
              clear c44
              by_cases c45 : a3 ≥ 1
              · rw [if_pos c45] at H
                have c45b0 : decide (1 ≤ a3) = true := decide_eq_true c45
                clear c45
                obtain rfl := Option.some.inj H
                go_wp2
                go_ret
                exact ⟨by first | rfl | (simp [errW_none, errW_some] <;> rfl) | (simp [*, errW_none, errW_some] <;> rfl), by repeat (first | (with_reducible first | exact HB.out | apply below_alloc | apply pw_below_drewN | apply below_drew1) | exact HB.out)⟩
              · rw [if_neg c45] at H
                have c45b0 : decide (1 ≤ a3) = false := decide_eq_false c45
                clear c45
                obtain rfl := Option.some.inj H
                go_wp2
                go_ret
                exact ⟨by first | rfl | (simp [errW_none, errW_some] <;> rfl) | (simp [*, errW_none, errW_some] <;> rfl), by repeat (first | (with_reducible first | exact HB.out | apply below_alloc | apply pw_below_drewN | apply below_drew1) | exact HB.out)⟩
            · rw [if_neg c44] at H
              have c44b0 : (t218 == 0) = false := beq_eq_false_iff_ne.mpr c44
              have c44b1 : (t218 != 0) = true := bne_iff_ne.mpr c44
              obtain rfl := Option.some.inj H
              go_wp2
              go_ret
              exact ⟨by first | rfl | (simp [errW_none, errW_some] <;> rfl) | (simp [*, errW_none, errW_some] <;> rfl), by repeat (first | (with_reducible first | exact HB.out | apply below_alloc | apply pw_below_drewN | apply below_drew1) | exact HB.out)⟩
          · replace c43 := Bool.eq_false_iff.mpr c43
            subst c43
            have H1 : (some false) = some r := by rw [if_neg (show ¬ (false = true) by decide)] at H; exact H
            clear H
            have H := H1
            clear H1
            obtain rfl := Option.some.inj H
            go_wp2
            go_ret
            exact ⟨by first | rfl | (simp [errW_none, errW_some] <;> rfl) | (simp [*, errW_none, errW_some] <;> rfl), by repeat (first | (with_reducible first | exact HB.out | apply below_alloc | apply pw_below_drewN | apply below_drew1) | exact HB.out)⟩

end Go.Proofs.YtjpifknencfipaaDoor.P
