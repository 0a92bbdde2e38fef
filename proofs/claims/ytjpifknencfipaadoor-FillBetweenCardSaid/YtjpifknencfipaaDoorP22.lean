-- by a program (wip/tools: a turned copy of the kit's print): not trusted: Lean checks it
import Derived.Test.YtjpifknencfipaaDoorP
import Derived.Test.YtjpifknencfipaaDoorE55
import Derived.Test.YtjpifknencfipaaDoorE56
import Derived.Test.YtjpifknencfipaaDoorE59
import Derived.Test.YtjpifknencfipaaDoorP54
import Derived.Test.YtjpifknencfipaaDoorP67
namespace Go.Proofs.YtjpifknencfipaaDoor.P
open Go.RowKit Go.Proofs.YtjpifknencfipaaDoorW.PrintWords Go.Proofs.YtjpifknencfipaaDoorW.PrintLast Go.Proofs.YtjpifknencfipaaDoorW.PrintMore
attribute [local go_sem] max2_int min2_int max_two min_two max_three min_three max_four min_four   -- for this text's walks alone
set_option linter.unusedVariables false
set_option linter.unusedSimpArgs false

/-! ### gutterlaw14_FillBetween: function 22 -/
def gutterlaw14_FillBetween.j0 : Nat → Int → Int → Bool → List (S73) → List (S73) → Int → Bool → Bool → Option (Bool)
  | 0, _, _, _, _, _, _, _, _ => none
  | k + 1, x1, x2, x7, x8, x10, x12, x13, x51 => if x51 = true then (some x7) else (if x13 = true then (if x2 ≥ x12 then (if x7 = true then (some (decide (x12 > x1))) else (some false)) else (if x7 = true then ((fill_Same.f k x8 x10).bind fun t733 => (some t733)) else (some false))) else (if x7 = true then ((fill_Same.f k x8 x10).bind fun t734 => (some t734)) else (some false)))
def gutterlaw14_FillBetween.f (k : Nat) (l0 : List (S32)) (a1 : Int) (a2 : Int) : Option (Bool) := (gutterlaw14_shown.f k).bind fun t718 => ((gutterlaw13_Few.f l0).bind fun t719 => ((fill_Fill.f t719 a1).bind fun bt722 => ((fill_Fill.f t719 a2).bind fun bt726 => ((fill_Short.f t719 a1).bind fun bt730 => (if bt722.2 = 0 then (if bt726.2 = 0 then (if bt730.2.2 = 0 then (gutterlaw14_FillBetween.j0 k a1 a2 t718 bt722.1 bt726.1 bt730.1 bt730.2.1 (decide (a2 < a1))) else (gutterlaw14_FillBetween.j0 k a1 a2 t718 bt722.1 bt726.1 bt730.1 bt730.2.1 true)) else (gutterlaw14_FillBetween.j0 k a1 a2 t718 bt722.1 bt726.1 bt730.1 bt730.2.1 true)) else (gutterlaw14_FillBetween.j0 k a1 a2 t718 bt722.1 bt726.1 bt730.1 bt730.2.1 true))))))
theorem gutterlaw14_FillBetween.mono_l : ∀ k, (∀ y0 y1 y2 y3 y4 y5 y6 y7, LeO (gutterlaw14_FillBetween.j0 k y0 y1 y2 y3 y4 y5 y6 y7) (gutterlaw14_FillBetween.j0 (k + 1) y0 y1 y2 y3 y4 y5 y6 y7))
  | 0 => fun _ _ _ _ _ _ _ _ r h => by simp [gutterlaw14_FillBetween.j0] at h
  | k + 1 => by
    have ih0 := gutterlaw14_FillBetween.mono_l k
    · intro y0 y1 y2 y3 y4 y5 y6 y7
      unfold gutterlaw14_FillBetween.j0
      repeat' first
      | (with_reducible exact ih0 _ _ _ _ _ _ _ _)
      | (with_reducible exact fill_Same.mono _ _ _)
      | (with_reducible exact gutterlaw14_shown.mono _)
      | (with_reducible exact LeO.refl _)
      | (with_reducible exact LeO.none _)
      | (with_reducible refine LeO.ite ?_ ?_)
      | (with_reducible refine LeO.bind ?_ (fun _ => ?_))
      | exact ih0 _ _ _ _ _ _ _ _
      | exact fill_Same.mono _ _ _
      | exact gutterlaw14_shown.mono _
      | exact LeO.none _
      | refine LeO.ite ?_ ?_
      | refine LeO.bind ?_ (fun _ => ?_)
theorem gutterlaw14_FillBetween.mono : ∀ a0 a1 a2 k, LeO (gutterlaw14_FillBetween.f k a0 a1 a2) (gutterlaw14_FillBetween.f (k + 1) a0 a1 a2) := by
  intro a0 a1 a2 k
  have ih0 := gutterlaw14_FillBetween.mono_l k
  unfold gutterlaw14_FillBetween.f
  repeat' first
      | (with_reducible exact ih0 _ _ _ _ _ _ _ _)
      | (with_reducible exact fill_Same.mono _ _ _)
      | (with_reducible exact gutterlaw14_shown.mono _)
      | (with_reducible exact LeO.refl _)
      | (with_reducible exact LeO.none _)
      | (with_reducible refine LeO.ite ?_ ?_)
      | (with_reducible refine LeO.bind ?_ (fun _ => ?_))
      | exact ih0 _ _ _ _ _ _ _ _
      | exact fill_Same.mono _ _ _
      | exact gutterlaw14_shown.mono _
      | exact LeO.none _
      | refine LeO.ite ?_ ?_
      | refine LeO.bind ?_ (fun _ => ?_)
set_option maxHeartbeats 8000000 in
set_option maxRecDepth 100000 in
theorem gutterlaw14_FillBetween.calls (k : Nat) (A0 : Option Addr) (c0 : Nat) (l0 : List (S32)) (a1 : Int) (a2 : Int) (r : Bool) (w : World) (hr0 : Kd.C k32 w A0 l0.length l0) (hc0 : l0.length ≤ c0) (hG : Gl 1 w) (h : gutterlaw14_FillBetween.f k l0 a1 a2 = some r) :
    Calls Tryd.prog 22 #[.slice A0 l0.length c0, .int .i64 a1, .int .i64 a2] w fun e w' => e = .returned (.bool r) ∧ Below w.heap.size w w' := by
  have HR0 := Aside0.mk hr0
  have HC0 := Aside0.mk hc0
  clear hr0 hc0
  have HG := Aside0.mk hG
  clear hG
  have HB := Aside0.mk (Below.refl w.heap.size w)
  have H : ((gutterlaw14_shown.f k).bind fun t718 => ((gutterlaw13_Few.f l0).bind fun t719 => ((fill_Fill.f t719 a1).bind fun bt722 => ((fill_Fill.f t719 a2).bind fun bt726 => ((fill_Short.f t719 a1).bind fun bt730 => (if bt722.2 = 0 then (if bt726.2 = 0 then (if bt730.2.2 = 0 then (gutterlaw14_FillBetween.j0 k a1 a2 t718 bt722.1 bt726.1 bt730.1 bt730.2.1 (decide (a2 < a1))) else (gutterlaw14_FillBetween.j0 k a1 a2 t718 bt722.1 bt726.1 bt730.1 bt730.2.1 true)) else (gutterlaw14_FillBetween.j0 k a1 a2 t718 bt722.1 bt726.1 bt730.1 bt730.2.1 true)) else (gutterlaw14_FillBetween.j0 k a1 a2 t718 bt722.1 bt726.1 bt730.1 bt730.2.1 true))))))) = some r := h
  clear h
  replace H := Option.bind_eq_some_iff.mp H
  obtain ⟨t718, A40, H⟩ := H
  replace H : ((gutterlaw13_Few.f l0).bind fun t719 => ((fill_Fill.f t719 a1).bind fun bt722 => ((fill_Fill.f t719 a2).bind fun bt726 => ((fill_Short.f t719 a1).bind fun bt730 => (if bt722.2 = 0 then (if bt726.2 = 0 then (if bt730.2.2 = 0 then (gutterlaw14_FillBetween.j0 k a1 a2 t718 bt722.1 bt726.1 bt730.1 bt730.2.1 (decide (a2 < a1))) else (gutterlaw14_FillBetween.j0 k a1 a2 t718 bt722.1 bt726.1 bt730.1 bt730.2.1 true)) else (gutterlaw14_FillBetween.j0 k a1 a2 t718 bt722.1 bt726.1 bt730.1 bt730.2.1 true)) else (gutterlaw14_FillBetween.j0 k a1 a2 t718 bt722.1 bt726.1 bt730.1 bt730.2.1 true)))))) = some r := H
  have A4 := Aside0.mk A40
  clear A40
  replace H := Option.bind_eq_some_iff.mp H
  obtain ⟨t719, A50, H⟩ := H
  replace H : ((fill_Fill.f t719 a1).bind fun bt722 => ((fill_Fill.f t719 a2).bind fun bt726 => ((fill_Short.f t719 a1).bind fun bt730 => (if bt722.2 = 0 then (if bt726.2 = 0 then (if bt730.2.2 = 0 then (gutterlaw14_FillBetween.j0 k a1 a2 t718 bt722.1 bt726.1 bt730.1 bt730.2.1 (decide (a2 < a1))) else (gutterlaw14_FillBetween.j0 k a1 a2 t718 bt722.1 bt726.1 bt730.1 bt730.2.1 true)) else (gutterlaw14_FillBetween.j0 k a1 a2 t718 bt722.1 bt726.1 bt730.1 bt730.2.1 true)) else (gutterlaw14_FillBetween.j0 k a1 a2 t718 bt722.1 bt726.1 bt730.1 bt730.2.1 true))))) = some r := H
  have A5 := Aside0.mk A50
  clear A50
  replace H := Option.bind_eq_some_iff.mp H
  obtain ⟨⟨t722, t723⟩, A60, H⟩ := H
  replace H : ((fill_Fill.f t719 a2).bind fun bt726 => ((fill_Short.f t719 a1).bind fun bt730 => (if t723 = 0 then (if bt726.2 = 0 then (if bt730.2.2 = 0 then (gutterlaw14_FillBetween.j0 k a1 a2 t718 t722 bt726.1 bt730.1 bt730.2.1 (decide (a2 < a1))) else (gutterlaw14_FillBetween.j0 k a1 a2 t718 t722 bt726.1 bt730.1 bt730.2.1 true)) else (gutterlaw14_FillBetween.j0 k a1 a2 t718 t722 bt726.1 bt730.1 bt730.2.1 true)) else (gutterlaw14_FillBetween.j0 k a1 a2 t718 t722 bt726.1 bt730.1 bt730.2.1 true)))) = some r := H
  have A6 := Aside0.mk A60
  clear A60
  replace H := Option.bind_eq_some_iff.mp H
  obtain ⟨⟨t726, t727⟩, A70, H⟩ := H
  replace H : ((fill_Short.f t719 a1).bind fun bt730 => (if t723 = 0 then (if t727 = 0 then (if bt730.2.2 = 0 then (gutterlaw14_FillBetween.j0 k a1 a2 t718 t722 t726 bt730.1 bt730.2.1 (decide (a2 < a1))) else (gutterlaw14_FillBetween.j0 k a1 a2 t718 t722 t726 bt730.1 bt730.2.1 true)) else (gutterlaw14_FillBetween.j0 k a1 a2 t718 t722 t726 bt730.1 bt730.2.1 true)) else (gutterlaw14_FillBetween.j0 k a1 a2 t718 t722 t726 bt730.1 bt730.2.1 true))) = some r := H
  have A7 := Aside0.mk A70
  clear A70
  replace H := Option.bind_eq_some_iff.mp H
  obtain ⟨⟨t730, t731, t732⟩, A80, H⟩ := H
  replace H : (if t723 = 0 then (if t727 = 0 then (if t732 = 0 then (gutterlaw14_FillBetween.j0 k a1 a2 t718 t722 t726 t730 t731 (decide (a2 < a1))) else (gutterlaw14_FillBetween.j0 k a1 a2 t718 t722 t726 t730 t731 true)) else (gutterlaw14_FillBetween.j0 k a1 a2 t718 t722 t726 t730 t731 true)) else (gutterlaw14_FillBetween.j0 k a1 a2 t718 t722 t726 t730 t731 true)) = some r := H
  have A8 := Aside0.mk A80
  clear A80
  have HC9 := Aside0.mk H
  clear H
  go_enter Tryd.func22, Tryd.ntmps22
  go_upto_region 6 with (first | ((with_reducible refine gate_callee (f := 54) rfl ?_); refine goesL_ (some 15) rfl rfl Tryd.func54 (by kernel_rfl) rfl #[] rfl (by (try simp only [List.map_toArray, List.map_cons, List.map_nil]); first | done | rfl | (simp only [List.length_drop, List.length_take]; rfl)) ?_; (with_reducible refine (gutterlaw14_shown.calls k  t718 _ ?side1 A4.out).mono ?_); (case side1 => exact (Gl.of_below HG.out (by repeat (first | (with_reducible first | exact HB.out | apply below_alloc | apply pw_below_drewN | apply below_drew1) | exact HB.out))).le (by decide)); rintro e w10 ⟨rfl, hb⟩; refine ⟨_, rfl, ?_⟩; have n0_ := Aside0.mk (below_step (by repeat (first | (with_reducible first | exact HB.out | apply below_alloc | apply pw_below_drewN | apply below_drew1) | exact HB.out)) hb); clear HB; have HB := n0_; clear n0_; (try clear hb); (try clear hb2); (try clear hk); (try clear hi)) | ((with_reducible refine gate_callee (f := 55) rfl ?_); refine goesL_ (some 17) rfl rfl Tryd.func55 (by kernel_rfl) rfl #[.slice A0 l0.length c0] rfl (by (try simp only [List.map_toArray, List.map_cons, List.map_nil]); first | done | rfl | (simp only [List.length_drop, List.length_take]; rfl)) ?_; (with_reducible refine (gutterlaw13_Few.calls _ _ l0 t719 _ ?side1 ?side2 A5.out).mono ?_); (case side1 => repeat (first | exact (Kd.C_below HR0.out HB.out) | (with_reducible refine Kd.C_alloc ?_ _) | (with_reducible refine Kd.C_drewN ?_ _) | (with_reducible refine Kd.C_drew ?_))); (case side2 => exact HC0.out); rintro e w11 ⟨v720, rfl, ho0, hb⟩; refine ⟨_, rfl, ?_⟩; have n0_ := Aside0.mk (Kd.R_lower ho0 (below_size (by repeat (first | (with_reducible first | exact HB.out | apply below_alloc | apply pw_below_drewN | apply below_drew1) | exact HB.out)))); have n1_ := Aside0.mk (below_step (by repeat (first | (with_reducible first | exact HB.out | apply below_alloc | apply pw_below_drewN | apply below_drew1) | exact HB.out)) hb); clear HB; have HO721 := n0_; have HB := n1_; clear n0_ n1_; (try clear hb); (try clear hb2); (try clear hk); (try clear hi); (try clear ho0); obtain ⟨Ao12, co12, eo12⟩ := Kd.R_slice HO721.out; subst eo12) | ((with_reducible refine gate_callee (f := 56) rfl ?_); refine goesL_ (some 21) rfl rfl Tryd.func56 (by kernel_rfl) rfl #[.slice Ao12 t719.length co12, .int .i64 a1] rfl (by (try simp only [List.map_toArray, List.map_cons, List.map_nil]); first | done | rfl | (simp only [List.length_drop, List.length_take]; rfl)) ?_; (with_reducible refine (fill_Fill.calls _ _ t719 a1 t722 t723 _ ?side1 ?side2 ?side3 A6.out).mono ?_); (case side1 => repeat (first | exact (Kd.R_reads' HO721.out).2.2 | (with_reducible refine Kd.C_alloc ?_ _) | (with_reducible refine Kd.C_drewN ?_ _) | (with_reducible refine Kd.C_drew ?_))); (case side2 => exact (Kd.R_reads' HO721.out).2.1); (case side3 => exact (Gl.of_below HG.out (by repeat (first | (with_reducible first | exact HB.out | apply below_alloc | apply pw_below_drewN | apply below_drew1) | exact HB.out))).le (by decide)); rintro e w13 ⟨v724, rfl, ho0, hb⟩; refine ⟨_, rfl, ?_⟩; have n0_ := Aside0.mk (Kd.R_below (by (with_reducible repeat (first | apply Kd.R_alloc | apply Kd.R_drewN | apply Kd.R_drew)); exact HO721.out) hb); have n1_ := Aside0.mk (Kd.R_lower ho0 (below_size (by repeat (first | (with_reducible first | exact HB.out | apply below_alloc | apply pw_below_drewN | apply below_drew1) | exact HB.out)))); have n2_ := Aside0.mk (below_step (by repeat (first | (with_reducible first | exact HB.out | apply below_alloc | apply pw_below_drewN | apply below_drew1) | exact HB.out)) hb); clear HO721; clear HB; have HO721 := n0_; have HO725 := n1_; have HB := n2_; clear n0_ n1_ n2_; (try clear hb); (try clear hb2); (try clear hk); (try clear hi); (try clear ho0)) | ((with_reducible refine gate_callee (f := 56) rfl ?_); refine goesL_ (some 27) rfl rfl Tryd.func56 (by kernel_rfl) rfl #[.slice Ao12 t719.length co12, .int .i64 a2] rfl (by (try simp only [List.map_toArray, List.map_cons, List.map_nil]); first | done | rfl | (simp only [List.length_drop, List.length_take]; rfl)) ?_; (with_reducible refine (fill_Fill.calls _ _ t719 a2 t726 t727 _ ?side1 ?side2 ?side3 A7.out).mono ?_); (case side1 => repeat (first | exact (Kd.R_reads' HO721.out).2.2 | (with_reducible refine Kd.C_alloc ?_ _) | (with_reducible refine Kd.C_drewN ?_ _) | (with_reducible refine Kd.C_drew ?_))); (case side2 => exact (Kd.R_reads' HO721.out).2.1); (case side3 => exact (Gl.of_below HG.out (by repeat (first | (with_reducible first | exact HB.out | apply below_alloc | apply pw_below_drewN | apply below_drew1) | exact HB.out))).le (by decide)); rintro e w14 ⟨v728, rfl, ho0, hb⟩; refine ⟨_, rfl, ?_⟩; have n0_ := Aside0.mk (Kd.R_below (by (with_reducible repeat (first | apply Kd.R_alloc | apply Kd.R_drewN | apply Kd.R_drew)); exact HO721.out) hb); have n1_ := Aside0.mk (Kd.R_elder' (by (with_reducible repeat (first | apply Kd.R_alloc | apply Kd.R_drewN | apply Kd.R_drew)); exact HO725.out) (Kd.R_base ho0) hb); have n2_ := Aside0.mk (Kd.R_lower (Kd.R_new' ho0 (Kd.R_lt (by (with_reducible repeat (first | apply Kd.R_alloc | apply Kd.R_drewN | apply Kd.R_drew)); exact HO725.out))) (below_size (by repeat (first | (with_reducible first | exact HB.out | apply below_alloc | apply pw_below_drewN | apply below_drew1) | exact HB.out)))); have n3_ := Aside0.mk (below_step (by repeat (first | (with_reducible first | exact HB.out | apply below_alloc | apply pw_below_drewN | apply below_drew1) | exact HB.out)) hb); clear HO721; clear HO725; clear HB; have HO721 := n0_; have HO725 := n1_; have HO729 := n2_; have HB := n3_; clear n0_ n1_ n2_ n3_; (try clear hb); (try clear hb2); (try clear hk); (try clear hi); (try clear ho0)) | ((with_reducible refine gate_callee (f := 59) rfl ?_); refine goesL_ (some 33) rfl rfl Tryd.func59 (by kernel_rfl) rfl #[.slice Ao12 t719.length co12, .int .i64 a1] rfl (by (try simp only [List.map_toArray, List.map_cons, List.map_nil]); first | done | rfl | (simp only [List.length_drop, List.length_take]; rfl)) ?_; (with_reducible refine (fill_Short.calls _ _ t719 a1 t730 t731 t732 _ ?side1 ?side2 ?side3 A8.out).mono ?_); (case side1 => repeat (first | exact (Kd.R_reads' HO721.out).2.2 | (with_reducible refine Kd.C_alloc ?_ _) | (with_reducible refine Kd.C_drewN ?_ _) | (with_reducible refine Kd.C_drew ?_))); (case side2 => exact (Kd.R_reads' HO721.out).2.1); (case side3 => exact (Gl.of_below HG.out (by repeat (first | (with_reducible first | exact HB.out | apply below_alloc | apply pw_below_drewN | apply below_drew1) | exact HB.out))).le (by decide)); rintro e w15 ⟨rfl, hb⟩; refine ⟨_, rfl, ?_⟩; have n0_ := Aside0.mk (Kd.R_below (by (with_reducible repeat (first | apply Kd.R_alloc | apply Kd.R_drewN | apply Kd.R_drew)); exact HO721.out) hb); have n1_ := Aside0.mk (Kd.R_below (by (with_reducible repeat (first | apply Kd.R_alloc | apply Kd.R_drewN | apply Kd.R_drew)); exact HO725.out) hb); have n2_ := Aside0.mk (Kd.R_below (by (with_reducible repeat (first | apply Kd.R_alloc | apply Kd.R_drewN | apply Kd.R_drew)); exact HO729.out) hb); have n3_ := Aside0.mk (below_step (by repeat (first | (with_reducible first | exact HB.out | apply below_alloc | apply pw_below_drewN | apply below_drew1) | exact HB.out)) hb); clear HO721; clear HO725; clear HO729; clear HB; have HO721 := n0_; have HO725 := n1_; have HO729 := n2_; have HB := n3_; clear n0_ n1_ n2_ n3_; (try clear hb); (try clear hb2); (try clear hk); (try clear hi)))
  (try simp only [Act.put, List.setIfInBounds_toArray, List.set_cons_zero, List.set_cons_succ])
  go_cut [51] (fun v51 wc => ∃ (kq : Nat) (x51_8 : Bool), v51 = .bool x51_8 ∧ Aside0 (gutterlaw14_FillBetween.j0 kq a1 a2 t718 t722 t726 t730 t731 x51_8 = some r) ∧ Aside0 (kq ≤ k) ∧ Aside0 (Kd.R k73 73 wc w.heap.size (fun k_ => some k_ ≠ (v728 : Value).ownBlock) v724 t722) ∧ Aside0 (Kd.R k73 73 wc w.heap.size (fun k_ => some k_ ≠ (v724 : Value).ownBlock) v728 t726) ∧ Aside0 (Below w.heap.size w wc))
  case first =>
    have H := HC9.out
    clear HC9
    by_cases c16 : t723 = 0
    · rw [if_pos c16] at H
      have c16b0 : (t723 == 0) = true := beq_iff_eq.mpr c16
      have c16b1 : (t723 != 0) = false := bne_eq_false_iff_eq.mpr c16
      clear c16
      (first | rw [c16b0] | (simp only [i64_w, i32_w]; rw [c16b0]) | skip)
      by_cases c17 : t727 = 0
      · rw [if_pos c17] at H
        have c17b0 : (t727 == 0) = true := beq_iff_eq.mpr c17
        have c17b1 : (t727 != 0) = false := bne_eq_false_iff_eq.mpr c17
        clear c17
        by_cases c18 : t732 = 0
        · rw [if_pos c18] at H
          have c18b0 : (t732 == 0) = true := beq_iff_eq.mpr c18
          have c18b1 : (t732 != 0) = false := bne_eq_false_iff_eq.mpr c18
          clear c18
          have H' := Aside0.mk H
          clear H
          go_wp2
          go_meet
          case rel => exact ⟨_, (decide (a2 < a1)), (by first | rfl | (simp; done) | (simp [*]; done)), H', ⟨by first | omega | exact Nat.le_refl _⟩, ⟨by (with_reducible repeat (first | apply Kd.R_alloc | apply Kd.R_drewN | apply Kd.R_drew)); exact Kd.R_mono HO725.out (fun _ hk => hk.2)⟩, ⟨by (with_reducible repeat (first | apply Kd.R_alloc | apply Kd.R_drewN | apply Kd.R_drew)); exact Kd.R_mono HO729.out (fun _ hk => hk.2)⟩, ⟨by repeat (first | (with_reducible first | exact HB.out | apply below_alloc | apply pw_below_drewN | apply below_drew1) | exact HB.out)⟩⟩
        · rw [if_neg c18] at H
          have c18b0 : (t732 == 0) = false := beq_eq_false_iff_ne.mpr c18
          have c18b1 : (t732 != 0) = true := bne_iff_ne.mpr c18
          have H' := Aside0.mk H
          clear H
          go_wp2
          go_meet
          case rel => exact ⟨_, (true), (by first | rfl | (simp; done) | (simp [*]; done)), H', ⟨by first | omega | exact Nat.le_refl _⟩, ⟨by (with_reducible repeat (first | apply Kd.R_alloc | apply Kd.R_drewN | apply Kd.R_drew)); exact Kd.R_mono HO725.out (fun _ hk => hk.2)⟩, ⟨by (with_reducible repeat (first | apply Kd.R_alloc | apply Kd.R_drewN | apply Kd.R_drew)); exact Kd.R_mono HO729.out (fun _ hk => hk.2)⟩, ⟨by repeat (first | (with_reducible first | exact HB.out | apply below_alloc | apply pw_below_drewN | apply below_drew1) | exact HB.out)⟩⟩
      · rw [if_neg c17] at H
        have c17b0 : (t727 == 0) = false := beq_eq_false_iff_ne.mpr c17
        have c17b1 : (t727 != 0) = true := bne_iff_ne.mpr c17
        have H' := Aside0.mk H
        clear H
        go_wp2
        go_meet
        case rel => exact ⟨_, (true), (by first | rfl | (simp; done) | (simp [*]; done)), H', ⟨by first | omega | exact Nat.le_refl _⟩, ⟨by (with_reducible repeat (first | apply Kd.R_alloc | apply Kd.R_drewN | apply Kd.R_drew)); exact Kd.R_mono HO725.out (fun _ hk => hk.2)⟩, ⟨by (with_reducible repeat (first | apply Kd.R_alloc | apply Kd.R_drewN | apply Kd.R_drew)); exact Kd.R_mono HO729.out (fun _ hk => hk.2)⟩, ⟨by repeat (first | (with_reducible first | exact HB.out | apply below_alloc | apply pw_below_drewN | apply below_drew1) | exact HB.out)⟩⟩
    · rw [if_neg c16] at H
      have c16b0 : (t723 == 0) = false := beq_eq_false_iff_ne.mpr c16
      have c16b1 : (t723 != 0) = true := bne_iff_ne.mpr c16
      (first | rw [c16b0] | (simp only [i64_w, i32_w]; rw [c16b0]) | skip)
      have H' := Aside0.mk H
      clear H
      go_wp2
      go_meet
      case rel => exact ⟨_, (true), (by first | rfl | (simp; done) | (simp [*]; done)), H', ⟨by first | omega | exact Nat.le_refl _⟩, ⟨by (with_reducible repeat (first | apply Kd.R_alloc | apply Kd.R_drewN | apply Kd.R_drew)); exact Kd.R_mono HO725.out (fun _ hk => hk.2)⟩, ⟨by (with_reducible repeat (first | apply Kd.R_alloc | apply Kd.R_drewN | apply Kd.R_drew)); exact Kd.R_mono HO729.out (fun _ hk => hk.2)⟩, ⟨by repeat (first | (with_reducible first | exact HB.out | apply below_alloc | apply pw_below_drewN | apply below_drew1) | exact HB.out)⟩⟩
  case rest =>
    clear HC9
    try clear c1
    try clear c2
    try clear p2
    try clear c5
    try clear c16
    try clear c16b0
    try clear c16b1
    try clear c17
    try clear c17b0
    try clear c17b1
    try clear c18
    try clear c18b0
    try clear c18b1
    obtain ⟨kq, x51_8, rfl, HA, HJ8, HO_8, HO_10, HB⟩ := hcut
    cases kq with
    | zero => exact absurd HA.out (by simp [gutterlaw14_FillBetween.j0])
    | succ kj8 =>
      have H := HA.out
      clear HA
      simp only [gutterlaw14_FillBetween.j0] at H
      by_cases c19 : x51_8 = true
      · subst c19
        have H1 : (some t718) = some r := by rw [if_pos rfl] at H; exact H
        clear H
        have H := H1
        clear H1
        obtain rfl := Option.some.inj H
        go_wp2
        go_ret
        exact ⟨by first | rfl | (simp [errW_none, errW_some] <;> rfl) | (simp [*, errW_none, errW_some] <;> rfl), by repeat (first | (with_reducible first | exact HB.out | apply below_alloc | apply pw_below_drewN | apply below_drew1) | exact HB.out)⟩
      · replace c19 := Bool.eq_false_iff.mpr c19
        subst c19
        have H1 : (if t731 = true then (if a2 ≥ t730 then (if t718 = true then (some (decide (t730 > a1))) else (some false)) else (if t718 = true then ((fill_Same.f kj8 t722 t726).bind fun t733 => (some t733)) else (some false))) else (if t718 = true then ((fill_Same.f kj8 t722 t726).bind fun t734 => (some t734)) else (some false))) = some r := by rw [if_neg (show ¬ (false = true) by decide)] at H; exact H
        clear H
        have H := H1
        clear H1
        by_cases c20 : t731 = true
        · subst c20
          have H1 : (if a2 ≥ t730 then (if t718 = true then (some (decide (t730 > a1))) else (some false)) else (if t718 = true then ((fill_Same.f kj8 t722 t726).bind fun t733 => (some t733)) else (some false))) = some r := by rw [if_pos rfl] at H; exact H
          clear H
          have H := H1
          clear H1
          by_cases c21 : a2 ≥ t730
          · rw [if_pos c21] at H
            have c21b0 : decide (t730 ≤ a2) = true := decide_eq_true c21
            clear c21
            by_cases c22 : t718 = true
            · subst c22
              have H1 : (some (decide (t730 > a1))) = some r := by rw [if_pos rfl] at H; exact H
              clear H
              have H := H1
              clear H1
              obtain rfl := Option.some.inj H
              go_wp2
              go_ret
              exact ⟨by first | rfl | (simp [errW_none, errW_some] <;> rfl) | (simp [*, errW_none, errW_some] <;> rfl), by repeat (first | (with_reducible first | exact HB.out | apply below_alloc | apply pw_below_drewN | apply below_drew1) | exact HB.out)⟩
            · replace c22 := Bool.eq_false_iff.mpr c22
              subst c22
              have H1 : (some false) = some r := by rw [if_neg (show ¬ (false = true) by decide)] at H; exact H
              clear H
              have H := H1
              clear H1
              obtain rfl := Option.some.inj H
              go_wp2
              go_ret
              exact ⟨by first | rfl | (simp [errW_none, errW_some] <;> rfl) | (simp [*, errW_none, errW_some] <;> rfl), by repeat (first | (with_reducible first | exact HB.out | apply below_alloc | apply pw_below_drewN | apply below_drew1) | exact HB.out)⟩
          · rw [if_neg c21] at H
            have c21b0 : decide (t730 ≤ a2) = false := decide_eq_false c21
            clear c21
            by_cases c23 : t718 = true
            · subst c23
              have H1 : ((fill_Same.f kj8 t722 t726).bind fun t733 => (some t733)) = some r := by rw [if_pos rfl] at H; exact H
              clear H
              have H := H1
              clear H1
              replace H := Option.bind_eq_some_iff.mp H
              obtain ⟨t733, A240, H⟩ := H
              replace H : (some t733) = some r := H
              have A24 := Aside0.mk A240
              clear A240
              obtain rfl := Option.some.inj H
              obtain ⟨Ao25, co25, eo25⟩ := Kd.R_slice HO_8.out
              subst eo25
              obtain ⟨Ao26, co26, eo26⟩ := Kd.R_slice HO_10.out
              subst eo26
              go_wp2_with (first | (go_at_call 67; (with_reducible refine (fill_Same.calls kj8 _ _ t722 _ _ t726 t733 _ ?side1 ?side2 ?side3 ?side4 A24.out).mono ?_); (case side1 => repeat (first | exact (Kd.R_reads' HO_8.out).2.2 | (with_reducible refine Kd.C_alloc ?_ _) | (with_reducible refine Kd.C_drewN ?_ _) | (with_reducible refine Kd.C_drew ?_))); (case side2 => exact (Kd.R_reads' HO_8.out).2.1); (case side3 => repeat (first | exact (Kd.R_reads' HO_10.out).2.2 | (with_reducible refine Kd.C_alloc ?_ _) | (with_reducible refine Kd.C_drewN ?_ _) | (with_reducible refine Kd.C_drew ?_))); (case side4 => exact (Kd.R_reads' HO_10.out).2.1); rintro e w' ⟨rfl, ⟨nd, rfl⟩⟩))
              go_ret
              exact ⟨by first | rfl | (simp [errW_none, errW_some] <;> rfl) | (simp [*, errW_none, errW_some] <;> rfl), by repeat (first | (with_reducible first | exact HB.out | apply below_alloc | apply pw_below_drewN | apply below_drew1) | exact HB.out)⟩
            · replace c23 := Bool.eq_false_iff.mpr c23
              subst c23
              have H1 : (some false) = some r := by rw [if_neg (show ¬ (false = true) by decide)] at H; exact H
              clear H
              have H := H1
              clear H1
              obtain rfl := Option.some.inj H
              go_wp2
              go_ret
              exact ⟨by first | rfl | (simp [errW_none, errW_some] <;> rfl) | (simp [*, errW_none, errW_some] <;> rfl), by repeat (first | (with_reducible first | exact HB.out | apply below_alloc | apply pw_below_drewN | apply below_drew1) | exact HB.out)⟩
        · replace c20 := Bool.eq_false_iff.mpr c20
          subst c20
          have H1 : (if t718 = true then ((fill_Same.f kj8 t722 t726).bind fun t734 => (some t734)) else (some false)) = some r := by rw [if_neg (show ¬ (false = true) by decide)] at H; exact H
          clear H
          have H := H1
          clear H1
          by_cases c27 : t718 = true
          · subst c27
            have H1 : ((fill_Same.f kj8 t722 t726).bind fun t734 => (some t734)) = some r := by rw [if_pos rfl] at H; exact H
            clear H
            have H := H1
            clear H1
            replace H := Option.bind_eq_some_iff.mp H
            obtain ⟨t734, A280, H⟩ := H
            replace H : (some t734) = some r := H
            have A28 := Aside0.mk A280
            clear A280
            obtain rfl := Option.some.inj H
            obtain ⟨Ao29, co29, eo29⟩ := Kd.R_slice HO_8.out
            subst eo29
            obtain ⟨Ao30, co30, eo30⟩ := Kd.R_slice HO_10.out
            subst eo30
            go_wp2_with (first | (go_at_call 67; (with_reducible refine (fill_Same.calls kj8 _ _ t722 _ _ t726 t734 _ ?side1 ?side2 ?side3 ?side4 A28.out).mono ?_); (case side1 => repeat (first | exact (Kd.R_reads' HO_8.out).2.2 | (with_reducible refine Kd.C_alloc ?_ _) | (with_reducible refine Kd.C_drewN ?_ _) | (with_reducible refine Kd.C_drew ?_))); (case side2 => exact (Kd.R_reads' HO_8.out).2.1); (case side3 => repeat (first | exact (Kd.R_reads' HO_10.out).2.2 | (with_reducible refine Kd.C_alloc ?_ _) | (with_reducible refine Kd.C_drewN ?_ _) | (with_reducible refine Kd.C_drew ?_))); (case side4 => exact (Kd.R_reads' HO_10.out).2.1); rintro e w' ⟨rfl, ⟨nd, rfl⟩⟩))
            go_ret
            exact ⟨by first | rfl | (simp [errW_none, errW_some] <;> rfl) | (simp [*, errW_none, errW_some] <;> rfl), by repeat (first | (with_reducible first | exact HB.out | apply below_alloc | apply pw_below_drewN | apply below_drew1) | exact HB.out)⟩
          · replace c27 := Bool.eq_false_iff.mpr c27
            subst c27
            have H1 : (some false) = some r := by rw [if_neg (show ¬ (false = true) by decide)] at H; exact H
            clear H
            have H := H1
            clear H1
            obtain rfl := Option.some.inj H
            go_wp2
            go_ret
            exact ⟨by first | rfl | (simp [errW_none, errW_some] <;> rfl) | (simp [*, errW_none, errW_some] <;> rfl), by repeat (first | (with_reducible first | exact HB.out | apply below_alloc | apply pw_below_drewN | apply below_drew1) | exact HB.out)⟩

end Go.Proofs.YtjpifknencfipaaDoor.P
