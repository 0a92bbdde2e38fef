-- by a program (wip/tools: a turned copy of the kit's print): not trusted: Lean checks it
import Derived.Test.YtjpifknencfipaaDoorP
import Derived.Test.YtjpifknencfipaaDoorE55
import Derived.Test.YtjpifknencfipaaDoorE56
import Derived.Test.YtjpifknencfipaaDoorP54
namespace Go.Proofs.YtjpifknencfipaaDoor.P
open Go.RowKit Go.Proofs.YtjpifknencfipaaDoorW.PrintWords Go.Proofs.YtjpifknencfipaaDoorW.PrintLast Go.Proofs.YtjpifknencfipaaDoorW.PrintMore
attribute [local go_sem] max2_int min2_int max_two min_two max_three min_three max_four min_four   -- for this text's walks alone
set_option linter.unusedVariables false
set_option linter.unusedSimpArgs false

/-! ### gutterlaw14_FillEnds: function 17 -/
mutual
def gutterlaw14_FillEnds.l0 : Nat → List (S32) → Bool → List (S73) → Int → Option (Bool)
  | 0, _, _, _, _ => none
  | k + 1, x0, x5, x6, x8 => if (wrap64 (x8 + 1)) < (x6.length : Int) then (if 0 ≤ x8 then (if x8 < (x6.length : Int) then (if ((rd_T73 x6 x8).f1) ≤ ((rd_T73 x6 x8).f0) then (gutterlaw14_FillEnds.j1 k x0 x5 x6 x8 true) else (gutterlaw14_FillEnds.j1 k x0 x5 x6 x8 (decide (((rd_T73 x6 x8).f1) ≥ (x0.length : Int))))) else (none)) else (none)) else (some x5)
def gutterlaw14_FillEnds.j1 : Nat → List (S32) → Bool → List (S73) → Int → Bool → Option (Bool)
  | 0, _, _, _, _, _ => none
  | k + 1, x0, x5, x6, x8, x49 => if x49 = true then (some false) else (if 0 ≤ x8 then (if x8 < (x6.length : Int) then (if 0 ≤ ((rd_T73 x6 x8).f1) then (if ((rd_T73 x6 x8).f1) < (x0.length : Int) then (if ((rd_T32 x0 ((rd_T73 x6 x8).f1)).f4) = 1 then (gutterlaw14_FillEnds.l1 k x0 x5 x6 x8 (wrap64 (((rd_T73 x6 x8).f0) + 1))) else (gutterlaw14_FillEnds.l0 k x0 x5 x6 (wrap64 (x8 + 1)))) else (none)) else (none)) else (none)) else (none))
def gutterlaw14_FillEnds.l1 : Nat → List (S32) → Bool → List (S73) → Int → Int → Option (Bool)
  | 0, _, _, _, _, _ => none
  | k + 1, x0, x5, x6, x8, x9 => if 0 ≤ x8 then (if x8 < (x6.length : Int) then (if x9 < ((rd_T73 x6 x8).f1) then (if 0 ≤ x9 then (if x9 < (x0.length : Int) then (if ((rd_T32 x0 x9).f4) = 0 then (some false) else (gutterlaw14_FillEnds.l1 k x0 x5 x6 x8 (wrap64 (x9 + 1)))) else (none)) else (none)) else (gutterlaw14_FillEnds.l0 k x0 x5 x6 (wrap64 (x8 + 1)))) else (none)) else (none)
end
def gutterlaw14_FillEnds.f (k : Nat) (l0 : List (S32)) (a1 : Int) : Option (Bool) := (gutterlaw14_shown.f k).bind fun t613 => ((gutterlaw13_Few.f l0).bind fun t614 => ((fill_Fill.f t614 a1).bind fun bt617 => (if bt617.2 = 0 then (gutterlaw14_FillEnds.l0 k t614 t613 bt617.1 0) else (some t613))))
theorem gutterlaw14_FillEnds.mono_l : ∀ k, (∀ y0 y1 y2 y3, LeO (gutterlaw14_FillEnds.l0 k y0 y1 y2 y3) (gutterlaw14_FillEnds.l0 (k + 1) y0 y1 y2 y3)) ∧ (∀ y0 y1 y2 y3 y4, LeO (gutterlaw14_FillEnds.j1 k y0 y1 y2 y3 y4) (gutterlaw14_FillEnds.j1 (k + 1) y0 y1 y2 y3 y4)) ∧ (∀ y0 y1 y2 y3 y4, LeO (gutterlaw14_FillEnds.l1 k y0 y1 y2 y3 y4) (gutterlaw14_FillEnds.l1 (k + 1) y0 y1 y2 y3 y4))
  | 0 => ⟨fun _ _ _ _ r h => by simp [gutterlaw14_FillEnds.l0] at h, fun _ _ _ _ _ r h => by simp [gutterlaw14_FillEnds.j1] at h, fun _ _ _ _ _ r h => by simp [gutterlaw14_FillEnds.l1] at h⟩
  | k + 1 => by
    obtain ⟨ih0, ih1, ih2⟩ := gutterlaw14_FillEnds.mono_l k
    refine ⟨?_, ?_, ?_⟩
    · intro y0 y1 y2 y3
      unfold gutterlaw14_FillEnds.l0
      repeat' first
      | (with_reducible exact ih0 _ _ _ _)
      | (with_reducible exact ih1 _ _ _ _ _)
      | (with_reducible exact ih2 _ _ _ _ _)
      | (with_reducible exact gutterlaw14_shown.mono _)
      | (with_reducible exact LeO.refl _)
      | (with_reducible exact LeO.none _)
      | (with_reducible refine LeO.ite ?_ ?_)
      | (with_reducible refine LeO.bind ?_ (fun _ => ?_))
      | exact ih0 _ _ _ _
      | exact ih1 _ _ _ _ _
      | exact ih2 _ _ _ _ _
      | exact gutterlaw14_shown.mono _
      | exact LeO.none _
      | refine LeO.ite ?_ ?_
      | refine LeO.bind ?_ (fun _ => ?_)
    · intro y0 y1 y2 y3 y4
      unfold gutterlaw14_FillEnds.j1
      repeat' first
      | (with_reducible exact ih0 _ _ _ _)
      | (with_reducible exact ih1 _ _ _ _ _)
      | (with_reducible exact ih2 _ _ _ _ _)
      | (with_reducible exact gutterlaw14_shown.mono _)
      | (with_reducible exact LeO.refl _)
      | (with_reducible exact LeO.none _)
      | (with_reducible refine LeO.ite ?_ ?_)
      | (with_reducible refine LeO.bind ?_ (fun _ => ?_))
      | exact ih0 _ _ _ _
      | exact ih1 _ _ _ _ _
      | exact ih2 _ _ _ _ _
      | exact gutterlaw14_shown.mono _
      | exact LeO.none _
      | refine LeO.ite ?_ ?_
      | refine LeO.bind ?_ (fun _ => ?_)
    · intro y0 y1 y2 y3 y4
      unfold gutterlaw14_FillEnds.l1
      repeat' first
      | (with_reducible exact ih0 _ _ _ _)
      | (with_reducible exact ih1 _ _ _ _ _)
      | (with_reducible exact ih2 _ _ _ _ _)
      | (with_reducible exact gutterlaw14_shown.mono _)
      | (with_reducible exact LeO.refl _)
      | (with_reducible exact LeO.none _)
      | (with_reducible refine LeO.ite ?_ ?_)
      | (with_reducible refine LeO.bind ?_ (fun _ => ?_))
      | exact ih0 _ _ _ _
      | exact ih1 _ _ _ _ _
      | exact ih2 _ _ _ _ _
      | exact gutterlaw14_shown.mono _
      | exact LeO.none _
      | refine LeO.ite ?_ ?_
      | refine LeO.bind ?_ (fun _ => ?_)
theorem gutterlaw14_FillEnds.mono : ∀ a0 a1 k, LeO (gutterlaw14_FillEnds.f k a0 a1) (gutterlaw14_FillEnds.f (k + 1) a0 a1) := by
  intro a0 a1 k
  obtain ⟨ih0, ih1, ih2⟩ := gutterlaw14_FillEnds.mono_l k
  unfold gutterlaw14_FillEnds.f
  repeat' first
      | (with_reducible exact ih0 _ _ _ _)
      | (with_reducible exact ih1 _ _ _ _ _)
      | (with_reducible exact ih2 _ _ _ _ _)
      | (with_reducible exact gutterlaw14_shown.mono _)
      | (with_reducible exact LeO.refl _)
      | (with_reducible exact LeO.none _)
      | (with_reducible refine LeO.ite ?_ ?_)
      | (with_reducible refine LeO.bind ?_ (fun _ => ?_))
      | exact ih0 _ _ _ _
      | exact ih1 _ _ _ _ _
      | exact ih2 _ _ _ _ _
      | exact gutterlaw14_shown.mono _
      | exact LeO.none _
      | refine LeO.ite ?_ ?_
      | refine LeO.bind ?_ (fun _ => ?_)
set_option maxHeartbeats 8000000 in
set_option maxRecDepth 100000 in
theorem gutterlaw14_FillEnds.calls (k : Nat) (A0 : Option Addr) (c0 : Nat) (l0 : List (S32)) (a1 : Int) (r : Bool) (w : World) (hr0 : Kd.C k32 w A0 l0.length l0) (hc0 : l0.length ≤ c0) (hG : Gl 1 w) (h : gutterlaw14_FillEnds.f k l0 a1 = some r) :
    Calls Tryd.prog 17 #[.slice A0 l0.length c0, .int .i64 a1] w fun e w' => e = .returned (.bool r) ∧ Below w.heap.size w w' := by
  have HR0 := Aside0.mk hr0
  have HC0 := Aside0.mk hc0
  clear hr0 hc0
  have HG := Aside0.mk hG
  clear hG
  have HB := Aside0.mk (Below.refl w.heap.size w)
  have H : ((gutterlaw14_shown.f k).bind fun t613 => ((gutterlaw13_Few.f l0).bind fun t614 => ((fill_Fill.f t614 a1).bind fun bt617 => (if bt617.2 = 0 then (gutterlaw14_FillEnds.l0 k t614 t613 bt617.1 0) else (some t613))))) = some r := h
  clear h
  replace H := Option.bind_eq_some_iff.mp H
  obtain ⟨t613, A30, H⟩ := H
  replace H : ((gutterlaw13_Few.f l0).bind fun t614 => ((fill_Fill.f t614 a1).bind fun bt617 => (if bt617.2 = 0 then (gutterlaw14_FillEnds.l0 k t614 t613 bt617.1 0) else (some t613)))) = some r := H
  have A3 := Aside0.mk A30
  clear A30
  replace H := Option.bind_eq_some_iff.mp H
  obtain ⟨t614, A40, H⟩ := H
  replace H : ((fill_Fill.f t614 a1).bind fun bt617 => (if bt617.2 = 0 then (gutterlaw14_FillEnds.l0 k t614 t613 bt617.1 0) else (some t613))) = some r := H
  have A4 := Aside0.mk A40
  clear A40
  replace H := Option.bind_eq_some_iff.mp H
  obtain ⟨⟨t617, t618⟩, A50, H⟩ := H
  replace H : (if t618 = 0 then (gutterlaw14_FillEnds.l0 k t614 t613 t617 0) else (some t613)) = some r := H
  have A5 := Aside0.mk A50
  clear A50
  by_cases c6 : t618 = 0
  · rw [if_pos c6] at H
    have c6b0 : (t618 == 0) = true := beq_iff_eq.mpr c6
    have c6b1 : (t618 != 0) = false := bne_eq_false_iff_eq.mpr c6
    clear c6
    have H' := Aside0.mk H
    clear H
    go_enter Tryd.func17, Tryd.ntmps17
    go_wp2_with (first | (go_at_call 54; (with_reducible refine (gutterlaw14_shown.calls k  t613 _ ?side1 A3.out).mono ?_); (case side1 => exact (Gl.of_below HG.out (by repeat (first | (with_reducible first | exact HB.out | apply below_alloc | apply pw_below_drewN | apply below_drew1) | exact HB.out))).le (by decide)); rintro e w7 ⟨rfl, hb⟩; have n0_ := Aside0.mk (below_step (by repeat (first | (with_reducible first | exact HB.out | apply below_alloc | apply pw_below_drewN | apply below_drew1) | exact HB.out)) hb); clear HB; have HB := n0_; clear n0_; (try clear hb); (try clear hb2); (try clear hk); (try clear hi)) | (go_at_call 55; (with_reducible refine (gutterlaw13_Few.calls _ _ l0 t614 _ ?side1 ?side2 A4.out).mono ?_); (case side1 => repeat (first | exact (Kd.C_below HR0.out HB.out) | (with_reducible refine Kd.C_alloc ?_ _) | (with_reducible refine Kd.C_drewN ?_ _) | (with_reducible refine Kd.C_drew ?_))); (case side2 => exact HC0.out); rintro e w8 ⟨v615, rfl, ho0, hb⟩; have n0_ := Aside0.mk (Kd.R_lower ho0 (below_size (by repeat (first | (with_reducible first | exact HB.out | apply below_alloc | apply pw_below_drewN | apply below_drew1) | exact HB.out)))); have n1_ := Aside0.mk (below_step (by repeat (first | (with_reducible first | exact HB.out | apply below_alloc | apply pw_below_drewN | apply below_drew1) | exact HB.out)) hb); clear HB; have HO616 := n0_; have HB := n1_; clear n0_ n1_; (try clear hb); (try clear hb2); (try clear hk); (try clear hi); (try clear ho0); obtain ⟨Ao9, co9, eo9⟩ := Kd.R_slice HO616.out; subst eo9) | (go_at_call 56; (with_reducible refine (fill_Fill.calls _ _ t614 a1 t617 t618 _ ?side1 ?side2 ?side3 A5.out).mono ?_); (case side1 => repeat (first | exact (Kd.R_reads' HO616.out).2.2 | (with_reducible refine Kd.C_alloc ?_ _) | (with_reducible refine Kd.C_drewN ?_ _) | (with_reducible refine Kd.C_drew ?_))); (case side2 => exact (Kd.R_reads' HO616.out).2.1); (case side3 => exact (Gl.of_below HG.out (by repeat (first | (with_reducible first | exact HB.out | apply below_alloc | apply pw_below_drewN | apply below_drew1) | exact HB.out))).le (by decide)); rintro e w10 ⟨v619, rfl, ho0, hb⟩; have n0_ := Aside0.mk (Kd.R_below (by (with_reducible repeat (first | apply Kd.R_alloc | apply Kd.R_drewN | apply Kd.R_drew)); exact HO616.out) hb); have n1_ := Aside0.mk (Kd.R_lower ho0 (below_size (by repeat (first | (with_reducible first | exact HB.out | apply below_alloc | apply pw_below_drewN | apply below_drew1) | exact HB.out)))); have n2_ := Aside0.mk (below_step (by repeat (first | (with_reducible first | exact HB.out | apply below_alloc | apply pw_below_drewN | apply below_drew1) | exact HB.out)) hb); clear HO616; clear HB; have HO616 := n0_; have HO620 := n1_; have HB := n2_; clear n0_ n1_ n2_; (try clear hb); (try clear hb2); (try clear hk); (try clear hi); (try clear ho0)))
    repeat (go_quiet (first | (go_at_call 54; (with_reducible refine (gutterlaw14_shown.calls k  t613 _ ?side1 A3.out).mono ?_); (case side1 => exact (Gl.of_below HG.out (by repeat (first | (with_reducible first | exact HB.out | apply below_alloc | apply pw_below_drewN | apply below_drew1) | exact HB.out))).le (by decide)); rintro e w7 ⟨rfl, hb⟩; have n0_ := Aside0.mk (below_step (by repeat (first | (with_reducible first | exact HB.out | apply below_alloc | apply pw_below_drewN | apply below_drew1) | exact HB.out)) hb); clear HB; have HB := n0_; clear n0_; (try clear hb); (try clear hb2); (try clear hk); (try clear hi)) | (go_at_call 55; (with_reducible refine (gutterlaw13_Few.calls _ _ l0 t614 _ ?side1 ?side2 A4.out).mono ?_); (case side1 => repeat (first | exact (Kd.C_below HR0.out HB.out) | (with_reducible refine Kd.C_alloc ?_ _) | (with_reducible refine Kd.C_drewN ?_ _) | (with_reducible refine Kd.C_drew ?_))); (case side2 => exact HC0.out); rintro e w8 ⟨v615, rfl, ho0, hb⟩; have n0_ := Aside0.mk (Kd.R_lower ho0 (below_size (by repeat (first | (with_reducible first | exact HB.out | apply below_alloc | apply pw_below_drewN | apply below_drew1) | exact HB.out)))); have n1_ := Aside0.mk (below_step (by repeat (first | (with_reducible first | exact HB.out | apply below_alloc | apply pw_below_drewN | apply below_drew1) | exact HB.out)) hb); clear HB; have HO616 := n0_; have HB := n1_; clear n0_ n1_; (try clear hb); (try clear hb2); (try clear hk); (try clear hi); (try clear ho0); obtain ⟨Ao9, co9, eo9⟩ := Kd.R_slice HO616.out; subst eo9) | (go_at_call 56; (with_reducible refine (fill_Fill.calls _ _ t614 a1 t617 t618 _ ?side1 ?side2 ?side3 A5.out).mono ?_); (case side1 => repeat (first | exact (Kd.R_reads' HO616.out).2.2 | (with_reducible refine Kd.C_alloc ?_ _) | (with_reducible refine Kd.C_drewN ?_ _) | (with_reducible refine Kd.C_drew ?_))); (case side2 => exact (Kd.R_reads' HO616.out).2.1); (case side3 => exact (Gl.of_below HG.out (by repeat (first | (with_reducible first | exact HB.out | apply below_alloc | apply pw_below_drewN | apply below_drew1) | exact HB.out))).le (by decide)); rintro e w10 ⟨v619, rfl, ho0, hb⟩; have n0_ := Aside0.mk (Kd.R_below (by (with_reducible repeat (first | apply Kd.R_alloc | apply Kd.R_drewN | apply Kd.R_drew)); exact HO616.out) hb); have n1_ := Aside0.mk (Kd.R_lower ho0 (below_size (by repeat (first | (with_reducible first | exact HB.out | apply below_alloc | apply pw_below_drewN | apply below_drew1) | exact HB.out)))); have n2_ := Aside0.mk (below_step (by repeat (first | (with_reducible first | exact HB.out | apply below_alloc | apply pw_below_drewN | apply below_drew1) | exact HB.out)) hb); clear HO616; clear HB; have HO616 := n0_; have HO620 := n1_; have HB := n2_; clear n0_ n1_ n2_; (try clear hb); (try clear hb2); (try clear hk); (try clear hi); (try clear ho0))); try go_wp2_with (first | (go_at_call 54; (with_reducible refine (gutterlaw14_shown.calls k  t613 _ ?side1 A3.out).mono ?_); (case side1 => exact (Gl.of_below HG.out (by repeat (first | (with_reducible first | exact HB.out | apply below_alloc | apply pw_below_drewN | apply below_drew1) | exact HB.out))).le (by decide)); rintro e w7 ⟨rfl, hb⟩; have n0_ := Aside0.mk (below_step (by repeat (first | (with_reducible first | exact HB.out | apply below_alloc | apply pw_below_drewN | apply below_drew1) | exact HB.out)) hb); clear HB; have HB := n0_; clear n0_; (try clear hb); (try clear hb2); (try clear hk); (try clear hi)) | (go_at_call 55; (with_reducible refine (gutterlaw13_Few.calls _ _ l0 t614 _ ?side1 ?side2 A4.out).mono ?_); (case side1 => repeat (first | exact (Kd.C_below HR0.out HB.out) | (with_reducible refine Kd.C_alloc ?_ _) | (with_reducible refine Kd.C_drewN ?_ _) | (with_reducible refine Kd.C_drew ?_))); (case side2 => exact HC0.out); rintro e w8 ⟨v615, rfl, ho0, hb⟩; have n0_ := Aside0.mk (Kd.R_lower ho0 (below_size (by repeat (first | (with_reducible first | exact HB.out | apply below_alloc | apply pw_below_drewN | apply below_drew1) | exact HB.out)))); have n1_ := Aside0.mk (below_step (by repeat (first | (with_reducible first | exact HB.out | apply below_alloc | apply pw_below_drewN | apply below_drew1) | exact HB.out)) hb); clear HB; have HO616 := n0_; have HB := n1_; clear n0_ n1_; (try clear hb); (try clear hb2); (try clear hk); (try clear hi); (try clear ho0); obtain ⟨Ao9, co9, eo9⟩ := Kd.R_slice HO616.out; subst eo9) | (go_at_call 56; (with_reducible refine (fill_Fill.calls _ _ t614 a1 t617 t618 _ ?side1 ?side2 ?side3 A5.out).mono ?_); (case side1 => repeat (first | exact (Kd.R_reads' HO616.out).2.2 | (with_reducible refine Kd.C_alloc ?_ _) | (with_reducible refine Kd.C_drewN ?_ _) | (with_reducible refine Kd.C_drew ?_))); (case side2 => exact (Kd.R_reads' HO616.out).2.1); (case side3 => exact (Gl.of_below HG.out (by repeat (first | (with_reducible first | exact HB.out | apply below_alloc | apply pw_below_drewN | apply below_drew1) | exact HB.out))).le (by decide)); rintro e w10 ⟨v619, rfl, ho0, hb⟩; have n0_ := Aside0.mk (Kd.R_below (by (with_reducible repeat (first | apply Kd.R_alloc | apply Kd.R_drewN | apply Kd.R_drew)); exact HO616.out) hb); have n1_ := Aside0.mk (Kd.R_lower ho0 (below_size (by repeat (first | (with_reducible first | exact HB.out | apply below_alloc | apply pw_below_drewN | apply below_drew1) | exact HB.out)))); have n2_ := Aside0.mk (below_step (by repeat (first | (with_reducible first | exact HB.out | apply below_alloc | apply pw_below_drewN | apply below_drew1) | exact HB.out)) hb); clear HO616; clear HB; have HO616 := n0_; have HO620 := n1_; have HB := n2_; clear n0_ n1_ n2_; (try clear hb); (try clear hb2); (try clear hk); (try clear hi); (try clear ho0))))
    go_loopg [8] k (fun kq v8 w' => ∃ (x8_1 : Int), v8 = .int .i64 x8_1 ∧ Aside0 (gutterlaw14_FillEnds.l0 kq t614 t613 t617 x8_1 = some r) ∧ Aside0 (kq ≤ k) ∧ Aside0 (Kd.R k32 32 w' w.heap.size (fun _ => True) (.slice Ao9 t614.length co9) t614) ∧ Aside0 (Kd.R k73 73 w' w.heap.size (fun _ => True) v619 t617) ∧ Aside0 (Below w.heap.size w w'))
    case atStart => exact ⟨(0), (by first | rfl | (simp; done) | (simp [*]; done)), H', ⟨Nat.le_refl _⟩, ⟨by (with_reducible repeat (first | apply Kd.R_alloc | apply Kd.R_drewN | apply Kd.R_drew)); exact HO616.out⟩, ⟨by (with_reducible repeat (first | apply Kd.R_alloc | apply Kd.R_drewN | apply Kd.R_drew)); exact HO620.out⟩, ⟨by repeat (first | (with_reducible first | exact HB.out | apply below_alloc | apply pw_below_drewN | apply below_drew1) | exact HB.out)⟩⟩
    case round =>
      clear H'
      try clear c1
      try clear p2
      try clear c6
      try clear c6b0
      try clear c6b1
      obtain ⟨x8_1, rfl, HA, HK1, HO_0, HO_6, HB⟩ := hrel
      cases gk with
      | zero => exact absurd HA.out (by simp [gutterlaw14_FillEnds.l0])
      | succ k1 =>
        have H := HA.out
        clear HA
        simp only [gutterlaw14_FillEnds.l0] at H
        by_cases c11 : (wrap64 (x8_1 + 1)) < (t617.length : Int)
        · rw [if_pos c11] at H
          have c11b0 : decide ((wrap64 (x8_1 + 1)) < (t617.length : Int)) = true := decide_eq_true c11
          clear c11
          have HC12 := Aside0.mk H
          clear H
          obtain ⟨Ao13, co13, eo13⟩ := Kd.R_slice HO_6.out
          subst eo13
          go_upto_region 9 with (fail)
          repeat (go_quiet (fail); go_upto_region 9 with (fail))
          go_cut [49] (fun v49 wc => ∃ (kq : Nat) (x49_11 : Bool), v49 = .bool x49_11 ∧ Aside0 (gutterlaw14_FillEnds.j1 kq t614 t613 t617 x8_1 x49_11 = some r) ∧ Aside0 (kq ≤ k1) ∧ Aside0 (Kd.R k32 32 wc w.heap.size (fun _ => True) (.slice Ao9 t614.length co9) t614) ∧ Aside0 (Kd.R k73 73 wc w.heap.size (fun _ => True) (.slice Ao13 t617.length co13) t617) ∧ Aside0 (Below w.heap.size w wc))
          case first =>
            have H := HC12.out
            clear HC12
            by_cases c14 : 0 ≤ x8_1
            · rw [if_pos c14] at H
              have c14b0 : decide (0 ≤ x8_1) = true := decide_eq_true c14
              clear c14
              (first | rw [c14b0] | (simp only [i64_w, i32_w]; rw [c14b0]) | skip)
              by_cases c15 : x8_1 < (t617.length : Int)
              · rw [if_pos c15] at H
                have c15b0 : decide (x8_1 < (t617.length : Int)) = true := decide_eq_true c15
                clear c15
                by_cases c16 : ((rd_T73 t617 x8_1).f1) ≤ ((rd_T73 t617 x8_1).f0)
                · rw [if_pos c16] at H
                  have c16b0 : decide (((rd_T73 t617 x8_1).f1) ≤ ((rd_T73 t617 x8_1).f0)) = true := decide_eq_true c16
                  clear c16
                  have H' := Aside0.mk H
                  clear H
                  have p621 : 0 ≤ (x8_1 : Int) := of_decide_eq_true (by first | (with_reducible assumption) | assumption)
                  have q621 : x8_1 < (t617.length : Int) := of_decide_eq_true (by first | (with_reducible assumption) | assumption)
                  obtain ⟨ad621, e621, hx621_0, hx621_1, hx621_2⟩ := at_T73 (Kd.R_reads' HO_6.out).2.2 x8_1 p621 q621
                  cases e621
                  replace p621 := eq_true p621
                  replace q621 := eq_true q621
                  have p622 : 0 ≤ (x8_1 : Int) := of_decide_eq_true (by first | (with_reducible assumption) | assumption)
                  have q622 : x8_1 < (t617.length : Int) := of_decide_eq_true (by first | (with_reducible assumption) | assumption)
                  obtain ⟨ad622, e622, hx622_0, hx622_1, hx622_2⟩ := at_T73 (Kd.R_reads' HO_6.out).2.2 x8_1 p622 q622
                  obtain rfl : ad621 = ad622 := (by injection e622)
                  replace p622 := eq_true p622
                  replace q622 := eq_true q622
                  go_wp2
                  repeat (go_quiet (fail); try go_wp2)
                  go_meet
                  case rel => exact ⟨_, (true), (by first | rfl | (simp; done) | (simp [*]; done)), H', ⟨by have := HK1.out; first | omega | exact Nat.le_refl _⟩, ⟨by (with_reducible repeat (first | apply Kd.R_alloc | apply Kd.R_drewN | apply Kd.R_drew)); exact HO_0.out⟩, ⟨by (with_reducible repeat (first | apply Kd.R_alloc | apply Kd.R_drewN | apply Kd.R_drew)); exact HO_6.out⟩, ⟨by repeat (first | (with_reducible first | exact HB.out | apply below_alloc | apply pw_below_drewN | apply below_drew1) | exact HB.out)⟩⟩
                · rw [if_neg c16] at H
                  have c16b0 : decide (((rd_T73 t617 x8_1).f1) ≤ ((rd_T73 t617 x8_1).f0)) = false := decide_eq_false c16
                  clear c16
                  have H' := Aside0.mk H
                  clear H
                  have p621 : 0 ≤ (x8_1 : Int) := of_decide_eq_true (by first | (with_reducible assumption) | assumption)
                  have q621 : x8_1 < (t617.length : Int) := of_decide_eq_true (by first | (with_reducible assumption) | assumption)
                  obtain ⟨ad621, e621, hx621_0, hx621_1, hx621_2⟩ := at_T73 (Kd.R_reads' HO_6.out).2.2 x8_1 p621 q621
                  cases e621
                  replace p621 := eq_true p621
                  replace q621 := eq_true q621
                  have p622 : 0 ≤ (x8_1 : Int) := of_decide_eq_true (by first | (with_reducible assumption) | assumption)
                  have q622 : x8_1 < (t617.length : Int) := of_decide_eq_true (by first | (with_reducible assumption) | assumption)
                  obtain ⟨ad622, e622, hx622_0, hx622_1, hx622_2⟩ := at_T73 (Kd.R_reads' HO_6.out).2.2 x8_1 p622 q622
                  obtain rfl : ad621 = ad622 := (by injection e622)
                  replace p622 := eq_true p622
                  replace q622 := eq_true q622
                  have p623 : 0 ≤ (x8_1 : Int) := of_decide_eq_true (by first | (with_reducible assumption) | assumption)
                  have q623 : x8_1 < (t617.length : Int) := of_decide_eq_true (by first | (with_reducible assumption) | assumption)
                  obtain ⟨ad623, e623, hx623_0, hx623_1, hx623_2⟩ := at_T73 (Kd.R_reads' HO_6.out).2.2 x8_1 p623 q623
                  obtain rfl : ad621 = ad623 := (by injection e623)
                  replace p623 := eq_true p623
                  replace q623 := eq_true q623
                  go_wp2
                  repeat (go_quiet (fail); try go_wp2)
                  go_meet
                  case rel => exact ⟨_, (decide (((rd_T73 t617 x8_1).f1) ≥ (t614.length : Int))), (by first | rfl | (simp; done) | (simp [*]; done)), H', ⟨by have := HK1.out; first | omega | exact Nat.le_refl _⟩, ⟨by (with_reducible repeat (first | apply Kd.R_alloc | apply Kd.R_drewN | apply Kd.R_drew)); exact HO_0.out⟩, ⟨by (with_reducible repeat (first | apply Kd.R_alloc | apply Kd.R_drewN | apply Kd.R_drew)); exact HO_6.out⟩, ⟨by repeat (first | (with_reducible first | exact HB.out | apply below_alloc | apply pw_below_drewN | apply below_drew1) | exact HB.out)⟩⟩
              · rw [if_neg c15] at H
                exact absurd H (by simp)
            · rw [if_neg c14] at H
              exact absurd H (by simp)
          case rest =>
            clear HC12
            try clear c1
            try clear p2
            try clear c6
            try clear c6b0
            try clear c6b1
            try clear p6
            try clear q6
            try clear hx6
            try clear c11
            try clear c11b0
            try clear c14
            try clear c14b0
            try clear c15
            try clear c15b0
            try clear c16
            try clear c16b0
            try clear hx621_0
            try clear hx621_1
            try clear hx621_2
            try clear hx622_0
            try clear hx622_1
            try clear hx622_2
            try clear hx623_0
            try clear hx623_1
            try clear hx623_2
            try clear p2
            try clear p621
            try clear p622
            try clear p623
            try clear q621
            try clear q622
            try clear q623
            obtain ⟨kq, x49_11, rfl, HA, HJ11, HO_0, HO_6, HB⟩ := hcut
            cases kq with
            | zero => exact absurd HA.out (by simp [gutterlaw14_FillEnds.j1])
            | succ kj11 =>
              have H := HA.out
              clear HA
              simp only [gutterlaw14_FillEnds.j1] at H
              by_cases c17 : x49_11 = true
              · subst c17
                have H1 : (some false) = some r := by rw [if_pos rfl] at H; exact H
                clear H
                have H := H1
                clear H1
                obtain rfl := Option.some.inj H
                go_wp2
                repeat (go_quiet (fail); try go_wp2)
                go_ret
                exact ⟨by first | rfl | (simp [errW_none, errW_some] <;> rfl) | (simp [*, errW_none, errW_some] <;> rfl), by repeat (first | (with_reducible first | exact HB.out | apply below_alloc | apply pw_below_drewN | apply below_drew1) | exact HB.out)⟩
              · replace c17 := Bool.eq_false_iff.mpr c17
                subst c17
                have H1 : (if 0 ≤ x8_1 then (if x8_1 < (t617.length : Int) then (if 0 ≤ ((rd_T73 t617 x8_1).f1) then (if ((rd_T73 t617 x8_1).f1) < (t614.length : Int) then (if ((rd_T32 t614 ((rd_T73 t617 x8_1).f1)).f4) = 1 then (gutterlaw14_FillEnds.l1 kj11 t614 t613 t617 x8_1 (wrap64 (((rd_T73 t617 x8_1).f0) + 1))) else (gutterlaw14_FillEnds.l0 kj11 t614 t613 t617 (wrap64 (x8_1 + 1)))) else (none)) else (none)) else (none)) else (none)) = some r := by rw [if_neg (show ¬ (false = true) by decide)] at H; exact H
                clear H
                have H := H1
                clear H1
                by_cases c18 : 0 ≤ x8_1
                · rw [if_pos c18] at H
                  have c18b0 : decide (0 ≤ x8_1) = true := decide_eq_true c18
                  clear c18
                  by_cases c19 : x8_1 < (t617.length : Int)
                  · rw [if_pos c19] at H
                    have c19b0 : decide (x8_1 < (t617.length : Int)) = true := decide_eq_true c19
                    clear c19
                    by_cases c20 : 0 ≤ ((rd_T73 t617 x8_1).f1)
                    · rw [if_pos c20] at H
                      have c20b0 : decide (0 ≤ ((rd_T73 t617 x8_1).f1)) = true := decide_eq_true c20
                      clear c20
                      by_cases c21 : ((rd_T73 t617 x8_1).f1) < (t614.length : Int)
                      · rw [if_pos c21] at H
                        have c21b0 : decide (((rd_T73 t617 x8_1).f1) < (t614.length : Int)) = true := decide_eq_true c21
                        clear c21
                        by_cases c22 : ((rd_T32 t614 ((rd_T73 t617 x8_1).f1)).f4) = 1
                        · rw [if_pos c22] at H
                          have c22b0 : (((rd_T32 t614 ((rd_T73 t617 x8_1).f1)).f4) == 1) = true := beq_iff_eq.mpr c22
                          have c22b1 : (((rd_T32 t614 ((rd_T73 t617 x8_1).f1)).f4) != 1) = false := bne_eq_false_iff_eq.mpr c22
                          clear c22
                          have H' := Aside0.mk H
                          clear H
                          have p624 : 0 ≤ (x8_1 : Int) := of_decide_eq_true (by first | (with_reducible assumption) | assumption)
                          have q624 : x8_1 < (t617.length : Int) := of_decide_eq_true (by first | (with_reducible assumption) | assumption)
                          obtain ⟨ad624, e624, hx624_0, hx624_1, hx624_2⟩ := at_T73 (Kd.R_reads' HO_6.out).2.2 x8_1 p624 q624
                          cases e624
                          replace p624 := eq_true p624
                          replace q624 := eq_true q624
                          have p625 : 0 ≤ (((rd_T73 t617 x8_1).f1) : Int) := of_decide_eq_true (by first | (with_reducible assumption) | assumption)
                          have q625 : ((rd_T73 t617 x8_1).f1) < (t614.length : Int) := of_decide_eq_true (by first | (with_reducible assumption) | assumption)
                          obtain ⟨ad625, e625, hx625_0, hx625_1, hx625_2, hx625_3, hx625_4⟩ := at_T32 (Kd.R_reads' HO_0.out).2.2 ((rd_T73 t617 x8_1).f1) p625 q625
                          cases e625
                          replace p625 := eq_true p625
                          replace q625 := eq_true q625
                          have p626 : 0 ≤ (x8_1 : Int) := of_decide_eq_true (by first | (with_reducible assumption) | assumption)
                          have q626 : x8_1 < (t617.length : Int) := of_decide_eq_true (by first | (with_reducible assumption) | assumption)
                          obtain ⟨ad626, e626, hx626_0, hx626_1, hx626_2⟩ := at_T73 (Kd.R_reads' HO_6.out).2.2 x8_1 p626 q626
                          obtain rfl : ad624 = ad626 := (by injection e626)
                          replace p626 := eq_true p626
                          replace q626 := eq_true q626
                          go_wp2
                          repeat (go_quiet (fail); try go_wp2)
                          go_loopg [9] kj11 (fun kq v9 w' => ∃ (x9_3 : Int), v9 = .int .i64 x9_3 ∧ Aside0 (gutterlaw14_FillEnds.l1 kq t614 t613 t617 x8_1 x9_3 = some r) ∧ Aside0 (kq ≤ kj11) ∧ Aside0 (Kd.R k32 32 w' w.heap.size (fun _ => True) (.slice (some ad625) t614.length co9) t614) ∧ Aside0 (Kd.R k73 73 w' w.heap.size (fun _ => True) (.slice (some ad624) t617.length co13) t617) ∧ Aside0 (Below w.heap.size w w'))
                          case atStart => exact ⟨(wrap64 (((rd_T73 t617 x8_1).f0) + 1)), (by first | rfl | (simp; done) | (simp [*]; done)), H', ⟨Nat.le_refl _⟩, ⟨by (with_reducible repeat (first | apply Kd.R_alloc | apply Kd.R_drewN | apply Kd.R_drew)); exact HO_0.out⟩, ⟨by (with_reducible repeat (first | apply Kd.R_alloc | apply Kd.R_drewN | apply Kd.R_drew)); exact HO_6.out⟩, ⟨by repeat (first | (with_reducible first | exact HB.out | apply below_alloc | apply pw_below_drewN | apply below_drew1) | exact HB.out)⟩⟩
                          case round =>
                            clear H'
                            try clear c1
                            try clear c2
                            try clear p2
                            try clear c6
                            try clear c6b0
                            try clear c6b1
                            try clear p6
                            try clear q6
                            try clear hx6
                            try clear c11
                            try clear c11b0
                            try clear c14
                            try clear c14b0
                            try clear c15
                            try clear c15b0
                            try clear c16
                            try clear c16b0
                            try clear c17
                            try clear c18
                            try clear c18b0
                            try clear c19
                            try clear c19b0
                            try clear c20
                            try clear c20b0
                            try clear c21
                            try clear c21b0
                            try clear c22
                            try clear c22b0
                            try clear c22b1
                            try clear hx621_0
                            try clear hx621_1
                            try clear hx621_2
                            try clear hx622_0
                            try clear hx622_1
                            try clear hx622_2
                            try clear hx623_0
                            try clear hx623_1
                            try clear hx623_2
                            try clear hx624_0
                            try clear hx624_1
                            try clear hx624_2
                            try clear hx625_0
                            try clear hx625_1
                            try clear hx625_2
                            try clear hx625_3
                            try clear hx625_4
                            try clear hx626_0
                            try clear hx626_1
                            try clear hx626_2
                            try clear p2
                            try clear p6
                            try clear p621
                            try clear p622
                            try clear p623
                            try clear p624
                            try clear p625
                            try clear p626
                            try clear q6
                            try clear q621
                            try clear q622
                            try clear q623
                            try clear q624
                            try clear q625
                            try clear q626
                            obtain ⟨x9_3, rfl, HA, HK3, HO_0, HO_6, HB⟩ := hrel
                            cases gk with
                            | zero => exact absurd HA.out (by simp [gutterlaw14_FillEnds.l1])
                            | succ k3 =>
                              have H := HA.out
                              clear HA
                              simp only [gutterlaw14_FillEnds.l1] at H
                              by_cases c23 : 0 ≤ x8_1
                              · rw [if_pos c23] at H
                                have c23b0 : decide (0 ≤ x8_1) = true := decide_eq_true c23
                                clear c23
                                by_cases c24 : x8_1 < (t617.length : Int)
                                · rw [if_pos c24] at H
                                  have c24b0 : decide (x8_1 < (t617.length : Int)) = true := decide_eq_true c24
                                  clear c24
                                  by_cases c25 : x9_3 < ((rd_T73 t617 x8_1).f1)
                                  · rw [if_pos c25] at H
                                    have c25b0 : decide (x9_3 < ((rd_T73 t617 x8_1).f1)) = true := decide_eq_true c25
                                    clear c25
                                    by_cases c26 : 0 ≤ x9_3
                                    · rw [if_pos c26] at H
                                      have c26b0 : decide (0 ≤ x9_3) = true := decide_eq_true c26
                                      clear c26
                                      by_cases c27 : x9_3 < (t614.length : Int)
                                      · rw [if_pos c27] at H
                                        have c27b0 : decide (x9_3 < (t614.length : Int)) = true := decide_eq_true c27
                                        clear c27
                                        by_cases c28 : ((rd_T32 t614 x9_3).f4) = 0
                                        · rw [if_pos c28] at H
                                          have c28b0 : (((rd_T32 t614 x9_3).f4) == 0) = true := beq_iff_eq.mpr c28
                                          have c28b1 : (((rd_T32 t614 x9_3).f4) != 0) = false := bne_eq_false_iff_eq.mpr c28
                                          clear c28
                                          obtain rfl := Option.some.inj H
                                          have p627 : 0 ≤ (x8_1 : Int) := of_decide_eq_true (by first | (with_reducible assumption) | assumption)
                                          have q627 : x8_1 < (t617.length : Int) := of_decide_eq_true (by first | (with_reducible assumption) | assumption)
                                          obtain ⟨ad627, e627, hx627_0, hx627_1, hx627_2⟩ := at_T73 (Kd.R_reads' HO_6.out).2.2 x8_1 p627 q627
                                          obtain rfl : ad624 = ad627 := (by injection e627)
                                          replace p627 := eq_true p627
                                          replace q627 := eq_true q627
                                          have p628 : 0 ≤ (x9_3 : Int) := of_decide_eq_true (by first | (with_reducible assumption) | assumption)
                                          have q628 : x9_3 < (t614.length : Int) := of_decide_eq_true (by first | (with_reducible assumption) | assumption)
                                          obtain ⟨ad628, e628, hx628_0, hx628_1, hx628_2, hx628_3, hx628_4⟩ := at_T32 (Kd.R_reads' HO_0.out).2.2 x9_3 p628 q628
                                          obtain rfl : ad625 = ad628 := (by injection e628)
                                          replace p628 := eq_true p628
                                          replace q628 := eq_true q628
                                          go_wp2
                                          repeat (go_quiet (fail); try go_wp2)
                                          go_ret
                                          exact ⟨by first | rfl | (simp [errW_none, errW_some] <;> rfl) | (simp [*, errW_none, errW_some] <;> rfl), by repeat (first | (with_reducible first | exact HB.out | apply below_alloc | apply pw_below_drewN | apply below_drew1) | exact HB.out)⟩
                                        · rw [if_neg c28] at H
                                          have c28b0 : (((rd_T32 t614 x9_3).f4) == 0) = false := beq_eq_false_iff_ne.mpr c28
                                          have c28b1 : (((rd_T32 t614 x9_3).f4) != 0) = true := bne_iff_ne.mpr c28
                                          have H' := Aside0.mk H
                                          clear H
                                          have p627 : 0 ≤ (x8_1 : Int) := of_decide_eq_true (by first | (with_reducible assumption) | assumption)
                                          have q627 : x8_1 < (t617.length : Int) := of_decide_eq_true (by first | (with_reducible assumption) | assumption)
                                          obtain ⟨ad627, e627, hx627_0, hx627_1, hx627_2⟩ := at_T73 (Kd.R_reads' HO_6.out).2.2 x8_1 p627 q627
                                          obtain rfl : ad624 = ad627 := (by injection e627)
                                          replace p627 := eq_true p627
                                          replace q627 := eq_true q627
                                          have p628 : 0 ≤ (x9_3 : Int) := of_decide_eq_true (by first | (with_reducible assumption) | assumption)
                                          have q628 : x9_3 < (t614.length : Int) := of_decide_eq_true (by first | (with_reducible assumption) | assumption)
                                          obtain ⟨ad628, e628, hx628_0, hx628_1, hx628_2, hx628_3, hx628_4⟩ := at_T32 (Kd.R_reads' HO_0.out).2.2 x9_3 p628 q628
                                          obtain rfl : ad625 = ad628 := (by injection e628)
                                          replace p628 := eq_true p628
                                          replace q628 := eq_true q628
                                          go_wp2
                                          repeat (go_quiet (fail); try go_wp2)
                                          go_roundg k3
                                          case measure => have := HK1.out; have := HJ11.out; have := HK3.out; omega
                                          case rel => exact ⟨(wrap64 (x9_3 + 1)), (by first | rfl | (simp; done) | (simp [*]; done)), H', ⟨by have := HK1.out; have := HJ11.out; have := HK3.out; omega⟩, ⟨by (with_reducible repeat (first | apply Kd.R_alloc | apply Kd.R_drewN | apply Kd.R_drew)); exact HO_0.out⟩, ⟨by (with_reducible repeat (first | apply Kd.R_alloc | apply Kd.R_drewN | apply Kd.R_drew)); exact HO_6.out⟩, ⟨by repeat (first | (with_reducible first | exact HB.out | apply below_alloc | apply pw_below_drewN | apply below_drew1) | exact HB.out)⟩⟩
                                      · rw [if_neg c27] at H
                                        exact absurd H (by simp)
                                    · rw [if_neg c26] at H
                                      exact absurd H (by simp)
                                  · rw [if_neg c25] at H
                                    have c25b0 : decide (x9_3 < ((rd_T73 t617 x8_1).f1)) = false := decide_eq_false c25
                                    clear c25
                                    have H' := Aside0.mk H
                                    clear H
                                    have p627 : 0 ≤ (x8_1 : Int) := of_decide_eq_true (by first | (with_reducible assumption) | assumption)
                                    have q627 : x8_1 < (t617.length : Int) := of_decide_eq_true (by first | (with_reducible assumption) | assumption)
                                    obtain ⟨ad627, e627, hx627_0, hx627_1, hx627_2⟩ := at_T73 (Kd.R_reads' HO_6.out).2.2 x8_1 p627 q627
                                    obtain rfl : ad624 = ad627 := (by injection e627)
                                    replace p627 := eq_true p627
                                    replace q627 := eq_true q627
                                    go_wp2
                                    repeat (go_quiet (fail); try go_wp2)
                                    go_roundg k3
                                    case measure => have := HK1.out; have := HJ11.out; have := HK3.out; omega
                                    case rel => exact ⟨(wrap64 (x8_1 + 1)), (by first | rfl | (simp; done) | (simp [*]; done)), H', ⟨by have := HK1.out; have := HJ11.out; have := HK3.out; omega⟩, ⟨by (with_reducible repeat (first | apply Kd.R_alloc | apply Kd.R_drewN | apply Kd.R_drew)); exact HO_0.out⟩, ⟨by (with_reducible repeat (first | apply Kd.R_alloc | apply Kd.R_drewN | apply Kd.R_drew)); exact HO_6.out⟩, ⟨by repeat (first | (with_reducible first | exact HB.out | apply below_alloc | apply pw_below_drewN | apply below_drew1) | exact HB.out)⟩⟩
                                · rw [if_neg c24] at H
                                  exact absurd H (by simp)
                              · rw [if_neg c23] at H
                                exact absurd H (by simp)
                        · rw [if_neg c22] at H
                          have c22b0 : (((rd_T32 t614 ((rd_T73 t617 x8_1).f1)).f4) == 1) = false := beq_eq_false_iff_ne.mpr c22
                          have c22b1 : (((rd_T32 t614 ((rd_T73 t617 x8_1).f1)).f4) != 1) = true := bne_iff_ne.mpr c22
                          have H' := Aside0.mk H
                          clear H
                          have p624 : 0 ≤ (x8_1 : Int) := of_decide_eq_true (by first | (with_reducible assumption) | assumption)
                          have q624 : x8_1 < (t617.length : Int) := of_decide_eq_true (by first | (with_reducible assumption) | assumption)
                          obtain ⟨ad624, e624, hx624_0, hx624_1, hx624_2⟩ := at_T73 (Kd.R_reads' HO_6.out).2.2 x8_1 p624 q624
                          cases e624
                          replace p624 := eq_true p624
                          replace q624 := eq_true q624
                          have p625 : 0 ≤ (((rd_T73 t617 x8_1).f1) : Int) := of_decide_eq_true (by first | (with_reducible assumption) | assumption)
                          have q625 : ((rd_T73 t617 x8_1).f1) < (t614.length : Int) := of_decide_eq_true (by first | (with_reducible assumption) | assumption)
                          obtain ⟨ad625, e625, hx625_0, hx625_1, hx625_2, hx625_3, hx625_4⟩ := at_T32 (Kd.R_reads' HO_0.out).2.2 ((rd_T73 t617 x8_1).f1) p625 q625
                          cases e625
                          replace p625 := eq_true p625
                          replace q625 := eq_true q625
                          go_wp2
                          repeat (go_quiet (fail); try go_wp2)
                          go_roundg kj11
                          case measure => have := HK1.out; have := HJ11.out; omega
                          case rel => exact ⟨(wrap64 (x8_1 + 1)), (by first | rfl | (simp; done) | (simp [*]; done)), H', ⟨by have := HK1.out; have := HJ11.out; omega⟩, ⟨by (with_reducible repeat (first | apply Kd.R_alloc | apply Kd.R_drewN | apply Kd.R_drew)); exact HO_0.out⟩, ⟨by (with_reducible repeat (first | apply Kd.R_alloc | apply Kd.R_drewN | apply Kd.R_drew)); exact HO_6.out⟩, ⟨by repeat (first | (with_reducible first | exact HB.out | apply below_alloc | apply pw_below_drewN | apply below_drew1) | exact HB.out)⟩⟩
                      · rw [if_neg c21] at H
                        exact absurd H (by simp)
                    · rw [if_neg c20] at H
                      exact absurd H (by simp)
                  · rw [if_neg c19] at H
                    exact absurd H (by simp)
                · rw [if_neg c18] at H
                  exact absurd H (by simp)
        · rw [if_neg c11] at H
          have c11b0 : decide ((wrap64 (x8_1 + 1)) < (t617.length : Int)) = false := decide_eq_false c11
          clear c11
          obtain rfl := Option.some.inj H
          obtain ⟨Ao29, co29, eo29⟩ := Kd.R_slice HO_6.out
          subst eo29
          go_wp2
          repeat (go_quiet (fail); try go_wp2)
          go_ret
          exact ⟨by first | rfl | (simp [errW_none, errW_some] <;> rfl) | (simp [*, errW_none, errW_some] <;> rfl), by repeat (first | (with_reducible first | exact HB.out | apply below_alloc | apply pw_below_drewN | apply below_drew1) | exact HB.out)⟩
  · rw [if_neg c6] at H
    have c6b0 : (t618 == 0) = false := beq_eq_false_iff_ne.mpr c6
    have c6b1 : (t618 != 0) = true := bne_iff_ne.mpr c6
    obtain rfl := Option.some.inj H
    go_enter Tryd.func17, Tryd.ntmps17
    go_wp2_with (first | (go_at_call 54; (with_reducible refine (gutterlaw14_shown.calls k  t613 _ ?side1 A3.out).mono ?_); (case side1 => exact (Gl.of_below HG.out (by repeat (first | (with_reducible first | exact HB.out | apply below_alloc | apply pw_below_drewN | apply below_drew1) | exact HB.out))).le (by decide)); rintro e w30 ⟨rfl, hb⟩; have n0_ := Aside0.mk (below_step (by repeat (first | (with_reducible first | exact HB.out | apply below_alloc | apply pw_below_drewN | apply below_drew1) | exact HB.out)) hb); clear HB; have HB := n0_; clear n0_; (try clear hb); (try clear hb2); (try clear hk); (try clear hi)) | (go_at_call 55; (with_reducible refine (gutterlaw13_Few.calls _ _ l0 t614 _ ?side1 ?side2 A4.out).mono ?_); (case side1 => repeat (first | exact (Kd.C_below HR0.out HB.out) | (with_reducible refine Kd.C_alloc ?_ _) | (with_reducible refine Kd.C_drewN ?_ _) | (with_reducible refine Kd.C_drew ?_))); (case side2 => exact HC0.out); rintro e w31 ⟨v615, rfl, ho0, hb⟩; have n0_ := Aside0.mk (Kd.R_lower ho0 (below_size (by repeat (first | (with_reducible first | exact HB.out | apply below_alloc | apply pw_below_drewN | apply below_drew1) | exact HB.out)))); have n1_ := Aside0.mk (below_step (by repeat (first | (with_reducible first | exact HB.out | apply below_alloc | apply pw_below_drewN | apply below_drew1) | exact HB.out)) hb); clear HB; have HO616 := n0_; have HB := n1_; clear n0_ n1_; (try clear hb); (try clear hb2); (try clear hk); (try clear hi); (try clear ho0); obtain ⟨Ao32, co32, eo32⟩ := Kd.R_slice HO616.out; subst eo32) | (go_at_call 56; (with_reducible refine (fill_Fill.calls _ _ t614 a1 t617 t618 _ ?side1 ?side2 ?side3 A5.out).mono ?_); (case side1 => repeat (first | exact (Kd.R_reads' HO616.out).2.2 | (with_reducible refine Kd.C_alloc ?_ _) | (with_reducible refine Kd.C_drewN ?_ _) | (with_reducible refine Kd.C_drew ?_))); (case side2 => exact (Kd.R_reads' HO616.out).2.1); (case side3 => exact (Gl.of_below HG.out (by repeat (first | (with_reducible first | exact HB.out | apply below_alloc | apply pw_below_drewN | apply below_drew1) | exact HB.out))).le (by decide)); rintro e w33 ⟨v619, rfl, ho0, hb⟩; have n0_ := Aside0.mk (Kd.R_below (by (with_reducible repeat (first | apply Kd.R_alloc | apply Kd.R_drewN | apply Kd.R_drew)); exact HO616.out) hb); have n1_ := Aside0.mk (Kd.R_lower ho0 (below_size (by repeat (first | (with_reducible first | exact HB.out | apply below_alloc | apply pw_below_drewN | apply below_drew1) | exact HB.out)))); have n2_ := Aside0.mk (below_step (by repeat (first | (with_reducible first | exact HB.out | apply below_alloc | apply pw_below_drewN | apply below_drew1) | exact HB.out)) hb); clear HO616; clear HB; have HO616 := n0_; have HO620 := n1_; have HB := n2_; clear n0_ n1_ n2_; (try clear hb); (try clear hb2); (try clear hk); (try clear hi); (try clear ho0)))
    repeat (go_quiet (first | (go_at_call 54; (with_reducible refine (gutterlaw14_shown.calls k  t613 _ ?side1 A3.out).mono ?_); (case side1 => exact (Gl.of_below HG.out (by repeat (first | (with_reducible first | exact HB.out | apply below_alloc | apply pw_below_drewN | apply below_drew1) | exact HB.out))).le (by decide)); rintro e w30 ⟨rfl, hb⟩; have n0_ := Aside0.mk (below_step (by repeat (first | (with_reducible first | exact HB.out | apply below_alloc | apply pw_below_drewN | apply below_drew1) | exact HB.out)) hb); clear HB; have HB := n0_; clear n0_; (try clear hb); (try clear hb2); (try clear hk); (try clear hi)) | (go_at_call 55; (with_reducible refine (gutterlaw13_Few.calls _ _ l0 t614 _ ?side1 ?side2 A4.out).mono ?_); (case side1 => repeat (first | exact (Kd.C_below HR0.out HB.out) | (with_reducible refine Kd.C_alloc ?_ _) | (with_reducible refine Kd.C_drewN ?_ _) | (with_reducible refine Kd.C_drew ?_))); (case side2 => exact HC0.out); rintro e w31 ⟨v615, rfl, ho0, hb⟩; have n0_ := Aside0.mk (Kd.R_lower ho0 (below_size (by repeat (first | (with_reducible first | exact HB.out | apply below_alloc | apply pw_below_drewN | apply below_drew1) | exact HB.out)))); have n1_ := Aside0.mk (below_step (by repeat (first | (with_reducible first | exact HB.out | apply below_alloc | apply pw_below_drewN | apply below_drew1) | exact HB.out)) hb); clear HB; have HO616 := n0_; have HB := n1_; clear n0_ n1_; (try clear hb); (try clear hb2); (try clear hk); (try clear hi); (try clear ho0); obtain ⟨Ao32, co32, eo32⟩ := Kd.R_slice HO616.out; subst eo32) | (go_at_call 56; (with_reducible refine (fill_Fill.calls _ _ t614 a1 t617 t618 _ ?side1 ?side2 ?side3 A5.out).mono ?_); (case side1 => repeat (first | exact (Kd.R_reads' HO616.out).2.2 | (with_reducible refine Kd.C_alloc ?_ _) | (with_reducible refine Kd.C_drewN ?_ _) | (with_reducible refine Kd.C_drew ?_))); (case side2 => exact (Kd.R_reads' HO616.out).2.1); (case side3 => exact (Gl.of_below HG.out (by repeat (first | (with_reducible first | exact HB.out | apply below_alloc | apply pw_below_drewN | apply below_drew1) | exact HB.out))).le (by decide)); rintro e w33 ⟨v619, rfl, ho0, hb⟩; have n0_ := Aside0.mk (Kd.R_below (by (with_reducible repeat (first | apply Kd.R_alloc | apply Kd.R_drewN | apply Kd.R_drew)); exact HO616.out) hb); have n1_ := Aside0.mk (Kd.R_lower ho0 (below_size (by repeat (first | (with_reducible first | exact HB.out | apply below_alloc | apply pw_below_drewN | apply below_drew1) | exact HB.out)))); have n2_ := Aside0.mk (below_step (by repeat (first | (with_reducible first | exact HB.out | apply below_alloc | apply pw_below_drewN | apply below_drew1) | exact HB.out)) hb); clear HO616; clear HB; have HO616 := n0_; have HO620 := n1_; have HB := n2_; clear n0_ n1_ n2_; (try clear hb); (try clear hb2); (try clear hk); (try clear hi); (try clear ho0))); try go_wp2_with (first | (go_at_call 54; (with_reducible refine (gutterlaw14_shown.calls k  t613 _ ?side1 A3.out).mono ?_); (case side1 => exact (Gl.of_below HG.out (by repeat (first | (with_reducible first | exact HB.out | apply below_alloc | apply pw_below_drewN | apply below_drew1) | exact HB.out))).le (by decide)); rintro e w30 ⟨rfl, hb⟩; have n0_ := Aside0.mk (below_step (by repeat (first | (with_reducible first | exact HB.out | apply below_alloc | apply pw_below_drewN | apply below_drew1) | exact HB.out)) hb); clear HB; have HB := n0_; clear n0_; (try clear hb); (try clear hb2); (try clear hk); (try clear hi)) | (go_at_call 55; (with_reducible refine (gutterlaw13_Few.calls _ _ l0 t614 _ ?side1 ?side2 A4.out).mono ?_); (case side1 => repeat (first | exact (Kd.C_below HR0.out HB.out) | (with_reducible refine Kd.C_alloc ?_ _) | (with_reducible refine Kd.C_drewN ?_ _) | (with_reducible refine Kd.C_drew ?_))); (case side2 => exact HC0.out); rintro e w31 ⟨v615, rfl, ho0, hb⟩; have n0_ := Aside0.mk (Kd.R_lower ho0 (below_size (by repeat (first | (with_reducible first | exact HB.out | apply below_alloc | apply pw_below_drewN | apply below_drew1) | exact HB.out)))); have n1_ := Aside0.mk (below_step (by repeat (first | (with_reducible first | exact HB.out | apply below_alloc | apply pw_below_drewN | apply below_drew1) | exact HB.out)) hb); clear HB; have HO616 := n0_; have HB := n1_; clear n0_ n1_; (try clear hb); (try clear hb2); (try clear hk); (try clear hi); (try clear ho0); obtain ⟨Ao32, co32, eo32⟩ := Kd.R_slice HO616.out; subst eo32) | (go_at_call 56; (with_reducible refine (fill_Fill.calls _ _ t614 a1 t617 t618 _ ?side1 ?side2 ?side3 A5.out).mono ?_); (case side1 => repeat (first | exact (Kd.R_reads' HO616.out).2.2 | (with_reducible refine Kd.C_alloc ?_ _) | (with_reducible refine Kd.C_drewN ?_ _) | (with_reducible refine Kd.C_drew ?_))); (case side2 => exact (Kd.R_reads' HO616.out).2.1); (case side3 => exact (Gl.of_below HG.out (by repeat (first | (with_reducible first | exact HB.out | apply below_alloc | apply pw_below_drewN | apply below_drew1) | exact HB.out))).le (by decide)); rintro e w33 ⟨v619, rfl, ho0, hb⟩; have n0_ := Aside0.mk (Kd.R_below (by (with_reducible repeat (first | apply Kd.R_alloc | apply Kd.R_drewN | apply Kd.R_drew)); exact HO616.out) hb); have n1_ := Aside0.mk (Kd.R_lower ho0 (below_size (by repeat (first | (with_reducible first | exact HB.out | apply below_alloc | apply pw_below_drewN | apply below_drew1) | exact HB.out)))); have n2_ := Aside0.mk (below_step (by repeat (first | (with_reducible first | exact HB.out | apply below_alloc | apply pw_below_drewN | apply below_drew1) | exact HB.out)) hb); clear HO616; clear HB; have HO616 := n0_; have HO620 := n1_; have HB := n2_; clear n0_ n1_ n2_; (try clear hb); (try clear hb2); (try clear hk); (try clear hi); (try clear ho0))))
    go_ret
    exact ⟨by first | rfl | (simp [errW_none, errW_some] <;> rfl) | (simp [*, errW_none, errW_some] <;> rfl), by repeat (first | (with_reducible first | exact HB.out | apply below_alloc | apply pw_below_drewN | apply below_drew1) | exact HB.out)⟩

end Go.Proofs.YtjpifknencfipaaDoor.P
