-- by a program (wip/tools: a turned copy of the kit's print): not trusted: Lean checks it
import Derived.Test.YtjpifknencfipaaDoorP
import Derived.Test.YtjpifknencfipaaDoorE55
import Derived.Test.YtjpifknencfipaaDoorP28
import Derived.Test.YtjpifknencfipaaDoorE56
import Derived.Test.YtjpifknencfipaaDoorP54
namespace Go.Proofs.YtjpifknencfipaaDoor.P
open Go.RowKit Go.Proofs.YtjpifknencfipaaDoorW.PrintWords Go.Proofs.YtjpifknencfipaaDoorW.PrintLast Go.Proofs.YtjpifknencfipaaDoorW.PrintMore
attribute [local go_sem] max2_int min2_int max_two min_two max_three min_three max_four min_four   -- for this text's walks alone
set_option linter.unusedVariables false
set_option linter.unusedSimpArgs false

/-! ### gutterlaw14_FillSums: function 18 -/
mutual
def gutterlaw14_FillSums.l0 : Nat → List (S32) → Bool → List (S73) → Int → Int → Option (Bool)
  | 0, _, _, _, _, _ => none
  | k + 1, x0, x5, x6, x8, x9 => if x9 < (x6.length : Int) then (if 0 ≤ x9 then (if ((rd_T73 x6 x9).f0) < 0 then (gutterlaw14_FillSums.j1 k x0 x5 x6 x8 x9 true) else (gutterlaw14_FillSums.j1 k x0 x5 x6 x8 x9 (decide (((rd_T73 x6 x9).f0) ≥ (x0.length : Int))))) else (none)) else (if x5 = true then ((gutterref13_High.f k x0).bind fun t637 => (if x8 = t637 then (some (decide ((x6.length : Int) ≤ (x0.length : Int)))) else (some false))) else (some false))
def gutterlaw14_FillSums.j1 : Nat → List (S32) → Bool → List (S73) → Int → Int → Bool → Option (Bool)
  | 0, _, _, _, _, _, _ => none
  | k + 1, x0, x5, x6, x8, x9, x43 => if x43 = true then (some false) else (if 0 ≤ x9 then (if x9 < (x6.length : Int) then (if ((rd_T73 x6 x9).f0) > 0 then (if 0 ≤ ((rd_T73 x6 x9).f0) then (if ((rd_T73 x6 x9).f0) < (x0.length : Int) then (gutterlaw14_FillSums.l0 k x0 x5 x6 (wrap64 ((wrap64 (x8 + ((rd_T73 x6 x9).f2))) + ((rd_T32 x0 ((rd_T73 x6 x9).f0)).f3))) (wrap64 (x9 + 1))) else (none)) else (none)) else (gutterlaw14_FillSums.l0 k x0 x5 x6 (wrap64 (x8 + ((rd_T73 x6 x9).f2))) (wrap64 (x9 + 1)))) else (none)) else (none))
end
def gutterlaw14_FillSums.f (k : Nat) (l0 : List (S32)) (a1 : Int) : Option (Bool) := (gutterlaw14_shown.f k).bind fun t629 => ((gutterlaw13_Few.f l0).bind fun t630 => ((fill_Fill.f t630 a1).bind fun bt633 => (if bt633.2 = 0 then (gutterlaw14_FillSums.l0 k t630 t629 bt633.1 0 0) else (some t629))))
theorem gutterlaw14_FillSums.mono_l : ∀ k, (∀ y0 y1 y2 y3 y4, LeO (gutterlaw14_FillSums.l0 k y0 y1 y2 y3 y4) (gutterlaw14_FillSums.l0 (k + 1) y0 y1 y2 y3 y4)) ∧ (∀ y0 y1 y2 y3 y4 y5, LeO (gutterlaw14_FillSums.j1 k y0 y1 y2 y3 y4 y5) (gutterlaw14_FillSums.j1 (k + 1) y0 y1 y2 y3 y4 y5))
  | 0 => ⟨fun _ _ _ _ _ r h => by simp [gutterlaw14_FillSums.l0] at h, fun _ _ _ _ _ _ r h => by simp [gutterlaw14_FillSums.j1] at h⟩
  | k + 1 => by
    obtain ⟨ih0, ih1⟩ := gutterlaw14_FillSums.mono_l k
    refine ⟨?_, ?_⟩
    · intro y0 y1 y2 y3 y4
      unfold gutterlaw14_FillSums.l0
      repeat' first
      | (with_reducible exact ih0 _ _ _ _ _)
      | (with_reducible exact ih1 _ _ _ _ _ _)
      | (with_reducible exact gutterlaw14_shown.mono _)
      | (with_reducible exact gutterref13_High.mono _ _)
      | (with_reducible exact LeO.refl _)
      | (with_reducible exact LeO.none _)
      | (with_reducible refine LeO.ite ?_ ?_)
      | (with_reducible refine LeO.bind ?_ (fun _ => ?_))
      | exact ih0 _ _ _ _ _
      | exact ih1 _ _ _ _ _ _
      | exact gutterlaw14_shown.mono _
      | exact gutterref13_High.mono _ _
      | exact LeO.none _
      | refine LeO.ite ?_ ?_
      | refine LeO.bind ?_ (fun _ => ?_)
    · intro y0 y1 y2 y3 y4 y5
      unfold gutterlaw14_FillSums.j1
      repeat' first
      | (with_reducible exact ih0 _ _ _ _ _)
      | (with_reducible exact ih1 _ _ _ _ _ _)
      | (with_reducible exact gutterlaw14_shown.mono _)
      | (with_reducible exact gutterref13_High.mono _ _)
      | (with_reducible exact LeO.refl _)
      | (with_reducible exact LeO.none _)
      | (with_reducible refine LeO.ite ?_ ?_)
      | (with_reducible refine LeO.bind ?_ (fun _ => ?_))
      | exact ih0 _ _ _ _ _
      | exact ih1 _ _ _ _ _ _
      | exact gutterlaw14_shown.mono _
      | exact gutterref13_High.mono _ _
      | exact LeO.none _
      | refine LeO.ite ?_ ?_
      | refine LeO.bind ?_ (fun _ => ?_)
theorem gutterlaw14_FillSums.mono : ∀ a0 a1 k, LeO (gutterlaw14_FillSums.f k a0 a1) (gutterlaw14_FillSums.f (k + 1) a0 a1) := by
  intro a0 a1 k
  obtain ⟨ih0, ih1⟩ := gutterlaw14_FillSums.mono_l k
  unfold gutterlaw14_FillSums.f
  repeat' first
      | (with_reducible exact ih0 _ _ _ _ _)
      | (with_reducible exact ih1 _ _ _ _ _ _)
      | (with_reducible exact gutterlaw14_shown.mono _)
      | (with_reducible exact gutterref13_High.mono _ _)
      | (with_reducible exact LeO.refl _)
      | (with_reducible exact LeO.none _)
      | (with_reducible refine LeO.ite ?_ ?_)
      | (with_reducible refine LeO.bind ?_ (fun _ => ?_))
      | exact ih0 _ _ _ _ _
      | exact ih1 _ _ _ _ _ _
      | exact gutterlaw14_shown.mono _
      | exact gutterref13_High.mono _ _
      | exact LeO.none _
      | refine LeO.ite ?_ ?_
      | refine LeO.bind ?_ (fun _ => ?_)
set_option maxHeartbeats 8000000 in
set_option maxRecDepth 100000 in
theorem gutterlaw14_FillSums.calls (k : Nat) (A0 : Option Addr) (c0 : Nat) (l0 : List (S32)) (a1 : Int) (r : Bool) (w : World) (hr0 : Kd.C k32 w A0 l0.length l0) (hc0 : l0.length ≤ c0) (hG : Gl 1 w) (h : gutterlaw14_FillSums.f k l0 a1 = some r) :
    Calls Tryd.prog 18 #[.slice A0 l0.length c0, .int .i64 a1] w fun e w' => e = .returned (.bool r) ∧ Below w.heap.size w w' := by
  have HR0 := Aside0.mk hr0
  have HC0 := Aside0.mk hc0
  clear hr0 hc0
  have HG := Aside0.mk hG
  clear hG
  have HB := Aside0.mk (Below.refl w.heap.size w)
  have H : ((gutterlaw14_shown.f k).bind fun t629 => ((gutterlaw13_Few.f l0).bind fun t630 => ((fill_Fill.f t630 a1).bind fun bt633 => (if bt633.2 = 0 then (gutterlaw14_FillSums.l0 k t630 t629 bt633.1 0 0) else (some t629))))) = some r := h
  clear h
  replace H := Option.bind_eq_some_iff.mp H
  obtain ⟨t629, A30, H⟩ := H
  replace H : ((gutterlaw13_Few.f l0).bind fun t630 => ((fill_Fill.f t630 a1).bind fun bt633 => (if bt633.2 = 0 then (gutterlaw14_FillSums.l0 k t630 t629 bt633.1 0 0) else (some t629)))) = some r := H
  have A3 := Aside0.mk A30
  clear A30
  replace H := Option.bind_eq_some_iff.mp H
  obtain ⟨t630, A40, H⟩ := H
  replace H : ((fill_Fill.f t630 a1).bind fun bt633 => (if bt633.2 = 0 then (gutterlaw14_FillSums.l0 k t630 t629 bt633.1 0 0) else (some t629))) = some r := H
  have A4 := Aside0.mk A40
  clear A40
  replace H := Option.bind_eq_some_iff.mp H
  obtain ⟨⟨t633, t634⟩, A50, H⟩ := H
  replace H : (if t634 = 0 then (gutterlaw14_FillSums.l0 k t630 t629 t633 0 0) else (some t629)) = some r := H
  have A5 := Aside0.mk A50
  clear A50
  by_cases c6 : t634 = 0
  · rw [if_pos c6] at H
    have c6b0 : (t634 == 0) = true := beq_iff_eq.mpr c6
    have c6b1 : (t634 != 0) = false := bne_eq_false_iff_eq.mpr c6
    clear c6
    have H' := Aside0.mk H
    clear H
    go_enter Tryd.func18, Tryd.ntmps18
    go_wp2_with (first | ((with_reducible refine gate_callee (f := 54) rfl ?_); refine goesL_ (some 10) rfl rfl Tryd.func54 (by kernel_rfl) rfl #[] rfl (by (try simp only [List.map_toArray, List.map_cons, List.map_nil]); first | done | rfl | (simp only [List.length_drop, List.length_take]; rfl)) ?_; (with_reducible refine (gutterlaw14_shown.calls k  t629 _ ?side1 A3.out).mono ?_); (case side1 => exact (Gl.of_below HG.out (by repeat (first | (with_reducible first | exact HB.out | apply below_alloc | apply pw_below_drewN | apply below_drew1) | exact HB.out))).le (by decide)); rintro e w7 ⟨rfl, hb⟩; refine ⟨_, rfl, ?_⟩; have n0_ := Aside0.mk (below_step (by repeat (first | (with_reducible first | exact HB.out | apply below_alloc | apply pw_below_drewN | apply below_drew1) | exact HB.out)) hb); clear HB; have HB := n0_; clear n0_; (try clear hb); (try clear hb2); (try clear hk); (try clear hi)) | ((with_reducible refine gate_callee (f := 55) rfl ?_); refine goesL_ (some 12) rfl rfl Tryd.func55 (by kernel_rfl) rfl #[.slice A0 l0.length c0] rfl (by (try simp only [List.map_toArray, List.map_cons, List.map_nil]); first | done | rfl | (simp only [List.length_drop, List.length_take]; rfl)) ?_; (with_reducible refine (gutterlaw13_Few.calls _ _ l0 t630 _ ?side1 ?side2 A4.out).mono ?_); (case side1 => repeat (first | exact (Kd.C_below HR0.out HB.out) | (with_reducible refine Kd.C_alloc ?_ _) | (with_reducible refine Kd.C_drewN ?_ _) | (with_reducible refine Kd.C_drew ?_))); (case side2 => exact HC0.out); rintro e w8 ⟨v631, rfl, ho0, hb⟩; refine ⟨_, rfl, ?_⟩; have n0_ := Aside0.mk (Kd.R_lower ho0 (below_size (by repeat (first | (with_reducible first | exact HB.out | apply below_alloc | apply pw_below_drewN | apply below_drew1) | exact HB.out)))); have n1_ := Aside0.mk (below_step (by repeat (first | (with_reducible first | exact HB.out | apply below_alloc | apply pw_below_drewN | apply below_drew1) | exact HB.out)) hb); clear HB; have HO632 := n0_; have HB := n1_; clear n0_ n1_; (try clear hb); (try clear hb2); (try clear hk); (try clear hi); (try clear ho0); obtain ⟨Ao9, co9, eo9⟩ := Kd.R_slice HO632.out; subst eo9) | ((with_reducible refine gate_callee (f := 56) rfl ?_); refine goesL_ (some 16) rfl rfl Tryd.func56 (by kernel_rfl) rfl #[.slice Ao9 t630.length co9, .int .i64 a1] rfl (by (try simp only [List.map_toArray, List.map_cons, List.map_nil]); first | done | rfl | (simp only [List.length_drop, List.length_take]; rfl)) ?_; (with_reducible refine (fill_Fill.calls _ _ t630 a1 t633 t634 _ ?side1 ?side2 ?side3 A5.out).mono ?_); (case side1 => repeat (first | exact (Kd.R_reads' HO632.out).2.2 | (with_reducible refine Kd.C_alloc ?_ _) | (with_reducible refine Kd.C_drewN ?_ _) | (with_reducible refine Kd.C_drew ?_))); (case side2 => exact (Kd.R_reads' HO632.out).2.1); (case side3 => exact (Gl.of_below HG.out (by repeat (first | (with_reducible first | exact HB.out | apply below_alloc | apply pw_below_drewN | apply below_drew1) | exact HB.out))).le (by decide)); rintro e w10 ⟨v635, rfl, ho0, hb⟩; refine ⟨_, rfl, ?_⟩; have n0_ := Aside0.mk (Kd.R_below (by (with_reducible repeat (first | apply Kd.R_alloc | apply Kd.R_drewN | apply Kd.R_drew)); exact HO632.out) hb); have n1_ := Aside0.mk (Kd.R_lower ho0 (below_size (by repeat (first | (with_reducible first | exact HB.out | apply below_alloc | apply pw_below_drewN | apply below_drew1) | exact HB.out)))); have n2_ := Aside0.mk (below_step (by repeat (first | (with_reducible first | exact HB.out | apply below_alloc | apply pw_below_drewN | apply below_drew1) | exact HB.out)) hb); clear HO632; clear HB; have HO632 := n0_; have HO636 := n1_; have HB := n2_; clear n0_ n1_ n2_; (try clear hb); (try clear hb2); (try clear hk); (try clear hi); (try clear ho0)))
    go_loopg [8, 9] k (fun kq v8 v9 w' => ∃ (x8_1 : Int) (x9_1 : Int), v8 = .int .i64 x8_1 ∧ v9 = .int .i64 x9_1 ∧ Aside0 (gutterlaw14_FillSums.l0 kq t630 t629 t633 x8_1 x9_1 = some r) ∧ Aside0 (kq ≤ k) ∧ Aside0 (Kd.R k32 32 w' w.heap.size (fun _ => True) (.slice Ao9 t630.length co9) t630) ∧ Aside0 (Kd.R k73 73 w' w.heap.size (fun _ => True) v635 t633) ∧ Aside0 (Below w.heap.size w w'))
    case atStart => exact ⟨(0), (0), (by first | rfl | (simp; done) | (simp [*]; done)), (by first | rfl | (simp; done) | (simp [*]; done)), H', ⟨Nat.le_refl _⟩, ⟨by (with_reducible repeat (first | apply Kd.R_alloc | apply Kd.R_drewN | apply Kd.R_drew)); exact HO632.out⟩, ⟨by (with_reducible repeat (first | apply Kd.R_alloc | apply Kd.R_drewN | apply Kd.R_drew)); exact HO636.out⟩, ⟨by repeat (first | (with_reducible first | exact HB.out | apply below_alloc | apply pw_below_drewN | apply below_drew1) | exact HB.out)⟩⟩
    case round =>
      clear H'
      try clear c1
      try clear p2
      try clear c5
      try clear c6
      try clear c6b0
      try clear c6b1
      obtain ⟨x8_1, x9_1, rfl, rfl, HA, HK1, HO_0, HO_6, HB⟩ := hrel
      cases gk with
      | zero => exact absurd HA.out (by simp [gutterlaw14_FillSums.l0])
      | succ k1 =>
        have H := HA.out
        clear HA
        simp only [gutterlaw14_FillSums.l0] at H
        by_cases c11 : x9_1 < (t633.length : Int)
        · rw [if_pos c11] at H
          have c11b0 : decide (x9_1 < (t633.length : Int)) = true := decide_eq_true c11
          clear c11
          have HC12 := Aside0.mk H
          clear H
          obtain ⟨Ao13, co13, eo13⟩ := Kd.R_slice HO_6.out
          subst eo13
          go_upto_region 10 with (fail)
          go_cut [43] (fun v43 wc => ∃ (kq : Nat) (x43_11 : Bool), v43 = .bool x43_11 ∧ Aside0 (gutterlaw14_FillSums.j1 kq t630 t629 t633 x8_1 x9_1 x43_11 = some r) ∧ Aside0 (kq ≤ k1) ∧ Aside0 (Kd.R k32 32 wc w.heap.size (fun _ => True) (.slice Ao9 t630.length co9) t630) ∧ Aside0 (Kd.R k73 73 wc w.heap.size (fun _ => True) (.slice Ao13 t633.length co13) t633) ∧ Aside0 (Below w.heap.size w wc))
          case first =>
            have H := HC12.out
            clear HC12
            by_cases c14 : 0 ≤ x9_1
            · rw [if_pos c14] at H
              have c14b0 : decide (0 ≤ x9_1) = true := decide_eq_true c14
              clear c14
              (first | rw [c14b0] | (simp only [i64_w, i32_w]; rw [c14b0]) | skip)
              by_cases c15 : ((rd_T73 t633 x9_1).f0) < 0
              · rw [if_pos c15] at H
                have c15b0 : decide (((rd_T73 t633 x9_1).f0) < 0) = true := decide_eq_true c15
                clear c15
                have H' := Aside0.mk H
                clear H
                have p638 : 0 ≤ (x9_1 : Int) := of_decide_eq_true (by first | (with_reducible assumption) | assumption)
                have q638 : x9_1 < (t633.length : Int) := of_decide_eq_true (by first | (with_reducible assumption) | assumption)
                obtain ⟨ad638, e638, hx638_0, hx638_1, hx638_2⟩ := at_T73 (Kd.R_reads' HO_6.out).2.2 x9_1 p638 q638
                cases e638
                replace p638 := eq_true p638
                replace q638 := eq_true q638
                go_wp2
                go_meet
                case rel => exact ⟨_, (true), (by first | rfl | (simp; done) | (simp [*]; done)), H', ⟨by have := HK1.out; first | omega | exact Nat.le_refl _⟩, ⟨by (with_reducible repeat (first | apply Kd.R_alloc | apply Kd.R_drewN | apply Kd.R_drew)); exact HO_0.out⟩, ⟨by (with_reducible repeat (first | apply Kd.R_alloc | apply Kd.R_drewN | apply Kd.R_drew)); exact HO_6.out⟩, ⟨by repeat (first | (with_reducible first | exact HB.out | apply below_alloc | apply pw_below_drewN | apply below_drew1) | exact HB.out)⟩⟩
              · rw [if_neg c15] at H
                have c15b0 : decide (((rd_T73 t633 x9_1).f0) < 0) = false := decide_eq_false c15
                clear c15
                have H' := Aside0.mk H
                clear H
                have p638 : 0 ≤ (x9_1 : Int) := of_decide_eq_true (by first | (with_reducible assumption) | assumption)
                have q638 : x9_1 < (t633.length : Int) := of_decide_eq_true (by first | (with_reducible assumption) | assumption)
                obtain ⟨ad638, e638, hx638_0, hx638_1, hx638_2⟩ := at_T73 (Kd.R_reads' HO_6.out).2.2 x9_1 p638 q638
                cases e638
                replace p638 := eq_true p638
                replace q638 := eq_true q638
                have p639 : 0 ≤ (x9_1 : Int) := of_decide_eq_true (by first | (with_reducible assumption) | assumption)
                have q639 : x9_1 < (t633.length : Int) := of_decide_eq_true (by first | (with_reducible assumption) | assumption)
                obtain ⟨ad639, e639, hx639_0, hx639_1, hx639_2⟩ := at_T73 (Kd.R_reads' HO_6.out).2.2 x9_1 p639 q639
                obtain rfl : ad638 = ad639 := (by injection e639)
                replace p639 := eq_true p639
                replace q639 := eq_true q639
                go_wp2
                go_meet
                case rel => exact ⟨_, (decide (((rd_T73 t633 x9_1).f0) ≥ (t630.length : Int))), (by first | rfl | (simp; done) | (simp [*]; done)), H', ⟨by have := HK1.out; first | omega | exact Nat.le_refl _⟩, ⟨by (with_reducible repeat (first | apply Kd.R_alloc | apply Kd.R_drewN | apply Kd.R_drew)); exact HO_0.out⟩, ⟨by (with_reducible repeat (first | apply Kd.R_alloc | apply Kd.R_drewN | apply Kd.R_drew)); exact HO_6.out⟩, ⟨by repeat (first | (with_reducible first | exact HB.out | apply below_alloc | apply pw_below_drewN | apply below_drew1) | exact HB.out)⟩⟩
            · rw [if_neg c14] at H
              exact absurd H (by simp)
          case rest =>
            clear HC12
            try clear c1
            try clear p2
            try clear c5
            try clear c6
            try clear c6b0
            try clear c6b1
            try clear p6
            try clear q6
            try clear hx6
            try clear c11
            try clear c11b0
            try clear c14
            try clear c14b0
            try clear c15
            try clear c15b0
            try clear hx638_0
            try clear hx638_1
            try clear hx638_2
            try clear hx639_0
            try clear hx639_1
            try clear hx639_2
            try clear p2
            try clear p638
            try clear p639
            try clear q638
            try clear q639
            obtain ⟨kq, x43_11, rfl, HA, HJ11, HO_0, HO_6, HB⟩ := hcut
            cases kq with
            | zero => exact absurd HA.out (by simp [gutterlaw14_FillSums.j1])
            | succ kj11 =>
              have H := HA.out
              clear HA
              simp only [gutterlaw14_FillSums.j1] at H
              by_cases c16 : x43_11 = true
              · subst c16
                have H1 : (some false) = some r := by rw [if_pos rfl] at H; exact H
                clear H
                have H := H1
                clear H1
                obtain rfl := Option.some.inj H
                go_wp2
                go_ret
                exact ⟨by first | rfl | (simp [errW_none, errW_some] <;> rfl) | (simp [*, errW_none, errW_some] <;> rfl), by repeat (first | (with_reducible first | exact HB.out | apply below_alloc | apply pw_below_drewN | apply below_drew1) | exact HB.out)⟩
              · replace c16 := Bool.eq_false_iff.mpr c16
                subst c16
                have H1 : (if 0 ≤ x9_1 then (if x9_1 < (t633.length : Int) then (if ((rd_T73 t633 x9_1).f0) > 0 then (if 0 ≤ ((rd_T73 t633 x9_1).f0) then (if ((rd_T73 t633 x9_1).f0) < (t630.length : Int) then (gutterlaw14_FillSums.l0 kj11 t630 t629 t633 (wrap64 ((wrap64 (x8_1 + ((rd_T73 t633 x9_1).f2))) + ((rd_T32 t630 ((rd_T73 t633 x9_1).f0)).f3))) (wrap64 (x9_1 + 1))) else (none)) else (none)) else (gutterlaw14_FillSums.l0 kj11 t630 t629 t633 (wrap64 (x8_1 + ((rd_T73 t633 x9_1).f2))) (wrap64 (x9_1 + 1)))) else (none)) else (none)) = some r := by rw [if_neg (show ¬ (false = true) by decide)] at H; exact H
                clear H
                have H := H1
                clear H1
                by_cases c17 : 0 ≤ x9_1
                · rw [if_pos c17] at H
                  have c17b0 : decide (0 ≤ x9_1) = true := decide_eq_true c17
                  clear c17
                  by_cases c18 : x9_1 < (t633.length : Int)
                  · rw [if_pos c18] at H
                    have c18b0 : decide (x9_1 < (t633.length : Int)) = true := decide_eq_true c18
                    clear c18
                    by_cases c19 : ((rd_T73 t633 x9_1).f0) > 0
                    · rw [if_pos c19] at H
                      have c19b0 : decide (0 < ((rd_T73 t633 x9_1).f0)) = true := decide_eq_true c19
                      clear c19
                      by_cases c20 : 0 ≤ ((rd_T73 t633 x9_1).f0)
                      · rw [if_pos c20] at H
                        have c20b0 : decide (0 ≤ ((rd_T73 t633 x9_1).f0)) = true := decide_eq_true c20
                        clear c20
                        by_cases c21 : ((rd_T73 t633 x9_1).f0) < (t630.length : Int)
                        · rw [if_pos c21] at H
                          have c21b0 : decide (((rd_T73 t633 x9_1).f0) < (t630.length : Int)) = true := decide_eq_true c21
                          clear c21
                          have H' := Aside0.mk H
                          clear H
                          have p640 : 0 ≤ (x9_1 : Int) := of_decide_eq_true (by first | (with_reducible assumption) | assumption)
                          have q640 : x9_1 < (t633.length : Int) := of_decide_eq_true (by first | (with_reducible assumption) | assumption)
                          obtain ⟨ad640, e640, hx640_0, hx640_1, hx640_2⟩ := at_T73 (Kd.R_reads' HO_6.out).2.2 x9_1 p640 q640
                          cases e640
                          replace p640 := eq_true p640
                          replace q640 := eq_true q640
                          have p641 : 0 ≤ (x9_1 : Int) := of_decide_eq_true (by first | (with_reducible assumption) | assumption)
                          have q641 : x9_1 < (t633.length : Int) := of_decide_eq_true (by first | (with_reducible assumption) | assumption)
                          obtain ⟨ad641, e641, hx641_0, hx641_1, hx641_2⟩ := at_T73 (Kd.R_reads' HO_6.out).2.2 x9_1 p641 q641
                          obtain rfl : ad640 = ad641 := (by injection e641)
                          replace p641 := eq_true p641
                          replace q641 := eq_true q641
                          have p642 : 0 ≤ (x9_1 : Int) := of_decide_eq_true (by first | (with_reducible assumption) | assumption)
                          have q642 : x9_1 < (t633.length : Int) := of_decide_eq_true (by first | (with_reducible assumption) | assumption)
                          obtain ⟨ad642, e642, hx642_0, hx642_1, hx642_2⟩ := at_T73 (Kd.R_reads' HO_6.out).2.2 x9_1 p642 q642
                          obtain rfl : ad640 = ad642 := (by injection e642)
                          replace p642 := eq_true p642
                          replace q642 := eq_true q642
                          have p643 : 0 ≤ (((rd_T73 t633 x9_1).f0) : Int) := of_decide_eq_true (by first | (with_reducible assumption) | assumption)
                          have q643 : ((rd_T73 t633 x9_1).f0) < (t630.length : Int) := of_decide_eq_true (by first | (with_reducible assumption) | assumption)
                          obtain ⟨ad643, e643, hx643_0, hx643_1, hx643_2, hx643_3, hx643_4⟩ := at_T32 (Kd.R_reads' HO_0.out).2.2 ((rd_T73 t633 x9_1).f0) p643 q643
                          cases e643
                          replace p643 := eq_true p643
                          replace q643 := eq_true q643
                          go_wp2
                          go_roundg kj11
                          case measure => have := HK1.out; have := HJ11.out; omega
                          case rel => exact ⟨(wrap64 ((wrap64 (x8_1 + ((rd_T73 t633 x9_1).f2))) + ((rd_T32 t630 ((rd_T73 t633 x9_1).f0)).f3))), (wrap64 (x9_1 + 1)), (by first | rfl | (simp; done) | (simp [*]; done)), (by first | rfl | (simp; done) | (simp [*]; done)), H', ⟨by have := HK1.out; have := HJ11.out; omega⟩, ⟨by (with_reducible repeat (first | apply Kd.R_alloc | apply Kd.R_drewN | apply Kd.R_drew)); exact HO_0.out⟩, ⟨by (with_reducible repeat (first | apply Kd.R_alloc | apply Kd.R_drewN | apply Kd.R_drew)); exact HO_6.out⟩, ⟨by repeat (first | (with_reducible first | exact HB.out | apply below_alloc | apply pw_below_drewN | apply below_drew1) | exact HB.out)⟩⟩
                        · rw [if_neg c21] at H
                          exact absurd H (by simp)
                      · rw [if_neg c20] at H
                        exact absurd H (by simp)
                    · rw [if_neg c19] at H
                      have c19b0 : decide (0 < ((rd_T73 t633 x9_1).f0)) = false := decide_eq_false c19
                      clear c19
                      have H' := Aside0.mk H
                      clear H
                      have p640 : 0 ≤ (x9_1 : Int) := of_decide_eq_true (by first | (with_reducible assumption) | assumption)
                      have q640 : x9_1 < (t633.length : Int) := of_decide_eq_true (by first | (with_reducible assumption) | assumption)
                      obtain ⟨ad640, e640, hx640_0, hx640_1, hx640_2⟩ := at_T73 (Kd.R_reads' HO_6.out).2.2 x9_1 p640 q640
                      cases e640
                      replace p640 := eq_true p640
                      replace q640 := eq_true q640
                      have p641 : 0 ≤ (x9_1 : Int) := of_decide_eq_true (by first | (with_reducible assumption) | assumption)
                      have q641 : x9_1 < (t633.length : Int) := of_decide_eq_true (by first | (with_reducible assumption) | assumption)
                      obtain ⟨ad641, e641, hx641_0, hx641_1, hx641_2⟩ := at_T73 (Kd.R_reads' HO_6.out).2.2 x9_1 p641 q641
                      obtain rfl : ad640 = ad641 := (by injection e641)
                      replace p641 := eq_true p641
                      replace q641 := eq_true q641
                      go_wp2
                      go_roundg kj11
                      case measure => have := HK1.out; have := HJ11.out; omega
                      case rel => exact ⟨(wrap64 (x8_1 + ((rd_T73 t633 x9_1).f2))), (wrap64 (x9_1 + 1)), (by first | rfl | (simp; done) | (simp [*]; done)), (by first | rfl | (simp; done) | (simp [*]; done)), H', ⟨by have := HK1.out; have := HJ11.out; omega⟩, ⟨by (with_reducible repeat (first | apply Kd.R_alloc | apply Kd.R_drewN | apply Kd.R_drew)); exact HO_0.out⟩, ⟨by (with_reducible repeat (first | apply Kd.R_alloc | apply Kd.R_drewN | apply Kd.R_drew)); exact HO_6.out⟩, ⟨by repeat (first | (with_reducible first | exact HB.out | apply below_alloc | apply pw_below_drewN | apply below_drew1) | exact HB.out)⟩⟩
                  · rw [if_neg c18] at H
                    exact absurd H (by simp)
                · rw [if_neg c17] at H
                  exact absurd H (by simp)
        · rw [if_neg c11] at H
          have c11b0 : decide (x9_1 < (t633.length : Int)) = false := decide_eq_false c11
          clear c11
          by_cases c22 : t629 = true
          · subst c22
            have H1 : ((gutterref13_High.f k1 t630).bind fun t637 => (if x8_1 = t637 then (some (decide ((t633.length : Int) ≤ (t630.length : Int)))) else (some false))) = some r := by rw [if_pos rfl] at H; exact H
            clear H
            have H := H1
            clear H1
            replace H := Option.bind_eq_some_iff.mp H
            obtain ⟨t637, A230, H⟩ := H
            replace H : (if x8_1 = t637 then (some (decide ((t633.length : Int) ≤ (t630.length : Int)))) else (some false)) = some r := H
            have A23 := Aside0.mk A230
            clear A230
            by_cases c24 : x8_1 = t637
            · rw [if_pos c24] at H
              have c24b0 : (x8_1 == t637) = true := beq_iff_eq.mpr c24
              have c24b1 : (x8_1 != t637) = false := bne_eq_false_iff_eq.mpr c24
              clear c24
              obtain rfl := Option.some.inj H
              obtain ⟨Ao25, co25, eo25⟩ := Kd.R_slice HO_6.out
              subst eo25
              go_wp2_with (first | (go_at_call 28; (with_reducible refine (gutterref13_High.calls k1 _ _ t630 t637 _ ?side1 ?side2 A23.out).mono ?_); (case side1 => repeat (first | exact (Kd.R_reads' HO_0.out).2.2 | (with_reducible refine Kd.C_alloc ?_ _) | (with_reducible refine Kd.C_drewN ?_ _) | (with_reducible refine Kd.C_drew ?_))); (case side2 => exact (Kd.R_reads' HO_0.out).2.1); rintro e w' ⟨rfl, ⟨nd, rfl⟩⟩))
              go_ret
              exact ⟨by first | rfl | (simp [errW_none, errW_some] <;> rfl) | (simp [*, errW_none, errW_some] <;> rfl), by repeat (first | (with_reducible first | exact HB.out | apply below_alloc | apply pw_below_drewN | apply below_drew1) | exact HB.out)⟩
            · rw [if_neg c24] at H
              have c24b0 : (x8_1 == t637) = false := beq_eq_false_iff_ne.mpr c24
              have c24b1 : (x8_1 != t637) = true := bne_iff_ne.mpr c24
              obtain rfl := Option.some.inj H
              obtain ⟨Ao26, co26, eo26⟩ := Kd.R_slice HO_6.out
              subst eo26
              go_wp2_with (first | (go_at_call 28; (with_reducible refine (gutterref13_High.calls k1 _ _ t630 t637 _ ?side1 ?side2 A23.out).mono ?_); (case side1 => repeat (first | exact (Kd.R_reads' HO_0.out).2.2 | (with_reducible refine Kd.C_alloc ?_ _) | (with_reducible refine Kd.C_drewN ?_ _) | (with_reducible refine Kd.C_drew ?_))); (case side2 => exact (Kd.R_reads' HO_0.out).2.1); rintro e w' ⟨rfl, ⟨nd, rfl⟩⟩))
              go_ret
              exact ⟨by first | rfl | (simp [errW_none, errW_some] <;> rfl) | (simp [*, errW_none, errW_some] <;> rfl), by repeat (first | (with_reducible first | exact HB.out | apply below_alloc | apply pw_below_drewN | apply below_drew1) | exact HB.out)⟩
          · replace c22 := Bool.eq_false_iff.mpr c22
            subst c22
            have H1 : (some false) = some r := by rw [if_neg (show ¬ (false = true) by decide)] at H; exact H
            clear H
            have H := H1
            clear H1
            obtain rfl := Option.some.inj H
            obtain ⟨Ao27, co27, eo27⟩ := Kd.R_slice HO_6.out
            subst eo27
            go_wp2
            go_ret
            exact ⟨by first | rfl | (simp [errW_none, errW_some] <;> rfl) | (simp [*, errW_none, errW_some] <;> rfl), by repeat (first | (with_reducible first | exact HB.out | apply below_alloc | apply pw_below_drewN | apply below_drew1) | exact HB.out)⟩
  · rw [if_neg c6] at H
    have c6b0 : (t634 == 0) = false := beq_eq_false_iff_ne.mpr c6
    have c6b1 : (t634 != 0) = true := bne_iff_ne.mpr c6
    obtain rfl := Option.some.inj H
    go_enter Tryd.func18, Tryd.ntmps18
    go_wp2_with (first | ((with_reducible refine gate_callee (f := 54) rfl ?_); refine goesL_ (some 10) rfl rfl Tryd.func54 (by kernel_rfl) rfl #[] rfl (by (try simp only [List.map_toArray, List.map_cons, List.map_nil]); first | done | rfl | (simp only [List.length_drop, List.length_take]; rfl)) ?_; (with_reducible refine (gutterlaw14_shown.calls k  t629 _ ?side1 A3.out).mono ?_); (case side1 => exact (Gl.of_below HG.out (by repeat (first | (with_reducible first | exact HB.out | apply below_alloc | apply pw_below_drewN | apply below_drew1) | exact HB.out))).le (by decide)); rintro e w28 ⟨rfl, hb⟩; refine ⟨_, rfl, ?_⟩; have n0_ := Aside0.mk (below_step (by repeat (first | (with_reducible first | exact HB.out | apply below_alloc | apply pw_below_drewN | apply below_drew1) | exact HB.out)) hb); clear HB; have HB := n0_; clear n0_; (try clear hb); (try clear hb2); (try clear hk); (try clear hi)) | ((with_reducible refine gate_callee (f := 55) rfl ?_); refine goesL_ (some 12) rfl rfl Tryd.func55 (by kernel_rfl) rfl #[.slice A0 l0.length c0] rfl (by (try simp only [List.map_toArray, List.map_cons, List.map_nil]); first | done | rfl | (simp only [List.length_drop, List.length_take]; rfl)) ?_; (with_reducible refine (gutterlaw13_Few.calls _ _ l0 t630 _ ?side1 ?side2 A4.out).mono ?_); (case side1 => repeat (first | exact (Kd.C_below HR0.out HB.out) | (with_reducible refine Kd.C_alloc ?_ _) | (with_reducible refine Kd.C_drewN ?_ _) | (with_reducible refine Kd.C_drew ?_))); (case side2 => exact HC0.out); rintro e w29 ⟨v631, rfl, ho0, hb⟩; refine ⟨_, rfl, ?_⟩; have n0_ := Aside0.mk (Kd.R_lower ho0 (below_size (by repeat (first | (with_reducible first | exact HB.out | apply below_alloc | apply pw_below_drewN | apply below_drew1) | exact HB.out)))); have n1_ := Aside0.mk (below_step (by repeat (first | (with_reducible first | exact HB.out | apply below_alloc | apply pw_below_drewN | apply below_drew1) | exact HB.out)) hb); clear HB; have HO632 := n0_; have HB := n1_; clear n0_ n1_; (try clear hb); (try clear hb2); (try clear hk); (try clear hi); (try clear ho0); obtain ⟨Ao30, co30, eo30⟩ := Kd.R_slice HO632.out; subst eo30) | ((with_reducible refine gate_callee (f := 56) rfl ?_); refine goesL_ (some 16) rfl rfl Tryd.func56 (by kernel_rfl) rfl #[.slice Ao30 t630.length co30, .int .i64 a1] rfl (by (try simp only [List.map_toArray, List.map_cons, List.map_nil]); first | done | rfl | (simp only [List.length_drop, List.length_take]; rfl)) ?_; (with_reducible refine (fill_Fill.calls _ _ t630 a1 t633 t634 _ ?side1 ?side2 ?side3 A5.out).mono ?_); (case side1 => repeat (first | exact (Kd.R_reads' HO632.out).2.2 | (with_reducible refine Kd.C_alloc ?_ _) | (with_reducible refine Kd.C_drewN ?_ _) | (with_reducible refine Kd.C_drew ?_))); (case side2 => exact (Kd.R_reads' HO632.out).2.1); (case side3 => exact (Gl.of_below HG.out (by repeat (first | (with_reducible first | exact HB.out | apply below_alloc | apply pw_below_drewN | apply below_drew1) | exact HB.out))).le (by decide)); rintro e w31 ⟨v635, rfl, ho0, hb⟩; refine ⟨_, rfl, ?_⟩; have n0_ := Aside0.mk (Kd.R_below (by (with_reducible repeat (first | apply Kd.R_alloc | apply Kd.R_drewN | apply Kd.R_drew)); exact HO632.out) hb); have n1_ := Aside0.mk (Kd.R_lower ho0 (below_size (by repeat (first | (with_reducible first | exact HB.out | apply below_alloc | apply pw_below_drewN | apply below_drew1) | exact HB.out)))); have n2_ := Aside0.mk (below_step (by repeat (first | (with_reducible first | exact HB.out | apply below_alloc | apply pw_below_drewN | apply below_drew1) | exact HB.out)) hb); clear HO632; clear HB; have HO632 := n0_; have HO636 := n1_; have HB := n2_; clear n0_ n1_ n2_; (try clear hb); (try clear hb2); (try clear hk); (try clear hi); (try clear ho0)))
    go_ret
    exact ⟨by first | rfl | (simp [errW_none, errW_some] <;> rfl) | (simp [*, errW_none, errW_some] <;> rfl), by repeat (first | (with_reducible first | exact HB.out | apply below_alloc | apply pw_below_drewN | apply below_drew1) | exact HB.out)⟩

end Go.Proofs.YtjpifknencfipaaDoor.P
