-- by a program (wip/tools: a turned copy of the kit's print): not trusted: Lean checks it
import Derived.Test.YtjpifknencfipaaDoorP
import Derived.Test.YtjpifknencfipaaDoorP24
import Derived.Test.YtjpifknencfipaaDoorP25
import Derived.Test.YtjpifknencfipaaDoorP28
import Derived.Test.YtjpifknencfipaaDoorE26
import Derived.Test.YtjpifknencfipaaDoorE31
import Derived.Test.YtjpifknencfipaaDoorP32
import Derived.Test.YtjpifknencfipaaDoorP33
namespace Go.Proofs.YtjpifknencfipaaDoor.P
open Go.RowKit Go.Proofs.YtjpifknencfipaaDoorW.PrintWords Go.Proofs.YtjpifknencfipaaDoorW.PrintLast Go.Proofs.YtjpifknencfipaaDoorW.PrintMore
attribute [local go_sem] max2_int min2_int max_two min_two max_three min_three max_four min_four   -- for this text's walks alone
set_option linter.unusedVariables false
set_option linter.unusedSimpArgs false

/-! ### gutterlaw15_BalanceLeast: function 4 -/
mutual
def gutterlaw15_BalanceLeast.j0 : Nat → List (S32) → Int → Bool → Int → Int → Bool → Option (Bool)
  | 0, _, _, _, _, _, _ => none
  | k + 1, x0, x1, x7, x8, x11, x39 => if x39 = true then (if x7 = true then (if x11 = 0 then ((gutterref13_High.f k x0).bind fun t179 => (some (x8 == t179))) else (some true)) else (some false)) else ((balance_Target.f x0 x1).bind fun bt180 => ((gutterref14_Heights.f x0).bind fun bt182 => ((gutterref14_Tallest.f k x0).bind fun t186 => (if bt182.1.length < 17592186044416 then (gutterlaw15_BalanceLeast.l0 k x0 x7 x8 bt180.1 bt180.2 (bt182.1 ++ [t186]) bt182.2 t186 0) else (none)))))
def gutterlaw15_BalanceLeast.l0 : Nat → List (S32) → Bool → Int → Int → Int → List Int → Int → Int → Int → Option (Bool)
  | 0, _, _, _, _, _, _, _, _, _ => none
  | k + 1, x0, x7, x8, x12, x13, x14, x15, x16, x17 => if x17 < (x14.length : Int) then (if 0 ≤ x17 then ((fill_Cols.f x0 (rd x14 x17)).bind fun bt191 => (if bt191.2 = 0 then (if (rd x14 x17) ≥ x16 then (if (rd x14 x17) < x8 then (if bt191.1 ≤ x12 then (some false) else (gutterlaw15_BalanceLeast.l0 k x0 x7 x8 x12 x13 x14 x15 x16 (wrap64 (x17 + 1)))) else (gutterlaw15_BalanceLeast.l0 k x0 x7 x8 x12 x13 x14 x15 x16 (wrap64 (x17 + 1)))) else (gutterlaw15_BalanceLeast.l0 k x0 x7 x8 x12 x13 x14 x15 x16 (wrap64 (x17 + 1)))) else (some false))) else (none)) else ((fill_Cols.f x0 x8).bind fun bt195 => (if x7 = true then (if x13 = 0 then (if x15 = 0 then (if bt195.2 = 0 then (if bt195.1 ≤ x12 then (some (decide (x8 ≥ x16))) else (some false)) else (some false)) else (some false)) else (some false)) else (some false)))
end
def gutterlaw15_BalanceLeast.f (k : Nat) (l0 : List (S32)) (a1 : Int) (a2 : Int) : Option (Bool) := (gutterlaw15_shown.f).bind fun t171 => ((gutterlaw15_few.f l0).bind fun t172 => ((balance_Least.f t172 a1 a2).bind fun bt175 => (if bt175.2.2.2 = 0 then (gutterlaw15_BalanceLeast.j0 k t172 a1 t171 bt175.1 bt175.2.2.2 (!bt175.2.2.1)) else (gutterlaw15_BalanceLeast.j0 k t172 a1 t171 bt175.1 bt175.2.2.2 true))))
theorem gutterlaw15_BalanceLeast.mono_l : ∀ k, (∀ y0 y1 y2 y3 y4 y5, LeO (gutterlaw15_BalanceLeast.j0 k y0 y1 y2 y3 y4 y5) (gutterlaw15_BalanceLeast.j0 (k + 1) y0 y1 y2 y3 y4 y5)) ∧ (∀ y0 y1 y2 y3 y4 y5 y6 y7 y8, LeO (gutterlaw15_BalanceLeast.l0 k y0 y1 y2 y3 y4 y5 y6 y7 y8) (gutterlaw15_BalanceLeast.l0 (k + 1) y0 y1 y2 y3 y4 y5 y6 y7 y8))
  | 0 => ⟨fun _ _ _ _ _ _ r h => by simp [gutterlaw15_BalanceLeast.j0] at h, fun _ _ _ _ _ _ _ _ _ r h => by simp [gutterlaw15_BalanceLeast.l0] at h⟩
  | k + 1 => by
    obtain ⟨ih0, ih1⟩ := gutterlaw15_BalanceLeast.mono_l k
    refine ⟨?_, ?_⟩
    · intro y0 y1 y2 y3 y4 y5
      unfold gutterlaw15_BalanceLeast.j0
      repeat' first
      | (with_reducible exact ih0 _ _ _ _ _ _)
      | (with_reducible exact ih1 _ _ _ _ _ _ _ _ _)
      | (with_reducible exact gutterref13_High.mono _ _)
      | (with_reducible exact gutterref14_Tallest.mono _ _)
      | (with_reducible exact LeO.refl _)
      | (with_reducible exact LeO.none _)
      | (with_reducible refine LeO.ite ?_ ?_)
      | (with_reducible refine LeO.bind ?_ (fun _ => ?_))
      | exact ih0 _ _ _ _ _ _
      | exact ih1 _ _ _ _ _ _ _ _ _
      | exact gutterref13_High.mono _ _
      | exact gutterref14_Tallest.mono _ _
      | exact LeO.none _
      | refine LeO.ite ?_ ?_
      | refine LeO.bind ?_ (fun _ => ?_)
    · intro y0 y1 y2 y3 y4 y5 y6 y7 y8
      unfold gutterlaw15_BalanceLeast.l0
      repeat' first
      | (with_reducible exact ih0 _ _ _ _ _ _)
      | (with_reducible exact ih1 _ _ _ _ _ _ _ _ _)
      | (with_reducible exact gutterref13_High.mono _ _)
      | (with_reducible exact gutterref14_Tallest.mono _ _)
      | (with_reducible exact LeO.refl _)
      | (with_reducible exact LeO.none _)
      | (with_reducible refine LeO.ite ?_ ?_)
      | (with_reducible refine LeO.bind ?_ (fun _ => ?_))
      | exact ih0 _ _ _ _ _ _
      | exact ih1 _ _ _ _ _ _ _ _ _
      | exact gutterref13_High.mono _ _
      | exact gutterref14_Tallest.mono _ _
      | exact LeO.none _
      | refine LeO.ite ?_ ?_
      | refine LeO.bind ?_ (fun _ => ?_)
theorem gutterlaw15_BalanceLeast.mono : ∀ a0 a1 a2 k, LeO (gutterlaw15_BalanceLeast.f k a0 a1 a2) (gutterlaw15_BalanceLeast.f (k + 1) a0 a1 a2) := by
  intro a0 a1 a2 k
  obtain ⟨ih0, ih1⟩ := gutterlaw15_BalanceLeast.mono_l k
  unfold gutterlaw15_BalanceLeast.f
  repeat' first
      | (with_reducible exact ih0 _ _ _ _ _ _)
      | (with_reducible exact ih1 _ _ _ _ _ _ _ _ _)
      | (with_reducible exact gutterref13_High.mono _ _)
      | (with_reducible exact gutterref14_Tallest.mono _ _)
      | (with_reducible exact LeO.refl _)
      | (with_reducible exact LeO.none _)
      | (with_reducible refine LeO.ite ?_ ?_)
      | (with_reducible refine LeO.bind ?_ (fun _ => ?_))
      | exact ih0 _ _ _ _ _ _
      | exact ih1 _ _ _ _ _ _ _ _ _
      | exact gutterref13_High.mono _ _
      | exact gutterref14_Tallest.mono _ _
      | exact LeO.none _
      | refine LeO.ite ?_ ?_
      | refine LeO.bind ?_ (fun _ => ?_)
set_option maxHeartbeats 8000000 in
set_option maxRecDepth 100000 in
theorem gutterlaw15_BalanceLeast.calls (k : Nat) (A0 : Option Addr) (c0 : Nat) (l0 : List (S32)) (a1 : Int) (a2 : Int) (r : Bool) (w : World) (hr0 : Kd.C k32 w A0 l0.length l0) (hc0 : l0.length ≤ c0) (hG : Gl 2 w) (h : gutterlaw15_BalanceLeast.f k l0 a1 a2 = some r) :
    Calls Tryd.prog 4 #[.slice A0 l0.length c0, .int .i64 a1, .int .i64 a2] w fun e w' => e = .returned (.bool r) ∧ Below w.heap.size w w' := by
  have HR0 := Aside0.mk hr0
  have HC0 := Aside0.mk hc0
  clear hr0 hc0
  have HG := Aside0.mk hG
  clear hG
  have HB := Aside0.mk (Below.refl w.heap.size w)
  have H : ((gutterlaw15_shown.f).bind fun t171 => ((gutterlaw15_few.f l0).bind fun t172 => ((balance_Least.f t172 a1 a2).bind fun bt175 => (if bt175.2.2.2 = 0 then (gutterlaw15_BalanceLeast.j0 k t172 a1 t171 bt175.1 bt175.2.2.2 (!bt175.2.2.1)) else (gutterlaw15_BalanceLeast.j0 k t172 a1 t171 bt175.1 bt175.2.2.2 true))))) = some r := h
  clear h
  replace H := Option.bind_eq_some_iff.mp H
  obtain ⟨t171, A40, H⟩ := H
  replace H : ((gutterlaw15_few.f l0).bind fun t172 => ((balance_Least.f t172 a1 a2).bind fun bt175 => (if bt175.2.2.2 = 0 then (gutterlaw15_BalanceLeast.j0 k t172 a1 t171 bt175.1 bt175.2.2.2 (!bt175.2.2.1)) else (gutterlaw15_BalanceLeast.j0 k t172 a1 t171 bt175.1 bt175.2.2.2 true)))) = some r := H
  have A4 := Aside0.mk A40
  clear A40
  replace H := Option.bind_eq_some_iff.mp H
  obtain ⟨t172, A50, H⟩ := H
  replace H : ((balance_Least.f t172 a1 a2).bind fun bt175 => (if bt175.2.2.2 = 0 then (gutterlaw15_BalanceLeast.j0 k t172 a1 t171 bt175.1 bt175.2.2.2 (!bt175.2.2.1)) else (gutterlaw15_BalanceLeast.j0 k t172 a1 t171 bt175.1 bt175.2.2.2 true))) = some r := H
  have A5 := Aside0.mk A50
  clear A50
  replace H := Option.bind_eq_some_iff.mp H
  obtain ⟨⟨t175, t176, t177, t178⟩, A60, H⟩ := H
  replace H : (if t178 = 0 then (gutterlaw15_BalanceLeast.j0 k t172 a1 t171 t175 t178 (!t177)) else (gutterlaw15_BalanceLeast.j0 k t172 a1 t171 t175 t178 true)) = some r := H
  have A6 := Aside0.mk A60
  clear A60
  have HC7 := Aside0.mk H
  clear H
  go_enter Tryd.func4, Tryd.ntmps4
  go_upto_region 4 with (first | ((with_reducible refine gate_callee (f := 24) rfl ?_); refine goesL_ (some 22) rfl rfl Tryd.func24 (by kernel_rfl) rfl #[] rfl (by (try simp only [List.map_toArray, List.map_cons, List.map_nil]); first | done | rfl | (simp only [List.length_drop, List.length_take]; rfl)) ?_; (with_reducible refine (gutterlaw15_shown.calls  t171 _ ?side1 A4.out).mono ?_); (case side1 => exact (Gl.of_below HG.out (by repeat (first | (with_reducible first | exact HB.out | apply below_alloc | apply pw_below_drewN | apply below_drew1) | exact HB.out))).le (by decide)); rintro e w8 ⟨rfl, hb⟩; refine ⟨_, rfl, ?_⟩; have n0_ := Aside0.mk (below_step (by repeat (first | (with_reducible first | exact HB.out | apply below_alloc | apply pw_below_drewN | apply below_drew1) | exact HB.out)) hb); clear HB; have HB := n0_; clear n0_; (try clear hb); (try clear hb2); (try clear hk); (try clear hi)) | ((with_reducible refine gate_callee (f := 25) rfl ?_); refine goesL_ (some 24) rfl rfl Tryd.func25 (by kernel_rfl) rfl #[.slice A0 l0.length c0] rfl (by (try simp only [List.map_toArray, List.map_cons, List.map_nil]); first | done | rfl | (simp only [List.length_drop, List.length_take]; rfl)) ?_; (with_reducible refine (gutterlaw15_few.calls _ _ l0 t172 _ ?side1 ?side2 A5.out).mono ?_); (case side1 => repeat (first | exact (Kd.C_below HR0.out HB.out) | (with_reducible refine Kd.C_alloc ?_ _) | (with_reducible refine Kd.C_drewN ?_ _) | (with_reducible refine Kd.C_drew ?_))); (case side2 => exact HC0.out); rintro e w9 ⟨v173, rfl, ho0, hb⟩; refine ⟨_, rfl, ?_⟩; have n0_ := Aside0.mk (Kd.R_lower ho0 (below_size (by repeat (first | (with_reducible first | exact HB.out | apply below_alloc | apply pw_below_drewN | apply below_drew1) | exact HB.out)))); have n1_ := Aside0.mk (below_step (by repeat (first | (with_reducible first | exact HB.out | apply below_alloc | apply pw_below_drewN | apply below_drew1) | exact HB.out)) hb); clear HB; have HO174 := n0_; have HB := n1_; clear n0_ n1_; (try clear hb); (try clear hb2); (try clear hk); (try clear hi); (try clear ho0); obtain ⟨Ao10, co10, eo10⟩ := Kd.R_slice HO174.out; subst eo10) | ((with_reducible refine gate_callee (f := 29) rfl ?_); refine goesL_ (some 29) rfl rfl Tryd.func29 (by kernel_rfl) rfl #[.slice Ao10 t172.length co10, .int .i64 a1, .int .i64 a2] rfl (by (try simp only [List.map_toArray, List.map_cons, List.map_nil]); first | done | rfl | (simp only [List.length_drop, List.length_take]; rfl)) ?_; (with_reducible refine (balance_Least.calls _ _ t172 a1 a2 t175 t176 t177 t178 _ ?side1 ?side2 ?side3 A6.out).mono ?_); (case side1 => repeat (first | exact (Kd.R_reads' HO174.out).2.2 | (with_reducible refine Kd.C_alloc ?_ _) | (with_reducible refine Kd.C_drewN ?_ _) | (with_reducible refine Kd.C_drew ?_))); (case side2 => exact (Kd.R_reads' HO174.out).2.1); (case side3 => exact (Gl.of_below HG.out (by repeat (first | (with_reducible first | exact HB.out | apply below_alloc | apply pw_below_drewN | apply below_drew1) | exact HB.out))).le (by decide)); rintro e w11 ⟨rfl, hb⟩; refine ⟨_, rfl, ?_⟩; have n0_ := Aside0.mk (Kd.R_below (by (with_reducible repeat (first | apply Kd.R_alloc | apply Kd.R_drewN | apply Kd.R_drew)); exact HO174.out) hb); have n1_ := Aside0.mk (below_step (by repeat (first | (with_reducible first | exact HB.out | apply below_alloc | apply pw_below_drewN | apply below_drew1) | exact HB.out)) hb); clear HO174; clear HB; have HO174 := n0_; have HB := n1_; clear n0_ n1_; (try clear hb); (try clear hb2); (try clear hk); (try clear hi)))
  (try simp only [Act.put, List.setIfInBounds_toArray, List.set_cons_zero, List.set_cons_succ])
  go_cut [39] (fun v39 wc => ∃ (kq : Nat) (x39_6 : Bool), v39 = .bool x39_6 ∧ Aside0 (gutterlaw15_BalanceLeast.j0 kq t172 a1 t171 t175 t178 x39_6 = some r) ∧ Aside0 (kq ≤ k) ∧ Aside0 (Kd.R k32 32 wc w.heap.size (fun _ => True) (.slice Ao10 t172.length co10) t172) ∧ Aside0 (Below w.heap.size w wc))
  case first =>
    have H := HC7.out
    clear HC7
    by_cases c12 : t178 = 0
    · rw [if_pos c12] at H
      have c12b0 : (t178 == 0) = true := beq_iff_eq.mpr c12
      have c12b1 : (t178 != 0) = false := bne_eq_false_iff_eq.mpr c12
      clear c12
      (first | rw [c12b0] | (simp only [i64_w, i32_w]; rw [c12b0]) | skip)
      have H' := Aside0.mk H
      clear H
      go_wp2
      go_meet
      case rel => exact ⟨_, (!t177), (by first | rfl | (simp; done) | (simp [*]; done)), H', ⟨by first | omega | exact Nat.le_refl _⟩, ⟨by (with_reducible repeat (first | apply Kd.R_alloc | apply Kd.R_drewN | apply Kd.R_drew)); exact HO174.out⟩, ⟨by repeat (first | (with_reducible first | exact HB.out | apply below_alloc | apply pw_below_drewN | apply below_drew1) | exact HB.out)⟩⟩
    · rw [if_neg c12] at H
      have c12b0 : (t178 == 0) = false := beq_eq_false_iff_ne.mpr c12
      have c12b1 : (t178 != 0) = true := bne_iff_ne.mpr c12
      (first | rw [c12b0] | (simp only [i64_w, i32_w]; rw [c12b0]) | skip)
      have H' := Aside0.mk H
      clear H
      go_wp2
      go_meet
      case rel => exact ⟨_, (true), (by first | rfl | (simp; done) | (simp [*]; done)), H', ⟨by first | omega | exact Nat.le_refl _⟩, ⟨by (with_reducible repeat (first | apply Kd.R_alloc | apply Kd.R_drewN | apply Kd.R_drew)); exact HO174.out⟩, ⟨by repeat (first | (with_reducible first | exact HB.out | apply below_alloc | apply pw_below_drewN | apply below_drew1) | exact HB.out)⟩⟩
  case rest =>
    clear HC7
    try clear c1
    try clear c2
    try clear p2
    try clear c4
    try clear c12
    try clear c12b0
    try clear c12b1
    obtain ⟨kq, x39_6, rfl, HA, HJ6, HO_0, HB⟩ := hcut
    cases kq with
    | zero => exact absurd HA.out (by simp [gutterlaw15_BalanceLeast.j0])
    | succ kj6 =>
      have H := HA.out
      clear HA
      simp only [gutterlaw15_BalanceLeast.j0] at H
      by_cases c13 : x39_6 = true
      · subst c13
        have H1 : (if t171 = true then (if t178 = 0 then ((gutterref13_High.f kj6 t172).bind fun t179 => (some (t175 == t179))) else (some true)) else (some false)) = some r := by rw [if_pos rfl] at H; exact H
        clear H
        have H := H1
        clear H1
        by_cases c14 : t171 = true
        · subst c14
          have H1 : (if t178 = 0 then ((gutterref13_High.f kj6 t172).bind fun t179 => (some (t175 == t179))) else (some true)) = some r := by rw [if_pos rfl] at H; exact H
          clear H
          have H := H1
          clear H1
          by_cases c15 : t178 = 0
          · rw [if_pos c15] at H
            have c15b0 : (t178 == 0) = true := beq_iff_eq.mpr c15
            have c15b1 : (t178 != 0) = false := bne_eq_false_iff_eq.mpr c15
            clear c15
            replace H := Option.bind_eq_some_iff.mp H
            obtain ⟨t179, A160, H⟩ := H
            replace H : (some (t175 == t179)) = some r := H
            have A16 := Aside0.mk A160
            clear A160
            obtain rfl := Option.some.inj H
            go_wp2_with (first | (go_at_call 28; (with_reducible refine (gutterref13_High.calls kj6 _ _ t172 t179 _ ?side1 ?side2 A16.out).mono ?_); (case side1 => repeat (first | exact (Kd.R_reads' HO_0.out).2.2 | (with_reducible refine Kd.C_alloc ?_ _) | (with_reducible refine Kd.C_drewN ?_ _) | (with_reducible refine Kd.C_drew ?_))); (case side2 => exact (Kd.R_reads' HO_0.out).2.1); rintro e w' ⟨rfl, ⟨nd, rfl⟩⟩))
            go_ret
            exact ⟨by first | rfl | (simp [errW_none, errW_some] <;> rfl) | (simp [*, errW_none, errW_some] <;> rfl), by repeat (first | (with_reducible first | exact HB.out | apply below_alloc | apply pw_below_drewN | apply below_drew1) | exact HB.out)⟩
          · rw [if_neg c15] at H
            have c15b0 : (t178 == 0) = false := beq_eq_false_iff_ne.mpr c15
            have c15b1 : (t178 != 0) = true := bne_iff_ne.mpr c15
            obtain rfl := Option.some.inj H
            go_wp2
            go_ret
            exact ⟨by first | rfl | (simp [errW_none, errW_some] <;> rfl) | (simp [*, errW_none, errW_some] <;> rfl), by repeat (first | (with_reducible first | exact HB.out | apply below_alloc | apply pw_below_drewN | apply below_drew1) | exact HB.out)⟩
        · replace c14 := Bool.eq_false_iff.mpr c14
          subst c14
          have H1 : (some false) = some r := by rw [if_neg (show ¬ (false = true) by decide)] at H; exact H
          clear H
          have H := H1
          clear H1
          obtain rfl := Option.some.inj H
          go_wp2
          go_ret
          exact ⟨by first | rfl | (simp [errW_none, errW_some] <;> rfl) | (simp [*, errW_none, errW_some] <;> rfl), by repeat (first | (with_reducible first | exact HB.out | apply below_alloc | apply pw_below_drewN | apply below_drew1) | exact HB.out)⟩
      · replace c13 := Bool.eq_false_iff.mpr c13
        subst c13
        have H1 : ((balance_Target.f t172 a1).bind fun bt180 => ((gutterref14_Heights.f t172).bind fun bt182 => ((gutterref14_Tallest.f kj6 t172).bind fun t186 => (if bt182.1.length < 17592186044416 then (gutterlaw15_BalanceLeast.l0 kj6 t172 t171 t175 bt180.1 bt180.2 (bt182.1 ++ [t186]) bt182.2 t186 0) else (none))))) = some r := by rw [if_neg (show ¬ (false = true) by decide)] at H; exact H
        clear H
        have H := H1
        clear H1
        replace H := Option.bind_eq_some_iff.mp H
        obtain ⟨⟨t180, t181⟩, A170, H⟩ := H
        replace H : ((gutterref14_Heights.f t172).bind fun bt182 => ((gutterref14_Tallest.f kj6 t172).bind fun t186 => (if bt182.1.length < 17592186044416 then (gutterlaw15_BalanceLeast.l0 kj6 t172 t171 t175 t180 t181 (bt182.1 ++ [t186]) bt182.2 t186 0) else (none)))) = some r := H
        have A17 := Aside0.mk A170
        clear A170
        replace H := Option.bind_eq_some_iff.mp H
        obtain ⟨⟨t182, t183⟩, A180, H⟩ := H
        replace H : ((gutterref14_Tallest.f kj6 t172).bind fun t186 => (if t182.length < 17592186044416 then (gutterlaw15_BalanceLeast.l0 kj6 t172 t171 t175 t180 t181 (t182 ++ [t186]) t183 t186 0) else (none))) = some r := H
        have A18 := Aside0.mk A180
        clear A180
        replace H := Option.bind_eq_some_iff.mp H
        obtain ⟨t186, A190, H⟩ := H
        replace H : (if t182.length < 17592186044416 then (gutterlaw15_BalanceLeast.l0 kj6 t172 t171 t175 t180 t181 (t182 ++ [t186]) t183 t186 0) else (none)) = some r := H
        have A19 := Aside0.mk A190
        clear A190
        by_cases c20 : t182.length < 17592186044416
        · rw [if_pos c20] at H
          have LMc20 := Aside0.mk c20
          clear c20
          obtain ⟨y187, hy187⟩ : ∃ y_ : List Int, y_ = (t182 ++ [t186]) := ⟨_, rfl⟩
          replace H : (gutterlaw15_BalanceLeast.l0 kj6 t172 t171 t175 t180 t181 y187 t183 t186 0) = some r := by first | (rw [hy187]; with_reducible exact H) | (have H2_ := (Option.bind_some _ _).symm.trans H; rw [hy187]; with_reducible exact H2_) | (have H2_ := (Option.bind_some _ _).symm.trans H; with_reducible exact H2_) | with_reducible exact H | (rw [hy187]; exact H) | exact H
          have Ny187 := Aside0.mk hy187
          clear hy187
          have H' := Aside0.mk H
          clear H
          go_wp2_with (first | ((with_reducible refine gate_callee (f := 30) rfl ?_); refine goesL_ (some 54) rfl rfl Tryd.func30 (by kernel_rfl) rfl #[.slice Ao10 t172.length co10, .int .i64 a1] rfl (by (try simp only [List.map_toArray, List.map_cons, List.map_nil]); first | done | rfl | (simp only [List.length_drop, List.length_take]; rfl)) ?_; (with_reducible refine (balance_Target.calls _ _ t172 a1 t180 t181 _ ?side1 ?side2 ?side3 A17.out).mono ?_); (case side1 => repeat (first | exact (Kd.R_reads' HO_0.out).2.2 | (with_reducible refine Kd.C_alloc ?_ _) | (with_reducible refine Kd.C_drewN ?_ _) | (with_reducible refine Kd.C_drew ?_))); (case side2 => exact (Kd.R_reads' HO_0.out).2.1); (case side3 => exact (Gl.of_below HG.out (by repeat (first | (with_reducible first | exact HB.out | apply below_alloc | apply pw_below_drewN | apply below_drew1) | exact HB.out))).le (by decide)); rintro e w21 ⟨rfl, hb⟩; refine ⟨_, rfl, ?_⟩; have n0_ := Aside0.mk (Kd.R_below (by (with_reducible repeat (first | apply Kd.R_alloc | apply Kd.R_drewN | apply Kd.R_drew)); exact HO_0.out) hb); have n1_ := Aside0.mk (below_step (by repeat (first | (with_reducible first | exact HB.out | apply below_alloc | apply pw_below_drewN | apply below_drew1) | exact HB.out)) hb); clear HO_0; clear HB; have HO_0 := n0_; have HB := n1_; clear n0_ n1_; (try clear hb); (try clear hb2); (try clear hk); (try clear hi)) | ((with_reducible refine gate_callee (f := 31) rfl ?_); refine goesL_ (some 59) rfl rfl Tryd.func31 (by kernel_rfl) rfl #[.slice Ao10 t172.length co10] rfl (by (try simp only [List.map_toArray, List.map_cons, List.map_nil]); first | done | rfl | (simp only [List.length_drop, List.length_take]; rfl)) ?_; (with_reducible refine (gutterref14_Heights.calls _ _ t172 t182 t183 _ ?side1 ?side2 A18.out).mono ?_); (case side1 => repeat (first | exact (Kd.R_reads' HO_0.out).2.2 | (with_reducible refine Kd.C_alloc ?_ _) | (with_reducible refine Kd.C_drewN ?_ _) | (with_reducible refine Kd.C_drew ?_))); (case side2 => exact (Kd.R_reads' HO_0.out).2.1); rintro e w22 ⟨v184, rfl, ho0, hb⟩; refine ⟨_, rfl, ?_⟩; have n0_ := Aside0.mk (Kd.R_below (by (with_reducible repeat (first | apply Kd.R_alloc | apply Kd.R_drewN | apply Kd.R_drew)); exact HO_0.out) hb); have n1_ := Aside0.mk (Kd.R_lower ho0 (below_size (by repeat (first | (with_reducible first | exact HB.out | apply below_alloc | apply pw_below_drewN | apply below_drew1) | exact HB.out)))); have n2_ := Aside0.mk (below_step (by repeat (first | (with_reducible first | exact HB.out | apply below_alloc | apply pw_below_drewN | apply below_drew1) | exact HB.out)) hb); clear HO_0; clear HB; have HO_0 := n0_; have HO185 := n1_; have HB := n2_; clear n0_ n1_ n2_; (try clear hb); (try clear hb2); (try clear hk); (try clear hi); (try clear ho0)) | ((with_reducible refine gate_callee (f := 32) rfl ?_); refine goesL_ (some 63) rfl rfl Tryd.func32 (by kernel_rfl) rfl #[.slice Ao10 t172.length co10] rfl (by (try simp only [List.map_toArray, List.map_cons, List.map_nil]); first | done | rfl | (simp only [List.length_drop, List.length_take]; rfl)) ?_; (with_reducible refine (gutterref14_Tallest.calls kj6 _ _ t172 t186 _ ?side1 ?side2 A19.out).mono ?_); (case side1 => repeat (first | exact (Kd.R_reads' HO_0.out).2.2 | (with_reducible refine Kd.C_alloc ?_ _) | (with_reducible refine Kd.C_drewN ?_ _) | (with_reducible refine Kd.C_drew ?_))); (case side2 => exact (Kd.R_reads' HO_0.out).2.1); rintro e w23 ⟨rfl, hb⟩; refine ⟨_, rfl, ?_⟩; have n0_ := Aside0.mk (Kd.R_below (by (with_reducible repeat (first | apply Kd.R_alloc | apply Kd.R_drewN | apply Kd.R_drew)); exact HO_0.out) hb); have n1_ := Aside0.mk (Kd.R_below (by (with_reducible repeat (first | apply Kd.R_alloc | apply Kd.R_drewN | apply Kd.R_drew)); exact HO185.out) hb); have n2_ := Aside0.mk (below_step (by repeat (first | (with_reducible first | exact HB.out | apply below_alloc | apply pw_below_drewN | apply below_drew1) | exact HB.out)) hb); clear HO_0; clear HO185; clear HB; have HO_0 := n0_; have HO185 := n1_; have HB := n2_; clear n0_ n1_ n2_; (try clear hb); (try clear hb2); (try clear hk); (try clear hi)) | ((with_reducible refine gate_builtin (b := .append) (xs := #[.tmp 64, .tmp 66]) rfl ?_); at_builtin; refine Kd.R_append (Kd.int .i64) (w0 := w) w.heap.size rfl (.tmp 64) (.tmp 66) 38 2 (.int .i64 0) 8 rfl Tryd.underlying38 info2 rfl (by decide) (by omega) v184 t182 t186 [.int .i64 t186] (fun _ => True) (fun _ => False) rfl rfl ?aP (fun _ hk => hk.elim) ?aF ?aO ?aB ?aS ?aL ?_; (case aP => exact rfl); (case aB => exact (by repeat (first | (with_reducible first | exact HB.out | apply below_alloc | apply pw_below_drewN | apply below_drew1) | exact HB.out))); (case aF => exact (fun _ _ => trivial)); (case aO => exact (by (with_reducible repeat (first | apply Kd.R_alloc | apply Kd.R_drewN | apply Kd.R_drew)); exact HO185.out)); (case aS => exact (below_size (by repeat (first | (with_reducible first | exact HB.out | apply below_alloc | apply pw_below_drewN | apply below_drew1) | exact HB.out)))); (case aL => have := LMc20.out; omega); intro v188 w24 ho hb hg hat; rw [← Ny187.out] at ho; have n0_ := Aside0.mk (Kd.R_over' (by (with_reducible repeat (first | apply Kd.R_alloc | apply Kd.R_drewN | apply Kd.R_drew)); exact HO_0.out) (Kd.R_typed (by (with_reducible repeat (first | apply Kd.R_alloc | apply Kd.R_drewN | apply Kd.R_drew)); exact HO185.out)) (by decide) hg); have n1_ := Aside0.mk (hb); have n2_ := Aside0.mk (ho); clear HO_0; clear HB; clear HO185; have HO_0 := n0_; have HB := n1_; have HO189 := n2_; clear n0_ n1_ n2_; clear ho hb hg hat))
          go_loopg [17] kj6 (fun kq v17 w' => ∃ (x17_2 : Int), v17 = .int .i64 x17_2 ∧ Aside0 (gutterlaw15_BalanceLeast.l0 kq t172 t171 t175 t180 t181 y187 t183 t186 x17_2 = some r) ∧ Aside0 (kq ≤ kj6) ∧ Aside0 (Kd.R k32 32 w' w.heap.size (fun _ => True) (.slice Ao10 t172.length co10) t172) ∧ Aside0 (Kd.R (Kd.int .i64) 2 w' w.heap.size (fun _ => True) v188 y187) ∧ Aside0 (Below w.heap.size w w'))
          case atStart => exact ⟨(0), (by first | rfl | (simp; done) | (simp [*]; done)), H', ⟨Nat.le_refl _⟩, ⟨by (with_reducible repeat (first | apply Kd.R_alloc | apply Kd.R_drewN | apply Kd.R_drew)); exact HO_0.out⟩, ⟨by (with_reducible repeat (first | apply Kd.R_alloc | apply Kd.R_drewN | apply Kd.R_drew)); exact HO189.out⟩, ⟨by repeat (first | (with_reducible first | exact HB.out | apply below_alloc | apply pw_below_drewN | apply below_drew1) | exact HB.out)⟩⟩
          case round =>
            clear H'
            try clear c1
            try clear c2
            try clear p2
            try clear c3
            try clear c4
            try clear c12
            try clear c12b0
            try clear c12b1
            try clear c13
            try clear c14
            try clear c15
            try clear c15b0
            try clear c15b1
            try clear c20
            try clear c24
            try clear p2
            obtain ⟨x17_2, rfl, HA, HK2, HO_0, HO_14, HB⟩ := hrel
            cases gk with
            | zero => exact absurd HA.out (by simp [gutterlaw15_BalanceLeast.l0])
            | succ k2 =>
              have H := HA.out
              clear HA
              simp only [gutterlaw15_BalanceLeast.l0] at H
              by_cases c25 : x17_2 < (y187.length : Int)
              · rw [if_pos c25] at H
                have c25b0 : decide (x17_2 < (y187.length : Int)) = true := decide_eq_true c25
                clear c25
                by_cases c26 : 0 ≤ x17_2
                · rw [if_pos c26] at H
                  have c26b0 : decide (0 ≤ x17_2) = true := decide_eq_true c26
                  clear c26
                  replace H := Option.bind_eq_some_iff.mp H
                  obtain ⟨⟨t191, t192⟩, A270, H⟩ := H
                  replace H : (if t192 = 0 then (if (rd y187 x17_2) ≥ t186 then (if (rd y187 x17_2) < t175 then (if t191 ≤ t180 then (some false) else (gutterlaw15_BalanceLeast.l0 k2 t172 t171 t175 t180 t181 y187 t183 t186 (wrap64 (x17_2 + 1)))) else (gutterlaw15_BalanceLeast.l0 k2 t172 t171 t175 t180 t181 y187 t183 t186 (wrap64 (x17_2 + 1)))) else (gutterlaw15_BalanceLeast.l0 k2 t172 t171 t175 t180 t181 y187 t183 t186 (wrap64 (x17_2 + 1)))) else (some false)) = some r := H
                  have A27 := Aside0.mk A270
                  clear A270
                  by_cases c28 : t192 = 0
                  · rw [if_pos c28] at H
                    have c28b0 : (t192 == 0) = true := beq_iff_eq.mpr c28
                    have c28b1 : (t192 != 0) = false := bne_eq_false_iff_eq.mpr c28
                    clear c28
                    by_cases c29 : (rd y187 x17_2) ≥ t186
                    · rw [if_pos c29] at H
                      have c29b0 : decide (t186 ≤ (rd y187 x17_2)) = true := decide_eq_true c29
                      clear c29
                      by_cases c30 : (rd y187 x17_2) < t175
                      · rw [if_pos c30] at H
                        have c30b0 : decide ((rd y187 x17_2) < t175) = true := decide_eq_true c30
                        clear c30
                        by_cases c31 : t191 ≤ t180
                        · rw [if_pos c31] at H
                          have c31b0 : decide (t191 ≤ t180) = true := decide_eq_true c31
                          clear c31
                          obtain rfl := Option.some.inj H
                          obtain ⟨Ao32, co32, eo32⟩ := Kd.R_slice HO_14.out
                          subst eo32
                          have p190 : 0 ≤ (x17_2 : Int) := of_decide_eq_true (by first | (with_reducible assumption) | assumption)
                          have q190 : x17_2 < (y187.length : Int) := of_decide_eq_true (by first | (with_reducible assumption) | assumption)
                          obtain ⟨ad190, e190, hx190_0⟩ := Kd.at_int (Kd.R_reads' HO_14.out).2.2 x17_2 p190 q190
                          cases e190
                          replace p190 := eq_true p190
                          replace q190 := eq_true q190
                          go_wp2_with (first | ((with_reducible refine gate_callee (f := 33) rfl ?_); refine goesL_ (some 80) rfl rfl Tryd.func33 (by kernel_rfl) rfl #[.slice Ao10 t172.length co10, .int .i64 (rd y187 x17_2)] rfl (by (try simp only [List.map_toArray, List.map_cons, List.map_nil]); first | done | rfl | (simp only [List.length_drop, List.length_take]; rfl)) ?_; (with_reducible refine (fill_Cols.calls _ _ t172 (rd y187 x17_2) t191 t192 _ ?side1 ?side2 ?side3 A27.out).mono ?_); (case side1 => repeat (first | exact (Kd.R_reads' HO_0.out).2.2 | (with_reducible refine Kd.C_alloc ?_ _) | (with_reducible refine Kd.C_drewN ?_ _) | (with_reducible refine Kd.C_drew ?_))); (case side2 => exact (Kd.R_reads' HO_0.out).2.1); (case side3 => exact (Gl.of_below HG.out (by repeat (first | (with_reducible first | exact HB.out | apply below_alloc | apply pw_below_drewN | apply below_drew1) | exact HB.out))).le (by decide)); rintro e w33 ⟨rfl, hb⟩; refine ⟨_, rfl, ?_⟩; have n0_ := Aside0.mk (Kd.R_below (by (with_reducible repeat (first | apply Kd.R_alloc | apply Kd.R_drewN | apply Kd.R_drew)); exact HO_0.out) hb); have n1_ := Aside0.mk (Kd.R_below (by (with_reducible repeat (first | apply Kd.R_alloc | apply Kd.R_drewN | apply Kd.R_drew)); exact HO_14.out) hb); have n2_ := Aside0.mk (below_step (by repeat (first | (with_reducible first | exact HB.out | apply below_alloc | apply pw_below_drewN | apply below_drew1) | exact HB.out)) hb); clear HO_0; clear HO_14; clear HB; have HO_0 := n0_; have HO_14 := n1_; have HB := n2_; clear n0_ n1_ n2_; (try clear hb); (try clear hb2); (try clear hk); (try clear hi); have p193 : 0 ≤ (x17_2 : Int) := of_decide_eq_true (by first | (with_reducible assumption) | assumption); have q193 : x17_2 < (y187.length : Int) := of_decide_eq_true (by first | (with_reducible assumption) | assumption); obtain ⟨ad193, e193, hx193_0⟩ := Kd.at_int (Kd.R_reads' HO_14.out).2.2 x17_2 p193 q193; obtain rfl : ad190 = ad193 := (by injection e193); replace p193 := eq_true p193; replace q193 := eq_true q193; have p194 : 0 ≤ (x17_2 : Int) := of_decide_eq_true (by first | (with_reducible assumption) | assumption); have q194 : x17_2 < (y187.length : Int) := of_decide_eq_true (by first | (with_reducible assumption) | assumption); obtain ⟨ad194, e194, hx194_0⟩ := Kd.at_int (Kd.R_reads' HO_14.out).2.2 x17_2 p194 q194; obtain rfl : ad190 = ad194 := (by injection e194); replace p194 := eq_true p194; replace q194 := eq_true q194))
                          go_ret
                          exact ⟨by first | rfl | (simp [errW_none, errW_some] <;> rfl) | (simp [*, errW_none, errW_some] <;> rfl), by repeat (first | (with_reducible first | exact HB.out | apply below_alloc | apply pw_below_drewN | apply below_drew1) | exact HB.out)⟩
                        · rw [if_neg c31] at H
                          have c31b0 : decide (t191 ≤ t180) = false := decide_eq_false c31
                          clear c31
                          have H' := Aside0.mk H
                          clear H
                          obtain ⟨Ao34, co34, eo34⟩ := Kd.R_slice HO_14.out
                          subst eo34
                          have p190 : 0 ≤ (x17_2 : Int) := of_decide_eq_true (by first | (with_reducible assumption) | assumption)
                          have q190 : x17_2 < (y187.length : Int) := of_decide_eq_true (by first | (with_reducible assumption) | assumption)
                          obtain ⟨ad190, e190, hx190_0⟩ := Kd.at_int (Kd.R_reads' HO_14.out).2.2 x17_2 p190 q190
                          cases e190
                          replace p190 := eq_true p190
                          replace q190 := eq_true q190
                          go_wp2_with (first | ((with_reducible refine gate_callee (f := 33) rfl ?_); refine goesL_ (some 80) rfl rfl Tryd.func33 (by kernel_rfl) rfl #[.slice Ao10 t172.length co10, .int .i64 (rd y187 x17_2)] rfl (by (try simp only [List.map_toArray, List.map_cons, List.map_nil]); first | done | rfl | (simp only [List.length_drop, List.length_take]; rfl)) ?_; (with_reducible refine (fill_Cols.calls _ _ t172 (rd y187 x17_2) t191 t192 _ ?side1 ?side2 ?side3 A27.out).mono ?_); (case side1 => repeat (first | exact (Kd.R_reads' HO_0.out).2.2 | (with_reducible refine Kd.C_alloc ?_ _) | (with_reducible refine Kd.C_drewN ?_ _) | (with_reducible refine Kd.C_drew ?_))); (case side2 => exact (Kd.R_reads' HO_0.out).2.1); (case side3 => exact (Gl.of_below HG.out (by repeat (first | (with_reducible first | exact HB.out | apply below_alloc | apply pw_below_drewN | apply below_drew1) | exact HB.out))).le (by decide)); rintro e w35 ⟨rfl, hb⟩; refine ⟨_, rfl, ?_⟩; have n0_ := Aside0.mk (Kd.R_below (by (with_reducible repeat (first | apply Kd.R_alloc | apply Kd.R_drewN | apply Kd.R_drew)); exact HO_0.out) hb); have n1_ := Aside0.mk (Kd.R_below (by (with_reducible repeat (first | apply Kd.R_alloc | apply Kd.R_drewN | apply Kd.R_drew)); exact HO_14.out) hb); have n2_ := Aside0.mk (below_step (by repeat (first | (with_reducible first | exact HB.out | apply below_alloc | apply pw_below_drewN | apply below_drew1) | exact HB.out)) hb); clear HO_0; clear HO_14; clear HB; have HO_0 := n0_; have HO_14 := n1_; have HB := n2_; clear n0_ n1_ n2_; (try clear hb); (try clear hb2); (try clear hk); (try clear hi); have p193 : 0 ≤ (x17_2 : Int) := of_decide_eq_true (by first | (with_reducible assumption) | assumption); have q193 : x17_2 < (y187.length : Int) := of_decide_eq_true (by first | (with_reducible assumption) | assumption); obtain ⟨ad193, e193, hx193_0⟩ := Kd.at_int (Kd.R_reads' HO_14.out).2.2 x17_2 p193 q193; obtain rfl : ad190 = ad193 := (by injection e193); replace p193 := eq_true p193; replace q193 := eq_true q193; have p194 : 0 ≤ (x17_2 : Int) := of_decide_eq_true (by first | (with_reducible assumption) | assumption); have q194 : x17_2 < (y187.length : Int) := of_decide_eq_true (by first | (with_reducible assumption) | assumption); obtain ⟨ad194, e194, hx194_0⟩ := Kd.at_int (Kd.R_reads' HO_14.out).2.2 x17_2 p194 q194; obtain rfl : ad190 = ad194 := (by injection e194); replace p194 := eq_true p194; replace q194 := eq_true q194))
                          go_roundg k2
                          case measure => have := HJ6.out; have := HK2.out; omega
                          case rel => exact ⟨(wrap64 (x17_2 + 1)), (by first | rfl | (simp; done) | (simp [*]; done)), H', ⟨by have := HJ6.out; have := HK2.out; omega⟩, ⟨by (with_reducible repeat (first | apply Kd.R_alloc | apply Kd.R_drewN | apply Kd.R_drew)); exact HO_0.out⟩, ⟨by (with_reducible repeat (first | apply Kd.R_alloc | apply Kd.R_drewN | apply Kd.R_drew)); exact HO_14.out⟩, ⟨by repeat (first | (with_reducible first | exact HB.out | apply below_alloc | apply pw_below_drewN | apply below_drew1) | exact HB.out)⟩⟩
                      · rw [if_neg c30] at H
                        have c30b0 : decide ((rd y187 x17_2) < t175) = false := decide_eq_false c30
                        clear c30
                        have H' := Aside0.mk H
                        clear H
                        obtain ⟨Ao36, co36, eo36⟩ := Kd.R_slice HO_14.out
                        subst eo36
                        have p190 : 0 ≤ (x17_2 : Int) := of_decide_eq_true (by first | (with_reducible assumption) | assumption)
                        have q190 : x17_2 < (y187.length : Int) := of_decide_eq_true (by first | (with_reducible assumption) | assumption)
                        obtain ⟨ad190, e190, hx190_0⟩ := Kd.at_int (Kd.R_reads' HO_14.out).2.2 x17_2 p190 q190
                        cases e190
                        replace p190 := eq_true p190
                        replace q190 := eq_true q190
                        go_wp2_with (first | ((with_reducible refine gate_callee (f := 33) rfl ?_); refine goesL_ (some 80) rfl rfl Tryd.func33 (by kernel_rfl) rfl #[.slice Ao10 t172.length co10, .int .i64 (rd y187 x17_2)] rfl (by (try simp only [List.map_toArray, List.map_cons, List.map_nil]); first | done | rfl | (simp only [List.length_drop, List.length_take]; rfl)) ?_; (with_reducible refine (fill_Cols.calls _ _ t172 (rd y187 x17_2) t191 t192 _ ?side1 ?side2 ?side3 A27.out).mono ?_); (case side1 => repeat (first | exact (Kd.R_reads' HO_0.out).2.2 | (with_reducible refine Kd.C_alloc ?_ _) | (with_reducible refine Kd.C_drewN ?_ _) | (with_reducible refine Kd.C_drew ?_))); (case side2 => exact (Kd.R_reads' HO_0.out).2.1); (case side3 => exact (Gl.of_below HG.out (by repeat (first | (with_reducible first | exact HB.out | apply below_alloc | apply pw_below_drewN | apply below_drew1) | exact HB.out))).le (by decide)); rintro e w37 ⟨rfl, hb⟩; refine ⟨_, rfl, ?_⟩; have n0_ := Aside0.mk (Kd.R_below (by (with_reducible repeat (first | apply Kd.R_alloc | apply Kd.R_drewN | apply Kd.R_drew)); exact HO_0.out) hb); have n1_ := Aside0.mk (Kd.R_below (by (with_reducible repeat (first | apply Kd.R_alloc | apply Kd.R_drewN | apply Kd.R_drew)); exact HO_14.out) hb); have n2_ := Aside0.mk (below_step (by repeat (first | (with_reducible first | exact HB.out | apply below_alloc | apply pw_below_drewN | apply below_drew1) | exact HB.out)) hb); clear HO_0; clear HO_14; clear HB; have HO_0 := n0_; have HO_14 := n1_; have HB := n2_; clear n0_ n1_ n2_; (try clear hb); (try clear hb2); (try clear hk); (try clear hi); have p193 : 0 ≤ (x17_2 : Int) := of_decide_eq_true (by first | (with_reducible assumption) | assumption); have q193 : x17_2 < (y187.length : Int) := of_decide_eq_true (by first | (with_reducible assumption) | assumption); obtain ⟨ad193, e193, hx193_0⟩ := Kd.at_int (Kd.R_reads' HO_14.out).2.2 x17_2 p193 q193; obtain rfl : ad190 = ad193 := (by injection e193); replace p193 := eq_true p193; replace q193 := eq_true q193; have p194 : 0 ≤ (x17_2 : Int) := of_decide_eq_true (by first | (with_reducible assumption) | assumption); have q194 : x17_2 < (y187.length : Int) := of_decide_eq_true (by first | (with_reducible assumption) | assumption); obtain ⟨ad194, e194, hx194_0⟩ := Kd.at_int (Kd.R_reads' HO_14.out).2.2 x17_2 p194 q194; obtain rfl : ad190 = ad194 := (by injection e194); replace p194 := eq_true p194; replace q194 := eq_true q194))
                        go_roundg k2
                        case measure => have := HJ6.out; have := HK2.out; omega
                        case rel => exact ⟨(wrap64 (x17_2 + 1)), (by first | rfl | (simp; done) | (simp [*]; done)), H', ⟨by have := HJ6.out; have := HK2.out; omega⟩, ⟨by (with_reducible repeat (first | apply Kd.R_alloc | apply Kd.R_drewN | apply Kd.R_drew)); exact HO_0.out⟩, ⟨by (with_reducible repeat (first | apply Kd.R_alloc | apply Kd.R_drewN | apply Kd.R_drew)); exact HO_14.out⟩, ⟨by repeat (first | (with_reducible first | exact HB.out | apply below_alloc | apply pw_below_drewN | apply below_drew1) | exact HB.out)⟩⟩
                    · rw [if_neg c29] at H
                      have c29b0 : decide (t186 ≤ (rd y187 x17_2)) = false := decide_eq_false c29
                      clear c29
                      have H' := Aside0.mk H
                      clear H
                      obtain ⟨Ao38, co38, eo38⟩ := Kd.R_slice HO_14.out
                      subst eo38
                      have p190 : 0 ≤ (x17_2 : Int) := of_decide_eq_true (by first | (with_reducible assumption) | assumption)
                      have q190 : x17_2 < (y187.length : Int) := of_decide_eq_true (by first | (with_reducible assumption) | assumption)
                      obtain ⟨ad190, e190, hx190_0⟩ := Kd.at_int (Kd.R_reads' HO_14.out).2.2 x17_2 p190 q190
                      cases e190
                      replace p190 := eq_true p190
                      replace q190 := eq_true q190
                      go_wp2_with (first | ((with_reducible refine gate_callee (f := 33) rfl ?_); refine goesL_ (some 80) rfl rfl Tryd.func33 (by kernel_rfl) rfl #[.slice Ao10 t172.length co10, .int .i64 (rd y187 x17_2)] rfl (by (try simp only [List.map_toArray, List.map_cons, List.map_nil]); first | done | rfl | (simp only [List.length_drop, List.length_take]; rfl)) ?_; (with_reducible refine (fill_Cols.calls _ _ t172 (rd y187 x17_2) t191 t192 _ ?side1 ?side2 ?side3 A27.out).mono ?_); (case side1 => repeat (first | exact (Kd.R_reads' HO_0.out).2.2 | (with_reducible refine Kd.C_alloc ?_ _) | (with_reducible refine Kd.C_drewN ?_ _) | (with_reducible refine Kd.C_drew ?_))); (case side2 => exact (Kd.R_reads' HO_0.out).2.1); (case side3 => exact (Gl.of_below HG.out (by repeat (first | (with_reducible first | exact HB.out | apply below_alloc | apply pw_below_drewN | apply below_drew1) | exact HB.out))).le (by decide)); rintro e w39 ⟨rfl, hb⟩; refine ⟨_, rfl, ?_⟩; have n0_ := Aside0.mk (Kd.R_below (by (with_reducible repeat (first | apply Kd.R_alloc | apply Kd.R_drewN | apply Kd.R_drew)); exact HO_0.out) hb); have n1_ := Aside0.mk (Kd.R_below (by (with_reducible repeat (first | apply Kd.R_alloc | apply Kd.R_drewN | apply Kd.R_drew)); exact HO_14.out) hb); have n2_ := Aside0.mk (below_step (by repeat (first | (with_reducible first | exact HB.out | apply below_alloc | apply pw_below_drewN | apply below_drew1) | exact HB.out)) hb); clear HO_0; clear HO_14; clear HB; have HO_0 := n0_; have HO_14 := n1_; have HB := n2_; clear n0_ n1_ n2_; (try clear hb); (try clear hb2); (try clear hk); (try clear hi); have p193 : 0 ≤ (x17_2 : Int) := of_decide_eq_true (by first | (with_reducible assumption) | assumption); have q193 : x17_2 < (y187.length : Int) := of_decide_eq_true (by first | (with_reducible assumption) | assumption); obtain ⟨ad193, e193, hx193_0⟩ := Kd.at_int (Kd.R_reads' HO_14.out).2.2 x17_2 p193 q193; obtain rfl : ad190 = ad193 := (by injection e193); replace p193 := eq_true p193; replace q193 := eq_true q193))
                      go_roundg k2
                      case measure => have := HJ6.out; have := HK2.out; omega
                      case rel => exact ⟨(wrap64 (x17_2 + 1)), (by first | rfl | (simp; done) | (simp [*]; done)), H', ⟨by have := HJ6.out; have := HK2.out; omega⟩, ⟨by (with_reducible repeat (first | apply Kd.R_alloc | apply Kd.R_drewN | apply Kd.R_drew)); exact HO_0.out⟩, ⟨by (with_reducible repeat (first | apply Kd.R_alloc | apply Kd.R_drewN | apply Kd.R_drew)); exact HO_14.out⟩, ⟨by repeat (first | (with_reducible first | exact HB.out | apply below_alloc | apply pw_below_drewN | apply below_drew1) | exact HB.out)⟩⟩
                  · rw [if_neg c28] at H
                    have c28b0 : (t192 == 0) = false := beq_eq_false_iff_ne.mpr c28
                    have c28b1 : (t192 != 0) = true := bne_iff_ne.mpr c28
                    obtain rfl := Option.some.inj H
                    obtain ⟨Ao40, co40, eo40⟩ := Kd.R_slice HO_14.out
                    subst eo40
                    have p190 : 0 ≤ (x17_2 : Int) := of_decide_eq_true (by first | (with_reducible assumption) | assumption)
                    have q190 : x17_2 < (y187.length : Int) := of_decide_eq_true (by first | (with_reducible assumption) | assumption)
                    obtain ⟨ad190, e190, hx190_0⟩ := Kd.at_int (Kd.R_reads' HO_14.out).2.2 x17_2 p190 q190
                    cases e190
                    replace p190 := eq_true p190
                    replace q190 := eq_true q190
                    go_wp2_with (first | ((with_reducible refine gate_callee (f := 33) rfl ?_); refine goesL_ (some 80) rfl rfl Tryd.func33 (by kernel_rfl) rfl #[.slice Ao10 t172.length co10, .int .i64 (rd y187 x17_2)] rfl (by (try simp only [List.map_toArray, List.map_cons, List.map_nil]); first | done | rfl | (simp only [List.length_drop, List.length_take]; rfl)) ?_; (with_reducible refine (fill_Cols.calls _ _ t172 (rd y187 x17_2) t191 t192 _ ?side1 ?side2 ?side3 A27.out).mono ?_); (case side1 => repeat (first | exact (Kd.R_reads' HO_0.out).2.2 | (with_reducible refine Kd.C_alloc ?_ _) | (with_reducible refine Kd.C_drewN ?_ _) | (with_reducible refine Kd.C_drew ?_))); (case side2 => exact (Kd.R_reads' HO_0.out).2.1); (case side3 => exact (Gl.of_below HG.out (by repeat (first | (with_reducible first | exact HB.out | apply below_alloc | apply pw_below_drewN | apply below_drew1) | exact HB.out))).le (by decide)); rintro e w41 ⟨rfl, hb⟩; refine ⟨_, rfl, ?_⟩; have n0_ := Aside0.mk (Kd.R_below (by (with_reducible repeat (first | apply Kd.R_alloc | apply Kd.R_drewN | apply Kd.R_drew)); exact HO_0.out) hb); have n1_ := Aside0.mk (Kd.R_below (by (with_reducible repeat (first | apply Kd.R_alloc | apply Kd.R_drewN | apply Kd.R_drew)); exact HO_14.out) hb); have n2_ := Aside0.mk (below_step (by repeat (first | (with_reducible first | exact HB.out | apply below_alloc | apply pw_below_drewN | apply below_drew1) | exact HB.out)) hb); clear HO_0; clear HO_14; clear HB; have HO_0 := n0_; have HO_14 := n1_; have HB := n2_; clear n0_ n1_ n2_; (try clear hb); (try clear hb2); (try clear hk); (try clear hi)))
                    go_ret
                    exact ⟨by first | rfl | (simp [errW_none, errW_some] <;> rfl) | (simp [*, errW_none, errW_some] <;> rfl), by repeat (first | (with_reducible first | exact HB.out | apply below_alloc | apply pw_below_drewN | apply below_drew1) | exact HB.out)⟩
                · rw [if_neg c26] at H
                  exact absurd H (by simp)
              · rw [if_neg c25] at H
                have c25b0 : decide (x17_2 < (y187.length : Int)) = false := decide_eq_false c25
                clear c25
                replace H := Option.bind_eq_some_iff.mp H
                obtain ⟨⟨t195, t196⟩, A420, H⟩ := H
                replace H : (if t171 = true then (if t181 = 0 then (if t183 = 0 then (if t196 = 0 then (if t195 ≤ t180 then (some (decide (t175 ≥ t186))) else (some false)) else (some false)) else (some false)) else (some false)) else (some false)) = some r := H
                have A42 := Aside0.mk A420
                clear A420
                by_cases c43 : t171 = true
                · subst c43
                  have H1 : (if t181 = 0 then (if t183 = 0 then (if t196 = 0 then (if t195 ≤ t180 then (some (decide (t175 ≥ t186))) else (some false)) else (some false)) else (some false)) else (some false)) = some r := by rw [if_pos rfl] at H; exact H
                  clear H
                  have H := H1
                  clear H1
                  by_cases c44 : t181 = 0
                  · rw [if_pos c44] at H
                    have c44b0 : (t181 == 0) = true := beq_iff_eq.mpr c44
                    have c44b1 : (t181 != 0) = false := bne_eq_false_iff_eq.mpr c44
                    clear c44
                    by_cases c45 : t183 = 0
                    · rw [if_pos c45] at H
                      have c45b0 : (t183 == 0) = true := beq_iff_eq.mpr c45
                      have c45b1 : (t183 != 0) = false := bne_eq_false_iff_eq.mpr c45
                      clear c45
                      by_cases c46 : t196 = 0
                      · rw [if_pos c46] at H
                        have c46b0 : (t196 == 0) = true := beq_iff_eq.mpr c46
                        have c46b1 : (t196 != 0) = false := bne_eq_false_iff_eq.mpr c46
                        clear c46
                        by_cases c47 : t195 ≤ t180
                        · rw [if_pos c47] at H
                          have c47b0 : decide (t195 ≤ t180) = true := decide_eq_true c47
                          clear c47
                          obtain rfl := Option.some.inj H
                          obtain ⟨Ao48, co48, eo48⟩ := Kd.R_slice HO_14.out
                          subst eo48
                          go_wp2_with (first | ((with_reducible refine gate_callee (f := 33) rfl ?_); refine goesL_ (some 109) rfl rfl Tryd.func33 (by kernel_rfl) rfl #[.slice Ao10 t172.length co10, .int .i64 t175] rfl (by (try simp only [List.map_toArray, List.map_cons, List.map_nil]); first | done | rfl | (simp only [List.length_drop, List.length_take]; rfl)) ?_; (with_reducible refine (fill_Cols.calls _ _ t172 t175 t195 t196 _ ?side1 ?side2 ?side3 A42.out).mono ?_); (case side1 => repeat (first | exact (Kd.R_reads' HO_0.out).2.2 | (with_reducible refine Kd.C_alloc ?_ _) | (with_reducible refine Kd.C_drewN ?_ _) | (with_reducible refine Kd.C_drew ?_))); (case side2 => exact (Kd.R_reads' HO_0.out).2.1); (case side3 => exact (Gl.of_below HG.out (by repeat (first | (with_reducible first | exact HB.out | apply below_alloc | apply pw_below_drewN | apply below_drew1) | exact HB.out))).le (by decide)); rintro e w49 ⟨rfl, hb⟩; refine ⟨_, rfl, ?_⟩; have n0_ := Aside0.mk (Kd.R_below (by (with_reducible repeat (first | apply Kd.R_alloc | apply Kd.R_drewN | apply Kd.R_drew)); exact HO_0.out) hb); have n1_ := Aside0.mk (Kd.R_below (by (with_reducible repeat (first | apply Kd.R_alloc | apply Kd.R_drewN | apply Kd.R_drew)); exact HO_14.out) hb); have n2_ := Aside0.mk (below_step (by repeat (first | (with_reducible first | exact HB.out | apply below_alloc | apply pw_below_drewN | apply below_drew1) | exact HB.out)) hb); clear HO_0; clear HO_14; clear HB; have HO_0 := n0_; have HO_14 := n1_; have HB := n2_; clear n0_ n1_ n2_; (try clear hb); (try clear hb2); (try clear hk); (try clear hi)))
                          go_ret
                          exact ⟨by first | rfl | (simp [errW_none, errW_some] <;> rfl) | (simp [*, errW_none, errW_some] <;> rfl), by repeat (first | (with_reducible first | exact HB.out | apply below_alloc | apply pw_below_drewN | apply below_drew1) | exact HB.out)⟩
                        · rw [if_neg c47] at H
                          have c47b0 : decide (t195 ≤ t180) = false := decide_eq_false c47
                          clear c47
                          obtain rfl := Option.some.inj H
                          obtain ⟨Ao50, co50, eo50⟩ := Kd.R_slice HO_14.out
                          subst eo50
                          go_wp2_with (first | ((with_reducible refine gate_callee (f := 33) rfl ?_); refine goesL_ (some 109) rfl rfl Tryd.func33 (by kernel_rfl) rfl #[.slice Ao10 t172.length co10, .int .i64 t175] rfl (by (try simp only [List.map_toArray, List.map_cons, List.map_nil]); first | done | rfl | (simp only [List.length_drop, List.length_take]; rfl)) ?_; (with_reducible refine (fill_Cols.calls _ _ t172 t175 t195 t196 _ ?side1 ?side2 ?side3 A42.out).mono ?_); (case side1 => repeat (first | exact (Kd.R_reads' HO_0.out).2.2 | (with_reducible refine Kd.C_alloc ?_ _) | (with_reducible refine Kd.C_drewN ?_ _) | (with_reducible refine Kd.C_drew ?_))); (case side2 => exact (Kd.R_reads' HO_0.out).2.1); (case side3 => exact (Gl.of_below HG.out (by repeat (first | (with_reducible first | exact HB.out | apply below_alloc | apply pw_below_drewN | apply below_drew1) | exact HB.out))).le (by decide)); rintro e w51 ⟨rfl, hb⟩; refine ⟨_, rfl, ?_⟩; have n0_ := Aside0.mk (Kd.R_below (by (with_reducible repeat (first | apply Kd.R_alloc | apply Kd.R_drewN | apply Kd.R_drew)); exact HO_0.out) hb); have n1_ := Aside0.mk (Kd.R_below (by (with_reducible repeat (first | apply Kd.R_alloc | apply Kd.R_drewN | apply Kd.R_drew)); exact HO_14.out) hb); have n2_ := Aside0.mk (below_step (by repeat (first | (with_reducible first | exact HB.out | apply below_alloc | apply pw_below_drewN | apply below_drew1) | exact HB.out)) hb); clear HO_0; clear HO_14; clear HB; have HO_0 := n0_; have HO_14 := n1_; have HB := n2_; clear n0_ n1_ n2_; (try clear hb); (try clear hb2); (try clear hk); (try clear hi)))
                          go_ret
                          exact ⟨by first | rfl | (simp [errW_none, errW_some] <;> rfl) | (simp [*, errW_none, errW_some] <;> rfl), by repeat (first | (with_reducible first | exact HB.out | apply below_alloc | apply pw_below_drewN | apply below_drew1) | exact HB.out)⟩
                      · rw [if_neg c46] at H
                        have c46b0 : (t196 == 0) = false := beq_eq_false_iff_ne.mpr c46
                        have c46b1 : (t196 != 0) = true := bne_iff_ne.mpr c46
                        obtain rfl := Option.some.inj H
                        obtain ⟨Ao52, co52, eo52⟩ := Kd.R_slice HO_14.out
                        subst eo52
                        go_wp2_with (first | ((with_reducible refine gate_callee (f := 33) rfl ?_); refine goesL_ (some 109) rfl rfl Tryd.func33 (by kernel_rfl) rfl #[.slice Ao10 t172.length co10, .int .i64 t175] rfl (by (try simp only [List.map_toArray, List.map_cons, List.map_nil]); first | done | rfl | (simp only [List.length_drop, List.length_take]; rfl)) ?_; (with_reducible refine (fill_Cols.calls _ _ t172 t175 t195 t196 _ ?side1 ?side2 ?side3 A42.out).mono ?_); (case side1 => repeat (first | exact (Kd.R_reads' HO_0.out).2.2 | (with_reducible refine Kd.C_alloc ?_ _) | (with_reducible refine Kd.C_drewN ?_ _) | (with_reducible refine Kd.C_drew ?_))); (case side2 => exact (Kd.R_reads' HO_0.out).2.1); (case side3 => exact (Gl.of_below HG.out (by repeat (first | (with_reducible first | exact HB.out | apply below_alloc | apply pw_below_drewN | apply below_drew1) | exact HB.out))).le (by decide)); rintro e w53 ⟨rfl, hb⟩; refine ⟨_, rfl, ?_⟩; have n0_ := Aside0.mk (Kd.R_below (by (with_reducible repeat (first | apply Kd.R_alloc | apply Kd.R_drewN | apply Kd.R_drew)); exact HO_0.out) hb); have n1_ := Aside0.mk (Kd.R_below (by (with_reducible repeat (first | apply Kd.R_alloc | apply Kd.R_drewN | apply Kd.R_drew)); exact HO_14.out) hb); have n2_ := Aside0.mk (below_step (by repeat (first | (with_reducible first | exact HB.out | apply below_alloc | apply pw_below_drewN | apply below_drew1) | exact HB.out)) hb); clear HO_0; clear HO_14; clear HB; have HO_0 := n0_; have HO_14 := n1_; have HB := n2_; clear n0_ n1_ n2_; (try clear hb); (try clear hb2); (try clear hk); (try clear hi)))
                        go_ret
                        exact ⟨by first | rfl | (simp [errW_none, errW_some] <;> rfl) | (simp [*, errW_none, errW_some] <;> rfl), by repeat (first | (with_reducible first | exact HB.out | apply below_alloc | apply pw_below_drewN | apply below_drew1) | exact HB.out)⟩
                    · rw [if_neg c45] at H
                      have c45b0 : (t183 == 0) = false := beq_eq_false_iff_ne.mpr c45
                      have c45b1 : (t183 != 0) = true := bne_iff_ne.mpr c45
                      obtain rfl := Option.some.inj H
                      obtain ⟨Ao54, co54, eo54⟩ := Kd.R_slice HO_14.out
                      subst eo54
                      go_wp2_with (first | ((with_reducible refine gate_callee (f := 33) rfl ?_); refine goesL_ (some 109) rfl rfl Tryd.func33 (by kernel_rfl) rfl #[.slice Ao10 t172.length co10, .int .i64 t175] rfl (by (try simp only [List.map_toArray, List.map_cons, List.map_nil]); first | done | rfl | (simp only [List.length_drop, List.length_take]; rfl)) ?_; (with_reducible refine (fill_Cols.calls _ _ t172 t175 t195 t196 _ ?side1 ?side2 ?side3 A42.out).mono ?_); (case side1 => repeat (first | exact (Kd.R_reads' HO_0.out).2.2 | (with_reducible refine Kd.C_alloc ?_ _) | (with_reducible refine Kd.C_drewN ?_ _) | (with_reducible refine Kd.C_drew ?_))); (case side2 => exact (Kd.R_reads' HO_0.out).2.1); (case side3 => exact (Gl.of_below HG.out (by repeat (first | (with_reducible first | exact HB.out | apply below_alloc | apply pw_below_drewN | apply below_drew1) | exact HB.out))).le (by decide)); rintro e w55 ⟨rfl, hb⟩; refine ⟨_, rfl, ?_⟩; have n0_ := Aside0.mk (Kd.R_below (by (with_reducible repeat (first | apply Kd.R_alloc | apply Kd.R_drewN | apply Kd.R_drew)); exact HO_0.out) hb); have n1_ := Aside0.mk (Kd.R_below (by (with_reducible repeat (first | apply Kd.R_alloc | apply Kd.R_drewN | apply Kd.R_drew)); exact HO_14.out) hb); have n2_ := Aside0.mk (below_step (by repeat (first | (with_reducible first | exact HB.out | apply below_alloc | apply pw_below_drewN | apply below_drew1) | exact HB.out)) hb); clear HO_0; clear HO_14; clear HB; have HO_0 := n0_; have HO_14 := n1_; have HB := n2_; clear n0_ n1_ n2_; (try clear hb); (try clear hb2); (try clear hk); (try clear hi)))
                      go_ret
                      exact ⟨by first | rfl | (simp [errW_none, errW_some] <;> rfl) | (simp [*, errW_none, errW_some] <;> rfl), by repeat (first | (with_reducible first | exact HB.out | apply below_alloc | apply pw_below_drewN | apply below_drew1) | exact HB.out)⟩
                  · rw [if_neg c44] at H
                    have c44b0 : (t181 == 0) = false := beq_eq_false_iff_ne.mpr c44
                    have c44b1 : (t181 != 0) = true := bne_iff_ne.mpr c44
                    obtain rfl := Option.some.inj H
                    obtain ⟨Ao56, co56, eo56⟩ := Kd.R_slice HO_14.out
                    subst eo56
                    go_wp2_with (first | ((with_reducible refine gate_callee (f := 33) rfl ?_); refine goesL_ (some 109) rfl rfl Tryd.func33 (by kernel_rfl) rfl #[.slice Ao10 t172.length co10, .int .i64 t175] rfl (by (try simp only [List.map_toArray, List.map_cons, List.map_nil]); first | done | rfl | (simp only [List.length_drop, List.length_take]; rfl)) ?_; (with_reducible refine (fill_Cols.calls _ _ t172 t175 t195 t196 _ ?side1 ?side2 ?side3 A42.out).mono ?_); (case side1 => repeat (first | exact (Kd.R_reads' HO_0.out).2.2 | (with_reducible refine Kd.C_alloc ?_ _) | (with_reducible refine Kd.C_drewN ?_ _) | (with_reducible refine Kd.C_drew ?_))); (case side2 => exact (Kd.R_reads' HO_0.out).2.1); (case side3 => exact (Gl.of_below HG.out (by repeat (first | (with_reducible first | exact HB.out | apply below_alloc | apply pw_below_drewN | apply below_drew1) | exact HB.out))).le (by decide)); rintro e w57 ⟨rfl, hb⟩; refine ⟨_, rfl, ?_⟩; have n0_ := Aside0.mk (Kd.R_below (by (with_reducible repeat (first | apply Kd.R_alloc | apply Kd.R_drewN | apply Kd.R_drew)); exact HO_0.out) hb); have n1_ := Aside0.mk (Kd.R_below (by (with_reducible repeat (first | apply Kd.R_alloc | apply Kd.R_drewN | apply Kd.R_drew)); exact HO_14.out) hb); have n2_ := Aside0.mk (below_step (by repeat (first | (with_reducible first | exact HB.out | apply below_alloc | apply pw_below_drewN | apply below_drew1) | exact HB.out)) hb); clear HO_0; clear HO_14; clear HB; have HO_0 := n0_; have HO_14 := n1_; have HB := n2_; clear n0_ n1_ n2_; (try clear hb); (try clear hb2); (try clear hk); (try clear hi)))
                    go_ret
                    exact ⟨by first | rfl | (simp [errW_none, errW_some] <;> rfl) | (simp [*, errW_none, errW_some] <;> rfl), by repeat (first | (with_reducible first | exact HB.out | apply below_alloc | apply pw_below_drewN | apply below_drew1) | exact HB.out)⟩
                · replace c43 := Bool.eq_false_iff.mpr c43
                  subst c43
                  have H1 : (some false) = some r := by rw [if_neg (show ¬ (false = true) by decide)] at H; exact H
                  clear H
                  have H := H1
                  clear H1
                  obtain rfl := Option.some.inj H
                  obtain ⟨Ao58, co58, eo58⟩ := Kd.R_slice HO_14.out
                  subst eo58
                  go_wp2_with (first | ((with_reducible refine gate_callee (f := 33) rfl ?_); refine goesL_ (some 109) rfl rfl Tryd.func33 (by kernel_rfl) rfl #[.slice Ao10 t172.length co10, .int .i64 t175] rfl (by (try simp only [List.map_toArray, List.map_cons, List.map_nil]); first | done | rfl | (simp only [List.length_drop, List.length_take]; rfl)) ?_; (with_reducible refine (fill_Cols.calls _ _ t172 t175 t195 t196 _ ?side1 ?side2 ?side3 A42.out).mono ?_); (case side1 => repeat (first | exact (Kd.R_reads' HO_0.out).2.2 | (with_reducible refine Kd.C_alloc ?_ _) | (with_reducible refine Kd.C_drewN ?_ _) | (with_reducible refine Kd.C_drew ?_))); (case side2 => exact (Kd.R_reads' HO_0.out).2.1); (case side3 => exact (Gl.of_below HG.out (by repeat (first | (with_reducible first | exact HB.out | apply below_alloc | apply pw_below_drewN | apply below_drew1) | exact HB.out))).le (by decide)); rintro e w59 ⟨rfl, hb⟩; refine ⟨_, rfl, ?_⟩; have n0_ := Aside0.mk (Kd.R_below (by (with_reducible repeat (first | apply Kd.R_alloc | apply Kd.R_drewN | apply Kd.R_drew)); exact HO_0.out) hb); have n1_ := Aside0.mk (Kd.R_below (by (with_reducible repeat (first | apply Kd.R_alloc | apply Kd.R_drewN | apply Kd.R_drew)); exact HO_14.out) hb); have n2_ := Aside0.mk (below_step (by repeat (first | (with_reducible first | exact HB.out | apply below_alloc | apply pw_below_drewN | apply below_drew1) | exact HB.out)) hb); clear HO_0; clear HO_14; clear HB; have HO_0 := n0_; have HO_14 := n1_; have HB := n2_; clear n0_ n1_ n2_; (try clear hb); (try clear hb2); (try clear hk); (try clear hi)))
                  go_ret
                  exact ⟨by first | rfl | (simp [errW_none, errW_some] <;> rfl) | (simp [*, errW_none, errW_some] <;> rfl), by repeat (first | (with_reducible first | exact HB.out | apply below_alloc | apply pw_below_drewN | apply below_drew1) | exact HB.out)⟩
        · rw [if_neg c20] at H
          exact absurd H (by simp)

end Go.Proofs.YtjpifknencfipaaDoor.P
