/-  -/
import Derived.Test.YtjpifknencfipaaDoorP
import Derived.Test.YtjpifknencfipaaDoorE82
import Derived.Test.YtjpifknencfipaaDoorP47
set_option linter.unusedVariables false
set_option linter.unusedSimpArgs false
-- by a program (wip/tools: a turned copy of the kit's print): not trusted: Lean checks it
namespace Go.Proofs.YtjpifknencfipaaDoor.P
open Go.RowKit Go.Proofs.YtjpifknencfipaaDoorW.PrintWords Go.Proofs.YtjpifknencfipaaDoorW.PrintLast Go.Proofs.YtjpifknencfipaaDoorW.PrintMore
attribute [local go_sem] max2_int min2_int max_two min_two max_three min_three max_four min_four   -- for this text's walks alone

/-! ### gutterlaw17_near: function 49 -/
def gutterlaw17_near.f (a0 : Int) : Option (Int) := some (mx (-1099511627776) (mn a0 1099511627776))
set_option maxHeartbeats 8000000 in
set_option maxRecDepth 100000 in
theorem gutterlaw17_near.calls (a0 : Int) (r : Int) (w : World) (h : gutterlaw17_near.f a0 = some r) :
    Calls Tryd.prog 49 #[.int .i64 a0] w fun e w' => e = .returned (.int .i64 r) ∧ Below w.heap.size w w' := by
  have HB := Aside0.mk (Below.refl w.heap.size w)
  have H : (some (mx (-1099511627776) (mn a0 1099511627776))) = some r := h
  clear h
  obtain ⟨ji2, hji2⟩ : ∃ j_ : Int, (mn a0 1099511627776) = j_ := ⟨_, rfl⟩
  replace H : (some (mx (-1099511627776) (ji2))) = some r := by first | (rw [hji2] at H; exact H) | (simp only [hji2] at H ⊢; exact H)
  (try (have hji2h : ji2 ≤ 1099511627776 := by (rw [← hji2]; unfold mn; (repeat' split) <;> omega)))
  (try (have hji2g : ji2 ≤ 64 := by omega))
  have hji2_ : (if 1099511627776 < a0 then 1099511627776 else a0) = ji2 := hji2
  obtain ⟨ji3, hji3⟩ : ∃ j_ : Int, (mx (-1099511627776) (ji2)) = j_ := ⟨_, rfl⟩
  replace H : (some ji3) = some r := by first | (rw [hji3] at H; exact H) | (simp only [hji3] at H ⊢; exact H)
  have hji3_ : (if (-1099511627776) < (ji2) then (ji2) else (-1099511627776)) = ji3 := hji3
  obtain rfl := Option.some.inj H
  go_enter Tryd.func49, Tryd.ntmps49
  go_wp2
  go_ret
  exact ⟨by first | rfl | (simp [errW_none, errW_some] <;> rfl) | (simp only [← hji2, ← hji3]; first | rfl | (simp [errW_none, errW_some] <;> rfl)) | (simp [*, errW_none, errW_some] <;> rfl), by repeat (first | (with_reducible first | exact HB.out | apply below_alloc | apply pw_below_drewN | apply below_drew1) | exact HB.out)⟩

end Go.Proofs.YtjpifknencfipaaDoor.P

-- by a program (wip/tools: a turned copy of the kit's print): not trusted: Lean checks it
namespace Go.Proofs.YtjpifknencfipaaDoor.P
open Go.RowKit Go.Proofs.YtjpifknencfipaaDoorW.PrintWords Go.Proofs.YtjpifknencfipaaDoorW.PrintLast Go.Proofs.YtjpifknencfipaaDoorW.PrintMore
attribute [local go_sem] max2_int min2_int max_two min_two max_three min_three max_four min_four   -- for this text's walks alone

/-! ### gutterlaw17_Pieces: function 46 -/
mutual
def gutterlaw17_Pieces.l0 : Nat → List (S58) → List (S58) → Int → Option ((List (S58)))
  | 0, _, _, _ => none
  | k + 1, x0, x3, x4 => if x4 < (x0.length : Int) then (gutterlaw17_Pieces.j1 k x0 x3 x4 (decide (x4 < 100))) else (gutterlaw17_Pieces.j1 k x0 x3 x4 false)
def gutterlaw17_Pieces.j1 : Nat → List (S58) → List (S58) → Int → Bool → Option ((List (S58)))
  | 0, _, _, _, _ => none
  | k + 1, x0, x3, x4, x13 => if x13 = true then (if 0 ≤ x4 then (if x4 < (x0.length : Int) then ((gutterlaw17_near.f ((rd_T58 x0 x4).f3.f0)).bind fun t489 => ((gutterlaw17_near.f ((rd_T58 x0 x4).f3.f1)).bind fun t490 => ((gutterlaw17_near.f ((rd_T58 x0 x4).f3.f2)).bind fun t491 => ((gutterlaw17_near.f ((rd_T58 x0 x4).f3.f3)).bind fun t492 => (if x3.length < 2513169434916 then (gutterlaw17_Pieces.l0 k x0 (x3 ++ [(⟨(rd_T58 x0 x4).f0, (rd_T58 x0 x4).f1, (rd_T58 x0 x4).f2, (⟨t489, t490, t491, t492⟩ : S56)⟩ : S58)]) (wrap64 (x4 + 1))) else (none)))))) else (none)) else (none)) else (some x3)
end
def gutterlaw17_Pieces.f (k : Nat) (l0 : List (S58)) : Option ((List (S58))) := gutterlaw17_Pieces.l0 k l0 ([] : List (S58)) 0
theorem gutterlaw17_Pieces.mono_l : ∀ k, (∀ y0 y1 y2, LeO (gutterlaw17_Pieces.l0 k y0 y1 y2) (gutterlaw17_Pieces.l0 (k + 1) y0 y1 y2)) ∧ (∀ y0 y1 y2 y3, LeO (gutterlaw17_Pieces.j1 k y0 y1 y2 y3) (gutterlaw17_Pieces.j1 (k + 1) y0 y1 y2 y3))
  | 0 => ⟨fun _ _ _ r h => by simp [gutterlaw17_Pieces.l0] at h, fun _ _ _ _ r h => by simp [gutterlaw17_Pieces.j1] at h⟩
  | k + 1 => by
    obtain ⟨ih0, ih1⟩ := gutterlaw17_Pieces.mono_l k
    refine ⟨?_, ?_⟩
    · intro y0 y1 y2
      unfold gutterlaw17_Pieces.l0
      repeat' first
      | (with_reducible exact ih0 _ _ _)
      | (with_reducible exact ih1 _ _ _ _)
      | (with_reducible exact LeO.refl _)
      | (with_reducible exact LeO.none _)
      | (with_reducible refine LeO.ite ?_ ?_)
      | (with_reducible refine LeO.bind ?_ (fun _ => ?_))
      | exact ih0 _ _ _
      | exact ih1 _ _ _ _
      | exact LeO.none _
      | refine LeO.ite ?_ ?_
      | refine LeO.bind ?_ (fun _ => ?_)
    · intro y0 y1 y2 y3
      unfold gutterlaw17_Pieces.j1
      repeat' first
      | (with_reducible exact ih0 _ _ _)
      | (with_reducible exact ih1 _ _ _ _)
      | (with_reducible exact LeO.refl _)
      | (with_reducible exact LeO.none _)
      | (with_reducible refine LeO.ite ?_ ?_)
      | (with_reducible refine LeO.bind ?_ (fun _ => ?_))
      | exact ih0 _ _ _
      | exact ih1 _ _ _ _
      | exact LeO.none _
      | refine LeO.ite ?_ ?_
      | refine LeO.bind ?_ (fun _ => ?_)
theorem gutterlaw17_Pieces.mono : ∀ a0 k, LeO (gutterlaw17_Pieces.f k a0) (gutterlaw17_Pieces.f (k + 1) a0) := by
  intro a0 k
  obtain ⟨ih0, ih1⟩ := gutterlaw17_Pieces.mono_l k
  unfold gutterlaw17_Pieces.f
  repeat' first
      | (with_reducible exact ih0 _ _ _)
      | (with_reducible exact ih1 _ _ _ _)
      | (with_reducible exact LeO.refl _)
      | (with_reducible exact LeO.none _)
      | (with_reducible refine LeO.ite ?_ ?_)
      | (with_reducible refine LeO.bind ?_ (fun _ => ?_))
      | exact ih0 _ _ _
      | exact ih1 _ _ _ _
      | exact LeO.none _
      | refine LeO.ite ?_ ?_
      | refine LeO.bind ?_ (fun _ => ?_)
def gutterlaw17_Pieces.T6 : Bool × List (List Nat × List Nat) := (true, [([], []), ([0], [0]), ([1], [1]), ([2], [2]), ([], []), ([4], [4]), ([5], [5]), ([6, 3], [6]), ([], []), ([8], [8]), ([9], [9]), ([10, 7], [10]), ([], []), ([12], [12]), ([13], [13]), ([14, 11], [14]), ([3, 7, 11, 15], [3, 7, 11, 15]), ([0, 1, 2, 3, 4, 5, 6, 7, 8, 9, 10, 11, 12, 13, 14, 15, 16], []), ([17, 16, 15, 0, 1, 2, 3, 4, 5, 6, 7, 8, 9, 10, 11, 12, 13, 14, 15, 16], [16, 17])])
def gutterlaw17_Pieces.B6 : List Nat := [0, 1, 3, 7, 0, 16, 48, 127, 0, 256, 768, 2047, 0, 4096, 12288, 32767, 65535, 131071, 262143]
theorem gutterlaw17_Pieces.tab6 : rtab .any (opsOf Tryd.f46 6) = gutterlaw17_Pieces.T6 := by kernel_rfl
theorem gutterlaw17_Pieces.bits6 : waitsOk gutterlaw17_Pieces.T6.2 gutterlaw17_Pieces.B6 = true := by kernel_rfl
set_option maxHeartbeats 8000000 in
set_option maxRecDepth 100000 in
theorem gutterlaw17_Pieces.calls (k : Nat) (A0 : Option Addr) (c0 : Nat) (l0 : List (S58)) (r : List (S58)) (w : World) (hr0 : Kd.C k58 w A0 l0.length l0) (hc0 : l0.length ≤ c0) (h : gutterlaw17_Pieces.f k l0 = some r) :
    Calls Tryd.prog 46 #[.slice A0 l0.length c0] w fun e w' => ∃ v0_ : Value, e = .returned (v0_) ∧ Kd.R k58 58 w' w.heap.size (fun _ => True) v0_ r ∧ Below w.heap.size w w' := by
  have hu58 := Tryd.underlying58
  have hu56 := Tryd.underlying56
  have HR0 := Aside0.mk hr0
  have HC0 := Aside0.mk hc0
  clear hr0 hc0
  have HB := Aside0.mk (Below.refl w.heap.size w)
  have H : (gutterlaw17_Pieces.l0 k l0 ([] : List (S58)) 0) = some r := h
  clear h
  have H' := Aside0.mk H
  clear H
  go_enter Tryd.func46, Tryd.ntmps46
  go_wp2
  go_loopg [3, 4] k (fun kq v3 v4 w' => ∃ (x3_1 : List (S58)) (x4_1 : Int), v4 = .int .i64 x4_1 ∧ Aside0 (gutterlaw17_Pieces.l0 kq l0 x3_1 x4_1 = some r) ∧ Aside0 (kq ≤ k) ∧ Aside0 (Kd.R k58 58 w' w.heap.size (fun _ => True) v3 x3_1) ∧ Aside0 (Below w.heap.size w w'))
  case atStart => exact ⟨(([] : List (S58))), (0), (by first | rfl | (simp; done) | (simp [*]; done)), H', ⟨Nat.le_refl _⟩, ⟨by first | exact Kd.R_nil _ _ _ _ _ | exact Kd.N_nil _ _ _ _ _ | exact Kd.V_nil _ _ _ _ _ | exact Kd.Q_nil _ _ _ _ _ | exact Kd.S_nil _ _ _ _ _⟩, ⟨by repeat (first | (with_reducible first | exact HB.out | apply below_alloc | apply pw_below_drewN | apply below_drew1) | exact HB.out)⟩⟩
  case round =>
    clear H'
    obtain ⟨x3_1, x4_1, rfl, HA, HK1, HO_3, HB⟩ := hrel
    cases gk with
    | zero => exact absurd HA.out (by simp [gutterlaw17_Pieces.l0])
    | succ k1 =>
      have H := HA.out
      clear HA
      simp only [gutterlaw17_Pieces.l0] at H
      have HC2 := Aside0.mk H
      clear H
      go_upto_region 3 with (fail)
      go_cut [13] (fun v13 wc => ∃ (kq : Nat) (x13_1 : Bool), v13 = .bool x13_1 ∧ Aside0 (gutterlaw17_Pieces.j1 kq l0 x3_1 x4_1 x13_1 = some r) ∧ Aside0 (kq ≤ k1) ∧ Aside0 (Kd.R k58 58 wc w.heap.size (fun _ => True) u3 x3_1) ∧ Aside0 (Below w.heap.size w wc))
      case first =>
        have H := HC2.out
        clear HC2
        by_cases c3 : x4_1 < (l0.length : Int)
        · rw [if_pos c3] at H
          have c3b0 : decide (x4_1 < (l0.length : Int)) = true := decide_eq_true c3
          clear c3
          (first | rw [c3b0] | (simp only [i64_w, i32_w]; rw [c3b0]) | skip)
          have H' := Aside0.mk H
          clear H
          go_wp2
          go_meet
          case rel => exact ⟨_, (decide (x4_1 < 100)), (by first | rfl | (simp; done) | (simp [*]; done)), H', ⟨by have := HK1.out; first | omega | exact Nat.le_refl _⟩, ⟨by (with_reducible repeat (first | apply Kd.R_alloc | apply Kd.R_drewN | apply Kd.R_drew)); exact HO_3.out⟩, ⟨by repeat (first | (with_reducible first | exact HB.out | apply below_alloc | apply pw_below_drewN | apply below_drew1) | exact HB.out)⟩⟩
        · rw [if_neg c3] at H
          have c3b0 : decide (x4_1 < (l0.length : Int)) = false := decide_eq_false c3
          clear c3
          (first | rw [c3b0] | (simp only [i64_w, i32_w]; rw [c3b0]) | skip)
          have H' := Aside0.mk H
          clear H
          go_wp2
          go_meet
          case rel => exact ⟨_, (false), (by first | rfl | (simp; done) | (simp [*]; done)), H', ⟨by have := HK1.out; first | omega | exact Nat.le_refl _⟩, ⟨by (with_reducible repeat (first | apply Kd.R_alloc | apply Kd.R_drewN | apply Kd.R_drew)); exact HO_3.out⟩, ⟨by repeat (first | (with_reducible first | exact HB.out | apply below_alloc | apply pw_below_drewN | apply below_drew1) | exact HB.out)⟩⟩
      case rest =>
        clear HC2
        try clear p2
        try clear c3
        try clear c3b0
        obtain ⟨kq, x13_1, rfl, HA, HJ1, HO_3, HB⟩ := hcut
        cases kq with
        | zero => exact absurd HA.out (by simp [gutterlaw17_Pieces.j1])
        | succ kj1 =>
          have H := HA.out
          clear HA
          simp only [gutterlaw17_Pieces.j1] at H
          by_cases c4 : x13_1 = true
          · subst c4
            have H1 : (if 0 ≤ x4_1 then (if x4_1 < (l0.length : Int) then ((gutterlaw17_near.f ((rd_T58 l0 x4_1).f3.f0)).bind fun t489 => ((gutterlaw17_near.f ((rd_T58 l0 x4_1).f3.f1)).bind fun t490 => ((gutterlaw17_near.f ((rd_T58 l0 x4_1).f3.f2)).bind fun t491 => ((gutterlaw17_near.f ((rd_T58 l0 x4_1).f3.f3)).bind fun t492 => (if x3_1.length < 2513169434916 then (gutterlaw17_Pieces.l0 kj1 l0 (x3_1 ++ [(⟨(rd_T58 l0 x4_1).f0, (rd_T58 l0 x4_1).f1, (rd_T58 l0 x4_1).f2, (⟨t489, t490, t491, t492⟩ : S56)⟩ : S58)]) (wrap64 (x4_1 + 1))) else (none)))))) else (none)) else (none)) = some r := by rw [if_pos rfl] at H; exact H
            clear H
            have H := H1
            clear H1
            by_cases c5 : 0 ≤ x4_1
            · rw [if_pos c5] at H
              have c5b0 : decide (0 ≤ x4_1) = true := decide_eq_true c5
              clear c5
              by_cases c6 : x4_1 < (l0.length : Int)
              · rw [if_pos c6] at H
                have c6b0 : decide (x4_1 < (l0.length : Int)) = true := decide_eq_true c6
                clear c6
                replace H := Option.bind_eq_some_iff.mp H
                obtain ⟨t489, A70, H⟩ := H
                replace H : ((gutterlaw17_near.f ((rd_T58 l0 x4_1).f3.f1)).bind fun t490 => ((gutterlaw17_near.f ((rd_T58 l0 x4_1).f3.f2)).bind fun t491 => ((gutterlaw17_near.f ((rd_T58 l0 x4_1).f3.f3)).bind fun t492 => (if x3_1.length < 2513169434916 then (gutterlaw17_Pieces.l0 kj1 l0 (x3_1 ++ [(⟨(rd_T58 l0 x4_1).f0, (rd_T58 l0 x4_1).f1, (rd_T58 l0 x4_1).f2, (⟨t489, t490, t491, t492⟩ : S56)⟩ : S58)]) (wrap64 (x4_1 + 1))) else (none))))) = some r := H
                have A7 := Aside0.mk A70
                clear A70
                replace H := Option.bind_eq_some_iff.mp H
                obtain ⟨t490, A80, H⟩ := H
                replace H : ((gutterlaw17_near.f ((rd_T58 l0 x4_1).f3.f2)).bind fun t491 => ((gutterlaw17_near.f ((rd_T58 l0 x4_1).f3.f3)).bind fun t492 => (if x3_1.length < 2513169434916 then (gutterlaw17_Pieces.l0 kj1 l0 (x3_1 ++ [(⟨(rd_T58 l0 x4_1).f0, (rd_T58 l0 x4_1).f1, (rd_T58 l0 x4_1).f2, (⟨t489, t490, t491, t492⟩ : S56)⟩ : S58)]) (wrap64 (x4_1 + 1))) else (none)))) = some r := H
                have A8 := Aside0.mk A80
                clear A80
                replace H := Option.bind_eq_some_iff.mp H
                obtain ⟨t491, A90, H⟩ := H
                replace H : ((gutterlaw17_near.f ((rd_T58 l0 x4_1).f3.f3)).bind fun t492 => (if x3_1.length < 2513169434916 then (gutterlaw17_Pieces.l0 kj1 l0 (x3_1 ++ [(⟨(rd_T58 l0 x4_1).f0, (rd_T58 l0 x4_1).f1, (rd_T58 l0 x4_1).f2, (⟨t489, t490, t491, t492⟩ : S56)⟩ : S58)]) (wrap64 (x4_1 + 1))) else (none))) = some r := H
                have A9 := Aside0.mk A90
                clear A90
                replace H := Option.bind_eq_some_iff.mp H
                obtain ⟨t492, A100, H⟩ := H
                replace H : (if x3_1.length < 2513169434916 then (gutterlaw17_Pieces.l0 kj1 l0 (x3_1 ++ [(⟨(rd_T58 l0 x4_1).f0, (rd_T58 l0 x4_1).f1, (rd_T58 l0 x4_1).f2, (⟨t489, t490, t491, t492⟩ : S56)⟩ : S58)]) (wrap64 (x4_1 + 1))) else (none)) = some r := H
                have A10 := Aside0.mk A100
                clear A100
                by_cases c11 : x3_1.length < 2513169434916
                · rw [if_pos c11] at H
                  have LMc11 := Aside0.mk c11
                  clear c11
                  obtain ⟨y493, hy493⟩ : ∃ y_ : List (S58), y_ = (x3_1 ++ [(⟨(rd_T58 l0 x4_1).f0, (rd_T58 l0 x4_1).f1, (rd_T58 l0 x4_1).f2, (⟨t489, t490, t491, t492⟩ : S56)⟩ : S58)]) := ⟨_, rfl⟩
                  replace H : (gutterlaw17_Pieces.l0 kj1 l0 y493 (wrap64 (x4_1 + 1))) = some r := by first | (rw [hy493]; with_reducible exact H) | (have H2_ := (Option.bind_some _ _).symm.trans H; rw [hy493]; with_reducible exact H2_) | (have H2_ := (Option.bind_some _ _).symm.trans H; with_reducible exact H2_) | with_reducible exact H | (rw [hy493]; exact H) | exact H
                  have Ny493 := Aside0.mk hy493
                  clear hy493
                  have H' := Aside0.mk H
                  clear H
                  have p487 : 0 ≤ (x4_1 : Int) := of_decide_eq_true (by first | (with_reducible assumption) | assumption)
                  have q487 : x4_1 < (l0.length : Int) := of_decide_eq_true (by first | (with_reducible assumption) | assumption)
                  obtain ⟨ad487, e487, hx487_0, hx487_1, hx487_2, hx487_3, hx487_4, hx487_5, hx487_6⟩ := at_T58 HR0.out x4_1 p487 q487
                  cases e487
                  replace hx487_0 := (HB.out.cell (World.block_lt_of_cell? w _ hx487_0)).trans hx487_0
                  replace hx487_1 := (HB.out.cell (World.block_lt_of_cell? w _ hx487_1)).trans hx487_1
                  replace hx487_2 := (HB.out.cell (World.block_lt_of_cell? w _ hx487_2)).trans hx487_2
                  replace hx487_3 := (HB.out.cell (World.block_lt_of_cell? w _ hx487_3)).trans hx487_3
                  replace hx487_4 := (HB.out.cell (World.block_lt_of_cell? w _ hx487_4)).trans hx487_4
                  replace hx487_5 := (HB.out.cell (World.block_lt_of_cell? w _ hx487_5)).trans hx487_5
                  replace hx487_6 := (HB.out.cell (World.block_lt_of_cell? w _ hx487_6)).trans hx487_6
                  replace p487 := eq_true p487
                  replace q487 := eq_true q487
                  try go_wp2_with (first | ((with_reducible refine gate_dst (N := 5) rfl ?_); refine box_event ?hg (N := 5) ?hd (cs := #[.int .i64 0, .int .i64 0, .int .i64 0, .int .i64 0, .int .i64 0, .int .i64 0, .int .i64 0]) (t := 58) ?hr ?_; (case hd => rfl); (case hg => rfl); (case hr => first | (go_simp; done) | (go_simp; rfl)); intro gb488 hg w12 hbox hb; have n0_ := Aside0.mk (Kd.R_below (Kd.R_elderB (by (with_reducible repeat (first | apply Kd.R_alloc | apply Kd.R_drewN | apply Kd.R_drew)); exact HO_3.out) gb488 (Nat.le_of_eq hg.symm)) hb); have n1_ := Aside0.mk (below_step (by repeat (first | (with_reducible first | exact HB.out | apply below_alloc | apply pw_below_drewN | apply below_drew1) | exact HB.out)) hb); have n2_ := Aside0.mk (hbox); have n3_ := Aside0.mk ((by rw [hg]; exact (below_size (by repeat (first | (with_reducible first | exact HB.out | apply below_alloc | apply pw_below_drewN | apply below_drew1) | exact HB.out))) : w.heap.size ≤ gb488)); have n4_ := Aside0.mk ((by rw [hg]; exact (below_size (by repeat (first | (with_reducible first | exact HB.out | apply below_alloc | apply pw_below_drewN | apply below_drew1) | exact HB.out))) : w.heap.size ≤ gb488)); clear HO_3; clear HB; have HO_3 := n0_; have HB := n1_; have BK488 := n2_; have GW488 := n3_; have GE488 := n4_; clear n0_ n1_ n2_ n3_ n4_; clear hb hbox hg; have hcz13_0 : w12.cell? ⟨gb488, 0, none⟩ = some (.int .i64 0) := (blk_cell BK488.out 0).trans rfl; have hcz13_1 : w12.cell? ⟨gb488, 1, none⟩ = some (.int .i64 0) := (blk_cell BK488.out 1).trans rfl; have hcz13_2 : w12.cell? ⟨gb488, 2, none⟩ = some (.int .i64 0) := (blk_cell BK488.out 2).trans rfl; have hcz13_3 : w12.cell? ⟨gb488, 3, none⟩ = some (.int .i64 0) := (blk_cell BK488.out 3).trans rfl; have hcz13_4 : w12.cell? ⟨gb488, 4, none⟩ = some (.int .i64 0) := (blk_cell BK488.out 4).trans rfl; have hcz13_5 : w12.cell? ⟨gb488, 5, none⟩ = some (.int .i64 0) := (blk_cell BK488.out 5).trans rfl; have hcz13_6 : w12.cell? ⟨gb488, 6, none⟩ = some (.int .i64 0) := (blk_cell BK488.out 6).trans rfl; have hfz13_0 := blk_frozen BK488.out 0; have hfz13_1 := blk_frozen BK488.out 1; have hfz13_2 := blk_frozen BK488.out 2; have hfz13_3 := blk_frozen BK488.out 3; have hfz13_4 := blk_frozen BK488.out 4; have hfz13_5 := blk_frozen BK488.out 5; have hfz13_6 := blk_frozen BK488.out 6))
                  have n0_ : Aside0 (Kd.R k58 58 (((((((w12.setCell ⟨gb488, 0, none⟩ (.int .i64 ((rd_T58 l0 x4_1).f0))).setCell ⟨gb488, 1, none⟩ (.int .i64 ((rd_T58 l0 x4_1).f1))).setCell ⟨gb488, 2, none⟩ (.int .i64 ((rd_T58 l0 x4_1).f2))).setCell ⟨gb488, 3, none⟩ (.int .i64 ((rd_T58 l0 x4_1).f3.f0))).setCell ⟨gb488, 4, none⟩ (.int .i64 ((rd_T58 l0 x4_1).f3.f1))).setCell ⟨gb488, 5, none⟩ (.int .i64 ((rd_T58 l0 x4_1).f3.f2))).setCell ⟨gb488, 6, none⟩ (.int .i64 ((rd_T58 l0 x4_1).f3.f3))) w.heap.size (fun k_ => k_ ≠ gb488) u3 x3_1) := ⟨by (with_reducible repeat (first | apply Kd.R_alloc | apply Kd.R_drewN | apply Kd.R_drew)); exact Kd.R_mono (Kd.R_far (p := ⟨gb488, 6, none⟩) (Kd.R_far (p := ⟨gb488, 5, none⟩) (Kd.R_far (p := ⟨gb488, 4, none⟩) (Kd.R_far (p := ⟨gb488, 3, none⟩) (Kd.R_far (p := ⟨gb488, 2, none⟩) (Kd.R_far (p := ⟨gb488, 1, none⟩) (Kd.R_far (p := ⟨gb488, 0, none⟩) (Kd.R_mono HO_3.out (fun k_ hk => (⟨hk, hk.2⟩ : _ ∧ k_ ≠ gb488))) (fun _ hk => hk.2) (.int .i64 ((rd_T58 l0 x4_1).f0))) (fun _ hk => hk.2) (.int .i64 ((rd_T58 l0 x4_1).f1))) (fun _ hk => hk.2) (.int .i64 ((rd_T58 l0 x4_1).f2))) (fun _ hk => hk.2) (.int .i64 ((rd_T58 l0 x4_1).f3.f0))) (fun _ hk => hk.2) (.int .i64 ((rd_T58 l0 x4_1).f3.f1))) (fun _ hk => hk.2) (.int .i64 ((rd_T58 l0 x4_1).f3.f2))) (fun _ hk => hk.2) (.int .i64 ((rd_T58 l0 x4_1).f3.f3))) (fun _ hk => hk.1.2)⟩
                  have n1_ : Aside0 ((((((((w12.setCell ⟨gb488, 0, none⟩ (.int .i64 ((rd_T58 l0 x4_1).f0))).setCell ⟨gb488, 1, none⟩ (.int .i64 ((rd_T58 l0 x4_1).f1))).setCell ⟨gb488, 2, none⟩ (.int .i64 ((rd_T58 l0 x4_1).f2))).setCell ⟨gb488, 3, none⟩ (.int .i64 ((rd_T58 l0 x4_1).f3.f0))).setCell ⟨gb488, 4, none⟩ (.int .i64 ((rd_T58 l0 x4_1).f3.f1))).setCell ⟨gb488, 5, none⟩ (.int .i64 ((rd_T58 l0 x4_1).f3.f2))).setCell ⟨gb488, 6, none⟩ (.int .i64 ((rd_T58 l0 x4_1).f3.f3))).heap[gb488]? = some (.cells #[.int .i64 ((rd_T58 l0 x4_1).f0), .int .i64 ((rd_T58 l0 x4_1).f1), .int .i64 ((rd_T58 l0 x4_1).f2), .int .i64 ((rd_T58 l0 x4_1).f3.f0), .int .i64 ((rd_T58 l0 x4_1).f3.f1), .int .i64 ((rd_T58 l0 x4_1).f3.f2), .int .i64 ((rd_T58 l0 x4_1).f3.f3)] 58 (0, 0))) := ⟨by (with_reducible repeat (first | refine blk_drewN ?_ _ | refine blk_drew ?_ | refine blk_alloc ?_ _)); refine blk_put (cs := #[.int .i64 ((rd_T58 l0 x4_1).f0), .int .i64 ((rd_T58 l0 x4_1).f1), .int .i64 ((rd_T58 l0 x4_1).f2), .int .i64 ((rd_T58 l0 x4_1).f3.f0), .int .i64 ((rd_T58 l0 x4_1).f3.f1), .int .i64 ((rd_T58 l0 x4_1).f3.f2), .int .i64 0]) ?_ 6 _ rfl; (with_reducible repeat (first | refine blk_drewN ?_ _ | refine blk_drew ?_ | refine blk_alloc ?_ _)); refine blk_put (cs := #[.int .i64 ((rd_T58 l0 x4_1).f0), .int .i64 ((rd_T58 l0 x4_1).f1), .int .i64 ((rd_T58 l0 x4_1).f2), .int .i64 ((rd_T58 l0 x4_1).f3.f0), .int .i64 ((rd_T58 l0 x4_1).f3.f1), .int .i64 0, .int .i64 0]) ?_ 5 _ rfl; (with_reducible repeat (first | refine blk_drewN ?_ _ | refine blk_drew ?_ | refine blk_alloc ?_ _)); refine blk_put (cs := #[.int .i64 ((rd_T58 l0 x4_1).f0), .int .i64 ((rd_T58 l0 x4_1).f1), .int .i64 ((rd_T58 l0 x4_1).f2), .int .i64 ((rd_T58 l0 x4_1).f3.f0), .int .i64 0, .int .i64 0, .int .i64 0]) ?_ 4 _ rfl; (with_reducible repeat (first | refine blk_drewN ?_ _ | refine blk_drew ?_ | refine blk_alloc ?_ _)); refine blk_put (cs := #[.int .i64 ((rd_T58 l0 x4_1).f0), .int .i64 ((rd_T58 l0 x4_1).f1), .int .i64 ((rd_T58 l0 x4_1).f2), .int .i64 0, .int .i64 0, .int .i64 0, .int .i64 0]) ?_ 3 _ rfl; (with_reducible repeat (first | refine blk_drewN ?_ _ | refine blk_drew ?_ | refine blk_alloc ?_ _)); refine blk_put (cs := #[.int .i64 ((rd_T58 l0 x4_1).f0), .int .i64 ((rd_T58 l0 x4_1).f1), .int .i64 0, .int .i64 0, .int .i64 0, .int .i64 0, .int .i64 0]) ?_ 2 _ rfl; (with_reducible repeat (first | refine blk_drewN ?_ _ | refine blk_drew ?_ | refine blk_alloc ?_ _)); refine blk_put (cs := #[.int .i64 ((rd_T58 l0 x4_1).f0), .int .i64 0, .int .i64 0, .int .i64 0, .int .i64 0, .int .i64 0, .int .i64 0]) ?_ 1 _ rfl; (with_reducible repeat (first | refine blk_drewN ?_ _ | refine blk_drew ?_ | refine blk_alloc ?_ _)); refine blk_put (cs := #[.int .i64 0, .int .i64 0, .int .i64 0, .int .i64 0, .int .i64 0, .int .i64 0, .int .i64 0]) ?_ 0 _ rfl; (with_reducible repeat (first | refine blk_drewN ?_ _ | refine blk_drew ?_ | refine blk_alloc ?_ _)); exact BK488.out⟩
                  have n2_ : Aside0 (Below w.heap.size w (((((((w12.setCell ⟨gb488, 0, none⟩ (.int .i64 ((rd_T58 l0 x4_1).f0))).setCell ⟨gb488, 1, none⟩ (.int .i64 ((rd_T58 l0 x4_1).f1))).setCell ⟨gb488, 2, none⟩ (.int .i64 ((rd_T58 l0 x4_1).f2))).setCell ⟨gb488, 3, none⟩ (.int .i64 ((rd_T58 l0 x4_1).f3.f0))).setCell ⟨gb488, 4, none⟩ (.int .i64 ((rd_T58 l0 x4_1).f3.f1))).setCell ⟨gb488, 5, none⟩ (.int .i64 ((rd_T58 l0 x4_1).f3.f2))).setCell ⟨gb488, 6, none⟩ (.int .i64 ((rd_T58 l0 x4_1).f3.f3)))) := ⟨by repeat (first | (with_reducible first | exact HB.out | apply below_alloc | apply pw_below_drewN | apply below_drew1 | refine below_set ?_ GE488.out) | exact HB.out)⟩
                  (try clear HO_3)
                  (try clear BK488)
                  (try clear HB)
                  generalize (((((((w12.setCell ⟨gb488, 0, none⟩ (.int .i64 ((rd_T58 l0 x4_1).f0))).setCell ⟨gb488, 1, none⟩ (.int .i64 ((rd_T58 l0 x4_1).f1))).setCell ⟨gb488, 2, none⟩ (.int .i64 ((rd_T58 l0 x4_1).f2))).setCell ⟨gb488, 3, none⟩ (.int .i64 ((rd_T58 l0 x4_1).f3.f0))).setCell ⟨gb488, 4, none⟩ (.int .i64 ((rd_T58 l0 x4_1).f3.f1))).setCell ⟨gb488, 5, none⟩ (.int .i64 ((rd_T58 l0 x4_1).f3.f2))).setCell ⟨gb488, 6, none⟩ (.int .i64 ((rd_T58 l0 x4_1).f3.f3))) = w14 at n0_ n1_ n2_ ⊢
                  have HO_3 := n0_
                  have BK488 := n1_
                  have HB := n2_
                  clear n0_ n1_ n2_
                  have n0_ := Aside0.mk (Kd.R_drew HO_3.out)
                  have n1_ := Aside0.mk (blk_drew BK488.out)
                  have n2_ := Aside0.mk (below_drew1 HB.out)
                  clear HO_3
                  clear BK488
                  clear HB
                  have HO_3 := n0_
                  have BK488 := n1_
                  have HB := n2_
                  clear n0_ n1_ n2_
                  refine start_ (n := 19) (S := fun w' => w'.cell? ⟨gb488, 0, none⟩ = some (.int .i64 ((rd_T58 l0 x4_1).f0)) ∧ w'.cell? ⟨gb488, 1, none⟩ = some (.int .i64 ((rd_T58 l0 x4_1).f1)) ∧ w'.cell? ⟨gb488, 2, none⟩ = some (.int .i64 ((rd_T58 l0 x4_1).f2)) ∧ w'.cell? ⟨gb488, 3, none⟩ = some (.int .i64 ((rd_T58 l0 x4_1).f3.f0)) ∧ w'.cell? ⟨gb488, 4, none⟩ = some (.int .i64 ((rd_T58 l0 x4_1).f3.f1)) ∧ w'.cell? ⟨gb488, 5, none⟩ = some (.int .i64 ((rd_T58 l0 x4_1).f3.f2)) ∧ w'.cell? ⟨gb488, 6, none⟩ = some (.int .i64 ((rd_T58 l0 x4_1).f3.f3))) (ds := [18]) #[false, false, false, false, false, false, false, false, false, false, false, false, false, false, false, false, false, false, false] (by kernel_rfl) rfl rfl ⟨(blk_cell BK488.out 0).trans rfl, (blk_cell BK488.out 1).trans rfl, (blk_cell BK488.out 2).trans rfl, (blk_cell BK488.out 3).trans rfl, (blk_cell BK488.out 4).trans rfl, (blk_cell BK488.out 5).trans rfl, (blk_cell BK488.out 6).trans rfl⟩ (fun hHeld => ?_); refine with_tabW gutterlaw17_Pieces.tab6 gutterlaw17_Pieces.bits6 (fun HT_ HW_ => ?_)
                  generalize w14.drew = w15 at HO_3 BK488 HB hHeld ⊢
                  refine pure_ (i := 0) (N := some 20) (v := ?_) (a' := ?_) #[true, false, false, false, false, false, false, false, false, false, false, false, false, false, false, false, false, false, false] rfl rfl (any_of HT_.out (by kernel_rfl)) (fun _ _ _ h => h) (Or.inl ⟨by rfl, ?_⟩) ?_ ?_
                  rotate_left
                  · intro w'
                    go_simp
                    with_reducible rfl
                  rotate_left
                  · simp only [Act.put, List.setIfInBounds_toArray, List.set_cons_zero, List.set_cons_succ, i64_w, i32_w]
                    rfl
                  refine pure_ (i := 1) (N := some 21) (v := ?_) (a' := ?_) #[true, true, false, false, false, false, false, false, false, false, false, false, false, false, false, false, false, false, false] rfl rfl (any_of HT_.out (by kernel_rfl)) (fun _ _ _ h => h) (Or.inl ⟨by rfl, ?_⟩) ?_ ?_
                  rotate_left
                  · intro w'
                    go_simp
                    with_reducible rfl
                  rotate_left
                  · simp only [Act.put, List.setIfInBounds_toArray, List.set_cons_zero, List.set_cons_succ, i64_w, i32_w]
                    rfl
                  refine pure_ (i := 4) (N := some 24) (v := ?_) (a' := ?_) #[true, true, false, false, true, false, false, false, false, false, false, false, false, false, false, false, false, false, false] rfl rfl (any_of HT_.out (by kernel_rfl)) (fun _ _ _ h => h) (Or.inl ⟨by rfl, ?_⟩) ?_ ?_
                  rotate_left
                  · intro w'
                    go_simp
                    with_reducible rfl
                  rotate_left
                  · simp only [Act.put, List.setIfInBounds_toArray, List.set_cons_zero, List.set_cons_succ, i64_w, i32_w]
                    rfl
                  refine pure_ (i := 5) (N := some 25) (v := ?_) (a' := ?_) #[true, true, false, false, true, true, false, false, false, false, false, false, false, false, false, false, false, false, false] rfl rfl (any_of HT_.out (by kernel_rfl)) (fun _ _ _ h => h) (Or.inl ⟨by rfl, ?_⟩) ?_ ?_
                  rotate_left
                  · intro w'
                    go_simp
                    with_reducible rfl
                  rotate_left
                  · simp only [Act.put, List.setIfInBounds_toArray, List.set_cons_zero, List.set_cons_succ, i64_w, i32_w]
                    rfl
                  refine pure_ (i := 8) (N := some 28) (v := ?_) (a' := ?_) #[true, true, false, false, true, true, false, false, true, false, false, false, false, false, false, false, false, false, false] rfl rfl (any_of HT_.out (by kernel_rfl)) (fun _ _ _ h => h) (Or.inl ⟨by rfl, ?_⟩) ?_ ?_
                  rotate_left
                  · intro w'
                    go_simp
                    with_reducible rfl
                  rotate_left
                  · simp only [Act.put, List.setIfInBounds_toArray, List.set_cons_zero, List.set_cons_succ, i64_w, i32_w]
                    rfl
                  refine pure_ (i := 9) (N := some 29) (v := ?_) (a' := ?_) #[true, true, false, false, true, true, false, false, true, true, false, false, false, false, false, false, false, false, false] rfl rfl (any_of HT_.out (by kernel_rfl)) (fun _ _ _ h => h) (Or.inl ⟨by rfl, ?_⟩) ?_ ?_
                  rotate_left
                  · intro w'
                    go_simp
                    with_reducible rfl
                  rotate_left
                  · simp only [Act.put, List.setIfInBounds_toArray, List.set_cons_zero, List.set_cons_succ, i64_w, i32_w]
                    rfl
                  refine pure_ (i := 12) (N := some 32) (v := ?_) (a' := ?_) #[true, true, false, false, true, true, false, false, true, true, false, false, true, false, false, false, false, false, false] rfl rfl (any_of HT_.out (by kernel_rfl)) (fun _ _ _ h => h) (Or.inl ⟨by rfl, ?_⟩) ?_ ?_
                  rotate_left
                  · intro w'
                    go_simp
                    with_reducible rfl
                  rotate_left
                  · simp only [Act.put, List.setIfInBounds_toArray, List.set_cons_zero, List.set_cons_succ, i64_w, i32_w]
                    rfl
                  refine pure_ (i := 13) (N := some 33) (v := ?_) (a' := ?_) #[true, true, false, false, true, true, false, false, true, true, false, false, true, true, false, false, false, false, false] rfl rfl (any_of HT_.out (by kernel_rfl)) (fun _ _ _ h => h) (Or.inl ⟨by rfl, ?_⟩) ?_ ?_
                  rotate_left
                  · intro w'
                    go_simp
                    with_reducible rfl
                  rotate_left
                  · simp only [Act.put, List.setIfInBounds_toArray, List.set_cons_zero, List.set_cons_succ, i64_w, i32_w]
                    rfl
                  refine take_ (i := 2) (N := some 22) (v := ?_) (a' := ?_) #[true, true, true, false, true, true, false, false, true, true, false, false, true, true, false, false, false, false, false] rfl rfl (take_ofW HT_.out HW_.out (by kernel_rfl)) (fun _ _ _ h => h) (Or.inl ⟨by rfl, ?_⟩) hHeld ?_ ?_
                  rotate_left
                  · rintro w' ⟨s0, s1, s2, s3, s4, s5, s6⟩
                    go_simp
                    with_reducible rfl
                  rotate_left
                  · simp only [Act.put, List.setIfInBounds_toArray, List.set_cons_zero, List.set_cons_succ, i64_w, i32_w]
                    rfl
                  refine take_ (i := 6) (N := some 26) (v := ?_) (a' := ?_) #[true, true, true, false, true, true, true, false, true, true, false, false, true, true, false, false, false, false, false] rfl rfl (take_ofW HT_.out HW_.out (by kernel_rfl)) (fun _ _ _ h => h) (Or.inl ⟨by rfl, ?_⟩) hHeld ?_ ?_
                  rotate_left
                  · rintro w' ⟨s0, s1, s2, s3, s4, s5, s6⟩
                    go_simp
                    with_reducible rfl
                  rotate_left
                  · simp only [Act.put, List.setIfInBounds_toArray, List.set_cons_zero, List.set_cons_succ, i64_w, i32_w]
                    rfl
                  refine take_ (i := 10) (N := some 30) (v := ?_) (a' := ?_) #[true, true, true, false, true, true, true, false, true, true, true, false, true, true, false, false, false, false, false] rfl rfl (take_ofW HT_.out HW_.out (by kernel_rfl)) (fun _ _ _ h => h) (Or.inl ⟨by rfl, ?_⟩) hHeld ?_ ?_
                  rotate_left
                  · rintro w' ⟨s0, s1, s2, s3, s4, s5, s6⟩
                    go_simp
                    with_reducible rfl
                  rotate_left
                  · simp only [Act.put, List.setIfInBounds_toArray, List.set_cons_zero, List.set_cons_succ, i64_w, i32_w]
                    rfl
                  refine take_ (i := 14) (N := some 34) (v := ?_) (a' := ?_) #[true, true, true, false, true, true, true, false, true, true, true, false, true, true, true, false, false, false, false] rfl rfl (take_ofW HT_.out HW_.out (by kernel_rfl)) (fun _ _ _ h => h) (Or.inl ⟨by rfl, ?_⟩) hHeld ?_ ?_
                  rotate_left
                  · rintro w' ⟨s0, s1, s2, s3, s4, s5, s6⟩
                    go_simp
                    with_reducible rfl
                  rotate_left
                  · simp only [Act.put, List.setIfInBounds_toArray, List.set_cons_zero, List.set_cons_succ, i64_w, i32_w]
                    rfl
                  refine one_ (i := 3) (N := some 23) #[true, true, true, true, true, true, true, false, true, true, true, false, true, true, true, false, false, false, false] rfl rfl (one_of HT_.out (by kernel_rfl)) (by decide) (fun K hK => ?_)
                  refine goes_ Tryd.func49 (by kernel_rfl) rfl #[.int .i64 ((rd_T58 l0 x4_1).f3.f0)] (by rfl) rfl rfl (by (try simp only [List.map_toArray, List.map_cons, List.map_nil]); first | done | rfl | (simp only [List.length_drop, List.length_take]; rfl)) ?_
                  with_reducible refine (gutterlaw17_near.calls ((rd_T58 l0 x4_1).f3.f0) t489 _ A7.out).mono ?_
                  rintro e w16 ⟨rfl, hb⟩
                  refine ⟨_, rfl, ?_⟩
                  have n0_ := Aside0.mk (Kd.R_below (by (with_reducible repeat (first | apply Kd.R_alloc | apply Kd.R_drewN | apply Kd.R_drew)); exact HO_3.out) hb)
                  have n1_ := Aside0.mk (blk_below (g := gb488) (o := .cells #[.int .i64 ((rd_T58 l0 x4_1).f0), .int .i64 ((rd_T58 l0 x4_1).f1), .int .i64 ((rd_T58 l0 x4_1).f2), .int .i64 ((rd_T58 l0 x4_1).f3.f0), .int .i64 ((rd_T58 l0 x4_1).f3.f1), .int .i64 ((rd_T58 l0 x4_1).f3.f2), .int .i64 ((rd_T58 l0 x4_1).f3.f3)] 58 (0, 0)) (by (with_reducible repeat (first | refine blk_drewN ?_ _ | refine blk_drew ?_ | refine blk_alloc ?_ _)); exact BK488.out) hb)
                  have n2_ := Aside0.mk (below_step (by repeat (first | (with_reducible first | exact HB.out | apply below_alloc | apply pw_below_drewN | apply below_drew1 | refine below_set ?_ GE488.out) | exact HB.out)) hb)
                  clear HO_3
                  clear BK488
                  clear HB
                  have HO_3 := n0_
                  have BK488 := n1_
                  have HB := n2_
                  clear n0_ n1_ n2_
                  (try clear hb)
                  (try clear hb2)
                  (try clear hk)
                  (try clear hi)
                  refine hK.out _ _ ⟨(blk_cell BK488.out 0).trans rfl, (blk_cell BK488.out 1).trans rfl, (blk_cell BK488.out 2).trans rfl, (blk_cell BK488.out 3).trans rfl, (blk_cell BK488.out 4).trans rfl, (blk_cell BK488.out 5).trans rfl, (blk_cell BK488.out 6).trans rfl⟩ (fun hHeld => ?_)
                  clear hK K
                  refine norm_ (a' := ?_) ?_ ?_
                  rotate_left
                  · show Act.put _ (some 23) _ = _
                    simp only [Act.put, List.setIfInBounds_toArray, List.set_cons_zero, List.set_cons_succ, i64_w, i32_w]
                    rfl
                  refine one_ (i := 7) (N := some 27) #[true, true, true, true, true, true, true, true, true, true, true, false, true, true, true, false, false, false, false] rfl rfl (one_of HT_.out (by kernel_rfl)) (by decide) (fun K hK => ?_)
                  refine goes_ Tryd.func49 (by kernel_rfl) rfl #[.int .i64 ((rd_T58 l0 x4_1).f3.f1)] (by rfl) rfl rfl (by (try simp only [List.map_toArray, List.map_cons, List.map_nil]); first | done | rfl | (simp only [List.length_drop, List.length_take]; rfl)) ?_
                  with_reducible refine (gutterlaw17_near.calls ((rd_T58 l0 x4_1).f3.f1) t490 _ A8.out).mono ?_
                  rintro e w17 ⟨rfl, hb⟩
                  refine ⟨_, rfl, ?_⟩
                  have n0_ := Aside0.mk (Kd.R_below (by (with_reducible repeat (first | apply Kd.R_alloc | apply Kd.R_drewN | apply Kd.R_drew)); exact HO_3.out) hb)
                  have n1_ := Aside0.mk (blk_below (g := gb488) (o := .cells #[.int .i64 ((rd_T58 l0 x4_1).f0), .int .i64 ((rd_T58 l0 x4_1).f1), .int .i64 ((rd_T58 l0 x4_1).f2), .int .i64 ((rd_T58 l0 x4_1).f3.f0), .int .i64 ((rd_T58 l0 x4_1).f3.f1), .int .i64 ((rd_T58 l0 x4_1).f3.f2), .int .i64 ((rd_T58 l0 x4_1).f3.f3)] 58 (0, 0)) (by (with_reducible repeat (first | refine blk_drewN ?_ _ | refine blk_drew ?_ | refine blk_alloc ?_ _)); exact BK488.out) hb)
                  have n2_ := Aside0.mk (below_step (by repeat (first | (with_reducible first | exact HB.out | apply below_alloc | apply pw_below_drewN | apply below_drew1 | refine below_set ?_ GE488.out) | exact HB.out)) hb)
                  clear HO_3
                  clear BK488
                  clear HB
                  have HO_3 := n0_
                  have BK488 := n1_
                  have HB := n2_
                  clear n0_ n1_ n2_
                  (try clear hb)
                  (try clear hb2)
                  (try clear hk)
                  (try clear hi)
                  refine hK.out _ _ ⟨(blk_cell BK488.out 0).trans rfl, (blk_cell BK488.out 1).trans rfl, (blk_cell BK488.out 2).trans rfl, (blk_cell BK488.out 3).trans rfl, (blk_cell BK488.out 4).trans rfl, (blk_cell BK488.out 5).trans rfl, (blk_cell BK488.out 6).trans rfl⟩ (fun hHeld => ?_)
                  clear hK K
                  refine norm_ (a' := ?_) ?_ ?_
                  rotate_left
                  · show Act.put _ (some 27) _ = _
                    simp only [Act.put, List.setIfInBounds_toArray, List.set_cons_zero, List.set_cons_succ, i64_w, i32_w]
                    rfl
                  refine one_ (i := 11) (N := some 31) #[true, true, true, true, true, true, true, true, true, true, true, true, true, true, true, false, false, false, false] rfl rfl (one_of HT_.out (by kernel_rfl)) (by decide) (fun K hK => ?_)
                  refine goes_ Tryd.func49 (by kernel_rfl) rfl #[.int .i64 ((rd_T58 l0 x4_1).f3.f2)] (by rfl) rfl rfl (by (try simp only [List.map_toArray, List.map_cons, List.map_nil]); first | done | rfl | (simp only [List.length_drop, List.length_take]; rfl)) ?_
                  with_reducible refine (gutterlaw17_near.calls ((rd_T58 l0 x4_1).f3.f2) t491 _ A9.out).mono ?_
                  rintro e w18 ⟨rfl, hb⟩
                  refine ⟨_, rfl, ?_⟩
                  have n0_ := Aside0.mk (Kd.R_below (by (with_reducible repeat (first | apply Kd.R_alloc | apply Kd.R_drewN | apply Kd.R_drew)); exact HO_3.out) hb)
                  have n1_ := Aside0.mk (blk_below (g := gb488) (o := .cells #[.int .i64 ((rd_T58 l0 x4_1).f0), .int .i64 ((rd_T58 l0 x4_1).f1), .int .i64 ((rd_T58 l0 x4_1).f2), .int .i64 ((rd_T58 l0 x4_1).f3.f0), .int .i64 ((rd_T58 l0 x4_1).f3.f1), .int .i64 ((rd_T58 l0 x4_1).f3.f2), .int .i64 ((rd_T58 l0 x4_1).f3.f3)] 58 (0, 0)) (by (with_reducible repeat (first | refine blk_drewN ?_ _ | refine blk_drew ?_ | refine blk_alloc ?_ _)); exact BK488.out) hb)
                  have n2_ := Aside0.mk (below_step (by repeat (first | (with_reducible first | exact HB.out | apply below_alloc | apply pw_below_drewN | apply below_drew1 | refine below_set ?_ GE488.out) | exact HB.out)) hb)
                  clear HO_3
                  clear BK488
                  clear HB
                  have HO_3 := n0_
                  have BK488 := n1_
                  have HB := n2_
                  clear n0_ n1_ n2_
                  (try clear hb)
                  (try clear hb2)
                  (try clear hk)
                  (try clear hi)
                  refine hK.out _ _ ⟨(blk_cell BK488.out 0).trans rfl, (blk_cell BK488.out 1).trans rfl, (blk_cell BK488.out 2).trans rfl, (blk_cell BK488.out 3).trans rfl, (blk_cell BK488.out 4).trans rfl, (blk_cell BK488.out 5).trans rfl, (blk_cell BK488.out 6).trans rfl⟩ (fun hHeld => ?_)
                  clear hK K
                  refine norm_ (a' := ?_) ?_ ?_
                  rotate_left
                  · show Act.put _ (some 31) _ = _
                    simp only [Act.put, List.setIfInBounds_toArray, List.set_cons_zero, List.set_cons_succ, i64_w, i32_w]
                    rfl
                  refine one_ (i := 15) (N := some 35) #[true, true, true, true, true, true, true, true, true, true, true, true, true, true, true, true, false, false, false] rfl rfl (one_of HT_.out (by kernel_rfl)) (by decide) (fun K hK => ?_)
                  refine goes_ Tryd.func49 (by kernel_rfl) rfl #[.int .i64 ((rd_T58 l0 x4_1).f3.f3)] (by rfl) rfl rfl (by (try simp only [List.map_toArray, List.map_cons, List.map_nil]); first | done | rfl | (simp only [List.length_drop, List.length_take]; rfl)) ?_
                  with_reducible refine (gutterlaw17_near.calls ((rd_T58 l0 x4_1).f3.f3) t492 _ A10.out).mono ?_
                  rintro e w19 ⟨rfl, hb⟩
                  refine ⟨_, rfl, ?_⟩
                  have n0_ := Aside0.mk (Kd.R_below (by (with_reducible repeat (first | apply Kd.R_alloc | apply Kd.R_drewN | apply Kd.R_drew)); exact HO_3.out) hb)
                  have n1_ := Aside0.mk (blk_below (g := gb488) (o := .cells #[.int .i64 ((rd_T58 l0 x4_1).f0), .int .i64 ((rd_T58 l0 x4_1).f1), .int .i64 ((rd_T58 l0 x4_1).f2), .int .i64 ((rd_T58 l0 x4_1).f3.f0), .int .i64 ((rd_T58 l0 x4_1).f3.f1), .int .i64 ((rd_T58 l0 x4_1).f3.f2), .int .i64 ((rd_T58 l0 x4_1).f3.f3)] 58 (0, 0)) (by (with_reducible repeat (first | refine blk_drewN ?_ _ | refine blk_drew ?_ | refine blk_alloc ?_ _)); exact BK488.out) hb)
                  have n2_ := Aside0.mk (below_step (by repeat (first | (with_reducible first | exact HB.out | apply below_alloc | apply pw_below_drewN | apply below_drew1 | refine below_set ?_ GE488.out) | exact HB.out)) hb)
                  clear HO_3
                  clear BK488
                  clear HB
                  have HO_3 := n0_
                  have BK488 := n1_
                  have HB := n2_
                  clear n0_ n1_ n2_
                  (try clear hb)
                  (try clear hb2)
                  (try clear hk)
                  (try clear hi)
                  refine hK.out _ _ ⟨(blk_cell BK488.out 0).trans rfl, (blk_cell BK488.out 1).trans rfl, (blk_cell BK488.out 2).trans rfl, (blk_cell BK488.out 3).trans rfl, (blk_cell BK488.out 4).trans rfl, (blk_cell BK488.out 5).trans rfl, (blk_cell BK488.out 6).trans rfl⟩ (fun hHeld => ?_)
                  clear hK K
                  refine norm_ (a' := ?_) ?_ ?_
                  rotate_left
                  · show Act.put _ (some 35) _ = _
                    simp only [Act.put, List.setIfInBounds_toArray, List.set_cons_zero, List.set_cons_succ, i64_w, i32_w]
                    rfl
                  refine pure_ (i := 16) (N := some 36) (v := ?_) (a' := ?_) #[true, true, true, true, true, true, true, true, true, true, true, true, true, true, true, true, true, false, false] rfl rfl (any_of HT_.out (by kernel_rfl)) (fun _ _ _ h => h) (Or.inl ⟨by rfl, ?_⟩) ?_ ?_
                  rotate_left
                  · intro w'
                    go_simp
                    with_reducible rfl
                  rotate_left
                  · simp only [Act.put, List.setIfInBounds_toArray, List.set_cons_zero, List.set_cons_succ, i64_w, i32_w]
                    rfl
                  refine pure_ (i := 17) (N := some 37) (v := ?_) (a' := ?_) #[true, true, true, true, true, true, true, true, true, true, true, true, true, true, true, true, true, true, false] rfl rfl (any_of HT_.out (by kernel_rfl)) (fun _ _ _ h => h) (Or.inl ⟨by rfl, ?_⟩) ?_ ?_
                  rotate_left
                  · intro w'
                    go_simp
                    with_reducible rfl
                  rotate_left
                  · simp only [Act.put, List.setIfInBounds_toArray, List.set_cons_zero, List.set_cons_succ, i64_w, i32_w]
                    rfl
                  refine last_ (i := 18) (N := none) #[true, true, true, true, true, true, true, true, true, true, true, true, true, true, true, true, true, true, true] rfl rfl (one_of HT_.out (by kernel_rfl)) (by decide) (fun K hK => ?_)
                  have hs20 : w19.cell? ⟨gb488, 3, none⟩ = some (.int .i64 ((rd_T58 l0 x4_1).f3.f0)) := (blk_cell BK488.out 3).trans rfl
                  have hfs20 := blk_frozen BK488.out 3
                  have hs21 : w19.cell? ⟨gb488, 4, none⟩ = some (.int .i64 ((rd_T58 l0 x4_1).f3.f1)) := (blk_cell BK488.out 4).trans rfl
                  have hfs21 := blk_frozen BK488.out 4
                  have hs22 : w19.cell? ⟨gb488, 5, none⟩ = some (.int .i64 ((rd_T58 l0 x4_1).f3.f2)) := (blk_cell BK488.out 5).trans rfl
                  have hfs22 := blk_frozen BK488.out 5
                  have hs23 : w19.cell? ⟨gb488, 6, none⟩ = some (.int .i64 ((rd_T58 l0 x4_1).f3.f3)) := (blk_cell BK488.out 6).trans rfl
                  have hfs23 := blk_frozen BK488.out 6
                  refine skip_ (w1 := ?_) (by rfl) rfl ?_ ?_
                  rotate_left
                  · go_simp
                    rfl
                  refine hK.out _ _ ?_
                  clear hK K
                  refine done_ (done_of HT_.out (by kernel_rfl)) ?_
                  have hcz24_0 : w19.cell? ⟨gb488, 0, none⟩ = some (.int .i64 ((rd_T58 l0 x4_1).f0)) := (blk_cell BK488.out 0).trans rfl
                  have hcz24_1 : w19.cell? ⟨gb488, 1, none⟩ = some (.int .i64 ((rd_T58 l0 x4_1).f1)) := (blk_cell BK488.out 1).trans rfl
                  have hcz24_2 : w19.cell? ⟨gb488, 2, none⟩ = some (.int .i64 ((rd_T58 l0 x4_1).f2)) := (blk_cell BK488.out 2).trans rfl
                  have hcz24_3 : w19.cell? ⟨gb488, 3, none⟩ = some (.int .i64 ((rd_T58 l0 x4_1).f3.f0)) := (blk_cell BK488.out 3).trans rfl
                  have hcz24_4 : w19.cell? ⟨gb488, 4, none⟩ = some (.int .i64 ((rd_T58 l0 x4_1).f3.f1)) := (blk_cell BK488.out 4).trans rfl
                  have hcz24_5 : w19.cell? ⟨gb488, 5, none⟩ = some (.int .i64 ((rd_T58 l0 x4_1).f3.f2)) := (blk_cell BK488.out 5).trans rfl
                  have hcz24_6 : w19.cell? ⟨gb488, 6, none⟩ = some (.int .i64 ((rd_T58 l0 x4_1).f3.f3)) := (blk_cell BK488.out 6).trans rfl
                  have hfz24_0 := blk_frozen BK488.out 0
                  have hfz24_1 := blk_frozen BK488.out 1
                  have hfz24_2 := blk_frozen BK488.out 2
                  have hfz24_3 := blk_frozen BK488.out 3
                  have hfz24_4 := blk_frozen BK488.out 4
                  have hfz24_5 := blk_frozen BK488.out 5
                  have hfz24_6 := blk_frozen BK488.out 6
                  try go_wp2_with (first | ((with_reducible refine gate_builtin (b := .append) (xs := #[.tmp 38, .tmp 40]) rfl ?_); at_builtin; refine Kd.R_append k58 (w0 := w) w.heap.size rfl (.tmp 38) (.tmp 40) 48 58 (.agg #[(.int .i64 0), (.int .i64 0), (.int .i64 0), (.int .i64 0), (.int .i64 0), (.int .i64 0), (.int .i64 0)]) 56 rfl Tryd.underlying48 info58 rfl (by decide) (by omega) u3 x3_1 (⟨(rd_T58 l0 x4_1).f0, (rd_T58 l0 x4_1).f1, (rd_T58 l0 x4_1).f2, (⟨t489, t490, t491, t492⟩ : S56)⟩ : S58) [.int .i64 ((rd_T58 l0 x4_1).f0), .int .i64 ((rd_T58 l0 x4_1).f1), .int .i64 ((rd_T58 l0 x4_1).f2), .int .i64 t489, .int .i64 t490, .int .i64 t491, .int .i64 t492] (fun k_ => k_ ≠ gb488) (fun _ => False) rfl (by first | (go_simp; done) | (go_simp; rfl)) ?aP (fun _ hk => hk.elim) ?aF ?aO ?aB ?aS ?aL ?_; (case aP => exact k58_mkM _ _ _ (⟨(rd_T58 l0 x4_1).f0, (rd_T58 l0 x4_1).f1, (rd_T58 l0 x4_1).f2, (⟨t489, t490, t491, t492⟩ : S56)⟩ : S58)); (case aB => exact (by repeat (first | (with_reducible first | exact HB.out | apply below_alloc | apply pw_below_drewN | apply below_drew1 | refine below_set ?_ GE488.out) | exact HB.out))); (case aF => exact (fun k_ hk => Kd.freshB (g := gb488) (o := .cells #[.int .i64 ((rd_T58 l0 x4_1).f0), .int .i64 ((rd_T58 l0 x4_1).f1), .int .i64 ((rd_T58 l0 x4_1).f2), .int .i64 t489, .int .i64 t490, .int .i64 t491, .int .i64 t492] 58 (0, 0)) (by (with_reducible repeat (first | refine blk_drewN ?_ _ | refine blk_drew ?_ | refine blk_alloc ?_ _)); refine blk_put (cs := #[.int .i64 ((rd_T58 l0 x4_1).f0), .int .i64 ((rd_T58 l0 x4_1).f1), .int .i64 ((rd_T58 l0 x4_1).f2), .int .i64 t489, .int .i64 t490, .int .i64 t491, .int .i64 ((rd_T58 l0 x4_1).f3.f3)]) ?_ 6 _ rfl; (with_reducible repeat (first | refine blk_drewN ?_ _ | refine blk_drew ?_ | refine blk_alloc ?_ _)); refine blk_put (cs := #[.int .i64 ((rd_T58 l0 x4_1).f0), .int .i64 ((rd_T58 l0 x4_1).f1), .int .i64 ((rd_T58 l0 x4_1).f2), .int .i64 t489, .int .i64 t490, .int .i64 ((rd_T58 l0 x4_1).f3.f2), .int .i64 ((rd_T58 l0 x4_1).f3.f3)]) ?_ 5 _ rfl; (with_reducible repeat (first | refine blk_drewN ?_ _ | refine blk_drew ?_ | refine blk_alloc ?_ _)); refine blk_put (cs := #[.int .i64 ((rd_T58 l0 x4_1).f0), .int .i64 ((rd_T58 l0 x4_1).f1), .int .i64 ((rd_T58 l0 x4_1).f2), .int .i64 t489, .int .i64 ((rd_T58 l0 x4_1).f3.f1), .int .i64 ((rd_T58 l0 x4_1).f3.f2), .int .i64 ((rd_T58 l0 x4_1).f3.f3)]) ?_ 4 _ rfl; (with_reducible repeat (first | refine blk_drewN ?_ _ | refine blk_drew ?_ | refine blk_alloc ?_ _)); refine blk_put (cs := #[.int .i64 ((rd_T58 l0 x4_1).f0), .int .i64 ((rd_T58 l0 x4_1).f1), .int .i64 ((rd_T58 l0 x4_1).f2), .int .i64 ((rd_T58 l0 x4_1).f3.f0), .int .i64 ((rd_T58 l0 x4_1).f3.f1), .int .i64 ((rd_T58 l0 x4_1).f3.f2), .int .i64 ((rd_T58 l0 x4_1).f3.f3)]) ?_ 3 _ rfl; (with_reducible repeat (first | refine blk_drewN ?_ _ | refine blk_drew ?_ | refine blk_alloc ?_ _)); exact BK488.out) k_ hk)); (case aO => exact (by (with_reducible repeat (first | apply Kd.R_alloc | apply Kd.R_drewN | apply Kd.R_drew)); exact Kd.R_mono (Kd.R_far (p := ⟨gb488, 6, none⟩) (Kd.R_far (p := ⟨gb488, 5, none⟩) (Kd.R_far (p := ⟨gb488, 4, none⟩) (Kd.R_far (p := ⟨gb488, 3, none⟩) (Kd.R_mono HO_3.out (fun k_ hk => (⟨hk, hk⟩ : _ ∧ k_ ≠ gb488))) (fun _ hk => hk.2) (.int .i64 t489)) (fun _ hk => hk.2) (.int .i64 t490)) (fun _ hk => hk.2) (.int .i64 t491)) (fun _ hk => hk.2) (.int .i64 t492)) (fun _ hk => hk.1))); (case aS => exact (below_size (by repeat (first | (with_reducible first | exact HB.out | apply below_alloc | apply pw_below_drewN | apply below_drew1 | refine below_set ?_ GE488.out) | exact HB.out)))); (case aL => have := LMc11.out; omega); intro v494 w25 ho hb hg hat; rw [← Ny493.out] at ho; have n0_ := Aside0.mk (blk_grown (g := gb488) (o := .cells #[.int .i64 ((rd_T58 l0 x4_1).f0), .int .i64 ((rd_T58 l0 x4_1).f1), .int .i64 ((rd_T58 l0 x4_1).f2), .int .i64 t489, .int .i64 t490, .int .i64 t491, .int .i64 t492] 58 (0, 0)) (by (with_reducible repeat (first | refine blk_drewN ?_ _ | refine blk_drew ?_ | refine blk_alloc ?_ _)); refine blk_put (cs := #[.int .i64 ((rd_T58 l0 x4_1).f0), .int .i64 ((rd_T58 l0 x4_1).f1), .int .i64 ((rd_T58 l0 x4_1).f2), .int .i64 t489, .int .i64 t490, .int .i64 t491, .int .i64 ((rd_T58 l0 x4_1).f3.f3)]) ?_ 6 _ rfl; (with_reducible repeat (first | refine blk_drewN ?_ _ | refine blk_drew ?_ | refine blk_alloc ?_ _)); refine blk_put (cs := #[.int .i64 ((rd_T58 l0 x4_1).f0), .int .i64 ((rd_T58 l0 x4_1).f1), .int .i64 ((rd_T58 l0 x4_1).f2), .int .i64 t489, .int .i64 t490, .int .i64 ((rd_T58 l0 x4_1).f3.f2), .int .i64 ((rd_T58 l0 x4_1).f3.f3)]) ?_ 5 _ rfl; (with_reducible repeat (first | refine blk_drewN ?_ _ | refine blk_drew ?_ | refine blk_alloc ?_ _)); refine blk_put (cs := #[.int .i64 ((rd_T58 l0 x4_1).f0), .int .i64 ((rd_T58 l0 x4_1).f1), .int .i64 ((rd_T58 l0 x4_1).f2), .int .i64 t489, .int .i64 ((rd_T58 l0 x4_1).f3.f1), .int .i64 ((rd_T58 l0 x4_1).f3.f2), .int .i64 ((rd_T58 l0 x4_1).f3.f3)]) ?_ 4 _ rfl; (with_reducible repeat (first | refine blk_drewN ?_ _ | refine blk_drew ?_ | refine blk_alloc ?_ _)); refine blk_put (cs := #[.int .i64 ((rd_T58 l0 x4_1).f0), .int .i64 ((rd_T58 l0 x4_1).f1), .int .i64 ((rd_T58 l0 x4_1).f2), .int .i64 ((rd_T58 l0 x4_1).f3.f0), .int .i64 ((rd_T58 l0 x4_1).f3.f1), .int .i64 ((rd_T58 l0 x4_1).f3.f2), .int .i64 ((rd_T58 l0 x4_1).f3.f3)]) ?_ 3 _ rfl; (with_reducible repeat (first | refine blk_drewN ?_ _ | refine blk_drew ?_ | refine blk_alloc ?_ _)); exact BK488.out) hg (Kd.R_away HO_3.out (fun _ hk => hk))); have n1_ := Aside0.mk (hb); have n2_ := Aside0.mk (ho); clear BK488; clear HB; clear HO_3; have BK488 := n0_; have HB := n1_; have HO495 := n2_; clear n0_ n1_ n2_; clear ho hb hg hat))
                  go_roundg kj1
                  case measure => have := HK1.out; have := HJ1.out; omega
                  case rel => exact ⟨(y493), (wrap64 (x4_1 + 1)), (by first | rfl | (simp; done) | (simp [*]; done)), H', ⟨by have := HK1.out; have := HJ1.out; omega⟩, ⟨by (with_reducible repeat (first | apply Kd.R_alloc | apply Kd.R_drewN | apply Kd.R_drew)); exact Kd.R_mono HO495.out (fun _ hk => trivial)⟩, ⟨by repeat (first | (with_reducible first | exact HB.out | apply below_alloc | apply pw_below_drewN | apply below_drew1 | refine below_set ?_ GE488.out) | exact HB.out)⟩⟩
                · rw [if_neg c11] at H
                  exact absurd H (by simp)
              · rw [if_neg c6] at H
                exact absurd H (by simp)
            · rw [if_neg c5] at H
              exact absurd H (by simp)
          · replace c4 := Bool.eq_false_iff.mpr c4
            subst c4
            have H1 : (some x3_1) = some r := by rw [if_neg (show ¬ (false = true) by decide)] at H; exact H
            clear H
            have H := H1
            clear H1
            obtain rfl := Option.some.inj H
            go_wp2
            go_ret
            exact ⟨_, by first | rfl | (simp [errW_none, errW_some] <;> rfl) | (simp [*, errW_none, errW_some] <;> rfl), by (with_reducible repeat (first | apply Kd.R_alloc | apply Kd.R_drewN | apply Kd.R_drew)); exact HO_3.out, by repeat (first | (with_reducible first | exact HB.out | apply below_alloc | apply pw_below_drewN | apply below_drew1) | exact HB.out)⟩

end Go.Proofs.YtjpifknencfipaaDoor.P

-- by a program (wip/tools: a turned copy of the kit's print): not trusted: Lean checks it
namespace Go.Proofs.YtjpifknencfipaaDoor.P
open Go.RowKit Go.Proofs.YtjpifknencfipaaDoorW.PrintWords Go.Proofs.YtjpifknencfipaaDoorW.PrintLast Go.Proofs.YtjpifknencfipaaDoorW.PrintMore
attribute [local go_sem] max2_int min2_int max_two min_two max_three min_three max_four min_four   -- for this text's walks alone

/-! ### row_Move: function 48 -/
def row_Move.f (l0 : List (S58)) (a1 : Int) (a2 : Int) : Option ((List (S58))) := (row_moved.f a1 a2 l0).bind fun t499 => (some t499)
set_option maxHeartbeats 8000000 in
set_option maxRecDepth 100000 in
theorem row_Move.calls (A0 : Option Addr) (c0 : Nat) (l0 : List (S58)) (a1 : Int) (a2 : Int) (r : List (S58)) (w : World) (hr0 : Kd.C k58 w A0 l0.length l0) (hc0 : l0.length ≤ c0) (h : row_Move.f l0 a1 a2 = some r) :
    Calls Tryd.prog 48 #[.slice A0 l0.length c0, .int .i64 a1, .int .i64 a2] w fun e w' => ∃ v0_ : Value, e = .returned (v0_) ∧ Kd.R k58 58 w' w.heap.size (fun _ => True) v0_ r ∧ Below w.heap.size w w' := by
  have HR0 := Aside0.mk hr0
  have HC0 := Aside0.mk hc0
  clear hr0 hc0
  have HB := Aside0.mk (Below.refl w.heap.size w)
  have H : ((row_moved.f a1 a2 l0).bind fun t499 => (some t499)) = some r := h
  clear h
  replace H := Option.bind_eq_some_iff.mp H
  obtain ⟨t499, A40, H⟩ := H
  replace H : (some t499) = some r := H
  have A4 := Aside0.mk A40
  clear A40
  obtain rfl := Option.some.inj H
  go_enter Tryd.func48, Tryd.ntmps48
  go_wp2_with (first | ((with_reducible refine gate_callee (f := 82) rfl ?_); refine goesL_ (some 10) rfl rfl Tryd.func82 (by kernel_rfl) rfl #[.int .i64 a1, .int .i64 a2, .slice A0 l0.length c0] rfl (by (try simp only [List.map_toArray, List.map_cons, List.map_nil]); first | done | rfl | (simp only [List.length_drop, List.length_take]; rfl)) ?_; (with_reducible refine (row_moved.calls a1 a2 _ _ l0 t499 _ ?side1 ?side2 A4.out).mono ?_); (case side1 => repeat (first | exact HR0.out | (with_reducible refine Kd.C_alloc ?_ _) | (with_reducible refine Kd.C_drewN ?_ _) | (with_reducible refine Kd.C_drew ?_))); (case side2 => exact HC0.out); rintro e w5 ⟨v500, rfl, ho0, hb⟩; refine ⟨_, rfl, ?_⟩; have n0_ := Aside0.mk (Kd.R_lower ho0 (below_size (by repeat (first | (with_reducible first | exact HB.out | apply below_alloc | apply pw_below_drewN | apply below_drew1) | exact HB.out)))); have n1_ := Aside0.mk (below_step (by repeat (first | (with_reducible first | exact HB.out | apply below_alloc | apply pw_below_drewN | apply below_drew1) | exact HB.out)) hb); clear HB; have HO501 := n0_; have HB := n1_; clear n0_ n1_; (try clear hb); (try clear hb2); (try clear hk); (try clear hi); (try clear ho0)))
  go_ret
  exact ⟨_, by first | rfl | (simp [errW_none, errW_some] <;> rfl) | (simp [*, errW_none, errW_some] <;> rfl), by (with_reducible repeat (first | apply Kd.R_alloc | apply Kd.R_drewN | apply Kd.R_drew)); exact HO501.out, by repeat (first | (with_reducible first | exact HB.out | apply below_alloc | apply pw_below_drewN | apply below_drew1) | exact HB.out)⟩

end Go.Proofs.YtjpifknencfipaaDoor.P

-- by a program (wip/tools: a turned copy of the kit's print): not trusted: Lean checks it
namespace Go.Proofs.YtjpifknencfipaaDoor.P
open Go.RowKit Go.Proofs.YtjpifknencfipaaDoorW.PrintWords Go.Proofs.YtjpifknencfipaaDoorW.PrintLast Go.Proofs.YtjpifknencfipaaDoorW.PrintMore
attribute [local go_sem] max2_int min2_int max_two min_two max_three min_three max_four min_four   -- for this text's walks alone

attribute [local go_sem high] eqA58
/-! ### row_Same: function 52 -/
def row_Same.l0 : Nat → List (S58) → List (S58) → Int → Int → Option (Bool)
  | 0, _, _, _, _ => none
  | k + 1, x0, x1, x12, x13 => if x13 < x12 then (if 0 ≤ x13 then (if x13 < (x0.length : Int) then (if x13 < (x1.length : Int) then (if (!(((rd_T58 x0 x13).f0) == ((rd_T58 x1 x13).f0)) || (!(((rd_T58 x0 x13).f1) == ((rd_T58 x1 x13).f1)) || (!(((rd_T58 x0 x13).f2) == ((rd_T58 x1 x13).f2)) || ((!(((rd_T58 x0 x13).f3.f0) == ((rd_T58 x1 x13).f3.f0)) || (!(((rd_T58 x0 x13).f3.f1) == ((rd_T58 x1 x13).f3.f1)) || (!(((rd_T58 x0 x13).f3.f2) == ((rd_T58 x1 x13).f3.f2)) || (!(((rd_T58 x0 x13).f3.f3) == ((rd_T58 x1 x13).f3.f3)))))))))) = true then (some false) else (row_Same.l0 k x0 x1 x12 (wrap64 (x13 + 1)))) else (none)) else (none)) else (none)) else (some true)
def row_Same.f (k : Nat) (l0 : List (S58)) (l1 : List (S58)) : Option (Bool) := if (l0.length : Int) = (l1.length : Int) then (row_Same.l0 k l0 l1 (l0.length : Int) 0) else (some false)
theorem row_Same.mono_l : ∀ k, (∀ y0 y1 y2 y3, LeO (row_Same.l0 k y0 y1 y2 y3) (row_Same.l0 (k + 1) y0 y1 y2 y3))
  | 0 => fun _ _ _ _ r h => by simp [row_Same.l0] at h
  | k + 1 => by
    have ih0 := row_Same.mono_l k
    · intro y0 y1 y2 y3
      unfold row_Same.l0
      repeat' first
      | (with_reducible exact ih0 _ _ _ _)
      | (with_reducible exact LeO.refl _)
      | (with_reducible exact LeO.none _)
      | (with_reducible refine LeO.ite ?_ ?_)
      | (with_reducible refine LeO.bind ?_ (fun _ => ?_))
      | exact ih0 _ _ _ _
      | exact LeO.none _
      | refine LeO.ite ?_ ?_
      | refine LeO.bind ?_ (fun _ => ?_)
theorem row_Same.mono : ∀ a0 a1 k, LeO (row_Same.f k a0 a1) (row_Same.f (k + 1) a0 a1) := by
  intro a0 a1 k
  have ih0 := row_Same.mono_l k
  unfold row_Same.f
  repeat' first
      | (with_reducible exact ih0 _ _ _ _)
      | (with_reducible exact LeO.refl _)
      | (with_reducible exact LeO.none _)
      | (with_reducible refine LeO.ite ?_ ?_)
      | (with_reducible refine LeO.bind ?_ (fun _ => ?_))
      | exact ih0 _ _ _ _
      | exact LeO.none _
      | refine LeO.ite ?_ ?_
      | refine LeO.bind ?_ (fun _ => ?_)
set_option maxHeartbeats 8000000 in
set_option maxRecDepth 100000 in
theorem row_Same.calls (k : Nat) (A0 : Option Addr) (c0 : Nat) (l0 : List (S58)) (A1 : Option Addr) (c1 : Nat) (l1 : List (S58)) (r : Bool) (w : World) (hr0 : Kd.C k58 w A0 l0.length l0) (hc0 : l0.length ≤ c0) (hr1 : Kd.C k58 w A1 l1.length l1) (hc1 : l1.length ≤ c1) (h : row_Same.f k l0 l1 = some r) :
    Calls Tryd.prog 52 #[.slice A0 l0.length c0, .slice A1 l1.length c1] w fun e w' => e = .returned (.bool r) ∧ Drawn0 w w' := by
  have hu58 := Tryd.underlying58
  have HR0 := Aside0.mk hr0
  have HC0 := Aside0.mk hc0
  clear hr0 hc0
  have HR1 := Aside0.mk hr1
  have HC1 := Aside0.mk hc1
  clear hr1 hc1
  have H : (if (l0.length : Int) = (l1.length : Int) then (row_Same.l0 k l0 l1 (l0.length : Int) 0) else (some false)) = some r := h
  clear h
  by_cases c3 : (l0.length : Int) = (l1.length : Int)
  · rw [if_pos c3] at H
    have c3b0 : ((l0.length : Int) == (l1.length : Int)) = true := beq_iff_eq.mpr c3
    have c3b1 : ((l0.length : Int) != (l1.length : Int)) = false := bne_eq_false_iff_eq.mpr c3
    have c3b2 : (l0.length == l1.length) = true := by first | simpa using c3 | (simp at c3 ⊢; omega)
    clear c3
    have H' := Aside0.mk H
    clear H
    go_enter Tryd.func52, Tryd.ntmps52
    go_wp2
    repeat (go_quiet (fail); try go_wp2)
    go_loopg [13] k (fun kq v13 w' => ∃ (x13_1 : Int), v13 = .int .i64 x13_1 ∧ Aside0 (row_Same.l0 kq l0 l1 (l0.length : Int) x13_1 = some r) ∧ Aside0 (kq ≤ k) ∧ Drawn0 w w')
    case atStart => exact ⟨(0), (by first | rfl | (simp; done) | (simp [*]; done)), H', ⟨Nat.le_refl _⟩, by repeat (first | exact Drawn0.refl _ | apply Drawn0.step)⟩
    case round =>
      clear H'
      try clear c1
      try clear p2
      try clear c3
      try clear c3b0
      try clear c3b1
      try clear c3b2
      obtain ⟨x13_1, rfl, HA, HK1, ⟨m1, rfl⟩⟩ := hrel
      cases gk with
      | zero => exact absurd HA.out (by simp [row_Same.l0])
      | succ k1 =>
        have H := HA.out
        clear HA
        simp only [row_Same.l0] at H
        by_cases c4 : x13_1 < (l0.length : Int)
        · rw [if_pos c4] at H
          have c4b0 : decide (x13_1 < (l0.length : Int)) = true := decide_eq_true c4
          clear c4
          by_cases c5 : 0 ≤ x13_1
          · rw [if_pos c5] at H
            have c5b0 : decide (0 ≤ x13_1) = true := decide_eq_true c5
            clear c5
            by_cases c6 : x13_1 < (l0.length : Int)
            · rw [if_pos c6] at H
              have c6b0 : decide (x13_1 < (l0.length : Int)) = true := decide_eq_true c6
              clear c6
              by_cases c7 : x13_1 < (l1.length : Int)
              · rw [if_pos c7] at H
                have c7b0 : decide (x13_1 < (l1.length : Int)) = true := decide_eq_true c7
                clear c7
                by_cases c8 : (!(((rd_T58 l0 x13_1).f0) == ((rd_T58 l1 x13_1).f0)) || (!(((rd_T58 l0 x13_1).f1) == ((rd_T58 l1 x13_1).f1)) || (!(((rd_T58 l0 x13_1).f2) == ((rd_T58 l1 x13_1).f2)) || ((!(((rd_T58 l0 x13_1).f3.f0) == ((rd_T58 l1 x13_1).f3.f0)) || (!(((rd_T58 l0 x13_1).f3.f1) == ((rd_T58 l1 x13_1).f3.f1)) || (!(((rd_T58 l0 x13_1).f3.f2) == ((rd_T58 l1 x13_1).f3.f2)) || (!(((rd_T58 l0 x13_1).f3.f3) == ((rd_T58 l1 x13_1).f3.f3)))))))))) = true
                · rw [if_pos c8] at H
                  have c8b0 : (!(((rd_T58 l0 x13_1).f0) == ((rd_T58 l1 x13_1).f0)) || (!(((rd_T58 l0 x13_1).f1) == ((rd_T58 l1 x13_1).f1)) || (!(((rd_T58 l0 x13_1).f2) == ((rd_T58 l1 x13_1).f2)) || ((!(((rd_T58 l0 x13_1).f3.f0) == ((rd_T58 l1 x13_1).f3.f0)) || (!(((rd_T58 l0 x13_1).f3.f1) == ((rd_T58 l1 x13_1).f3.f1)) || (!(((rd_T58 l0 x13_1).f3.f2) == ((rd_T58 l1 x13_1).f3.f2)) || (!(((rd_T58 l0 x13_1).f3.f3) == ((rd_T58 l1 x13_1).f3.f3)))))))))) = true := c8
                  clear c8
                  obtain rfl := Option.some.inj H
                  have p507 : 0 ≤ (x13_1 : Int) := of_decide_eq_true (by first | (with_reducible assumption) | assumption)
                  have q507 : x13_1 < (l0.length : Int) := of_decide_eq_true (by first | (with_reducible assumption) | assumption)
                  obtain ⟨ad507, e507, hx507_0, hx507_1, hx507_2, hx507_3, hx507_4, hx507_5, hx507_6⟩ := at_T58 HR0.out x13_1 p507 q507
                  cases e507
                  replace p507 := eq_true p507
                  replace q507 := eq_true q507
                  have p508 : 0 ≤ (x13_1 : Int) := of_decide_eq_true (by first | (with_reducible assumption) | assumption)
                  have q508 : x13_1 < (l1.length : Int) := of_decide_eq_true (by first | (with_reducible assumption) | assumption)
                  obtain ⟨ad508, e508, hx508_0, hx508_1, hx508_2, hx508_3, hx508_4, hx508_5, hx508_6⟩ := at_T58 HR1.out x13_1 p508 q508
                  cases e508
                  replace p508 := eq_true p508
                  replace q508 := eq_true q508
                  go_wp2
                  repeat (go_quiet (fail); try go_wp2)
                  go_ret
                  exact ⟨by first | rfl | (simp; done) | (simp [*]; done), by repeat (first | exact Drawn0.refl _ | apply Drawn0.step)⟩
                · rw [if_neg c8] at H
                  have c8b0 : (!(((rd_T58 l0 x13_1).f0) == ((rd_T58 l1 x13_1).f0)) || (!(((rd_T58 l0 x13_1).f1) == ((rd_T58 l1 x13_1).f1)) || (!(((rd_T58 l0 x13_1).f2) == ((rd_T58 l1 x13_1).f2)) || ((!(((rd_T58 l0 x13_1).f3.f0) == ((rd_T58 l1 x13_1).f3.f0)) || (!(((rd_T58 l0 x13_1).f3.f1) == ((rd_T58 l1 x13_1).f3.f1)) || (!(((rd_T58 l0 x13_1).f3.f2) == ((rd_T58 l1 x13_1).f3.f2)) || (!(((rd_T58 l0 x13_1).f3.f3) == ((rd_T58 l1 x13_1).f3.f3)))))))))) = false := by simpa using c8
                  clear c8
                  have H' := Aside0.mk H
                  clear H
                  have p507 : 0 ≤ (x13_1 : Int) := of_decide_eq_true (by first | (with_reducible assumption) | assumption)
                  have q507 : x13_1 < (l0.length : Int) := of_decide_eq_true (by first | (with_reducible assumption) | assumption)
                  obtain ⟨ad507, e507, hx507_0, hx507_1, hx507_2, hx507_3, hx507_4, hx507_5, hx507_6⟩ := at_T58 HR0.out x13_1 p507 q507
                  cases e507
                  replace p507 := eq_true p507
                  replace q507 := eq_true q507
                  have p508 : 0 ≤ (x13_1 : Int) := of_decide_eq_true (by first | (with_reducible assumption) | assumption)
                  have q508 : x13_1 < (l1.length : Int) := of_decide_eq_true (by first | (with_reducible assumption) | assumption)
                  obtain ⟨ad508, e508, hx508_0, hx508_1, hx508_2, hx508_3, hx508_4, hx508_5, hx508_6⟩ := at_T58 HR1.out x13_1 p508 q508
                  cases e508
                  replace p508 := eq_true p508
                  replace q508 := eq_true q508
                  go_wp2
                  repeat (go_quiet (fail); try go_wp2)
                  go_roundg k1
                  case measure => have := HK1.out; omega
                  case rel => exact ⟨(wrap64 (x13_1 + 1)), (by first | rfl | (simp; done) | (simp [*]; done)), H', ⟨by have := HK1.out; omega⟩, by repeat (first | exact Drawn0.refl _ | apply Drawn0.step)⟩
              · rw [if_neg c7] at H
                exact absurd H (by simp)
            · rw [if_neg c6] at H
              exact absurd H (by simp)
          · rw [if_neg c5] at H
            exact absurd H (by simp)
        · rw [if_neg c4] at H
          have c4b0 : decide (x13_1 < (l0.length : Int)) = false := decide_eq_false c4
          clear c4
          obtain rfl := Option.some.inj H
          go_wp2
          repeat (go_quiet (fail); try go_wp2)
          go_ret
          exact ⟨by first | rfl | (simp; done) | (simp [*]; done), by repeat (first | exact Drawn0.refl _ | apply Drawn0.step)⟩
  · rw [if_neg c3] at H
    have c3b0 : ((l0.length : Int) == (l1.length : Int)) = false := beq_eq_false_iff_ne.mpr c3
    have c3b1 : ((l0.length : Int) != (l1.length : Int)) = true := bne_iff_ne.mpr c3
    have c3b2 : (l0.length == l1.length) = false := by first | simpa using c3 | (simp at c3 ⊢; omega)
    obtain rfl := Option.some.inj H
    go_enter Tryd.func52, Tryd.ntmps52
    go_wp2
    repeat (go_quiet (fail); try go_wp2)
    go_ret
    exact ⟨by first | rfl | (simp; done) | (simp [*]; done), by repeat (first | exact Drawn0.refl _ | apply Drawn0.step)⟩

end Go.Proofs.YtjpifknencfipaaDoor.P
