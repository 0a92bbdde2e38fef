/-  -/
import Derived.Test.YtjpifknencfipaaDoorP
set_option linter.unusedVariables false
set_option linter.unusedSimpArgs false
-- by a program (wip/tools: a turned copy of the kit's print): not trusted: Lean checks it
namespace Go.Proofs.YtjpifknencfipaaDoor.P
open Go.RowKit Go.Proofs.YtjpifknencfipaaDoorW.PrintWords Go.Proofs.YtjpifknencfipaaDoorW.PrintLast Go.Proofs.YtjpifknencfipaaDoorW.PrintMore
attribute [local go_sem] max2_int min2_int max_two min_two max_three min_three max_four min_four   -- for this text's walks alone

/-! ### gutterref17_Low: function 51 -/
def gutterref17_Low.l0 : Nat → List (S58) → Int → Int → Option (Int)
  | 0, _, _, _ => none
  | k + 1, x0, x3, x4 => if x4 < (x0.length : Int) then (if 0 ≤ x4 then (gutterref17_Low.l0 k x0 (mx x3 (wrap64 (((rd_T58 x0 x4).f3.f1) + ((rd_T58 x0 x4).f3.f3)))) (wrap64 (x4 + 1))) else (none)) else (some x3)
def gutterref17_Low.f (k : Nat) (l0 : List (S58)) : Option (Int) := gutterref17_Low.l0 k l0 0 0
theorem gutterref17_Low.mono_l : ∀ k, (∀ y0 y1 y2, LeO (gutterref17_Low.l0 k y0 y1 y2) (gutterref17_Low.l0 (k + 1) y0 y1 y2))
  | 0 => fun _ _ _ r h => by simp [gutterref17_Low.l0] at h
  | k + 1 => by
    have ih0 := gutterref17_Low.mono_l k
    · intro y0 y1 y2
      unfold gutterref17_Low.l0
      repeat' first
      | (with_reducible exact ih0 _ _ _)
      | (with_reducible exact LeO.refl _)
      | (with_reducible exact LeO.none _)
      | (with_reducible refine LeO.ite ?_ ?_)
      | (with_reducible refine LeO.bind ?_ (fun _ => ?_))
      | exact ih0 _ _ _
      | exact LeO.none _
      | refine LeO.ite ?_ ?_
      | refine LeO.bind ?_ (fun _ => ?_)
theorem gutterref17_Low.mono : ∀ a0 k, LeO (gutterref17_Low.f k a0) (gutterref17_Low.f (k + 1) a0) := by
  intro a0 k
  have ih0 := gutterref17_Low.mono_l k
  unfold gutterref17_Low.f
  repeat' first
      | (with_reducible exact ih0 _ _ _)
      | (with_reducible exact LeO.refl _)
      | (with_reducible exact LeO.none _)
      | (with_reducible refine LeO.ite ?_ ?_)
      | (with_reducible refine LeO.bind ?_ (fun _ => ?_))
      | exact ih0 _ _ _
      | exact LeO.none _
      | refine LeO.ite ?_ ?_
      | refine LeO.bind ?_ (fun _ => ?_)
set_option maxHeartbeats 8000000 in
set_option maxRecDepth 100000 in
theorem gutterref17_Low.calls (k : Nat) (A0 : Option Addr) (c0 : Nat) (l0 : List (S58)) (r : Int) (w : World) (hr0 : Kd.C k58 w A0 l0.length l0) (hc0 : l0.length ≤ c0) (h : gutterref17_Low.f k l0 = some r) :
    Calls Tryd.prog 51 #[.slice A0 l0.length c0] w fun e w' => e = .returned (.int .i64 r) ∧ Below w.heap.size w w' := by
  have HR0 := Aside0.mk hr0
  have HC0 := Aside0.mk hc0
  clear hr0 hc0
  have HB := Aside0.mk (Below.refl w.heap.size w)
  have H : (gutterref17_Low.l0 k l0 0 0) = some r := h
  clear h
  have H' := Aside0.mk H
  clear H
  go_enter Tryd.func51, Tryd.ntmps51
  go_wp2
  repeat (go_quiet (fail); try go_wp2)
  go_loopg [3, 4] k (fun kq v3 v4 w' => ∃ (x3_1 : Int) (x4_1 : Int), v3 = .int .i64 x3_1 ∧ v4 = .int .i64 x4_1 ∧ Aside0 (gutterref17_Low.l0 kq l0 x3_1 x4_1 = some r) ∧ Aside0 (kq ≤ k) ∧ Aside0 (Below w.heap.size w w'))
  case atStart => exact ⟨(0), (0), (by first | rfl | (simp; done) | (simp [*]; done)), (by first | rfl | (simp; done) | (simp [*]; done)), H', ⟨Nat.le_refl _⟩, ⟨by repeat (first | (with_reducible first | exact HB.out | apply below_alloc | apply pw_below_drewN | apply below_drew1) | exact HB.out)⟩⟩
  case round =>
    clear H'
    obtain ⟨x3_1, x4_1, rfl, rfl, HA, HK1, HB⟩ := hrel
    cases gk with
    | zero => exact absurd HA.out (by simp [gutterref17_Low.l0])
    | succ k1 =>
      have H := HA.out
      clear HA
      simp only [gutterref17_Low.l0] at H
      by_cases c2 : x4_1 < (l0.length : Int)
      · rw [if_pos c2] at H
        have c2b0 : decide (x4_1 < (l0.length : Int)) = true := decide_eq_true c2
        clear c2
        by_cases c3 : 0 ≤ x4_1
        · rw [if_pos c3] at H
          have c3b0 : decide (0 ≤ x4_1) = true := decide_eq_true c3
          clear c3
          obtain ⟨ji4, hji4⟩ : ∃ j_ : Int, (mx x3_1 (wrap64 (((rd_T58 l0 x4_1).f3.f1) + ((rd_T58 l0 x4_1).f3.f3)))) = j_ := ⟨_, rfl⟩
          replace H : (gutterref17_Low.l0 k1 l0 ji4 (wrap64 (x4_1 + 1))) = some r := by first | (rw [hji4] at H; exact H) | (simp only [hji4] at H ⊢; exact H)
          have hji4_ : (if x3_1 < (wrap64 (((rd_T58 l0 x4_1).f3.f1) + ((rd_T58 l0 x4_1).f3.f3))) then (wrap64 (((rd_T58 l0 x4_1).f3.f1) + ((rd_T58 l0 x4_1).f3.f3))) else x3_1) = ji4 := hji4
          have H' := Aside0.mk H
          clear H
          have p505 : 0 ≤ (x4_1 : Int) := of_decide_eq_true (by first | (with_reducible assumption) | assumption)
          have q505 : x4_1 < (l0.length : Int) := of_decide_eq_true (by first | (with_reducible assumption) | assumption)
          obtain ⟨ad505, e505, hx505_0, hx505_1, hx505_2, hx505_3, hx505_4, hx505_5, hx505_6⟩ := at_T58 HR0.out x4_1 p505 q505
          cases e505
          replace hx505_0 := (HB.out.cell (World.block_lt_of_cell? w _ hx505_0)).trans hx505_0
          replace hx505_1 := (HB.out.cell (World.block_lt_of_cell? w _ hx505_1)).trans hx505_1
          replace hx505_2 := (HB.out.cell (World.block_lt_of_cell? w _ hx505_2)).trans hx505_2
          replace hx505_3 := (HB.out.cell (World.block_lt_of_cell? w _ hx505_3)).trans hx505_3
          replace hx505_4 := (HB.out.cell (World.block_lt_of_cell? w _ hx505_4)).trans hx505_4
          replace hx505_5 := (HB.out.cell (World.block_lt_of_cell? w _ hx505_5)).trans hx505_5
          replace hx505_6 := (HB.out.cell (World.block_lt_of_cell? w _ hx505_6)).trans hx505_6
          replace p505 := eq_true p505
          replace q505 := eq_true q505
          have p506 : 0 ≤ (x4_1 : Int) := of_decide_eq_true (by first | (with_reducible assumption) | assumption)
          have q506 : x4_1 < (l0.length : Int) := of_decide_eq_true (by first | (with_reducible assumption) | assumption)
          obtain ⟨ad506, e506, hx506_0, hx506_1, hx506_2, hx506_3, hx506_4, hx506_5, hx506_6⟩ := at_T58 HR0.out x4_1 p506 q506
          obtain rfl : ad505 = ad506 := (by injection e506)
          replace hx506_0 := (HB.out.cell (World.block_lt_of_cell? w _ hx506_0)).trans hx506_0
          replace hx506_1 := (HB.out.cell (World.block_lt_of_cell? w _ hx506_1)).trans hx506_1
          replace hx506_2 := (HB.out.cell (World.block_lt_of_cell? w _ hx506_2)).trans hx506_2
          replace hx506_3 := (HB.out.cell (World.block_lt_of_cell? w _ hx506_3)).trans hx506_3
          replace hx506_4 := (HB.out.cell (World.block_lt_of_cell? w _ hx506_4)).trans hx506_4
          replace hx506_5 := (HB.out.cell (World.block_lt_of_cell? w _ hx506_5)).trans hx506_5
          replace hx506_6 := (HB.out.cell (World.block_lt_of_cell? w _ hx506_6)).trans hx506_6
          replace p506 := eq_true p506
          replace q506 := eq_true q506
          go_wp2
          repeat (go_quiet (fail); try go_wp2)
          go_roundg k1
          case measure => have := HK1.out; omega
          case rel => exact ⟨(ji4), (wrap64 (x4_1 + 1)), (by first | rfl | (simp; done) | (simp only [← hji4] <;> (first | rfl | simp)) | (simp [*]; done)), (by first | rfl | (simp; done) | (simp [*]; done)), H', ⟨by have := HK1.out; omega⟩, ⟨by repeat (first | (with_reducible first | exact HB.out | apply below_alloc | apply pw_below_drewN | apply below_drew1) | exact HB.out)⟩⟩
        · rw [if_neg c3] at H
          exact absurd H (by simp)
      · rw [if_neg c2] at H
        have c2b0 : decide (x4_1 < (l0.length : Int)) = false := decide_eq_false c2
        clear c2
        obtain rfl := Option.some.inj H
        go_wp2
        repeat (go_quiet (fail); try go_wp2)
        go_ret
        exact ⟨by first | rfl | (simp [errW_none, errW_some] <;> rfl) | (simp [*, errW_none, errW_some] <;> rfl), by repeat (first | (with_reducible first | exact HB.out | apply below_alloc | apply pw_below_drewN | apply below_drew1) | exact HB.out)⟩

end Go.Proofs.YtjpifknencfipaaDoor.P

-- by a program (wip/tools: a turned copy of the kit's print): not trusted: Lean checks it
namespace Go.Proofs.YtjpifknencfipaaDoor.P
open Go.RowKit Go.Proofs.YtjpifknencfipaaDoorW.PrintWords Go.Proofs.YtjpifknencfipaaDoorW.PrintLast Go.Proofs.YtjpifknencfipaaDoorW.PrintMore
attribute [local go_sem] max2_int min2_int max_two min_two max_three min_three max_four min_four   -- for this text's walks alone

/-! ### gutterref17_Over: function 53 -/
def gutterref17_Over.f (a0_0 : Int) (a0_1 : Int) (l0_2 : List (S58)) (a1 : Int) : Option (Int) := if a0_1 ≤ a1 then (some 0) else (some (wrap64 (a0_1 - a1)))
set_option maxHeartbeats 8000000 in
set_option maxRecDepth 100000 in
theorem gutterref17_Over.calls (a0_0 : Int) (a0_1 : Int) (A0_2 : Option Addr) (c0_2 : Nat) (l0_2 : List (S58)) (a1 : Int) (r : Int) (w : World) (hr0_2 : Kd.C k58 w A0_2 l0_2.length l0_2) (hc0_2 : l0_2.length ≤ c0_2) (h : gutterref17_Over.f a0_0 a0_1 l0_2 a1 = some r) :
    Calls Tryd.prog 53 #[.agg #[.int .i64 a0_0, .int .i64 a0_1, .slice A0_2 l0_2.length c0_2], .int .i64 a1] w fun e w' => e = .returned (.int .i64 r) ∧ Below w.heap.size w w' := by
  have hu50 := Tryd.underlying50
  have HR0_2 := Aside0.mk hr0_2
  have HC0_2 := Aside0.mk hc0_2
  clear hr0_2 hc0_2
  have HB := Aside0.mk (Below.refl w.heap.size w)
  have H : (if a0_1 ≤ a1 then (some 0) else (some (wrap64 (a0_1 - a1)))) = some r := h
  clear h
  by_cases c3 : a0_1 ≤ a1
  · rw [if_pos c3] at H
    have c3b0 : decide (a0_1 ≤ a1) = true := decide_eq_true c3
    clear c3
    obtain rfl := Option.some.inj H
    go_enter Tryd.func53, Tryd.ntmps53
    go_wp2_with (first | ((with_reducible refine gate_dst (N := 2) rfl ?_); refine box_event ?hg (N := 2) ?hd (cs := #[.int .i64 a0_0, .int .i64 a0_1, .slice A0_2 l0_2.length c0_2]) (t := 50) ?hr ?_; (case hd => rfl); (case hg => rfl); (case hr => first | (go_simp; done) | (go_simp; rfl)); intro gb509 hg w4 hbox hb; have n0_ := Aside0.mk (below_step (by repeat (first | (with_reducible first | exact HB.out | apply below_alloc | apply pw_below_drewN | apply below_drew1) | exact HB.out)) hb); have n1_ := Aside0.mk (hbox); have n2_ := Aside0.mk ((by rw [hg]; exact (below_size (by repeat (first | (with_reducible first | exact HB.out | apply below_alloc | apply pw_below_drewN | apply below_drew1) | exact HB.out))) : w.heap.size ≤ gb509)); have n3_ := Aside0.mk ((by rw [hg]; exact (below_size (by repeat (first | (with_reducible first | exact HB.out | apply below_alloc | apply pw_below_drewN | apply below_drew1) | exact HB.out))) : w.heap.size ≤ gb509)); clear HB; have HB := n0_; have BK509 := n1_; have GW509 := n2_; have GE509 := n3_; clear n0_ n1_ n2_ n3_; clear hb hbox hg; have hcz5_0 : w4.cell? ⟨gb509, 0, none⟩ = some (.int .i64 a0_0) := (blk_cell BK509.out 0).trans rfl; have hcz5_1 : w4.cell? ⟨gb509, 1, none⟩ = some (.int .i64 a0_1) := (blk_cell BK509.out 1).trans rfl; have hcz5_2 : w4.cell? ⟨gb509, 2, none⟩ = some (.slice A0_2 l0_2.length c0_2) := (blk_cell BK509.out 2).trans rfl; have hfz5_0 := blk_frozen BK509.out 0; have hfz5_1 := blk_frozen BK509.out 1; have hfz5_2 := blk_frozen BK509.out 2))
    go_ret
    exact ⟨by first | rfl | (simp [errW_none, errW_some] <;> rfl) | (simp [*, errW_none, errW_some] <;> rfl), by repeat (first | (with_reducible first | exact HB.out | apply below_alloc | apply pw_below_drewN | apply below_drew1 | refine below_set ?_ GE509.out) | exact HB.out)⟩
  · rw [if_neg c3] at H
    have c3b0 : decide (a0_1 ≤ a1) = false := decide_eq_false c3
    clear c3
    obtain rfl := Option.some.inj H
    go_enter Tryd.func53, Tryd.ntmps53
    go_wp2_with (first | ((with_reducible refine gate_dst (N := 2) rfl ?_); refine box_event ?hg (N := 2) ?hd (cs := #[.int .i64 a0_0, .int .i64 a0_1, .slice A0_2 l0_2.length c0_2]) (t := 50) ?hr ?_; (case hd => rfl); (case hg => rfl); (case hr => first | (go_simp; done) | (go_simp; rfl)); intro gb509 hg w6 hbox hb; have n0_ := Aside0.mk (below_step (by repeat (first | (with_reducible first | exact HB.out | apply below_alloc | apply pw_below_drewN | apply below_drew1) | exact HB.out)) hb); have n1_ := Aside0.mk (hbox); have n2_ := Aside0.mk ((by rw [hg]; exact (below_size (by repeat (first | (with_reducible first | exact HB.out | apply below_alloc | apply pw_below_drewN | apply below_drew1) | exact HB.out))) : w.heap.size ≤ gb509)); have n3_ := Aside0.mk ((by rw [hg]; exact (below_size (by repeat (first | (with_reducible first | exact HB.out | apply below_alloc | apply pw_below_drewN | apply below_drew1) | exact HB.out))) : w.heap.size ≤ gb509)); clear HB; have HB := n0_; have BK509 := n1_; have GW509 := n2_; have GE509 := n3_; clear n0_ n1_ n2_ n3_; clear hb hbox hg; have hcz7_0 : w6.cell? ⟨gb509, 0, none⟩ = some (.int .i64 a0_0) := (blk_cell BK509.out 0).trans rfl; have hcz7_1 : w6.cell? ⟨gb509, 1, none⟩ = some (.int .i64 a0_1) := (blk_cell BK509.out 1).trans rfl; have hcz7_2 : w6.cell? ⟨gb509, 2, none⟩ = some (.slice A0_2 l0_2.length c0_2) := (blk_cell BK509.out 2).trans rfl; have hfz7_0 := blk_frozen BK509.out 0; have hfz7_1 := blk_frozen BK509.out 1; have hfz7_2 := blk_frozen BK509.out 2))
    go_ret
    exact ⟨by first | rfl | (simp [errW_none, errW_some] <;> rfl) | (simp [*, errW_none, errW_some] <;> rfl), by repeat (first | (with_reducible first | exact HB.out | apply below_alloc | apply pw_below_drewN | apply below_drew1 | refine below_set ?_ GE509.out) | exact HB.out)⟩

end Go.Proofs.YtjpifknencfipaaDoor.P
