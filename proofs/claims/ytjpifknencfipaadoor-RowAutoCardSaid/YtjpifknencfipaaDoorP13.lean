-- by a program (wip/tools: a turned copy of the kit's print): not trusted: Lean checks it
import Derived.Test.YtjpifknencfipaaDoorP
import Derived.Test.YtjpifknencfipaaDoorP28
import Derived.Test.YtjpifknencfipaaDoorE41
import Derived.Test.YtjpifknencfipaaDoorP39
import Derived.Test.YtjpifknencfipaaDoorP40
import Derived.Test.YtjpifknencfipaaDoorD13
namespace Go.Proofs.YtjpifknencfipaaDoor.P
open Go.RowKit Go.Proofs.YtjpifknencfipaaDoorW.PrintWords Go.Proofs.YtjpifknencfipaaDoorW.PrintLast Go.Proofs.YtjpifknencfipaaDoorW.PrintMore
attribute [local go_sem] max2_int min2_int max_two min_two max_three min_three max_four min_four   -- for this text's walks alone
set_option linter.unusedVariables false
set_option linter.unusedSimpArgs false

set_option maxHeartbeats 8000000 in
set_option maxRecDepth 100000 in
theorem gutterlaw17_RowAuto.callsT (k : Nat) (A0 : Option Addr) (c0 : Nat) (l0 : List (S32)) (a1 : Int) (a2 : Int) (r : Bool) (w : World) (hr0 : Kd.C k32 w A0 l0.length l0) (hc0 : l0.length ≤ c0) (hG : Gl 3 w) (h : gutterlaw17_RowAuto.f k l0 a1 a2 = some r) (ht : r = true) :
    Calls Tryd.prog 13 #[.slice A0 l0.length c0, .int .i64 a1, .int .i64 a2] w fun e w' => e = .returned (.bool r) ∧ Below w.heap.size w w' := by
  have HTR := Lib.hid ht
  clear ht
  have hu50 := Tryd.underlying50
  have HR0 := Aside0.mk hr0
  have HC0 := Aside0.mk hc0
  clear hr0 hc0
  have HG := Aside0.mk hG
  clear hG
  have HB := Aside0.mk (Below.refl w.heap.size w)
  have H : ((gutterlaw17_shown.f k).bind fun t474 => ((gutterlaw17_few.f l0).bind fun t475 => ((gutterref13_High.f k t475).bind fun t478 => ((row_Lay.f t475 a1 64 16 (wrap64 (t478 + a2)) true).bind fun bt479 => (if bt479.2.2.2 = 0 then (if a2 < 1 then (gutterlaw17_RowAuto.j0 k t475 t474 (wrap64 (t478 + a2)) true bt479.1 bt479.2.1 bt479.2.2.1) else (gutterlaw17_RowAuto.j0 k t475 t474 (wrap64 (t478 + a2)) (decide (a2 > 1000)) bt479.1 bt479.2.1 bt479.2.2.1)) else (gutterlaw17_RowAuto.j0 k t475 t474 (wrap64 (t478 + a2)) true bt479.1 bt479.2.1 bt479.2.2.1)))))) = some r := h
  clear h
  replace H := Option.bind_eq_some_iff.mp H
  obtain ⟨t474, A40, H⟩ := H
  replace H : ((gutterlaw17_few.f l0).bind fun t475 => ((gutterref13_High.f k t475).bind fun t478 => ((row_Lay.f t475 a1 64 16 (wrap64 (t478 + a2)) true).bind fun bt479 => (if bt479.2.2.2 = 0 then (if a2 < 1 then (gutterlaw17_RowAuto.j0 k t475 t474 (wrap64 (t478 + a2)) true bt479.1 bt479.2.1 bt479.2.2.1) else (gutterlaw17_RowAuto.j0 k t475 t474 (wrap64 (t478 + a2)) (decide (a2 > 1000)) bt479.1 bt479.2.1 bt479.2.2.1)) else (gutterlaw17_RowAuto.j0 k t475 t474 (wrap64 (t478 + a2)) true bt479.1 bt479.2.1 bt479.2.2.1))))) = some r := H
  have A4 := Aside0.mk A40
  clear A40
  replace H := Option.bind_eq_some_iff.mp H
  obtain ⟨t475, A50, H⟩ := H
  replace H : ((gutterref13_High.f k t475).bind fun t478 => ((row_Lay.f t475 a1 64 16 (wrap64 (t478 + a2)) true).bind fun bt479 => (if bt479.2.2.2 = 0 then (if a2 < 1 then (gutterlaw17_RowAuto.j0 k t475 t474 (wrap64 (t478 + a2)) true bt479.1 bt479.2.1 bt479.2.2.1) else (gutterlaw17_RowAuto.j0 k t475 t474 (wrap64 (t478 + a2)) (decide (a2 > 1000)) bt479.1 bt479.2.1 bt479.2.2.1)) else (gutterlaw17_RowAuto.j0 k t475 t474 (wrap64 (t478 + a2)) true bt479.1 bt479.2.1 bt479.2.2.1)))) = some r := H
  have A5 := Aside0.mk A50
  clear A50
  replace H := Option.bind_eq_some_iff.mp H
  obtain ⟨t478, A60, H⟩ := H
  replace H : ((row_Lay.f t475 a1 64 16 (wrap64 (t478 + a2)) true).bind fun bt479 => (if bt479.2.2.2 = 0 then (if a2 < 1 then (gutterlaw17_RowAuto.j0 k t475 t474 (wrap64 (t478 + a2)) true bt479.1 bt479.2.1 bt479.2.2.1) else (gutterlaw17_RowAuto.j0 k t475 t474 (wrap64 (t478 + a2)) (decide (a2 > 1000)) bt479.1 bt479.2.1 bt479.2.2.1)) else (gutterlaw17_RowAuto.j0 k t475 t474 (wrap64 (t478 + a2)) true bt479.1 bt479.2.1 bt479.2.2.1))) = some r := H
  have A6 := Aside0.mk A60
  clear A60
  replace H := Option.bind_eq_some_iff.mp H
  obtain ⟨⟨t479, t480, t481, t484⟩, A70, H⟩ := H
  replace H : (if t484 = 0 then (if a2 < 1 then (gutterlaw17_RowAuto.j0 k t475 t474 (wrap64 (t478 + a2)) true t479 t480 t481) else (gutterlaw17_RowAuto.j0 k t475 t474 (wrap64 (t478 + a2)) (decide (a2 > 1000)) t479 t480 t481)) else (gutterlaw17_RowAuto.j0 k t475 t474 (wrap64 (t478 + a2)) true t479 t480 t481)) = some r := H
  have A7 := Aside0.mk A70
  clear A70
  have HC8 := Aside0.mk H
  clear H
  go_enter Tryd.func13, Tryd.ntmps13
  go_upto_region 5 with (first | ((with_reducible refine gate_callee (f := 39) rfl ?_); refine goesL_ (some 13) rfl rfl Tryd.func39 (by kernel_rfl) rfl #[] rfl (by (try simp only [List.map_toArray, List.map_cons, List.map_nil]); first | done | rfl | (simp only [List.length_drop, List.length_take]; rfl)) ?_; (with_reducible refine (gutterlaw17_shown.calls k  t474 _ ?side1 A4.out).mono ?_); (case side1 => exact (Gl.of_below HG.out (by repeat (first | (with_reducible first | exact HB.out | apply below_alloc | apply pw_below_drewN | apply below_drew1) | exact HB.out))).le (by decide)); rintro e w9 ⟨rfl, hb⟩; refine ⟨_, rfl, ?_⟩; have n0_ := Aside0.mk (below_step (by repeat (first | (with_reducible first | exact HB.out | apply below_alloc | apply pw_below_drewN | apply below_drew1) | exact HB.out)) hb); clear HB; have HB := n0_; clear n0_; (try clear hb); (try clear hb2); (try clear hk); (try clear hi)) | ((with_reducible refine gate_callee (f := 40) rfl ?_); refine goesL_ (some 15) rfl rfl Tryd.func40 (by kernel_rfl) rfl #[.slice A0 l0.length c0] rfl (by (try simp only [List.map_toArray, List.map_cons, List.map_nil]); first | done | rfl | (simp only [List.length_drop, List.length_take]; rfl)) ?_; (with_reducible refine (gutterlaw17_few.calls _ _ l0 t475 _ ?side1 ?side2 A5.out).mono ?_); (case side1 => repeat (first | exact (Kd.C_below HR0.out HB.out) | (with_reducible refine Kd.C_alloc ?_ _) | (with_reducible refine Kd.C_drewN ?_ _) | (with_reducible refine Kd.C_drew ?_))); (case side2 => exact HC0.out); rintro e w10 ⟨v476, rfl, ho0, hb⟩; refine ⟨_, rfl, ?_⟩; have n0_ := Aside0.mk (Kd.R_lower ho0 (below_size (by repeat (first | (with_reducible first | exact HB.out | apply below_alloc | apply pw_below_drewN | apply below_drew1) | exact HB.out)))); have n1_ := Aside0.mk (below_step (by repeat (first | (with_reducible first | exact HB.out | apply below_alloc | apply pw_below_drewN | apply below_drew1) | exact HB.out)) hb); clear HB; have HO477 := n0_; have HB := n1_; clear n0_ n1_; (try clear hb); (try clear hb2); (try clear hk); (try clear hi); (try clear ho0); obtain ⟨Ao11, co11, eo11⟩ := Kd.R_slice HO477.out; subst eo11) | ((with_reducible refine gate_callee (f := 28) rfl ?_); refine goesL_ (some 17) rfl rfl Tryd.func28 (by kernel_rfl) rfl #[.slice Ao11 t475.length co11] rfl (by (try simp only [List.map_toArray, List.map_cons, List.map_nil]); first | done | rfl | (simp only [List.length_drop, List.length_take]; rfl)) ?_; (with_reducible refine (gutterref13_High.calls k _ _ t475 t478 _ ?side1 ?side2 A6.out).mono ?_); (case side1 => repeat (first | exact (Kd.R_reads' HO477.out).2.2 | (with_reducible refine Kd.C_alloc ?_ _) | (with_reducible refine Kd.C_drewN ?_ _) | (with_reducible refine Kd.C_drew ?_))); (case side2 => exact (Kd.R_reads' HO477.out).2.1); rintro e w' ⟨rfl, ⟨nd, rfl⟩⟩; refine ⟨_, rfl, ?_⟩; (try (rw [drewN_self w10]; generalize hq_ : World.drewN w10 _ = w10; have n0_ : Aside0 (Kd.R k32 32 w10 w.heap.size (fun _ => True) (.slice Ao11 t475.length co11) t475) := ⟨by rw [← hq_]; exact (by (with_reducible repeat (first | apply Kd.R_alloc | apply Kd.R_drewN | apply Kd.R_drew)); exact HO477.out)⟩; have n1_ : Aside0 (Below w.heap.size w w10) := ⟨by rw [← hq_]; exact (by repeat (first | (with_reducible first | exact HB.out | apply below_alloc | apply pw_below_drewN | apply below_drew1) | exact HB.out))⟩; clear HO477 HB hq_; have HO477 := n0_; have HB := n1_; clear n0_ n1_))) | ((with_reducible refine gate_callee (f := 41) rfl ?_); refine goesL_ (some 24) rfl rfl Tryd.func41 (by kernel_rfl) rfl #[.slice Ao11 t475.length co11, .int .i64 a1, .int .i64 64, .int .i64 16, .int .i64 (wrap64 (t478 + a2)), .bool true] rfl (by (try simp only [List.map_toArray, List.map_cons, List.map_nil]); first | done | rfl | (simp only [List.length_drop, List.length_take]; rfl)) ?_; (with_reducible refine (row_Lay.calls _ _ t475 a1 64 16 (wrap64 (t478 + a2)) true t479 t480 t481 t484 _ ?side1 ?side2 ?side3 A7.out).mono ?_); (case side1 => repeat (first | exact (Kd.R_reads' HO477.out).2.2 | (with_reducible refine Kd.C_alloc ?_ _) | (with_reducible refine Kd.C_drewN ?_ _) | (with_reducible refine Kd.C_drew ?_))); (case side2 => exact (Kd.R_reads' HO477.out).2.1); (case side3 => exact (Gl.of_below HG.out (by repeat (first | (with_reducible first | exact HB.out | apply below_alloc | apply pw_below_drewN | apply below_drew1) | exact HB.out))).le (by decide)); rintro e w12 ⟨v482, rfl, ho0, hb⟩; refine ⟨_, rfl, ?_⟩; have n0_ := Aside0.mk (Kd.R_below (by (with_reducible repeat (first | apply Kd.R_alloc | apply Kd.R_drewN | apply Kd.R_drew)); exact HO477.out) hb); have n1_ := Aside0.mk (Kd.R_lower ho0 (below_size (by repeat (first | (with_reducible first | exact HB.out | apply below_alloc | apply pw_below_drewN | apply below_drew1) | exact HB.out)))); have n2_ := Aside0.mk (below_step (by repeat (first | (with_reducible first | exact HB.out | apply below_alloc | apply pw_below_drewN | apply below_drew1) | exact HB.out)) hb); clear HO477; clear HB; have HO477 := n0_; have HO483 := n1_; have HB := n2_; clear n0_ n1_ n2_; (try clear hb); (try clear hb2); (try clear hk); (try clear hi); (try clear ho0)) | ((with_reducible refine gate_dst (N := 9) rfl ?_); refine box_event ?hg (N := 9) ?hd (cs := #[.int .i64 0, .int .i64 0, .slice none 0 0]) (t := 50) ?hr ?_; (case hd => rfl); (case hg => rfl); (case hr => first | (go_simp; done) | (go_simp; rfl)); intro gb485 hg w13 hbox hb; have n0_ := Aside0.mk (Kd.R_below (by (with_reducible repeat (first | apply Kd.R_alloc | apply Kd.R_drewN | apply Kd.R_drew)); exact HO477.out) hb); have n1_ := Aside0.mk (Kd.R_below (by (with_reducible repeat (first | apply Kd.R_alloc | apply Kd.R_drewN | apply Kd.R_drew)); exact HO483.out) hb); have n2_ := Aside0.mk (below_step (by repeat (first | (with_reducible first | exact HB.out | apply below_alloc | apply pw_below_drewN | apply below_drew1) | exact HB.out)) hb); have n3_ := Aside0.mk (hbox); have n4_ := Aside0.mk ((by rw [hg]; exact (below_size (by repeat (first | (with_reducible first | exact HB.out | apply below_alloc | apply pw_below_drewN | apply below_drew1) | exact HB.out))) : w.heap.size ≤ gb485)); have n5_ := Aside0.mk ((by rw [hg]; exact (below_size (by repeat (first | (with_reducible first | exact HB.out | apply below_alloc | apply pw_below_drewN | apply below_drew1) | exact HB.out))) : w.heap.size ≤ gb485)); clear HO477; clear HO483; clear HB; have HO477 := n0_; have HO483 := n1_; have HB := n2_; have BK485 := n3_; have GW485 := n4_; have GE485 := n5_; clear n0_ n1_ n2_ n3_ n4_ n5_; clear hb hbox hg; have hcz14_0 : w13.cell? ⟨gb485, 0, none⟩ = some (.int .i64 0) := (blk_cell BK485.out 0).trans rfl; have hcz14_1 : w13.cell? ⟨gb485, 1, none⟩ = some (.int .i64 0) := (blk_cell BK485.out 1).trans rfl; have hcz14_2 : w13.cell? ⟨gb485, 2, none⟩ = some (.slice none 0 0) := (blk_cell BK485.out 2).trans rfl; have hfz14_0 := blk_frozen BK485.out 0; have hfz14_1 := blk_frozen BK485.out 1; have hfz14_2 := blk_frozen BK485.out 2; obtain ⟨Ao15, co15, eo15⟩ := Kd.R_slice HO483.out; subst eo15))
  (try simp only [Act.put, List.setIfInBounds_toArray, List.set_cons_zero, List.set_cons_succ])
  go_cut [36] (fun v36 wc => ∃ (kq : Nat) (x36_7 : Bool), v36 = .bool x36_7 ∧ Aside0 (gutterlaw17_RowAuto.j0 kq t475 t474 (wrap64 (t478 + a2)) x36_7 t479 t480 t481 = some r) ∧ Aside0 (kq ≤ k) ∧ Aside0 (Kd.R k32 32 wc w.heap.size (fun _ => True) (.slice Ao11 t475.length co11) t475) ∧ Aside0 (Kd.R k58 58 wc w.heap.size (fun _ => True) (.slice Ao15 t481.length co15) t481) ∧ Aside0 (wc.heap[gb485]? = some (.cells #[.int .i64 t479, .int .i64 t480, (.slice Ao15 t481.length co15)] 50 (0, 0))) ∧ Aside0 (Below w.heap.size w wc))
  case first =>
    have H := HC8.out
    clear HC8
    by_cases c16 : t484 = 0
    · rw [if_pos c16] at H
      have c16b0 : (t484 == 0) = true := beq_iff_eq.mpr c16
      have c16b1 : (t484 != 0) = false := bne_eq_false_iff_eq.mpr c16
      clear c16
      (first | rw [c16b0] | (simp only [i64_w, i32_w]; rw [c16b0]) | skip)
      by_cases c17 : a2 < 1
      · rw [if_pos c17] at H
        have c17b0 : decide (a2 < 1) = true := decide_eq_true c17
        clear c17
        have H' := Aside0.mk H
        clear H
        go_wp2
        go_meet
        case rel => exact ⟨_, (true), (by first | rfl | (simp; done) | (simp [*]; done)), H', ⟨by first | omega | exact Nat.le_refl _⟩, ⟨by (with_reducible repeat (first | apply Kd.R_alloc | apply Kd.R_drewN | apply Kd.R_drew)); exact Kd.R_mono (Kd.R_far (p := ⟨gb485, 2, none⟩) (Kd.R_far (p := ⟨gb485, 1, none⟩) (Kd.R_far (p := ⟨gb485, 0, none⟩) (Kd.R_types HO477.out BK485.out (by decide)) (fun _ hk => hk.2) (.int .i64 t479)) (fun _ hk => hk.2) (.int .i64 t480)) (fun _ hk => hk.2) (.slice Ao15 t481.length co15)) (fun _ hk => trivial)⟩, ⟨by (with_reducible repeat (first | apply Kd.R_alloc | apply Kd.R_drewN | apply Kd.R_drew)); exact Kd.R_mono (Kd.R_far (p := ⟨gb485, 2, none⟩) (Kd.R_far (p := ⟨gb485, 1, none⟩) (Kd.R_far (p := ⟨gb485, 0, none⟩) (Kd.R_types HO483.out BK485.out (by decide)) (fun _ hk => hk.2) (.int .i64 t479)) (fun _ hk => hk.2) (.int .i64 t480)) (fun _ hk => hk.2) (.slice Ao15 t481.length co15)) (fun _ hk => trivial)⟩, ⟨by (with_reducible repeat (first | refine blk_drewN ?_ _ | refine blk_drew ?_ | refine blk_alloc ?_ _)); refine blk_put (cs := #[.int .i64 t479, .int .i64 t480, .slice none 0 0]) ?_ 2 _ rfl; (with_reducible repeat (first | refine blk_drewN ?_ _ | refine blk_drew ?_ | refine blk_alloc ?_ _)); refine blk_put (cs := #[.int .i64 t479, .int .i64 0, .slice none 0 0]) ?_ 1 _ rfl; (with_reducible repeat (first | refine blk_drewN ?_ _ | refine blk_drew ?_ | refine blk_alloc ?_ _)); refine blk_put (cs := #[.int .i64 0, .int .i64 0, .slice none 0 0]) ?_ 0 _ rfl; (with_reducible repeat (first | refine blk_drewN ?_ _ | refine blk_drew ?_ | refine blk_alloc ?_ _)); exact BK485.out⟩, ⟨by repeat (first | (with_reducible first | exact HB.out | apply below_alloc | apply pw_below_drewN | apply below_drew1 | refine below_set ?_ GE485.out) | exact HB.out)⟩⟩
      · rw [if_neg c17] at H
        have c17b0 : decide (a2 < 1) = false := decide_eq_false c17
        clear c17
        have H' := Aside0.mk H
        clear H
        go_wp2
        go_meet
        case rel => exact ⟨_, (decide (a2 > 1000)), (by first | rfl | (simp; done) | (simp [*]; done)), H', ⟨by first | omega | exact Nat.le_refl _⟩, ⟨by (with_reducible repeat (first | apply Kd.R_alloc | apply Kd.R_drewN | apply Kd.R_drew)); exact Kd.R_mono (Kd.R_far (p := ⟨gb485, 2, none⟩) (Kd.R_far (p := ⟨gb485, 1, none⟩) (Kd.R_far (p := ⟨gb485, 0, none⟩) (Kd.R_types HO477.out BK485.out (by decide)) (fun _ hk => hk.2) (.int .i64 t479)) (fun _ hk => hk.2) (.int .i64 t480)) (fun _ hk => hk.2) (.slice Ao15 t481.length co15)) (fun _ hk => trivial)⟩, ⟨by (with_reducible repeat (first | apply Kd.R_alloc | apply Kd.R_drewN | apply Kd.R_drew)); exact Kd.R_mono (Kd.R_far (p := ⟨gb485, 2, none⟩) (Kd.R_far (p := ⟨gb485, 1, none⟩) (Kd.R_far (p := ⟨gb485, 0, none⟩) (Kd.R_types HO483.out BK485.out (by decide)) (fun _ hk => hk.2) (.int .i64 t479)) (fun _ hk => hk.2) (.int .i64 t480)) (fun _ hk => hk.2) (.slice Ao15 t481.length co15)) (fun _ hk => trivial)⟩, ⟨by (with_reducible repeat (first | refine blk_drewN ?_ _ | refine blk_drew ?_ | refine blk_alloc ?_ _)); refine blk_put (cs := #[.int .i64 t479, .int .i64 t480, .slice none 0 0]) ?_ 2 _ rfl; (with_reducible repeat (first | refine blk_drewN ?_ _ | refine blk_drew ?_ | refine blk_alloc ?_ _)); refine blk_put (cs := #[.int .i64 t479, .int .i64 0, .slice none 0 0]) ?_ 1 _ rfl; (with_reducible repeat (first | refine blk_drewN ?_ _ | refine blk_drew ?_ | refine blk_alloc ?_ _)); refine blk_put (cs := #[.int .i64 0, .int .i64 0, .slice none 0 0]) ?_ 0 _ rfl; (with_reducible repeat (first | refine blk_drewN ?_ _ | refine blk_drew ?_ | refine blk_alloc ?_ _)); exact BK485.out⟩, ⟨by repeat (first | (with_reducible first | exact HB.out | apply below_alloc | apply pw_below_drewN | apply below_drew1 | refine below_set ?_ GE485.out) | exact HB.out)⟩⟩
    · rw [if_neg c16] at H
      have c16b0 : (t484 == 0) = false := beq_eq_false_iff_ne.mpr c16
      have c16b1 : (t484 != 0) = true := bne_iff_ne.mpr c16
      (first | rw [c16b0] | (simp only [i64_w, i32_w]; rw [c16b0]) | skip)
      have H' := Aside0.mk H
      clear H
      go_wp2
      go_meet
      case rel => exact ⟨_, (true), (by first | rfl | (simp; done) | (simp [*]; done)), H', ⟨by first | omega | exact Nat.le_refl _⟩, ⟨by (with_reducible repeat (first | apply Kd.R_alloc | apply Kd.R_drewN | apply Kd.R_drew)); exact Kd.R_mono (Kd.R_far (p := ⟨gb485, 2, none⟩) (Kd.R_far (p := ⟨gb485, 1, none⟩) (Kd.R_far (p := ⟨gb485, 0, none⟩) (Kd.R_types HO477.out BK485.out (by decide)) (fun _ hk => hk.2) (.int .i64 t479)) (fun _ hk => hk.2) (.int .i64 t480)) (fun _ hk => hk.2) (.slice Ao15 t481.length co15)) (fun _ hk => trivial)⟩, ⟨by (with_reducible repeat (first | apply Kd.R_alloc | apply Kd.R_drewN | apply Kd.R_drew)); exact Kd.R_mono (Kd.R_far (p := ⟨gb485, 2, none⟩) (Kd.R_far (p := ⟨gb485, 1, none⟩) (Kd.R_far (p := ⟨gb485, 0, none⟩) (Kd.R_types HO483.out BK485.out (by decide)) (fun _ hk => hk.2) (.int .i64 t479)) (fun _ hk => hk.2) (.int .i64 t480)) (fun _ hk => hk.2) (.slice Ao15 t481.length co15)) (fun _ hk => trivial)⟩, ⟨by (with_reducible repeat (first | refine blk_drewN ?_ _ | refine blk_drew ?_ | refine blk_alloc ?_ _)); refine blk_put (cs := #[.int .i64 t479, .int .i64 t480, .slice none 0 0]) ?_ 2 _ rfl; (with_reducible repeat (first | refine blk_drewN ?_ _ | refine blk_drew ?_ | refine blk_alloc ?_ _)); refine blk_put (cs := #[.int .i64 t479, .int .i64 0, .slice none 0 0]) ?_ 1 _ rfl; (with_reducible repeat (first | refine blk_drewN ?_ _ | refine blk_drew ?_ | refine blk_alloc ?_ _)); refine blk_put (cs := #[.int .i64 0, .int .i64 0, .slice none 0 0]) ?_ 0 _ rfl; (with_reducible repeat (first | refine blk_drewN ?_ _ | refine blk_drew ?_ | refine blk_alloc ?_ _)); exact BK485.out⟩, ⟨by repeat (first | (with_reducible first | exact HB.out | apply below_alloc | apply pw_below_drewN | apply below_drew1 | refine below_set ?_ GE485.out) | exact HB.out)⟩⟩
  case rest =>
    clear HC8
    try clear c1
    try clear c2
    try clear p2
    try clear c3
    try clear c4
    try clear p6
    try clear c13
    try clear c16
    try clear c16b0
    try clear c16b1
    try clear c17
    try clear c17b0
    try clear hcz14_0
    try clear hcz14_1
    try clear hcz14_2
    try clear hfz14_0
    try clear hfz14_1
    try clear hfz14_2
    obtain ⟨kq, x36_7, rfl, HA, HJ7, HO_0, HO_486002, BK485, HB⟩ := hcut
    cases kq with
    | zero => exact absurd HA.out (by simp [gutterlaw17_RowAuto.j0])
    | succ kj7 =>
      have H := HA.out
      clear HA
      simp only [gutterlaw17_RowAuto.j0] at H
      by_cases c18 : x36_7 = true
      · subst c18
        have H1 : (some t474) = some r := by rw [if_pos rfl] at H; exact H
        clear H
        have H := H1
        clear H1
        obtain rfl := Option.some.inj H
        go_wp2
        go_ret
        exact ⟨by first | rfl | (simp [errW_none, errW_some] <;> rfl) | (simp [*, errW_none, errW_some] <;> rfl), by repeat (first | (with_reducible first | exact HB.out | apply below_alloc | apply pw_below_drewN | apply below_drew1 | refine below_set ?_ GE485.out) | exact HB.out)⟩
      · replace c18 := Bool.eq_false_iff.mpr c18
        subst c18
        have H1 : (gutterlaw17_RowAuto.l0 kj7 t475 t474 (wrap64 (t478 + a2)) (mn 1 (t475.length : Int)) 1 t479 t480 t481) = some r := by rw [if_neg (show ¬ (false = true) by decide)] at H; exact H
        clear H
        have H := H1
        clear H1
        obtain ⟨ji19, hji19⟩ : ∃ j_ : Int, (mn 1 (t475.length : Int)) = j_ := ⟨_, rfl⟩
        replace H : (gutterlaw17_RowAuto.l0 kj7 t475 t474 (wrap64 (t478 + a2)) ji19 1 t479 t480 t481) = some r := by first | (rw [hji19] at H; exact H) | (simp only [hji19] at H ⊢; exact H)
        have hji19_ : (if (t475.length : Int) < 1 then (t475.length : Int) else 1) = ji19 := hji19
        have H' := Aside0.mk H
        clear H
        go_wp2
        go_loopg [11, 12] kj7 (fun kq v11 v12 w' => ∃ (x11_2 : Int) (x12_2 : Int), v11 = .int .i64 x11_2 ∧ v12 = .int .i64 x12_2 ∧ Aside0 (gutterlaw17_RowAuto.l0 kq t475 t474 (wrap64 (t478 + a2)) x11_2 x12_2 t479 t480 t481 = some r) ∧ Aside0 (kq ≤ kj7) ∧ Aside0 (Kd.R k32 32 w' w.heap.size (fun _ => True) (.slice Ao11 t475.length co11) t475) ∧ Aside0 (Kd.R k58 58 w' w.heap.size (fun _ => True) (.slice Ao15 t481.length co15) t481) ∧ Aside0 (w'.heap[gb485]? = some (.cells #[.int .i64 t479, .int .i64 t480, (.slice Ao15 t481.length co15)] 50 (0, 0))) ∧ Aside0 (Below w.heap.size w w'))
        case atStart => exact ⟨(ji19), (1), (by first | rfl | (simp; done) | (simp only [← hji19] <;> (first | rfl | simp)) | (simp [*]; done)), (by first | rfl | (simp; done) | (simp [*]; done)), H', ⟨Nat.le_refl _⟩, ⟨by (with_reducible repeat (first | apply Kd.R_alloc | apply Kd.R_drewN | apply Kd.R_drew)); exact HO_0.out⟩, ⟨by (with_reducible repeat (first | apply Kd.R_alloc | apply Kd.R_drewN | apply Kd.R_drew)); exact HO_486002.out⟩, ⟨by (with_reducible repeat (first | refine blk_drewN ?_ _ | refine blk_drew ?_ | refine blk_alloc ?_ _)); exact BK485.out⟩, ⟨by repeat (first | (with_reducible first | exact HB.out | apply below_alloc | apply pw_below_drewN | apply below_drew1 | refine below_set ?_ GE485.out) | exact HB.out)⟩⟩
        case round =>
          clear H'
          try clear c1
          try clear c2
          try clear p2
          try clear c3
          try clear c4
          try clear p6
          try clear c13
          try clear c16
          try clear c16b0
          try clear c16b1
          try clear c17
          try clear c17b0
          try clear c18
          try clear hcz14_0
          try clear hcz14_1
          try clear hcz14_2
          try clear hfz14_0
          try clear hfz14_1
          try clear hfz14_2
          try clear p2
          try clear p6
          obtain ⟨x11_2, x12_2, rfl, rfl, HA, HK2, HO_0, HO_486002, BK485, HB⟩ := hrel
          cases gk with
          | zero => exact absurd HA.out (by simp [gutterlaw17_RowAuto.l0])
          | succ k2 =>
            have H := HA.out
            clear HA
            simp only [gutterlaw17_RowAuto.l0] at H
            by_cases c20 : x12_2 < (t475.length : Int)
            · rw [if_pos c20] at H
              have c20b0 : decide (x12_2 < (t475.length : Int)) = true := decide_eq_true c20
              clear c20
              by_cases c21 : 0 ≤ x12_2
              · rw [if_pos c21] at H
                have c21b0 : decide (0 ≤ x12_2) = true := decide_eq_true c21
                clear c21
                by_cases c22 : ((rd_T32 t475 x12_2).f4) = 2
                · rw [if_pos c22] at H
                  have c22b0 : (((rd_T32 t475 x12_2).f4) == 2) = true := beq_iff_eq.mpr c22
                  have c22b1 : (((rd_T32 t475 x12_2).f4) != 2) = false := bne_eq_false_iff_eq.mpr c22
                  clear c22
                  have H' := Aside0.mk H
                  clear H
                  have p486 : 0 ≤ (x12_2 : Int) := of_decide_eq_true (by first | (with_reducible assumption) | assumption)
                  have q486 : x12_2 < (t475.length : Int) := of_decide_eq_true (by first | (with_reducible assumption) | assumption)
                  obtain ⟨ad486, e486, hx486_0, hx486_1, hx486_2, hx486_3, hx486_4⟩ := at_T32 (Kd.R_reads' HO_0.out).2.2 x12_2 p486 q486
                  cases e486
                  replace p486 := eq_true p486
                  replace q486 := eq_true q486
                  go_wp2
                  go_roundg k2
                  case measure => have := HJ7.out; have := HK2.out; omega
                  case rel => exact ⟨(wrap64 (x11_2 + 1)), (wrap64 (x12_2 + 1)), (by first | rfl | (simp; done) | (simp [*]; done)), (by first | rfl | (simp; done) | (simp [*]; done)), H', ⟨by have := HJ7.out; have := HK2.out; omega⟩, ⟨by (with_reducible repeat (first | apply Kd.R_alloc | apply Kd.R_drewN | apply Kd.R_drew)); exact HO_0.out⟩, ⟨by (with_reducible repeat (first | apply Kd.R_alloc | apply Kd.R_drewN | apply Kd.R_drew)); exact HO_486002.out⟩, ⟨by (with_reducible repeat (first | refine blk_drewN ?_ _ | refine blk_drew ?_ | refine blk_alloc ?_ _)); exact BK485.out⟩, ⟨by repeat (first | (with_reducible first | exact HB.out | apply below_alloc | apply pw_below_drewN | apply below_drew1 | refine below_set ?_ GE485.out) | exact HB.out)⟩⟩
                · rw [if_neg c22] at H
                  have c22b0 : (((rd_T32 t475 x12_2).f4) == 2) = false := beq_eq_false_iff_ne.mpr c22
                  have c22b1 : (((rd_T32 t475 x12_2).f4) != 2) = true := bne_iff_ne.mpr c22
                  have H' := Aside0.mk H
                  clear H
                  have p486 : 0 ≤ (x12_2 : Int) := of_decide_eq_true (by first | (with_reducible assumption) | assumption)
                  have q486 : x12_2 < (t475.length : Int) := of_decide_eq_true (by first | (with_reducible assumption) | assumption)
                  obtain ⟨ad486, e486, hx486_0, hx486_1, hx486_2, hx486_3, hx486_4⟩ := at_T32 (Kd.R_reads' HO_0.out).2.2 x12_2 p486 q486
                  cases e486
                  replace p486 := eq_true p486
                  replace q486 := eq_true q486
                  go_wp2
                  go_roundg k2
                  case measure => have := HJ7.out; have := HK2.out; omega
                  case rel => exact ⟨(x11_2), (wrap64 (x12_2 + 1)), (by first | rfl | (simp; done) | (simp [*]; done)), (by first | rfl | (simp; done) | (simp [*]; done)), H', ⟨by have := HJ7.out; have := HK2.out; omega⟩, ⟨by (with_reducible repeat (first | apply Kd.R_alloc | apply Kd.R_drewN | apply Kd.R_drew)); exact HO_0.out⟩, ⟨by (with_reducible repeat (first | apply Kd.R_alloc | apply Kd.R_drewN | apply Kd.R_drew)); exact HO_486002.out⟩, ⟨by (with_reducible repeat (first | refine blk_drewN ?_ _ | refine blk_drew ?_ | refine blk_alloc ?_ _)); exact BK485.out⟩, ⟨by repeat (first | (with_reducible first | exact HB.out | apply below_alloc | apply pw_below_drewN | apply below_drew1 | refine below_set ?_ GE485.out) | exact HB.out)⟩⟩
              · rw [if_neg c21] at H
                exact absurd H (by simp)
            · rw [if_neg c20] at H
              have c20b0 : decide (x12_2 < (t475.length : Int)) = false := decide_eq_false c20
              clear c20
              by_cases c23 : t474 = true
              · subst c23
                have H1 : (if t479 = (wrap64 (t478 + a2)) then (some (t480 == x11_2)) else (some false)) = some r := by rw [if_pos rfl] at H; exact H
                clear H
                have H := H1
                clear H1
                by_cases c24 : t479 = (wrap64 (t478 + a2))
                · rw [if_pos c24] at H
                  have c24b0 : (t479 == (wrap64 (t478 + a2))) = true := beq_iff_eq.mpr c24
                  have c24b1 : (t479 != (wrap64 (t478 + a2))) = false := bne_eq_false_iff_eq.mpr c24
                  clear c24
                  obtain rfl := Option.some.inj H
                  have hcz25_0 : wr.cell? ⟨gb485, 0, none⟩ = some (.int .i64 t479) := (blk_cell BK485.out 0).trans rfl
                  have hcz25_1 : wr.cell? ⟨gb485, 1, none⟩ = some (.int .i64 t480) := (blk_cell BK485.out 1).trans rfl
                  have hcz25_2 : wr.cell? ⟨gb485, 2, none⟩ = some (.slice Ao15 t481.length co15) := (blk_cell BK485.out 2).trans rfl
                  have hfz25_0 := blk_frozen BK485.out 0
                  have hfz25_1 := blk_frozen BK485.out 1
                  have hfz25_2 := blk_frozen BK485.out 2
                  go_wp2
                  go_ret
                  exact ⟨by first | rfl | (simp [errW_none, errW_some] <;> rfl) | (simp only [← hji19]; first | rfl | (simp [errW_none, errW_some] <;> rfl)) | (simp [*, errW_none, errW_some] <;> rfl), by repeat (first | (with_reducible first | exact HB.out | apply below_alloc | apply pw_below_drewN | apply below_drew1 | refine below_set ?_ GE485.out) | exact HB.out)⟩
                · rw [if_neg c24] at H
                  have c24b0 : (t479 == (wrap64 (t478 + a2))) = false := beq_eq_false_iff_ne.mpr c24
                  have c24b1 : (t479 != (wrap64 (t478 + a2))) = true := bne_iff_ne.mpr c24
                  exact absurd ((Option.some.inj H).trans HTR.out) (by decide)
              · replace c23 := Bool.eq_false_iff.mpr c23
                subst c23
                have H1 : (some false) = some r := by rw [if_neg (show ¬ (false = true) by decide)] at H; exact H
                clear H
                have H := H1
                clear H1
                exact absurd ((Option.some.inj H).trans HTR.out) (by decide)
end Go.Proofs.YtjpifknencfipaaDoor.P
