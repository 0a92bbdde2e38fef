-- by a program (wip/tools: a turned copy of the kit's print): not trusted: Lean checks it
import Derived.Test.YtomgpbhkoellpaaDoorP
import Derived.Test.YtomgpbhkoellpaaDoorE13
import Derived.Test.YtomgpbhkoellpaaDoorE15
import Derived.Test.YtomgpbhkoellpaaDoorP11
import Derived.Test.YtomgpbhkoellpaaDoorP12
import Derived.Test.YtomgpbhkoellpaaDoorE17
import Derived.Test.YtomgpbhkoellpaaDoorP27
namespace Go.Proofs.YtomgpbhkoellpaaDoor.P
open Go.RowKit Go.Proofs.YtomgpbhkoellpaaDoorW.PrintWords Go.Proofs.YtomgpbhkoellpaaDoorW.PrintLast Go.Proofs.YtomgpbhkoellpaaDoorW.PrintMore
attribute [local go_sem] max2_int min2_int max_two min_two max_three min_three max_four min_four   -- for this text's walks alone
set_option linter.unusedVariables false
set_option linter.unusedSimpArgs false

/-! ### gutterlaw03_BandBack: function 9 -/
def gutterlaw03_BandBack.j0 : Nat → List (S24) → Bool → Bool → Int → Int → Option (Bool)
  | 0, _, _, _, _, _ => none
  | k + 1, x0, x5, x28, x410000, x410001 => if x28 = true then (some x5) else ((band_Plus.f x0 x410000 x410001).bind fun bt421 => ((band_Less.f bt421.1 x410000 x410001).bind fun bt425 => (if x5 = true then (if bt421.2 = 0 then (if bt425.2 = 0 then ((band_Same.f k bt425.1 x0).bind fun t429 => (some t429)) else (some false)) else (some false)) else (some false))))
def gutterlaw03_BandBack.f (k : Nat) (l0 : List (S24)) (a1_0 : Int) (a1_1 : Int) : Option (Bool) := (gutterlaw03_shown.f k).bind fun t410 => ((gutterlaw03_few.f l0).bind fun t411 => ((band_Both.f t411 (([(⟨a1_0, a1_1⟩ : S24)] : List (S24)))).bind fun bt417 => (if bt417.2 = 0 then (gutterlaw03_BandBack.j0 k t411 t410 (decide ((bt417.1.length : Int) > 0)) a1_0 a1_1) else (gutterlaw03_BandBack.j0 k t411 t410 true a1_0 a1_1))))
theorem gutterlaw03_BandBack.mono_l : ∀ k, (∀ y0 y1 y2 y3 y4, LeO (gutterlaw03_BandBack.j0 k y0 y1 y2 y3 y4) (gutterlaw03_BandBack.j0 (k + 1) y0 y1 y2 y3 y4))
  | 0 => fun _ _ _ _ _ r h => by simp [gutterlaw03_BandBack.j0] at h
  | k + 1 => by
    have ih0 := gutterlaw03_BandBack.mono_l k
    · intro y0 y1 y2 y3 y4
      unfold gutterlaw03_BandBack.j0
      repeat' first
      | (with_reducible exact ih0 _ _ _ _ _)
      | (with_reducible exact band_Same.mono _ _ _)
      | (with_reducible exact gutterlaw03_shown.mono _)
      | (with_reducible exact LeO.refl _)
      | (with_reducible exact LeO.none _)
      | (with_reducible refine LeO.ite ?_ ?_)
      | (with_reducible refine LeO.bind ?_ (fun _ => ?_))
      | exact ih0 _ _ _ _ _
      | exact band_Same.mono _ _ _
      | exact gutterlaw03_shown.mono _
      | exact LeO.none _
      | refine LeO.ite ?_ ?_
      | refine LeO.bind ?_ (fun _ => ?_)
theorem gutterlaw03_BandBack.mono : ∀ a0 a1 a2 k, LeO (gutterlaw03_BandBack.f k a0 a1 a2) (gutterlaw03_BandBack.f (k + 1) a0 a1 a2) := by
  intro a0 a1 a2 k
  have ih0 := gutterlaw03_BandBack.mono_l k
  unfold gutterlaw03_BandBack.f
  repeat' first
      | (with_reducible exact ih0 _ _ _ _ _)
      | (with_reducible exact band_Same.mono _ _ _)
      | (with_reducible exact gutterlaw03_shown.mono _)
      | (with_reducible exact LeO.refl _)
      | (with_reducible exact LeO.none _)
      | (with_reducible refine LeO.ite ?_ ?_)
      | (with_reducible refine LeO.bind ?_ (fun _ => ?_))
      | exact ih0 _ _ _ _ _
      | exact band_Same.mono _ _ _
      | exact gutterlaw03_shown.mono _
      | exact LeO.none _
      | refine LeO.ite ?_ ?_
      | refine LeO.bind ?_ (fun _ => ?_)
set_option maxHeartbeats 8000000 in
set_option maxRecDepth 100000 in
theorem gutterlaw03_BandBack.calls (k : Nat) (A0 : Option Addr) (c0 : Nat) (l0 : List (S24)) (a1_0 : Int) (a1_1 : Int) (r : Bool) (w : World) (hr0 : Kd.C k24 w A0 l0.length l0) (hc0 : l0.length ≤ c0) (hG : Gl 1 w) (h : gutterlaw03_BandBack.f k l0 a1_0 a1_1 = some r) :
    Calls Tryd.prog 9 #[.slice A0 l0.length c0, .agg #[.int .i64 a1_0, .int .i64 a1_1]] w fun e w' => e = .returned (.bool r) ∧ Below w.heap.size w w' := by
  have hu24 := Tryd.underlying24
  have HR0 := Aside0.mk hr0
  have HC0 := Aside0.mk hc0
  clear hr0 hc0
  have HG := Aside0.mk hG
  clear hG
  have HB := Aside0.mk (Below.refl w.heap.size w)
  have H : ((gutterlaw03_shown.f k).bind fun t410 => ((gutterlaw03_few.f l0).bind fun t411 => ((band_Both.f t411 (([(⟨a1_0, a1_1⟩ : S24)] : List (S24)))).bind fun bt417 => (if bt417.2 = 0 then (gutterlaw03_BandBack.j0 k t411 t410 (decide ((bt417.1.length : Int) > 0)) a1_0 a1_1) else (gutterlaw03_BandBack.j0 k t411 t410 true a1_0 a1_1))))) = some r := h
  clear h
  replace H := Option.bind_eq_some_iff.mp H
  obtain ⟨t410, A30, H⟩ := H
  replace H : ((gutterlaw03_few.f l0).bind fun t411 => ((band_Both.f t411 (([(⟨a1_0, a1_1⟩ : S24)] : List (S24)))).bind fun bt417 => (if bt417.2 = 0 then (gutterlaw03_BandBack.j0 k t411 t410 (decide ((bt417.1.length : Int) > 0)) a1_0 a1_1) else (gutterlaw03_BandBack.j0 k t411 t410 true a1_0 a1_1)))) = some r := H
  have A3 := Aside0.mk A30
  clear A30
  replace H := Option.bind_eq_some_iff.mp H
  obtain ⟨t411, A40, H⟩ := H
  replace H : ((band_Both.f t411 (([(⟨a1_0, a1_1⟩ : S24)] : List (S24)))).bind fun bt417 => (if bt417.2 = 0 then (gutterlaw03_BandBack.j0 k t411 t410 (decide ((bt417.1.length : Int) > 0)) a1_0 a1_1) else (gutterlaw03_BandBack.j0 k t411 t410 true a1_0 a1_1))) = some r := H
  have A4 := Aside0.mk A40
  clear A40
  obtain ⟨y414, hy414⟩ : ∃ y_ : List (S24), y_ = (([(⟨a1_0, a1_1⟩ : S24)] : List (S24))) := ⟨_, rfl⟩
  replace H : ((band_Both.f t411 y414).bind fun bt417 => (if bt417.2 = 0 then (gutterlaw03_BandBack.j0 k t411 t410 (decide ((bt417.1.length : Int) > 0)) a1_0 a1_1) else (gutterlaw03_BandBack.j0 k t411 t410 true a1_0 a1_1))) = some r := by first | (rw [hy414]; with_reducible exact H) | (have H2_ := (Option.bind_some _ _).symm.trans H; rw [hy414]; with_reducible exact H2_) | (have H2_ := (Option.bind_some _ _).symm.trans H; with_reducible exact H2_) | with_reducible exact H | (rw [hy414]; exact H) | exact H
  have Ny414 := Aside0.mk hy414
  clear hy414
  replace H := Option.bind_eq_some_iff.mp H
  obtain ⟨⟨t417, t418⟩, A50, H⟩ := H
  replace H : (if t418 = 0 then (gutterlaw03_BandBack.j0 k t411 t410 (decide ((t417.length : Int) > 0)) a1_0 a1_1) else (gutterlaw03_BandBack.j0 k t411 t410 true a1_0 a1_1)) = some r := H
  have A5 := Aside0.mk A50
  clear A50
  have HC6 := Aside0.mk H
  clear H
  go_enter Tryd.func9, Tryd.ntmps9
  go_upto_region 4 with (first | ((with_reducible refine gate_dst (N := 3) rfl ?_); (try (refine gate_guard (by rfl) ?_; dsimp only)); refine box_event ?hg (N := 3) ?hd (cs := #[.int .i64 a1_0, .int .i64 a1_1]) (t := 24) ?hr ?_; (case hd => rfl); (case hg => rfl); (case hr => first | (go_simp; done) | (go_simp; rfl)); intro gb409 hg w7 hbox hb; have n0_ := Aside0.mk (below_step (by repeat (first | (with_reducible first | exact HB.out | apply below_alloc | apply pw_below_drewN | apply below_drew1) | exact HB.out)) hb); have n1_ := Aside0.mk (hbox); have n2_ := Aside0.mk ((by rw [hg]; exact (below_size (by repeat (first | (with_reducible first | exact HB.out | apply below_alloc | apply pw_below_drewN | apply below_drew1) | exact HB.out))) : w.heap.size ≤ gb409)); have n3_ := Aside0.mk ((by rw [hg]; exact (below_size (by repeat (first | (with_reducible first | exact HB.out | apply below_alloc | apply pw_below_drewN | apply below_drew1) | exact HB.out))) : w.heap.size ≤ gb409)); clear HB; have HB := n0_; have BK409 := n1_; have GW409 := n2_; have GE409 := n3_; clear n0_ n1_ n2_ n3_; clear hb hbox hg) | ((with_reducible refine gate_callee (f := 11) rfl ?_); refine goesL_ (some 12) rfl rfl Tryd.func11 (by kernel_rfl) rfl #[] rfl (by (try simp only [List.map_toArray, List.map_cons, List.map_nil]); first | done | rfl | (simp only [List.length_drop, List.length_take]; rfl)) ?_; (with_reducible refine (gutterlaw03_shown.calls k  t410 _ ?side1 A3.out).mono ?_); (case side1 => exact (Gl.of_below HG.out (by repeat (first | (with_reducible first | exact HB.out | apply below_alloc | apply pw_below_drewN | apply below_drew1 | refine below_set ?_ GE409.out) | exact HB.out))).le (by decide)); rintro e w8 ⟨rfl, hb⟩; refine ⟨_, rfl, ?_⟩; have n0_ := Aside0.mk (blk_below (g := gb409) (o := .cells #[.int .i64 a1_0, .int .i64 a1_1] 24 (0, 0)) (by (with_reducible repeat (first | refine blk_drewN ?_ _ | refine blk_drew ?_ | refine blk_alloc ?_ _)); exact BK409.out) hb); have n1_ := Aside0.mk (below_step (by repeat (first | (with_reducible first | exact HB.out | apply below_alloc | apply pw_below_drewN | apply below_drew1 | refine below_set ?_ GE409.out) | exact HB.out)) hb); clear BK409; clear HB; have BK409 := n0_; have HB := n1_; clear n0_ n1_; (try clear hb); (try clear hb2); (try clear hk); (try clear hi)) | ((with_reducible refine gate_callee (f := 12) rfl ?_); refine goesL_ (some 14) rfl rfl Tryd.func12 (by kernel_rfl) rfl #[.slice A0 l0.length c0] rfl (by (try simp only [List.map_toArray, List.map_cons, List.map_nil]); first | done | rfl | (simp only [List.length_drop, List.length_take]; rfl)) ?_; (with_reducible refine (gutterlaw03_few.calls (fun k_ => k_ < w.heap.size) _ _ l0 t411 _ ?side1 A4.out).mono ?_); (case side1 => exact Kd.V_mk HC0.out (Kd.F_below (Kd.C_F k24_heap HR0.out) (by repeat (first | (with_reducible first | exact HB.out | apply below_alloc | apply pw_below_drewN | apply below_drew1 | refine below_set ?_ GE409.out) | exact HB.out)))); rintro e w9 ⟨v412, rfl, ho0, hb⟩; refine ⟨_, rfl, ?_⟩; have n0_ := Aside0.mk (Kd.V_lower (Kd.V_mono (ok' := fun k_ => k_ ≠ gb409) ho0 (fun k_ hk_ => Or.elim hk_ (fun hs_ => fun e_ => Nat.not_le.2 hs_ (by rw [e_]; exact GW409.out)) (fun hn_ => (Kd.freshB (g := gb409) (o := .cells #[.int .i64 a1_0, .int .i64 a1_1] 24 (0, 0)) (by (with_reducible repeat (first | refine blk_drewN ?_ _ | refine blk_drew ?_ | refine blk_alloc ?_ _)); exact BK409.out) k_ hn_)))) (below_size (by repeat (first | (with_reducible first | exact HB.out | apply below_alloc | apply pw_below_drewN | apply below_drew1 | refine below_set ?_ GE409.out) | exact HB.out)))); have n1_ := Aside0.mk (blk_below (g := gb409) (o := .cells #[.int .i64 a1_0, .int .i64 a1_1] 24 (0, 0)) (by (with_reducible repeat (first | refine blk_drewN ?_ _ | refine blk_drew ?_ | refine blk_alloc ?_ _)); exact BK409.out) hb); have n2_ := Aside0.mk (below_step (by repeat (first | (with_reducible first | exact HB.out | apply below_alloc | apply pw_below_drewN | apply below_drew1 | refine below_set ?_ GE409.out) | exact HB.out)) hb); clear BK409; clear HB; have HO413 := n0_; have BK409 := n1_; have HB := n2_; clear n0_ n1_ n2_; (try clear hb); (try clear hb2); (try clear hk); (try clear hi); (try clear ho0); have hcz10_0 : w9.cell? ⟨gb409, 0, none⟩ = some (.int .i64 a1_0) := (blk_cell BK409.out 0).trans rfl; have hcz10_1 : w9.cell? ⟨gb409, 1, none⟩ = some (.int .i64 a1_1) := (blk_cell BK409.out 1).trans rfl; have hfz10_0 := blk_frozen BK409.out 0; have hfz10_1 := blk_frozen BK409.out 1) | ((with_reducible refine gate_dst (N := 18) rfl ?_); (try (refine gate_guard (by rfl) ?_; dsimp only)); refine Kd.R_lit k24 _ 24 ?hg (N := 18) ?hd (xs := ([(⟨a1_0, a1_1⟩ : S24)] : List (S24))) (inner := [.int .i64 a1_0, .int .i64 a1_1]) (ok := fun _ => True) (okp := fun _ => True) ?hr ?hp (fun _ hk => hk) trivial (Below.refl _ _) (Nat.le_refl _) (by simp) ?_; (case hd => rfl); (case hg => rfl); (case hr => first | (go_simp; done) | (go_simp; rfl)); (case hp => exact (Reps.c2 (show Kd.M k24 _ _ _ (⟨a1_0, a1_1⟩ : S24) [.int .i64 a1_0, .int .i64 a1_1] from (k24_mkM _ _ _ (⟨a1_0, a1_1⟩ : S24) )) (Reps.none _ _))); intro v415 w11 ho12 hb hg_ hnew_; clear hg_ hnew_; (first | rw [← Ny414.out] at ho12 | (simp only [Int.reduceToNat] at ho12; rw [← Ny414.out] at ho12)); have n0_ := Aside0.mk (Kd.V_elder' (by (with_reducible repeat (first | apply Kd.V_alloc | apply Kd.V_drewN | apply Kd.V_drew)); exact HO413.out) (Kd.R_base ho12) hb); have n1_ := Aside0.mk (Kd.R_lower (Kd.R_newB ho12 (g := gb409) (o := .cells #[.int .i64 a1_0, .int .i64 a1_1] 24 (0, 0)) (by (with_reducible repeat (first | refine blk_drewN ?_ _ | refine blk_drew ?_ | refine blk_alloc ?_ _)); exact BK409.out)) (below_size (by repeat (first | (with_reducible first | exact HB.out | apply below_alloc | apply pw_below_drewN | apply below_drew1 | refine below_set ?_ GE409.out) | exact HB.out)))); have n2_ := Aside0.mk (blk_below (g := gb409) (o := .cells #[.int .i64 a1_0, .int .i64 a1_1] 24 (0, 0)) (by (with_reducible repeat (first | refine blk_drewN ?_ _ | refine blk_drew ?_ | refine blk_alloc ?_ _)); exact BK409.out) hb); have n3_ := Aside0.mk (below_step (by repeat (first | (with_reducible first | exact HB.out | apply below_alloc | apply pw_below_drewN | apply below_drew1 | refine below_set ?_ GE409.out) | exact HB.out)) hb); clear HO413; clear BK409; clear HB; have HO413 := n0_; have HO416 := n1_; have BK409 := n2_; have HB := n3_; clear n0_ n1_ n2_ n3_; clear hb ho12; obtain ⟨Ao13, co13, eo13⟩ := Kd.V_slice HO413.out; subst eo13; obtain ⟨Ao14, co14, eo14⟩ := Kd.R_slice HO416.out; subst eo14) | ((with_reducible refine gate_callee (f := 17) rfl ?_); refine goesL_ (some 19) rfl rfl Tryd.func17 (by kernel_rfl) rfl #[.slice Ao13 t411.length co13, .slice Ao14 y414.length co14] rfl (by (try simp only [List.map_toArray, List.map_cons, List.map_nil]); first | done | rfl | (simp only [List.length_drop, List.length_take]; rfl)) ?_; (with_reducible refine (band_Both.calls _ _ t411 _ _ y414 t417 t418 _ ?side1 ?side2 ?side3 ?side4 ?side5 A5.out).mono ?_); (case side1 => repeat (first | exact (Kd.V_reads' HO413.out).2.2 | (with_reducible refine Kd.C_alloc ?_ _) | (with_reducible refine Kd.C_drewN ?_ _) | (with_reducible refine Kd.C_drew ?_))); (case side2 => exact (Kd.V_reads' HO413.out).2.1); (case side3 => repeat (first | exact (Kd.R_reads' HO416.out).2.2 | (with_reducible refine Kd.C_alloc ?_ _) | (with_reducible refine Kd.C_drewN ?_ _) | (with_reducible refine Kd.C_drew ?_))); (case side4 => exact (Kd.R_reads' HO416.out).2.1); (case side5 => exact (Gl.of_below HG.out (by repeat (first | (with_reducible first | exact HB.out | apply below_alloc | apply pw_below_drewN | apply below_drew1 | refine below_set ?_ GE409.out) | exact HB.out))).le (by decide)); rintro e w15 ⟨v419, rfl, ho0, hb⟩; refine ⟨_, rfl, ?_⟩; have n0_ := Aside0.mk (Kd.V_elder' (by (with_reducible repeat (first | apply Kd.V_alloc | apply Kd.V_drewN | apply Kd.V_drew)); exact HO413.out) (Kd.R_base ho0) hb); have n1_ := Aside0.mk (Kd.R_elder' (by (with_reducible repeat (first | apply Kd.R_alloc | apply Kd.R_drewN | apply Kd.R_drew)); exact HO416.out) (Kd.R_base ho0) hb); have n2_ := Aside0.mk (Kd.R_lower (Kd.R_newB (Kd.R_new' ho0 (Kd.R_lt (by (with_reducible repeat (first | apply Kd.R_alloc | apply Kd.R_drewN | apply Kd.R_drew)); exact HO416.out))) (g := gb409) (o := .cells #[.int .i64 a1_0, .int .i64 a1_1] 24 (0, 0)) (by (with_reducible repeat (first | refine blk_drewN ?_ _ | refine blk_drew ?_ | refine blk_alloc ?_ _)); exact BK409.out)) (below_size (by repeat (first | (with_reducible first | exact HB.out | apply below_alloc | apply pw_below_drewN | apply below_drew1 | refine below_set ?_ GE409.out) | exact HB.out)))); have n3_ := Aside0.mk (blk_below (g := gb409) (o := .cells #[.int .i64 a1_0, .int .i64 a1_1] 24 (0, 0)) (by (with_reducible repeat (first | refine blk_drewN ?_ _ | refine blk_drew ?_ | refine blk_alloc ?_ _)); exact BK409.out) hb); have n4_ := Aside0.mk (below_step (by repeat (first | (with_reducible first | exact HB.out | apply below_alloc | apply pw_below_drewN | apply below_drew1 | refine below_set ?_ GE409.out) | exact HB.out)) hb); clear HO413; clear HO416; clear BK409; clear HB; have HO413 := n0_; have HO416 := n1_; have HO420 := n2_; have BK409 := n3_; have HB := n4_; clear n0_ n1_ n2_ n3_ n4_; (try clear hb); (try clear hb2); (try clear hk); (try clear hi); (try clear ho0)))
  (try simp only [Act.put, List.setIfInBounds_toArray, List.set_cons_zero, List.set_cons_succ])
  go_cut [28] (fun v28 wc => ∃ (kq : Nat) (x28_5 : Bool), v28 = .bool x28_5 ∧ Aside0 (gutterlaw03_BandBack.j0 kq t411 t410 x28_5 a1_0 a1_1 = some r) ∧ Aside0 (kq ≤ k) ∧ Aside0 (Kd.V k24 24 wc w.heap.size (fun k_ => k_ ≠ gb409) (.slice Ao13 t411.length co13) t411) ∧ Aside0 (wc.heap[gb409]? = some (.cells #[.int .i64 a1_0, .int .i64 a1_1] 24 (0, 0))) ∧ Aside0 (Below w.heap.size w wc))
  case first =>
    have H := HC6.out
    clear HC6
    by_cases c16 : t418 = 0
    · rw [if_pos c16] at H
      have c16b0 : (t418 == 0) = true := beq_iff_eq.mpr c16
      have c16b1 : (t418 != 0) = false := bne_eq_false_iff_eq.mpr c16
      clear c16
      (first | rw [c16b0] | (simp only [i64_w, i32_w]; rw [c16b0]) | skip)
      have H' := Aside0.mk H
      clear H
      obtain ⟨Ao17, co17, eo17⟩ := Kd.R_slice HO420.out
      subst eo17
      go_wp2
      go_meet
      case rel => exact ⟨_, (decide ((t417.length : Int) > 0)), (by first | rfl | (simp; done) | (simp [*]; done)), H', ⟨by first | omega | exact Nat.le_refl _⟩, ⟨by (with_reducible repeat (first | apply Kd.V_alloc | apply Kd.V_drewN | apply Kd.V_drew)); exact Kd.V_mono HO413.out (fun _ hk => hk.1.1)⟩, ⟨by (with_reducible repeat (first | refine blk_drewN ?_ _ | refine blk_drew ?_ | refine blk_alloc ?_ _)); exact BK409.out⟩, ⟨by repeat (first | (with_reducible first | exact HB.out | apply below_alloc | apply pw_below_drewN | apply below_drew1 | refine below_set ?_ GE409.out) | exact HB.out)⟩⟩
    · rw [if_neg c16] at H
      have c16b0 : (t418 == 0) = false := beq_eq_false_iff_ne.mpr c16
      have c16b1 : (t418 != 0) = true := bne_iff_ne.mpr c16
      (first | rw [c16b0] | (simp only [i64_w, i32_w]; rw [c16b0]) | skip)
      have H' := Aside0.mk H
      clear H
      go_wp2
      go_meet
      case rel => exact ⟨_, (true), (by first | rfl | (simp; done) | (simp [*]; done)), H', ⟨by first | omega | exact Nat.le_refl _⟩, ⟨by (with_reducible repeat (first | apply Kd.V_alloc | apply Kd.V_drewN | apply Kd.V_drew)); exact Kd.V_mono HO413.out (fun _ hk => hk.1.1)⟩, ⟨by (with_reducible repeat (first | refine blk_drewN ?_ _ | refine blk_drew ?_ | refine blk_alloc ?_ _)); exact BK409.out⟩, ⟨by repeat (first | (with_reducible first | exact HB.out | apply below_alloc | apply pw_below_drewN | apply below_drew1 | refine below_set ?_ GE409.out) | exact HB.out)⟩⟩
  case rest =>
    clear HC6
    try clear c1
    try clear c2
    try clear p2
    try clear c9
    try clear c11
    try clear c12
    try clear c16
    try clear c16b0
    try clear c16b1
    try clear c17
    try clear hcz10_0
    try clear hcz10_1
    try clear hfz10_0
    try clear hfz10_1
    obtain ⟨kq, x28_5, rfl, HA, HJ5, HO_0, BK409, HB⟩ := hcut
    cases kq with
    | zero => exact absurd HA.out (by simp [gutterlaw03_BandBack.j0])
    | succ kj5 =>
      have H := HA.out
      clear HA
      simp only [gutterlaw03_BandBack.j0] at H
      by_cases c18 : x28_5 = true
      · subst c18
        have H1 : (some t410) = some r := by rw [if_pos rfl] at H; exact H
        clear H
        have H := H1
        clear H1
        obtain rfl := Option.some.inj H
        go_wp2
        go_ret
        exact ⟨by first | rfl | (simp [errW_none, errW_some] <;> rfl) | (simp [*, errW_none, errW_some] <;> rfl), by repeat (first | (with_reducible first | exact HB.out | apply below_alloc | apply pw_below_drewN | apply below_drew1 | refine below_set ?_ GE409.out) | exact HB.out)⟩
      · replace c18 := Bool.eq_false_iff.mpr c18
        subst c18
        have H1 : ((band_Plus.f t411 a1_0 a1_1).bind fun bt421 => ((band_Less.f bt421.1 a1_0 a1_1).bind fun bt425 => (if t410 = true then (if bt421.2 = 0 then (if bt425.2 = 0 then ((band_Same.f kj5 bt425.1 t411).bind fun t429 => (some t429)) else (some false)) else (some false)) else (some false)))) = some r := by rw [if_neg (show ¬ (false = true) by decide)] at H; exact H
        clear H
        have H := H1
        clear H1
        replace H := Option.bind_eq_some_iff.mp H
        obtain ⟨⟨t421, t424⟩, A190, H⟩ := H
        replace H : ((band_Less.f t421 a1_0 a1_1).bind fun bt425 => (if t410 = true then (if t424 = 0 then (if bt425.2 = 0 then ((band_Same.f kj5 bt425.1 t411).bind fun t429 => (some t429)) else (some false)) else (some false)) else (some false))) = some r := H
        have A19 := Aside0.mk A190
        clear A190
        replace H := Option.bind_eq_some_iff.mp H
        obtain ⟨⟨t425, t428⟩, A200, H⟩ := H
        replace H : (if t410 = true then (if t424 = 0 then (if t428 = 0 then ((band_Same.f kj5 t425 t411).bind fun t429 => (some t429)) else (some false)) else (some false)) else (some false)) = some r := H
        have A20 := Aside0.mk A200
        clear A200
        by_cases c21 : t410 = true
        · subst c21
          have H1 : (if t424 = 0 then (if t428 = 0 then ((band_Same.f kj5 t425 t411).bind fun t429 => (some t429)) else (some false)) else (some false)) = some r := by rw [if_pos rfl] at H; exact H
          clear H
          have H := H1
          clear H1
          by_cases c22 : t424 = 0
          · rw [if_pos c22] at H
            have c22b0 : (t424 == 0) = true := beq_iff_eq.mpr c22
            have c22b1 : (t424 != 0) = false := bne_eq_false_iff_eq.mpr c22
            clear c22
            by_cases c23 : t428 = 0
            · rw [if_pos c23] at H
              have c23b0 : (t428 == 0) = true := beq_iff_eq.mpr c23
              have c23b1 : (t428 != 0) = false := bne_eq_false_iff_eq.mpr c23
              clear c23
              replace H := Option.bind_eq_some_iff.mp H
              obtain ⟨t429, A240, H⟩ := H
              replace H : (some t429) = some r := H
              have A24 := Aside0.mk A240
              clear A240
              obtain rfl := Option.some.inj H
              have hcz25_0 : wc.cell? ⟨gb409, 0, none⟩ = some (.int .i64 a1_0) := (blk_cell BK409.out 0).trans rfl
              have hcz25_1 : wc.cell? ⟨gb409, 1, none⟩ = some (.int .i64 a1_1) := (blk_cell BK409.out 1).trans rfl
              have hfz25_0 := blk_frozen BK409.out 0
              have hfz25_1 := blk_frozen BK409.out 1
              go_wp2_with (first | ((with_reducible refine gate_callee (f := 13) rfl ?_); refine goesL_ (some 33) rfl rfl Tryd.func13 (by kernel_rfl) rfl #[.slice Ao13 t411.length co13, .agg #[.int .i64 a1_0, .int .i64 a1_1]] rfl (by (try simp only [List.map_toArray, List.map_cons, List.map_nil]); first | done | rfl | (simp only [List.length_drop, List.length_take]; rfl)) ?_; (with_reducible refine (band_Plus.calls _ _ t411 a1_0 a1_1 t421 t424 _ ?side1 ?side2 ?side3 A19.out).mono ?_); (case side1 => repeat (first | exact (Kd.V_reads' HO_0.out).2.2 | (with_reducible refine Kd.C_alloc ?_ _) | (with_reducible refine Kd.C_drewN ?_ _) | (with_reducible refine Kd.C_drew ?_))); (case side2 => exact (Kd.V_reads' HO_0.out).2.1); (case side3 => exact (Gl.of_below HG.out (by repeat (first | (with_reducible first | exact HB.out | apply below_alloc | apply pw_below_drewN | apply below_drew1 | refine below_set ?_ GE409.out) | exact HB.out))).le (by decide)); rintro e w26 ⟨v422, rfl, ho0, hb⟩; refine ⟨_, rfl, ?_⟩; have n0_ := Aside0.mk (Kd.V_elder' (by (with_reducible repeat (first | apply Kd.V_alloc | apply Kd.V_drewN | apply Kd.V_drew)); exact HO_0.out) (Kd.R_base ho0) hb); have n1_ := Aside0.mk (Kd.R_lower (Kd.R_newB ho0 (g := gb409) (o := .cells #[.int .i64 a1_0, .int .i64 a1_1] 24 (0, 0)) (by (with_reducible repeat (first | refine blk_drewN ?_ _ | refine blk_drew ?_ | refine blk_alloc ?_ _)); exact BK409.out)) (below_size (by repeat (first | (with_reducible first | exact HB.out | apply below_alloc | apply pw_below_drewN | apply below_drew1 | refine below_set ?_ GE409.out) | exact HB.out)))); have n2_ := Aside0.mk (blk_below (g := gb409) (o := .cells #[.int .i64 a1_0, .int .i64 a1_1] 24 (0, 0)) (by (with_reducible repeat (first | refine blk_drewN ?_ _ | refine blk_drew ?_ | refine blk_alloc ?_ _)); exact BK409.out) hb); have n3_ := Aside0.mk (below_step (by repeat (first | (with_reducible first | exact HB.out | apply below_alloc | apply pw_below_drewN | apply below_drew1 | refine below_set ?_ GE409.out) | exact HB.out)) hb); clear HO_0; clear BK409; clear HB; have HO_0 := n0_; have HO423 := n1_; have BK409 := n2_; have HB := n3_; clear n0_ n1_ n2_ n3_; (try clear hb); (try clear hb2); (try clear hk); (try clear hi); (try clear ho0); have hcz27_0 : w26.cell? ⟨gb409, 0, none⟩ = some (.int .i64 a1_0) := (blk_cell BK409.out 0).trans rfl; have hcz27_1 : w26.cell? ⟨gb409, 1, none⟩ = some (.int .i64 a1_1) := (blk_cell BK409.out 1).trans rfl; have hfz27_0 := blk_frozen BK409.out 0; have hfz27_1 := blk_frozen BK409.out 1; obtain ⟨Ao28, co28, eo28⟩ := Kd.R_slice HO423.out; subst eo28) | ((with_reducible refine gate_callee (f := 15) rfl ?_); refine goesL_ (some 39) rfl rfl Tryd.func15 (by kernel_rfl) rfl #[.slice Ao28 t421.length co28, .agg #[.int .i64 a1_0, .int .i64 a1_1]] rfl (by (try simp only [List.map_toArray, List.map_cons, List.map_nil]); first | done | rfl | (simp only [List.length_drop, List.length_take]; rfl)) ?_; (with_reducible refine (band_Less.calls _ _ t421 a1_0 a1_1 t425 t428 _ ?side1 ?side2 ?side3 A20.out).mono ?_); (case side1 => repeat (first | exact (Kd.R_reads' HO423.out).2.2 | (with_reducible refine Kd.C_alloc ?_ _) | (with_reducible refine Kd.C_drewN ?_ _) | (with_reducible refine Kd.C_drew ?_))); (case side2 => exact (Kd.R_reads' HO423.out).2.1); (case side3 => exact (Gl.of_below HG.out (by repeat (first | (with_reducible first | exact HB.out | apply below_alloc | apply pw_below_drewN | apply below_drew1 | refine below_set ?_ GE409.out) | exact HB.out))).le (by decide)); rintro e w29 ⟨v426, rfl, ho0, hb⟩; refine ⟨_, rfl, ?_⟩; have n0_ := Aside0.mk (Kd.V_elder' (by (with_reducible repeat (first | apply Kd.V_alloc | apply Kd.V_drewN | apply Kd.V_drew)); exact HO_0.out) (Kd.R_base ho0) hb); have n1_ := Aside0.mk (Kd.R_elder' (by (with_reducible repeat (first | apply Kd.R_alloc | apply Kd.R_drewN | apply Kd.R_drew)); exact HO423.out) (Kd.R_base ho0) hb); have n2_ := Aside0.mk (Kd.R_lower (Kd.R_newB (Kd.R_new' ho0 (Kd.R_lt (by (with_reducible repeat (first | apply Kd.R_alloc | apply Kd.R_drewN | apply Kd.R_drew)); exact HO423.out))) (g := gb409) (o := .cells #[.int .i64 a1_0, .int .i64 a1_1] 24 (0, 0)) (by (with_reducible repeat (first | refine blk_drewN ?_ _ | refine blk_drew ?_ | refine blk_alloc ?_ _)); exact BK409.out)) (below_size (by repeat (first | (with_reducible first | exact HB.out | apply below_alloc | apply pw_below_drewN | apply below_drew1 | refine below_set ?_ GE409.out) | exact HB.out)))); have n3_ := Aside0.mk (blk_below (g := gb409) (o := .cells #[.int .i64 a1_0, .int .i64 a1_1] 24 (0, 0)) (by (with_reducible repeat (first | refine blk_drewN ?_ _ | refine blk_drew ?_ | refine blk_alloc ?_ _)); exact BK409.out) hb); have n4_ := Aside0.mk (below_step (by repeat (first | (with_reducible first | exact HB.out | apply below_alloc | apply pw_below_drewN | apply below_drew1 | refine below_set ?_ GE409.out) | exact HB.out)) hb); clear HO_0; clear HO423; clear BK409; clear HB; have HO_0 := n0_; have HO423 := n1_; have HO427 := n2_; have BK409 := n3_; have HB := n4_; clear n0_ n1_ n2_ n3_ n4_; (try clear hb); (try clear hb2); (try clear hk); (try clear hi); (try clear ho0); obtain ⟨Ao30, co30, eo30⟩ := Kd.R_slice HO427.out; subst eo30) | (go_at_call 27; (with_reducible refine (band_Same.calls kj5 _ _ t425 _ _ t411 t429 _ ?side1 ?side2 ?side3 ?side4 A24.out).mono ?_); (case side1 => repeat (first | exact (Kd.R_reads' HO427.out).2.2 | (with_reducible refine Kd.C_alloc ?_ _) | (with_reducible refine Kd.C_drewN ?_ _) | (with_reducible refine Kd.C_drew ?_))); (case side2 => exact (Kd.R_reads' HO427.out).2.1); (case side3 => repeat (first | exact (Kd.V_reads' HO_0.out).2.2 | (with_reducible refine Kd.C_alloc ?_ _) | (with_reducible refine Kd.C_drewN ?_ _) | (with_reducible refine Kd.C_drew ?_))); (case side4 => exact (Kd.V_reads' HO_0.out).2.1); rintro e w' ⟨rfl, ⟨nd, rfl⟩⟩))
              go_ret
              exact ⟨by first | rfl | (simp [errW_none, errW_some] <;> rfl) | (simp [*, errW_none, errW_some] <;> rfl), by repeat (first | (with_reducible first | exact HB.out | apply below_alloc | apply pw_below_drewN | apply below_drew1 | refine below_set ?_ GE409.out) | exact HB.out)⟩
            · rw [if_neg c23] at H
              have c23b0 : (t428 == 0) = false := beq_eq_false_iff_ne.mpr c23
              have c23b1 : (t428 != 0) = true := bne_iff_ne.mpr c23
              obtain rfl := Option.some.inj H
              have hcz31_0 : wc.cell? ⟨gb409, 0, none⟩ = some (.int .i64 a1_0) := (blk_cell BK409.out 0).trans rfl
              have hcz31_1 : wc.cell? ⟨gb409, 1, none⟩ = some (.int .i64 a1_1) := (blk_cell BK409.out 1).trans rfl
              have hfz31_0 := blk_frozen BK409.out 0
              have hfz31_1 := blk_frozen BK409.out 1
              go_wp2_with (first | ((with_reducible refine gate_callee (f := 13) rfl ?_); refine goesL_ (some 33) rfl rfl Tryd.func13 (by kernel_rfl) rfl #[.slice Ao13 t411.length co13, .agg #[.int .i64 a1_0, .int .i64 a1_1]] rfl (by (try simp only [List.map_toArray, List.map_cons, List.map_nil]); first | done | rfl | (simp only [List.length_drop, List.length_take]; rfl)) ?_; (with_reducible refine (band_Plus.calls _ _ t411 a1_0 a1_1 t421 t424 _ ?side1 ?side2 ?side3 A19.out).mono ?_); (case side1 => repeat (first | exact (Kd.V_reads' HO_0.out).2.2 | (with_reducible refine Kd.C_alloc ?_ _) | (with_reducible refine Kd.C_drewN ?_ _) | (with_reducible refine Kd.C_drew ?_))); (case side2 => exact (Kd.V_reads' HO_0.out).2.1); (case side3 => exact (Gl.of_below HG.out (by repeat (first | (with_reducible first | exact HB.out | apply below_alloc | apply pw_below_drewN | apply below_drew1 | refine below_set ?_ GE409.out) | exact HB.out))).le (by decide)); rintro e w32 ⟨v422, rfl, ho0, hb⟩; refine ⟨_, rfl, ?_⟩; have n0_ := Aside0.mk (Kd.V_elder' (by (with_reducible repeat (first | apply Kd.V_alloc | apply Kd.V_drewN | apply Kd.V_drew)); exact HO_0.out) (Kd.R_base ho0) hb); have n1_ := Aside0.mk (Kd.R_lower (Kd.R_newB ho0 (g := gb409) (o := .cells #[.int .i64 a1_0, .int .i64 a1_1] 24 (0, 0)) (by (with_reducible repeat (first | refine blk_drewN ?_ _ | refine blk_drew ?_ | refine blk_alloc ?_ _)); exact BK409.out)) (below_size (by repeat (first | (with_reducible first | exact HB.out | apply below_alloc | apply pw_below_drewN | apply below_drew1 | refine below_set ?_ GE409.out) | exact HB.out)))); have n2_ := Aside0.mk (blk_below (g := gb409) (o := .cells #[.int .i64 a1_0, .int .i64 a1_1] 24 (0, 0)) (by (with_reducible repeat (first | refine blk_drewN ?_ _ | refine blk_drew ?_ | refine blk_alloc ?_ _)); exact BK409.out) hb); have n3_ := Aside0.mk (below_step (by repeat (first | (with_reducible first | exact HB.out | apply below_alloc | apply pw_below_drewN | apply below_drew1 | refine below_set ?_ GE409.out) | exact HB.out)) hb); clear HO_0; clear BK409; clear HB; have HO_0 := n0_; have HO423 := n1_; have BK409 := n2_; have HB := n3_; clear n0_ n1_ n2_ n3_; (try clear hb); (try clear hb2); (try clear hk); (try clear hi); (try clear ho0); have hcz33_0 : w32.cell? ⟨gb409, 0, none⟩ = some (.int .i64 a1_0) := (blk_cell BK409.out 0).trans rfl; have hcz33_1 : w32.cell? ⟨gb409, 1, none⟩ = some (.int .i64 a1_1) := (blk_cell BK409.out 1).trans rfl; have hfz33_0 := blk_frozen BK409.out 0; have hfz33_1 := blk_frozen BK409.out 1; obtain ⟨Ao34, co34, eo34⟩ := Kd.R_slice HO423.out; subst eo34) | ((with_reducible refine gate_callee (f := 15) rfl ?_); refine goesL_ (some 39) rfl rfl Tryd.func15 (by kernel_rfl) rfl #[.slice Ao34 t421.length co34, .agg #[.int .i64 a1_0, .int .i64 a1_1]] rfl (by (try simp only [List.map_toArray, List.map_cons, List.map_nil]); first | done | rfl | (simp only [List.length_drop, List.length_take]; rfl)) ?_; (with_reducible refine (band_Less.calls _ _ t421 a1_0 a1_1 t425 t428 _ ?side1 ?side2 ?side3 A20.out).mono ?_); (case side1 => repeat (first | exact (Kd.R_reads' HO423.out).2.2 | (with_reducible refine Kd.C_alloc ?_ _) | (with_reducible refine Kd.C_drewN ?_ _) | (with_reducible refine Kd.C_drew ?_))); (case side2 => exact (Kd.R_reads' HO423.out).2.1); (case side3 => exact (Gl.of_below HG.out (by repeat (first | (with_reducible first | exact HB.out | apply below_alloc | apply pw_below_drewN | apply below_drew1 | refine below_set ?_ GE409.out) | exact HB.out))).le (by decide)); rintro e w35 ⟨v426, rfl, ho0, hb⟩; refine ⟨_, rfl, ?_⟩; have n0_ := Aside0.mk (Kd.V_elder' (by (with_reducible repeat (first | apply Kd.V_alloc | apply Kd.V_drewN | apply Kd.V_drew)); exact HO_0.out) (Kd.R_base ho0) hb); have n1_ := Aside0.mk (Kd.R_elder' (by (with_reducible repeat (first | apply Kd.R_alloc | apply Kd.R_drewN | apply Kd.R_drew)); exact HO423.out) (Kd.R_base ho0) hb); have n2_ := Aside0.mk (Kd.R_lower (Kd.R_newB (Kd.R_new' ho0 (Kd.R_lt (by (with_reducible repeat (first | apply Kd.R_alloc | apply Kd.R_drewN | apply Kd.R_drew)); exact HO423.out))) (g := gb409) (o := .cells #[.int .i64 a1_0, .int .i64 a1_1] 24 (0, 0)) (by (with_reducible repeat (first | refine blk_drewN ?_ _ | refine blk_drew ?_ | refine blk_alloc ?_ _)); exact BK409.out)) (below_size (by repeat (first | (with_reducible first | exact HB.out | apply below_alloc | apply pw_below_drewN | apply below_drew1 | refine below_set ?_ GE409.out) | exact HB.out)))); have n3_ := Aside0.mk (blk_below (g := gb409) (o := .cells #[.int .i64 a1_0, .int .i64 a1_1] 24 (0, 0)) (by (with_reducible repeat (first | refine blk_drewN ?_ _ | refine blk_drew ?_ | refine blk_alloc ?_ _)); exact BK409.out) hb); have n4_ := Aside0.mk (below_step (by repeat (first | (with_reducible first | exact HB.out | apply below_alloc | apply pw_below_drewN | apply below_drew1 | refine below_set ?_ GE409.out) | exact HB.out)) hb); clear HO_0; clear HO423; clear BK409; clear HB; have HO_0 := n0_; have HO423 := n1_; have HO427 := n2_; have BK409 := n3_; have HB := n4_; clear n0_ n1_ n2_ n3_ n4_; (try clear hb); (try clear hb2); (try clear hk); (try clear hi); (try clear ho0)))
              go_ret
              exact ⟨by first | rfl | (simp [errW_none, errW_some] <;> rfl) | (simp [*, errW_none, errW_some] <;> rfl), by repeat (first | (with_reducible first | exact HB.out | apply below_alloc | apply pw_below_drewN | apply below_drew1 | refine below_set ?_ GE409.out) | exact HB.out)⟩
          · rw [if_neg c22] at H
            have c22b0 : (t424 == 0) = false := beq_eq_false_iff_ne.mpr c22
            have c22b1 : (t424 != 0) = true := bne_iff_ne.mpr c22
            obtain rfl := Option.some.inj H
            have hcz36_0 : wc.cell? ⟨gb409, 0, none⟩ = some (.int .i64 a1_0) := (blk_cell BK409.out 0).trans rfl
            have hcz36_1 : wc.cell? ⟨gb409, 1, none⟩ = some (.int .i64 a1_1) := (blk_cell BK409.out 1).trans rfl
            have hfz36_0 := blk_frozen BK409.out 0
            have hfz36_1 := blk_frozen BK409.out 1
            go_wp2_with (first | ((with_reducible refine gate_callee (f := 13) rfl ?_); refine goesL_ (some 33) rfl rfl Tryd.func13 (by kernel_rfl) rfl #[.slice Ao13 t411.length co13, .agg #[.int .i64 a1_0, .int .i64 a1_1]] rfl (by (try simp only [List.map_toArray, List.map_cons, List.map_nil]); first | done | rfl | (simp only [List.length_drop, List.length_take]; rfl)) ?_; (with_reducible refine (band_Plus.calls _ _ t411 a1_0 a1_1 t421 t424 _ ?side1 ?side2 ?side3 A19.out).mono ?_); (case side1 => repeat (first | exact (Kd.V_reads' HO_0.out).2.2 | (with_reducible refine Kd.C_alloc ?_ _) | (with_reducible refine Kd.C_drewN ?_ _) | (with_reducible refine Kd.C_drew ?_))); (case side2 => exact (Kd.V_reads' HO_0.out).2.1); (case side3 => exact (Gl.of_below HG.out (by repeat (first | (with_reducible first | exact HB.out | apply below_alloc | apply pw_below_drewN | apply below_drew1 | refine below_set ?_ GE409.out) | exact HB.out))).le (by decide)); rintro e w37 ⟨v422, rfl, ho0, hb⟩; refine ⟨_, rfl, ?_⟩; have n0_ := Aside0.mk (Kd.V_elder' (by (with_reducible repeat (first | apply Kd.V_alloc | apply Kd.V_drewN | apply Kd.V_drew)); exact HO_0.out) (Kd.R_base ho0) hb); have n1_ := Aside0.mk (Kd.R_lower (Kd.R_newB ho0 (g := gb409) (o := .cells #[.int .i64 a1_0, .int .i64 a1_1] 24 (0, 0)) (by (with_reducible repeat (first | refine blk_drewN ?_ _ | refine blk_drew ?_ | refine blk_alloc ?_ _)); exact BK409.out)) (below_size (by repeat (first | (with_reducible first | exact HB.out | apply below_alloc | apply pw_below_drewN | apply below_drew1 | refine below_set ?_ GE409.out) | exact HB.out)))); have n2_ := Aside0.mk (blk_below (g := gb409) (o := .cells #[.int .i64 a1_0, .int .i64 a1_1] 24 (0, 0)) (by (with_reducible repeat (first | refine blk_drewN ?_ _ | refine blk_drew ?_ | refine blk_alloc ?_ _)); exact BK409.out) hb); have n3_ := Aside0.mk (below_step (by repeat (first | (with_reducible first | exact HB.out | apply below_alloc | apply pw_below_drewN | apply below_drew1 | refine below_set ?_ GE409.out) | exact HB.out)) hb); clear HO_0; clear BK409; clear HB; have HO_0 := n0_; have HO423 := n1_; have BK409 := n2_; have HB := n3_; clear n0_ n1_ n2_ n3_; (try clear hb); (try clear hb2); (try clear hk); (try clear hi); (try clear ho0); have hcz38_0 : w37.cell? ⟨gb409, 0, none⟩ = some (.int .i64 a1_0) := (blk_cell BK409.out 0).trans rfl; have hcz38_1 : w37.cell? ⟨gb409, 1, none⟩ = some (.int .i64 a1_1) := (blk_cell BK409.out 1).trans rfl; have hfz38_0 := blk_frozen BK409.out 0; have hfz38_1 := blk_frozen BK409.out 1; obtain ⟨Ao39, co39, eo39⟩ := Kd.R_slice HO423.out; subst eo39) | ((with_reducible refine gate_callee (f := 15) rfl ?_); refine goesL_ (some 39) rfl rfl Tryd.func15 (by kernel_rfl) rfl #[.slice Ao39 t421.length co39, .agg #[.int .i64 a1_0, .int .i64 a1_1]] rfl (by (try simp only [List.map_toArray, List.map_cons, List.map_nil]); first | done | rfl | (simp only [List.length_drop, List.length_take]; rfl)) ?_; (with_reducible refine (band_Less.calls _ _ t421 a1_0 a1_1 t425 t428 _ ?side1 ?side2 ?side3 A20.out).mono ?_); (case side1 => repeat (first | exact (Kd.R_reads' HO423.out).2.2 | (with_reducible refine Kd.C_alloc ?_ _) | (with_reducible refine Kd.C_drewN ?_ _) | (with_reducible refine Kd.C_drew ?_))); (case side2 => exact (Kd.R_reads' HO423.out).2.1); (case side3 => exact (Gl.of_below HG.out (by repeat (first | (with_reducible first | exact HB.out | apply below_alloc | apply pw_below_drewN | apply below_drew1 | refine below_set ?_ GE409.out) | exact HB.out))).le (by decide)); rintro e w40 ⟨v426, rfl, ho0, hb⟩; refine ⟨_, rfl, ?_⟩; have n0_ := Aside0.mk (Kd.V_elder' (by (with_reducible repeat (first | apply Kd.V_alloc | apply Kd.V_drewN | apply Kd.V_drew)); exact HO_0.out) (Kd.R_base ho0) hb); have n1_ := Aside0.mk (Kd.R_elder' (by (with_reducible repeat (first | apply Kd.R_alloc | apply Kd.R_drewN | apply Kd.R_drew)); exact HO423.out) (Kd.R_base ho0) hb); have n2_ := Aside0.mk (Kd.R_lower (Kd.R_newB (Kd.R_new' ho0 (Kd.R_lt (by (with_reducible repeat (first | apply Kd.R_alloc | apply Kd.R_drewN | apply Kd.R_drew)); exact HO423.out))) (g := gb409) (o := .cells #[.int .i64 a1_0, .int .i64 a1_1] 24 (0, 0)) (by (with_reducible repeat (first | refine blk_drewN ?_ _ | refine blk_drew ?_ | refine blk_alloc ?_ _)); exact BK409.out)) (below_size (by repeat (first | (with_reducible first | exact HB.out | apply below_alloc | apply pw_below_drewN | apply below_drew1 | refine below_set ?_ GE409.out) | exact HB.out)))); have n3_ := Aside0.mk (blk_below (g := gb409) (o := .cells #[.int .i64 a1_0, .int .i64 a1_1] 24 (0, 0)) (by (with_reducible repeat (first | refine blk_drewN ?_ _ | refine blk_drew ?_ | refine blk_alloc ?_ _)); exact BK409.out) hb); have n4_ := Aside0.mk (below_step (by repeat (first | (with_reducible first | exact HB.out | apply below_alloc | apply pw_below_drewN | apply below_drew1 | refine below_set ?_ GE409.out) | exact HB.out)) hb); clear HO_0; clear HO423; clear BK409; clear HB; have HO_0 := n0_; have HO423 := n1_; have HO427 := n2_; have BK409 := n3_; have HB := n4_; clear n0_ n1_ n2_ n3_ n4_; (try clear hb); (try clear hb2); (try clear hk); (try clear hi); (try clear ho0)))
            go_ret
            exact ⟨by first | rfl | (simp [errW_none, errW_some] <;> rfl) | (simp [*, errW_none, errW_some] <;> rfl), by repeat (first | (with_reducible first | exact HB.out | apply below_alloc | apply pw_below_drewN | apply below_drew1 | refine below_set ?_ GE409.out) | exact HB.out)⟩
        · replace c21 := Bool.eq_false_iff.mpr c21
          subst c21
          have H1 : (some false) = some r := by rw [if_neg (show ¬ (false = true) by decide)] at H; exact H
          clear H
          have H := H1
          clear H1
          obtain rfl := Option.some.inj H
          have hcz41_0 : wc.cell? ⟨gb409, 0, none⟩ = some (.int .i64 a1_0) := (blk_cell BK409.out 0).trans rfl
          have hcz41_1 : wc.cell? ⟨gb409, 1, none⟩ = some (.int .i64 a1_1) := (blk_cell BK409.out 1).trans rfl
          have hfz41_0 := blk_frozen BK409.out 0
          have hfz41_1 := blk_frozen BK409.out 1
          go_wp2_with (first | ((with_reducible refine gate_callee (f := 13) rfl ?_); refine goesL_ (some 33) rfl rfl Tryd.func13 (by kernel_rfl) rfl #[.slice Ao13 t411.length co13, .agg #[.int .i64 a1_0, .int .i64 a1_1]] rfl (by (try simp only [List.map_toArray, List.map_cons, List.map_nil]); first | done | rfl | (simp only [List.length_drop, List.length_take]; rfl)) ?_; (with_reducible refine (band_Plus.calls _ _ t411 a1_0 a1_1 t421 t424 _ ?side1 ?side2 ?side3 A19.out).mono ?_); (case side1 => repeat (first | exact (Kd.V_reads' HO_0.out).2.2 | (with_reducible refine Kd.C_alloc ?_ _) | (with_reducible refine Kd.C_drewN ?_ _) | (with_reducible refine Kd.C_drew ?_))); (case side2 => exact (Kd.V_reads' HO_0.out).2.1); (case side3 => exact (Gl.of_below HG.out (by repeat (first | (with_reducible first | exact HB.out | apply below_alloc | apply pw_below_drewN | apply below_drew1 | refine below_set ?_ GE409.out) | exact HB.out))).le (by decide)); rintro e w42 ⟨v422, rfl, ho0, hb⟩; refine ⟨_, rfl, ?_⟩; have n0_ := Aside0.mk (Kd.V_elder' (by (with_reducible repeat (first | apply Kd.V_alloc | apply Kd.V_drewN | apply Kd.V_drew)); exact HO_0.out) (Kd.R_base ho0) hb); have n1_ := Aside0.mk (Kd.R_lower (Kd.R_newB ho0 (g := gb409) (o := .cells #[.int .i64 a1_0, .int .i64 a1_1] 24 (0, 0)) (by (with_reducible repeat (first | refine blk_drewN ?_ _ | refine blk_drew ?_ | refine blk_alloc ?_ _)); exact BK409.out)) (below_size (by repeat (first | (with_reducible first | exact HB.out | apply below_alloc | apply pw_below_drewN | apply below_drew1 | refine below_set ?_ GE409.out) | exact HB.out)))); have n2_ := Aside0.mk (blk_below (g := gb409) (o := .cells #[.int .i64 a1_0, .int .i64 a1_1] 24 (0, 0)) (by (with_reducible repeat (first | refine blk_drewN ?_ _ | refine blk_drew ?_ | refine blk_alloc ?_ _)); exact BK409.out) hb); have n3_ := Aside0.mk (below_step (by repeat (first | (with_reducible first | exact HB.out | apply below_alloc | apply pw_below_drewN | apply below_drew1 | refine below_set ?_ GE409.out) | exact HB.out)) hb); clear HO_0; clear BK409; clear HB; have HO_0 := n0_; have HO423 := n1_; have BK409 := n2_; have HB := n3_; clear n0_ n1_ n2_ n3_; (try clear hb); (try clear hb2); (try clear hk); (try clear hi); (try clear ho0); have hcz43_0 : w42.cell? ⟨gb409, 0, none⟩ = some (.int .i64 a1_0) := (blk_cell BK409.out 0).trans rfl; have hcz43_1 : w42.cell? ⟨gb409, 1, none⟩ = some (.int .i64 a1_1) := (blk_cell BK409.out 1).trans rfl; have hfz43_0 := blk_frozen BK409.out 0; have hfz43_1 := blk_frozen BK409.out 1; obtain ⟨Ao44, co44, eo44⟩ := Kd.R_slice HO423.out; subst eo44) | ((with_reducible refine gate_callee (f := 15) rfl ?_); refine goesL_ (some 39) rfl rfl Tryd.func15 (by kernel_rfl) rfl #[.slice Ao44 t421.length co44, .agg #[.int .i64 a1_0, .int .i64 a1_1]] rfl (by (try simp only [List.map_toArray, List.map_cons, List.map_nil]); first | done | rfl | (simp only [List.length_drop, List.length_take]; rfl)) ?_; (with_reducible refine (band_Less.calls _ _ t421 a1_0 a1_1 t425 t428 _ ?side1 ?side2 ?side3 A20.out).mono ?_); (case side1 => repeat (first | exact (Kd.R_reads' HO423.out).2.2 | (with_reducible refine Kd.C_alloc ?_ _) | (with_reducible refine Kd.C_drewN ?_ _) | (with_reducible refine Kd.C_drew ?_))); (case side2 => exact (Kd.R_reads' HO423.out).2.1); (case side3 => exact (Gl.of_below HG.out (by repeat (first | (with_reducible first | exact HB.out | apply below_alloc | apply pw_below_drewN | apply below_drew1 | refine below_set ?_ GE409.out) | exact HB.out))).le (by decide)); rintro e w45 ⟨v426, rfl, ho0, hb⟩; refine ⟨_, rfl, ?_⟩; have n0_ := Aside0.mk (Kd.V_elder' (by (with_reducible repeat (first | apply Kd.V_alloc | apply Kd.V_drewN | apply Kd.V_drew)); exact HO_0.out) (Kd.R_base ho0) hb); have n1_ := Aside0.mk (Kd.R_elder' (by (with_reducible repeat (first | apply Kd.R_alloc | apply Kd.R_drewN | apply Kd.R_drew)); exact HO423.out) (Kd.R_base ho0) hb); have n2_ := Aside0.mk (Kd.R_lower (Kd.R_newB (Kd.R_new' ho0 (Kd.R_lt (by (with_reducible repeat (first | apply Kd.R_alloc | apply Kd.R_drewN | apply Kd.R_drew)); exact HO423.out))) (g := gb409) (o := .cells #[.int .i64 a1_0, .int .i64 a1_1] 24 (0, 0)) (by (with_reducible repeat (first | refine blk_drewN ?_ _ | refine blk_drew ?_ | refine blk_alloc ?_ _)); exact BK409.out)) (below_size (by repeat (first | (with_reducible first | exact HB.out | apply below_alloc | apply pw_below_drewN | apply below_drew1 | refine below_set ?_ GE409.out) | exact HB.out)))); have n3_ := Aside0.mk (blk_below (g := gb409) (o := .cells #[.int .i64 a1_0, .int .i64 a1_1] 24 (0, 0)) (by (with_reducible repeat (first | refine blk_drewN ?_ _ | refine blk_drew ?_ | refine blk_alloc ?_ _)); exact BK409.out) hb); have n4_ := Aside0.mk (below_step (by repeat (first | (with_reducible first | exact HB.out | apply below_alloc | apply pw_below_drewN | apply below_drew1 | refine below_set ?_ GE409.out) | exact HB.out)) hb); clear HO_0; clear HO423; clear BK409; clear HB; have HO_0 := n0_; have HO423 := n1_; have HO427 := n2_; have BK409 := n3_; have HB := n4_; clear n0_ n1_ n2_ n3_ n4_; (try clear hb); (try clear hb2); (try clear hk); (try clear hi); (try clear ho0)))
          go_ret
          exact ⟨by first | rfl | (simp [errW_none, errW_some] <;> rfl) | (simp [*, errW_none, errW_some] <;> rfl), by repeat (first | (with_reducible first | exact HB.out | apply below_alloc | apply pw_below_drewN | apply below_drew1 | refine below_set ?_ GE409.out) | exact HB.out)⟩

end Go.Proofs.YtomgpbhkoellpaaDoor.P
