-- by a program (wip/tools: a turned copy of the kit's print): not trusted: Lean checks it
import Derived.Test.YtomgpbhkoellpaaDoorP
import Derived.Test.YtomgpbhkoellpaaDoorE13
import Derived.Test.YtomgpbhkoellpaaDoorE15
import Derived.Test.YtomgpbhkoellpaaDoorP11
import Derived.Test.YtomgpbhkoellpaaDoorP12
import Derived.Test.YtomgpbhkoellpaaDoorP27
namespace Go.Proofs.YtomgpbhkoellpaaDoor.P
open Go.RowKit Go.Proofs.YtomgpbhkoellpaaDoorW.PrintWords Go.Proofs.YtomgpbhkoellpaaDoorW.PrintLast Go.Proofs.YtomgpbhkoellpaaDoorW.PrintMore
attribute [local go_sem] max2_int min2_int max_two min_two max_three min_three max_four min_four   -- for this text's walks alone
set_option linter.unusedVariables false
set_option linter.unusedSimpArgs false

/-! ### gutterlaw03_BandTurns: function 6 -/
def gutterlaw03_BandTurns.j0 : Nat → Bool → List (S24) → Int → List (S24) → Int → Int → List (S24) → Int → Int → List (S24) → Int → Bool → Option (Bool)
  | 0, _, _, _, _, _, _, _, _, _, _, _, _ => none
  | k + 1, x7, x10, x13, x14, x15, x17, x18, x19, x21, x22, x23, x80 => if x80 = true then (if x7 = true then (if x13 = 0 then (if x15 = 0 then (some false) else (if x17 = 0 then (if x19 = 0 then (some false) else (if x21 = 0 then (some (x23 != 0)) else (some true))) else (if x21 = 0 then (some (x23 != 0)) else (some true)))) else (if x17 = 0 then (if x19 = 0 then (some false) else (if x21 = 0 then (some (x23 != 0)) else (some true))) else (if x21 = 0 then (some (x23 != 0)) else (some true)))) else (some false)) else (if x7 = true then (if x13 = 0 then (if x15 = 0 then (if x17 = 0 then (if x19 = 0 then (if x21 = 0 then (if x23 = 0 then ((band_Same.f k x10 x14).bind fun t342 => (if t342 = true then ((band_Same.f k x18 x22).bind fun t343 => (some t343)) else (some false))) else (some false)) else (some false)) else (some false)) else (some false)) else (some false)) else (some false)) else (some false))
def gutterlaw03_BandTurns.f (k : Nat) (l0 : List (S24)) (a1_0 : Int) (a1_1 : Int) (a2_0 : Int) (a2_1 : Int) : Option (Bool) := (gutterlaw03_shown.f k).bind fun t306 => ((gutterlaw03_few.f l0).bind fun t307 => ((band_Plus.f t307 a1_0 a1_1).bind fun bt310 => ((band_Plus.f bt310.1 a2_0 a2_1).bind fun bt314 => ((band_Plus.f t307 a2_0 a2_1).bind fun bt318 => ((band_Plus.f bt318.1 a1_0 a1_1).bind fun bt322 => ((band_Less.f t307 a1_0 a1_1).bind fun bt326 => ((band_Less.f bt326.1 a2_0 a2_1).bind fun bt330 => ((band_Less.f t307 a2_0 a2_1).bind fun bt334 => ((band_Less.f bt334.1 a1_0 a1_1).bind fun bt338 => (if bt310.2 = 0 then (gutterlaw03_BandTurns.j0 k t306 bt314.1 bt318.2 bt322.1 bt322.2 bt326.2 bt330.1 bt330.2 bt334.2 bt338.1 bt338.2 (bt314.2 != 0)) else (gutterlaw03_BandTurns.j0 k t306 bt314.1 bt318.2 bt322.1 bt322.2 bt326.2 bt330.1 bt330.2 bt334.2 bt338.1 bt338.2 true)))))))))))
theorem gutterlaw03_BandTurns.mono_l : ∀ k, (∀ y0 y1 y2 y3 y4 y5 y6 y7 y8 y9 y10 y11, LeO (gutterlaw03_BandTurns.j0 k y0 y1 y2 y3 y4 y5 y6 y7 y8 y9 y10 y11) (gutterlaw03_BandTurns.j0 (k + 1) y0 y1 y2 y3 y4 y5 y6 y7 y8 y9 y10 y11))
  | 0 => fun _ _ _ _ _ _ _ _ _ _ _ _ r h => by simp [gutterlaw03_BandTurns.j0] at h
  | k + 1 => by
    have ih0 := gutterlaw03_BandTurns.mono_l k
    · intro y0 y1 y2 y3 y4 y5 y6 y7 y8 y9 y10 y11
      unfold gutterlaw03_BandTurns.j0
      repeat' first
      | (with_reducible exact ih0 _ _ _ _ _ _ _ _ _ _ _ _)
      | (with_reducible exact band_Same.mono _ _ _)
      | (with_reducible exact gutterlaw03_shown.mono _)
      | (with_reducible exact LeO.refl _)
      | (with_reducible exact LeO.none _)
      | (with_reducible refine LeO.ite ?_ ?_)
      | (with_reducible refine LeO.bind ?_ (fun _ => ?_))
      | exact ih0 _ _ _ _ _ _ _ _ _ _ _ _
      | exact band_Same.mono _ _ _
      | exact gutterlaw03_shown.mono _
      | exact LeO.none _
      | refine LeO.ite ?_ ?_
      | refine LeO.bind ?_ (fun _ => ?_)
theorem gutterlaw03_BandTurns.mono : ∀ a0 a1 a2 a3 a4 k, LeO (gutterlaw03_BandTurns.f k a0 a1 a2 a3 a4) (gutterlaw03_BandTurns.f (k + 1) a0 a1 a2 a3 a4) := by
  intro a0 a1 a2 a3 a4 k
  have ih0 := gutterlaw03_BandTurns.mono_l k
  unfold gutterlaw03_BandTurns.f
  repeat' first
      | (with_reducible exact ih0 _ _ _ _ _ _ _ _ _ _ _ _)
      | (with_reducible exact band_Same.mono _ _ _)
      | (with_reducible exact gutterlaw03_shown.mono _)
      | (with_reducible exact LeO.refl _)
      | (with_reducible exact LeO.none _)
      | (with_reducible refine LeO.ite ?_ ?_)
      | (with_reducible refine LeO.bind ?_ (fun _ => ?_))
      | exact ih0 _ _ _ _ _ _ _ _ _ _ _ _
      | exact band_Same.mono _ _ _
      | exact gutterlaw03_shown.mono _
      | exact LeO.none _
      | refine LeO.ite ?_ ?_
      | refine LeO.bind ?_ (fun _ => ?_)
set_option maxHeartbeats 8000000 in
set_option maxRecDepth 100000 in
theorem gutterlaw03_BandTurns.calls (k : Nat) (A0 : Option Addr) (c0 : Nat) (l0 : List (S24)) (a1_0 : Int) (a1_1 : Int) (a2_0 : Int) (a2_1 : Int) (r : Bool) (w : World) (hr0 : Kd.C k24 w A0 l0.length l0) (hc0 : l0.length ≤ c0) (hG : Gl 1 w) (h : gutterlaw03_BandTurns.f k l0 a1_0 a1_1 a2_0 a2_1 = some r) :
    Calls Tryd.prog 6 #[.slice A0 l0.length c0, .agg #[.int .i64 a1_0, .int .i64 a1_1], .agg #[.int .i64 a2_0, .int .i64 a2_1]] w fun e w' => e = .returned (.bool r) ∧ Below w.heap.size w w' := by
  have hu24 := Tryd.underlying24
  have HR0 := Aside0.mk hr0
  have HC0 := Aside0.mk hc0
  clear hr0 hc0
  have HG := Aside0.mk hG
  clear hG
  have HB := Aside0.mk (Below.refl w.heap.size w)
  have H : ((gutterlaw03_shown.f k).bind fun t306 => ((gutterlaw03_few.f l0).bind fun t307 => ((band_Plus.f t307 a1_0 a1_1).bind fun bt310 => ((band_Plus.f bt310.1 a2_0 a2_1).bind fun bt314 => ((band_Plus.f t307 a2_0 a2_1).bind fun bt318 => ((band_Plus.f bt318.1 a1_0 a1_1).bind fun bt322 => ((band_Less.f t307 a1_0 a1_1).bind fun bt326 => ((band_Less.f bt326.1 a2_0 a2_1).bind fun bt330 => ((band_Less.f t307 a2_0 a2_1).bind fun bt334 => ((band_Less.f bt334.1 a1_0 a1_1).bind fun bt338 => (if bt310.2 = 0 then (gutterlaw03_BandTurns.j0 k t306 bt314.1 bt318.2 bt322.1 bt322.2 bt326.2 bt330.1 bt330.2 bt334.2 bt338.1 bt338.2 (bt314.2 != 0)) else (gutterlaw03_BandTurns.j0 k t306 bt314.1 bt318.2 bt322.1 bt322.2 bt326.2 bt330.1 bt330.2 bt334.2 bt338.1 bt338.2 true)))))))))))) = some r := h
  clear h
  replace H := Option.bind_eq_some_iff.mp H
  obtain ⟨t306, A40, H⟩ := H
  replace H : ((gutterlaw03_few.f l0).bind fun t307 => ((band_Plus.f t307 a1_0 a1_1).bind fun bt310 => ((band_Plus.f bt310.1 a2_0 a2_1).bind fun bt314 => ((band_Plus.f t307 a2_0 a2_1).bind fun bt318 => ((band_Plus.f bt318.1 a1_0 a1_1).bind fun bt322 => ((band_Less.f t307 a1_0 a1_1).bind fun bt326 => ((band_Less.f bt326.1 a2_0 a2_1).bind fun bt330 => ((band_Less.f t307 a2_0 a2_1).bind fun bt334 => ((band_Less.f bt334.1 a1_0 a1_1).bind fun bt338 => (if bt310.2 = 0 then (gutterlaw03_BandTurns.j0 k t306 bt314.1 bt318.2 bt322.1 bt322.2 bt326.2 bt330.1 bt330.2 bt334.2 bt338.1 bt338.2 (bt314.2 != 0)) else (gutterlaw03_BandTurns.j0 k t306 bt314.1 bt318.2 bt322.1 bt322.2 bt326.2 bt330.1 bt330.2 bt334.2 bt338.1 bt338.2 true))))))))))) = some r := H
  have A4 := Aside0.mk A40
  clear A40
  replace H := Option.bind_eq_some_iff.mp H
  obtain ⟨t307, A50, H⟩ := H
  replace H : ((band_Plus.f t307 a1_0 a1_1).bind fun bt310 => ((band_Plus.f bt310.1 a2_0 a2_1).bind fun bt314 => ((band_Plus.f t307 a2_0 a2_1).bind fun bt318 => ((band_Plus.f bt318.1 a1_0 a1_1).bind fun bt322 => ((band_Less.f t307 a1_0 a1_1).bind fun bt326 => ((band_Less.f bt326.1 a2_0 a2_1).bind fun bt330 => ((band_Less.f t307 a2_0 a2_1).bind fun bt334 => ((band_Less.f bt334.1 a1_0 a1_1).bind fun bt338 => (if bt310.2 = 0 then (gutterlaw03_BandTurns.j0 k t306 bt314.1 bt318.2 bt322.1 bt322.2 bt326.2 bt330.1 bt330.2 bt334.2 bt338.1 bt338.2 (bt314.2 != 0)) else (gutterlaw03_BandTurns.j0 k t306 bt314.1 bt318.2 bt322.1 bt322.2 bt326.2 bt330.1 bt330.2 bt334.2 bt338.1 bt338.2 true)))))))))) = some r := H
  have A5 := Aside0.mk A50
  clear A50
  replace H := Option.bind_eq_some_iff.mp H
  obtain ⟨⟨t310, t313⟩, A60, H⟩ := H
  replace H : ((band_Plus.f t310 a2_0 a2_1).bind fun bt314 => ((band_Plus.f t307 a2_0 a2_1).bind fun bt318 => ((band_Plus.f bt318.1 a1_0 a1_1).bind fun bt322 => ((band_Less.f t307 a1_0 a1_1).bind fun bt326 => ((band_Less.f bt326.1 a2_0 a2_1).bind fun bt330 => ((band_Less.f t307 a2_0 a2_1).bind fun bt334 => ((band_Less.f bt334.1 a1_0 a1_1).bind fun bt338 => (if t313 = 0 then (gutterlaw03_BandTurns.j0 k t306 bt314.1 bt318.2 bt322.1 bt322.2 bt326.2 bt330.1 bt330.2 bt334.2 bt338.1 bt338.2 (bt314.2 != 0)) else (gutterlaw03_BandTurns.j0 k t306 bt314.1 bt318.2 bt322.1 bt322.2 bt326.2 bt330.1 bt330.2 bt334.2 bt338.1 bt338.2 true))))))))) = some r := H
  have A6 := Aside0.mk A60
  clear A60
  replace H := Option.bind_eq_some_iff.mp H
  obtain ⟨⟨t314, t317⟩, A70, H⟩ := H
  replace H : ((band_Plus.f t307 a2_0 a2_1).bind fun bt318 => ((band_Plus.f bt318.1 a1_0 a1_1).bind fun bt322 => ((band_Less.f t307 a1_0 a1_1).bind fun bt326 => ((band_Less.f bt326.1 a2_0 a2_1).bind fun bt330 => ((band_Less.f t307 a2_0 a2_1).bind fun bt334 => ((band_Less.f bt334.1 a1_0 a1_1).bind fun bt338 => (if t313 = 0 then (gutterlaw03_BandTurns.j0 k t306 t314 bt318.2 bt322.1 bt322.2 bt326.2 bt330.1 bt330.2 bt334.2 bt338.1 bt338.2 (t317 != 0)) else (gutterlaw03_BandTurns.j0 k t306 t314 bt318.2 bt322.1 bt322.2 bt326.2 bt330.1 bt330.2 bt334.2 bt338.1 bt338.2 true)))))))) = some r := H
  have A7 := Aside0.mk A70
  clear A70
  replace H := Option.bind_eq_some_iff.mp H
  obtain ⟨⟨t318, t321⟩, A80, H⟩ := H
  replace H : ((band_Plus.f t318 a1_0 a1_1).bind fun bt322 => ((band_Less.f t307 a1_0 a1_1).bind fun bt326 => ((band_Less.f bt326.1 a2_0 a2_1).bind fun bt330 => ((band_Less.f t307 a2_0 a2_1).bind fun bt334 => ((band_Less.f bt334.1 a1_0 a1_1).bind fun bt338 => (if t313 = 0 then (gutterlaw03_BandTurns.j0 k t306 t314 t321 bt322.1 bt322.2 bt326.2 bt330.1 bt330.2 bt334.2 bt338.1 bt338.2 (t317 != 0)) else (gutterlaw03_BandTurns.j0 k t306 t314 t321 bt322.1 bt322.2 bt326.2 bt330.1 bt330.2 bt334.2 bt338.1 bt338.2 true))))))) = some r := H
  have A8 := Aside0.mk A80
  clear A80
  replace H := Option.bind_eq_some_iff.mp H
  obtain ⟨⟨t322, t325⟩, A90, H⟩ := H
  replace H : ((band_Less.f t307 a1_0 a1_1).bind fun bt326 => ((band_Less.f bt326.1 a2_0 a2_1).bind fun bt330 => ((band_Less.f t307 a2_0 a2_1).bind fun bt334 => ((band_Less.f bt334.1 a1_0 a1_1).bind fun bt338 => (if t313 = 0 then (gutterlaw03_BandTurns.j0 k t306 t314 t321 t322 t325 bt326.2 bt330.1 bt330.2 bt334.2 bt338.1 bt338.2 (t317 != 0)) else (gutterlaw03_BandTurns.j0 k t306 t314 t321 t322 t325 bt326.2 bt330.1 bt330.2 bt334.2 bt338.1 bt338.2 true)))))) = some r := H
  have A9 := Aside0.mk A90
  clear A90
  replace H := Option.bind_eq_some_iff.mp H
  obtain ⟨⟨t326, t329⟩, A100, H⟩ := H
  replace H : ((band_Less.f t326 a2_0 a2_1).bind fun bt330 => ((band_Less.f t307 a2_0 a2_1).bind fun bt334 => ((band_Less.f bt334.1 a1_0 a1_1).bind fun bt338 => (if t313 = 0 then (gutterlaw03_BandTurns.j0 k t306 t314 t321 t322 t325 t329 bt330.1 bt330.2 bt334.2 bt338.1 bt338.2 (t317 != 0)) else (gutterlaw03_BandTurns.j0 k t306 t314 t321 t322 t325 t329 bt330.1 bt330.2 bt334.2 bt338.1 bt338.2 true))))) = some r := H
  have A10 := Aside0.mk A100
  clear A100
  replace H := Option.bind_eq_some_iff.mp H
  obtain ⟨⟨t330, t333⟩, A110, H⟩ := H
  replace H : ((band_Less.f t307 a2_0 a2_1).bind fun bt334 => ((band_Less.f bt334.1 a1_0 a1_1).bind fun bt338 => (if t313 = 0 then (gutterlaw03_BandTurns.j0 k t306 t314 t321 t322 t325 t329 t330 t333 bt334.2 bt338.1 bt338.2 (t317 != 0)) else (gutterlaw03_BandTurns.j0 k t306 t314 t321 t322 t325 t329 t330 t333 bt334.2 bt338.1 bt338.2 true)))) = some r := H
  have A11 := Aside0.mk A110
  clear A110
  replace H := Option.bind_eq_some_iff.mp H
  obtain ⟨⟨t334, t337⟩, A120, H⟩ := H
  replace H : ((band_Less.f t334 a1_0 a1_1).bind fun bt338 => (if t313 = 0 then (gutterlaw03_BandTurns.j0 k t306 t314 t321 t322 t325 t329 t330 t333 t337 bt338.1 bt338.2 (t317 != 0)) else (gutterlaw03_BandTurns.j0 k t306 t314 t321 t322 t325 t329 t330 t333 t337 bt338.1 bt338.2 true))) = some r := H
  have A12 := Aside0.mk A120
  clear A120
  replace H := Option.bind_eq_some_iff.mp H
  obtain ⟨⟨t338, t341⟩, A130, H⟩ := H
  replace H : (if t313 = 0 then (gutterlaw03_BandTurns.j0 k t306 t314 t321 t322 t325 t329 t330 t333 t337 t338 t341 (t317 != 0)) else (gutterlaw03_BandTurns.j0 k t306 t314 t321 t322 t325 t329 t330 t333 t337 t338 t341 true)) = some r := H
  have A13 := Aside0.mk A130
  clear A130
  have HC14 := Aside0.mk H
  clear H
  go_enter Tryd.func6, Tryd.ntmps6
  go_upto_region 11 with (first | ((with_reducible refine gate_dst (N := 4) rfl ?_); refine box_event ?hg (N := 4) ?hd (cs := #[.int .i64 a1_0, .int .i64 a1_1]) (t := 24) ?hr ?_; (case hd => rfl); (case hg => rfl); (case hr => first | (go_simp; done) | (go_simp; rfl)); intro gb304 hg w15 hbox hb; have n0_ := Aside0.mk (below_step (by repeat (first | (with_reducible first | exact HB.out | apply below_alloc | apply pw_below_drewN | apply below_drew1) | exact HB.out)) hb); have n1_ := Aside0.mk (hbox); have n2_ := Aside0.mk ((by rw [hg]; exact (below_size (by repeat (first | (with_reducible first | exact HB.out | apply below_alloc | apply pw_below_drewN | apply below_drew1) | exact HB.out))) : w.heap.size ≤ gb304)); have n3_ := Aside0.mk ((by rw [hg]; exact (below_size (by repeat (first | (with_reducible first | exact HB.out | apply below_alloc | apply pw_below_drewN | apply below_drew1) | exact HB.out))) : w.heap.size ≤ gb304)); clear HB; have HB := n0_; have BK304 := n1_; have GW304 := n2_; have GE304 := n3_; clear n0_ n1_ n2_ n3_; clear hb hbox hg) | ((with_reducible refine gate_dst (N := 5) rfl ?_); refine box_event ?hg (N := 5) ?hd (cs := #[.int .i64 a2_0, .int .i64 a2_1]) (t := 24) ?hr ?_; (case hd => rfl); (case hg => rfl); (case hr => first | (go_simp; done) | (go_simp; rfl)); intro gb305 hg w16 hbox hb; have n0_ := Aside0.mk (blk_below (g := gb304) (o := .cells #[.int .i64 a1_0, .int .i64 a1_1] 24 (0, 0)) (by (with_reducible repeat (first | refine blk_drewN ?_ _ | refine blk_drew ?_ | refine blk_alloc ?_ _)); exact BK304.out) hb); have n1_ := Aside0.mk (below_step (by repeat (first | (with_reducible first | exact HB.out | apply below_alloc | apply pw_below_drewN | apply below_drew1 | refine below_set ?_ GE304.out) | exact HB.out)) hb); have n2_ := Aside0.mk (hbox); have n3_ := Aside0.mk ((by rw [hg]; exact (below_size (by repeat (first | (with_reducible first | exact HB.out | apply below_alloc | apply pw_below_drewN | apply below_drew1 | refine below_set ?_ GE304.out) | exact HB.out))) : w.heap.size ≤ gb305)); have n4_ := Aside0.mk ((by rw [hg]; exact (below_size (by repeat (first | (with_reducible first | exact HB.out | apply below_alloc | apply pw_below_drewN | apply below_drew1 | refine below_set ?_ GE304.out) | exact HB.out))) : w.heap.size ≤ gb305)); have n5_ := Aside0.mk ((by rw [hg]; exact Nat.ne_of_lt (blk_lt (g := gb304) (o := .cells #[.int .i64 a1_0, .int .i64 a1_1] 24 (0, 0)) (by (with_reducible repeat (first | refine blk_drewN ?_ _ | refine blk_drew ?_ | refine blk_alloc ?_ _)); exact BK304.out)) : gb304 ≠ gb305)); have n6_ := Aside0.mk ((by rw [hg]; exact Nat.ne_of_gt (blk_lt (g := gb304) (o := .cells #[.int .i64 a1_0, .int .i64 a1_1] 24 (0, 0)) (by (with_reducible repeat (first | refine blk_drewN ?_ _ | refine blk_drew ?_ | refine blk_alloc ?_ _)); exact BK304.out)) : gb305 ≠ gb304)); clear BK304; clear HB; have BK304 := n0_; have HB := n1_; have BK305 := n2_; have GW305 := n3_; have GE305 := n4_; have NB304_305 := n5_; have NB305_304 := n6_; clear n0_ n1_ n2_ n3_ n4_ n5_ n6_; clear hb hbox hg) | ((with_reducible refine gate_callee (f := 11) rfl ?_); refine goesL_ (some 24) rfl rfl Tryd.func11 (by kernel_rfl) rfl #[] rfl (by (try simp only [List.map_toArray, List.map_cons, List.map_nil]); first | done | rfl | (simp only [List.length_drop, List.length_take]; rfl)) ?_; (with_reducible refine (gutterlaw03_shown.calls k  t306 _ ?side1 A4.out).mono ?_); (case side1 => exact (Gl.of_below HG.out (by repeat (first | (with_reducible first | exact HB.out | apply below_alloc | apply pw_below_drewN | apply below_drew1 | refine below_set ?_ GE304.out | refine below_set ?_ GE305.out) | exact HB.out))).le (by decide)); rintro e w17 ⟨rfl, hb⟩; refine ⟨_, rfl, ?_⟩; have n0_ := Aside0.mk (blk_below (g := gb304) (o := .cells #[.int .i64 a1_0, .int .i64 a1_1] 24 (0, 0)) (by (with_reducible repeat (first | refine blk_drewN ?_ _ | refine blk_drew ?_ | refine blk_alloc ?_ _)); exact BK304.out) hb); have n1_ := Aside0.mk (blk_below (g := gb305) (o := .cells #[.int .i64 a2_0, .int .i64 a2_1] 24 (0, 0)) (by (with_reducible repeat (first | refine blk_drewN ?_ _ | refine blk_drew ?_ | refine blk_alloc ?_ _)); exact BK305.out) hb); have n2_ := Aside0.mk (below_step (by repeat (first | (with_reducible first | exact HB.out | apply below_alloc | apply pw_below_drewN | apply below_drew1 | refine below_set ?_ GE304.out | refine below_set ?_ GE305.out) | exact HB.out)) hb); clear BK304; clear BK305; clear HB; have BK304 := n0_; have BK305 := n1_; have HB := n2_; clear n0_ n1_ n2_; (try clear hb); (try clear hb2); (try clear hk); (try clear hi)) | ((with_reducible refine gate_callee (f := 12) rfl ?_); refine goesL_ (some 26) rfl rfl Tryd.func12 (by kernel_rfl) rfl #[.slice A0 l0.length c0] rfl (by (try simp only [List.map_toArray, List.map_cons, List.map_nil]); first | done | rfl | (simp only [List.length_drop, List.length_take]; rfl)) ?_; (with_reducible refine (gutterlaw03_few.calls (fun k_ => k_ < w.heap.size) _ _ l0 t307 _ ?side1 A5.out).mono ?_); (case side1 => exact Kd.V_mk HC0.out (Kd.F_below (Kd.C_F k24_heap HR0.out) (by repeat (first | (with_reducible first | exact HB.out | apply below_alloc | apply pw_below_drewN | apply below_drew1 | refine below_set ?_ GE304.out | refine below_set ?_ GE305.out) | exact HB.out)))); rintro e w18 ⟨v308, rfl, ho0, hb⟩; refine ⟨_, rfl, ?_⟩; have n0_ := Aside0.mk (Kd.V_lower (Kd.V_mono (ok' := fun k_ => k_ ≠ gb304 ∧ k_ ≠ gb305) ho0 (fun k_ hk_ => ⟨Or.elim hk_ (fun hs_ => fun e_ => Nat.not_le.2 hs_ (by rw [e_]; exact GW304.out)) (fun hn_ => (Kd.freshB (g := gb304) (o := .cells #[.int .i64 a1_0, .int .i64 a1_1] 24 (0, 0)) (by (with_reducible repeat (first | refine blk_drewN ?_ _ | refine blk_drew ?_ | refine blk_alloc ?_ _)); exact BK304.out) k_ hn_)), Or.elim hk_ (fun hs_ => fun e_ => Nat.not_le.2 hs_ (by rw [e_]; exact GW305.out)) (fun hn_ => (Kd.freshB (g := gb305) (o := .cells #[.int .i64 a2_0, .int .i64 a2_1] 24 (0, 0)) (by (with_reducible repeat (first | refine blk_drewN ?_ _ | refine blk_drew ?_ | refine blk_alloc ?_ _)); exact BK305.out) k_ hn_))⟩)) (below_size (by repeat (first | (with_reducible first | exact HB.out | apply below_alloc | apply pw_below_drewN | apply below_drew1 | refine below_set ?_ GE304.out | refine below_set ?_ GE305.out) | exact HB.out)))); have n1_ := Aside0.mk (blk_below (g := gb304) (o := .cells #[.int .i64 a1_0, .int .i64 a1_1] 24 (0, 0)) (by (with_reducible repeat (first | refine blk_drewN ?_ _ | refine blk_drew ?_ | refine blk_alloc ?_ _)); exact BK304.out) hb); have n2_ := Aside0.mk (blk_below (g := gb305) (o := .cells #[.int .i64 a2_0, .int .i64 a2_1] 24 (0, 0)) (by (with_reducible repeat (first | refine blk_drewN ?_ _ | refine blk_drew ?_ | refine blk_alloc ?_ _)); exact BK305.out) hb); have n3_ := Aside0.mk (below_step (by repeat (first | (with_reducible first | exact HB.out | apply below_alloc | apply pw_below_drewN | apply below_drew1 | refine below_set ?_ GE304.out | refine below_set ?_ GE305.out) | exact HB.out)) hb); clear BK304; clear BK305; clear HB; have HO309 := n0_; have BK304 := n1_; have BK305 := n2_; have HB := n3_; clear n0_ n1_ n2_ n3_; (try clear hb); (try clear hb2); (try clear hk); (try clear hi); (try clear ho0); have hnb19 := NB304_305.out; have hnc19 := NB305_304.out; have hcz20_0 : w18.cell? ⟨gb304, 0, none⟩ = some (.int .i64 a1_0) := (blk_cell BK304.out 0).trans rfl; have hcz20_1 : w18.cell? ⟨gb304, 1, none⟩ = some (.int .i64 a1_1) := (blk_cell BK304.out 1).trans rfl; have hfz20_0 := blk_frozen BK304.out 0; have hfz20_1 := blk_frozen BK304.out 1; obtain ⟨Ao21, co21, eo21⟩ := Kd.V_slice HO309.out; subst eo21) | ((with_reducible refine gate_callee (f := 13) rfl ?_); refine goesL_ (some 30) rfl rfl Tryd.func13 (by kernel_rfl) rfl #[.slice Ao21 t307.length co21, .agg #[.int .i64 a1_0, .int .i64 a1_1]] rfl (by (try simp only [List.map_toArray, List.map_cons, List.map_nil]); first | done | rfl | (simp only [List.length_drop, List.length_take]; rfl)) ?_; (with_reducible refine (band_Plus.calls _ _ t307 a1_0 a1_1 t310 t313 _ ?side1 ?side2 ?side3 A6.out).mono ?_); (case side1 => repeat (first | exact (Kd.V_reads' HO309.out).2.2 | (with_reducible refine Kd.C_alloc ?_ _) | (with_reducible refine Kd.C_drewN ?_ _) | (with_reducible refine Kd.C_drew ?_))); (case side2 => exact (Kd.V_reads' HO309.out).2.1); (case side3 => exact (Gl.of_below HG.out (by repeat (first | (with_reducible first | exact HB.out | apply below_alloc | apply pw_below_drewN | apply below_drew1 | refine below_set ?_ GE304.out | refine below_set ?_ GE305.out) | exact HB.out))).le (by decide)); rintro e w22 ⟨v311, rfl, ho0, hb⟩; refine ⟨_, rfl, ?_⟩; have n0_ := Aside0.mk (Kd.V_elder' (by (with_reducible repeat (first | apply Kd.V_alloc | apply Kd.V_drewN | apply Kd.V_drew)); exact HO309.out) (Kd.R_base ho0) hb); have n1_ := Aside0.mk (Kd.R_lower (Kd.R_newB (Kd.R_newB ho0 (g := gb304) (o := .cells #[.int .i64 a1_0, .int .i64 a1_1] 24 (0, 0)) (by (with_reducible repeat (first | refine blk_drewN ?_ _ | refine blk_drew ?_ | refine blk_alloc ?_ _)); exact BK304.out)) (g := gb305) (o := .cells #[.int .i64 a2_0, .int .i64 a2_1] 24 (0, 0)) (by (with_reducible repeat (first | refine blk_drewN ?_ _ | refine blk_drew ?_ | refine blk_alloc ?_ _)); exact BK305.out)) (below_size (by repeat (first | (with_reducible first | exact HB.out | apply below_alloc | apply pw_below_drewN | apply below_drew1 | refine below_set ?_ GE304.out | refine below_set ?_ GE305.out) | exact HB.out)))); have n2_ := Aside0.mk (blk_below (g := gb304) (o := .cells #[.int .i64 a1_0, .int .i64 a1_1] 24 (0, 0)) (by (with_reducible repeat (first | refine blk_drewN ?_ _ | refine blk_drew ?_ | refine blk_alloc ?_ _)); exact BK304.out) hb); have n3_ := Aside0.mk (blk_below (g := gb305) (o := .cells #[.int .i64 a2_0, .int .i64 a2_1] 24 (0, 0)) (by (with_reducible repeat (first | refine blk_drewN ?_ _ | refine blk_drew ?_ | refine blk_alloc ?_ _)); exact BK305.out) hb); have n4_ := Aside0.mk (below_step (by repeat (first | (with_reducible first | exact HB.out | apply below_alloc | apply pw_below_drewN | apply below_drew1 | refine below_set ?_ GE304.out | refine below_set ?_ GE305.out) | exact HB.out)) hb); clear HO309; clear BK304; clear BK305; clear HB; have HO309 := n0_; have HO312 := n1_; have BK304 := n2_; have BK305 := n3_; have HB := n4_; clear n0_ n1_ n2_ n3_ n4_; (try clear hb); (try clear hb2); (try clear hk); (try clear hi); (try clear ho0); have hcz23_0 : w22.cell? ⟨gb305, 0, none⟩ = some (.int .i64 a2_0) := (blk_cell BK305.out 0).trans rfl; have hcz23_1 : w22.cell? ⟨gb305, 1, none⟩ = some (.int .i64 a2_1) := (blk_cell BK305.out 1).trans rfl; have hfz23_0 := blk_frozen BK305.out 0; have hfz23_1 := blk_frozen BK305.out 1; obtain ⟨Ao24, co24, eo24⟩ := Kd.R_slice HO312.out; subst eo24) | ((with_reducible refine gate_callee (f := 13) rfl ?_); refine goesL_ (some 36) rfl rfl Tryd.func13 (by kernel_rfl) rfl #[.slice Ao24 t310.length co24, .agg #[.int .i64 a2_0, .int .i64 a2_1]] rfl (by (try simp only [List.map_toArray, List.map_cons, List.map_nil]); first | done | rfl | (simp only [List.length_drop, List.length_take]; rfl)) ?_; (with_reducible refine (band_Plus.calls _ _ t310 a2_0 a2_1 t314 t317 _ ?side1 ?side2 ?side3 A7.out).mono ?_); (case side1 => repeat (first | exact (Kd.R_reads' HO312.out).2.2 | (with_reducible refine Kd.C_alloc ?_ _) | (with_reducible refine Kd.C_drewN ?_ _) | (with_reducible refine Kd.C_drew ?_))); (case side2 => exact (Kd.R_reads' HO312.out).2.1); (case side3 => exact (Gl.of_below HG.out (by repeat (first | (with_reducible first | exact HB.out | apply below_alloc | apply pw_below_drewN | apply below_drew1 | refine below_set ?_ GE304.out | refine below_set ?_ GE305.out) | exact HB.out))).le (by decide)); rintro e w25 ⟨v315, rfl, ho0, hb⟩; refine ⟨_, rfl, ?_⟩; have n0_ := Aside0.mk (Kd.V_elder' (by (with_reducible repeat (first | apply Kd.V_alloc | apply Kd.V_drewN | apply Kd.V_drew)); exact HO309.out) (Kd.R_base ho0) hb); have n1_ := Aside0.mk (Kd.R_elder' (by (with_reducible repeat (first | apply Kd.R_alloc | apply Kd.R_drewN | apply Kd.R_drew)); exact HO312.out) (Kd.R_base ho0) hb); have n2_ := Aside0.mk (Kd.R_lower (Kd.R_newB (Kd.R_newB (Kd.R_new' ho0 (Kd.R_lt (by (with_reducible repeat (first | apply Kd.R_alloc | apply Kd.R_drewN | apply Kd.R_drew)); exact HO312.out))) (g := gb304) (o := .cells #[.int .i64 a1_0, .int .i64 a1_1] 24 (0, 0)) (by (with_reducible repeat (first | refine blk_drewN ?_ _ | refine blk_drew ?_ | refine blk_alloc ?_ _)); exact BK304.out)) (g := gb305) (o := .cells #[.int .i64 a2_0, .int .i64 a2_1] 24 (0, 0)) (by (with_reducible repeat (first | refine blk_drewN ?_ _ | refine blk_drew ?_ | refine blk_alloc ?_ _)); exact BK305.out)) (below_size (by repeat (first | (with_reducible first | exact HB.out | apply below_alloc | apply pw_below_drewN | apply below_drew1 | refine below_set ?_ GE304.out | refine below_set ?_ GE305.out) | exact HB.out)))); have n3_ := Aside0.mk (blk_below (g := gb304) (o := .cells #[.int .i64 a1_0, .int .i64 a1_1] 24 (0, 0)) (by (with_reducible repeat (first | refine blk_drewN ?_ _ | refine blk_drew ?_ | refine blk_alloc ?_ _)); exact BK304.out) hb); have n4_ := Aside0.mk (blk_below (g := gb305) (o := .cells #[.int .i64 a2_0, .int .i64 a2_1] 24 (0, 0)) (by (with_reducible repeat (first | refine blk_drewN ?_ _ | refine blk_drew ?_ | refine blk_alloc ?_ _)); exact BK305.out) hb); have n5_ := Aside0.mk (below_step (by repeat (first | (with_reducible first | exact HB.out | apply below_alloc | apply pw_below_drewN | apply below_drew1 | refine below_set ?_ GE304.out | refine below_set ?_ GE305.out) | exact HB.out)) hb); clear HO309; clear HO312; clear BK304; clear BK305; clear HB; have HO309 := n0_; have HO312 := n1_; have HO316 := n2_; have BK304 := n3_; have BK305 := n4_; have HB := n5_; clear n0_ n1_ n2_ n3_ n4_ n5_; (try clear hb); (try clear hb2); (try clear hk); (try clear hi); (try clear ho0); have hcz26_0 : w25.cell? ⟨gb305, 0, none⟩ = some (.int .i64 a2_0) := (blk_cell BK305.out 0).trans rfl; have hcz26_1 : w25.cell? ⟨gb305, 1, none⟩ = some (.int .i64 a2_1) := (blk_cell BK305.out 1).trans rfl; have hfz26_0 := blk_frozen BK305.out 0; have hfz26_1 := blk_frozen BK305.out 1) | ((with_reducible refine gate_callee (f := 13) rfl ?_); refine goesL_ (some 42) rfl rfl Tryd.func13 (by kernel_rfl) rfl #[.slice Ao21 t307.length co21, .agg #[.int .i64 a2_0, .int .i64 a2_1]] rfl (by (try simp only [List.map_toArray, List.map_cons, List.map_nil]); first | done | rfl | (simp only [List.length_drop, List.length_take]; rfl)) ?_; (with_reducible refine (band_Plus.calls _ _ t307 a2_0 a2_1 t318 t321 _ ?side1 ?side2 ?side3 A8.out).mono ?_); (case side1 => repeat (first | exact (Kd.V_reads' HO309.out).2.2 | (with_reducible refine Kd.C_alloc ?_ _) | (with_reducible refine Kd.C_drewN ?_ _) | (with_reducible refine Kd.C_drew ?_))); (case side2 => exact (Kd.V_reads' HO309.out).2.1); (case side3 => exact (Gl.of_below HG.out (by repeat (first | (with_reducible first | exact HB.out | apply below_alloc | apply pw_below_drewN | apply below_drew1 | refine below_set ?_ GE304.out | refine below_set ?_ GE305.out) | exact HB.out))).le (by decide)); rintro e w27 ⟨v319, rfl, ho0, hb⟩; refine ⟨_, rfl, ?_⟩; have n0_ := Aside0.mk (Kd.V_elder' (by (with_reducible repeat (first | apply Kd.V_alloc | apply Kd.V_drewN | apply Kd.V_drew)); exact HO309.out) (Kd.R_base ho0) hb); have n1_ := Aside0.mk (Kd.R_elder' (by (with_reducible repeat (first | apply Kd.R_alloc | apply Kd.R_drewN | apply Kd.R_drew)); exact HO312.out) (Kd.R_base ho0) hb); have n2_ := Aside0.mk (Kd.R_elder' (by (with_reducible repeat (first | apply Kd.R_alloc | apply Kd.R_drewN | apply Kd.R_drew)); exact HO316.out) (Kd.R_base ho0) hb); have n3_ := Aside0.mk (Kd.R_lower (Kd.R_newB (Kd.R_newB (Kd.R_new' (Kd.R_new' ho0 (Kd.R_lt (by (with_reducible repeat (first | apply Kd.R_alloc | apply Kd.R_drewN | apply Kd.R_drew)); exact HO312.out))) (Kd.R_lt (by (with_reducible repeat (first | apply Kd.R_alloc | apply Kd.R_drewN | apply Kd.R_drew)); exact HO316.out))) (g := gb304) (o := .cells #[.int .i64 a1_0, .int .i64 a1_1] 24 (0, 0)) (by (with_reducible repeat (first | refine blk_drewN ?_ _ | refine blk_drew ?_ | refine blk_alloc ?_ _)); exact BK304.out)) (g := gb305) (o := .cells #[.int .i64 a2_0, .int .i64 a2_1] 24 (0, 0)) (by (with_reducible repeat (first | refine blk_drewN ?_ _ | refine blk_drew ?_ | refine blk_alloc ?_ _)); exact BK305.out)) (below_size (by repeat (first | (with_reducible first | exact HB.out | apply below_alloc | apply pw_below_drewN | apply below_drew1 | refine below_set ?_ GE304.out | refine below_set ?_ GE305.out) | exact HB.out)))); have n4_ := Aside0.mk (blk_below (g := gb304) (o := .cells #[.int .i64 a1_0, .int .i64 a1_1] 24 (0, 0)) (by (with_reducible repeat (first | refine blk_drewN ?_ _ | refine blk_drew ?_ | refine blk_alloc ?_ _)); exact BK304.out) hb); have n5_ := Aside0.mk (blk_below (g := gb305) (o := .cells #[.int .i64 a2_0, .int .i64 a2_1] 24 (0, 0)) (by (with_reducible repeat (first | refine blk_drewN ?_ _ | refine blk_drew ?_ | refine blk_alloc ?_ _)); exact BK305.out) hb); have n6_ := Aside0.mk (below_step (by repeat (first | (with_reducible first | exact HB.out | apply below_alloc | apply pw_below_drewN | apply below_drew1 | refine below_set ?_ GE304.out | refine below_set ?_ GE305.out) | exact HB.out)) hb); clear HO309; clear HO312; clear HO316; clear BK304; clear BK305; clear HB; have HO309 := n0_; have HO312 := n1_; have HO316 := n2_; have HO320 := n3_; have BK304 := n4_; have BK305 := n5_; have HB := n6_; clear n0_ n1_ n2_ n3_ n4_ n5_ n6_; (try clear hb); (try clear hb2); (try clear hk); (try clear hi); (try clear ho0); have hcz28_0 : w27.cell? ⟨gb304, 0, none⟩ = some (.int .i64 a1_0) := (blk_cell BK304.out 0).trans rfl; have hcz28_1 : w27.cell? ⟨gb304, 1, none⟩ = some (.int .i64 a1_1) := (blk_cell BK304.out 1).trans rfl; have hfz28_0 := blk_frozen BK304.out 0; have hfz28_1 := blk_frozen BK304.out 1; obtain ⟨Ao29, co29, eo29⟩ := Kd.R_slice HO320.out; subst eo29) | ((with_reducible refine gate_callee (f := 13) rfl ?_); refine goesL_ (some 48) rfl rfl Tryd.func13 (by kernel_rfl) rfl #[.slice Ao29 t318.length co29, .agg #[.int .i64 a1_0, .int .i64 a1_1]] rfl (by (try simp only [List.map_toArray, List.map_cons, List.map_nil]); first | done | rfl | (simp only [List.length_drop, List.length_take]; rfl)) ?_; (with_reducible refine (band_Plus.calls _ _ t318 a1_0 a1_1 t322 t325 _ ?side1 ?side2 ?side3 A9.out).mono ?_); (case side1 => repeat (first | exact (Kd.R_reads' HO320.out).2.2 | (with_reducible refine Kd.C_alloc ?_ _) | (with_reducible refine Kd.C_drewN ?_ _) | (with_reducible refine Kd.C_drew ?_))); (case side2 => exact (Kd.R_reads' HO320.out).2.1); (case side3 => exact (Gl.of_below HG.out (by repeat (first | (with_reducible first | exact HB.out | apply below_alloc | apply pw_below_drewN | apply below_drew1 | refine below_set ?_ GE304.out | refine below_set ?_ GE305.out) | exact HB.out))).le (by decide)); rintro e w30 ⟨v323, rfl, ho0, hb⟩; refine ⟨_, rfl, ?_⟩; have n0_ := Aside0.mk (Kd.V_elder' (by (with_reducible repeat (first | apply Kd.V_alloc | apply Kd.V_drewN | apply Kd.V_drew)); exact HO309.out) (Kd.R_base ho0) hb); have n1_ := Aside0.mk (Kd.R_elder' (by (with_reducible repeat (first | apply Kd.R_alloc | apply Kd.R_drewN | apply Kd.R_drew)); exact HO312.out) (Kd.R_base ho0) hb); have n2_ := Aside0.mk (Kd.R_elder' (by (with_reducible repeat (first | apply Kd.R_alloc | apply Kd.R_drewN | apply Kd.R_drew)); exact HO316.out) (Kd.R_base ho0) hb); have n3_ := Aside0.mk (Kd.R_elder' (by (with_reducible repeat (first | apply Kd.R_alloc | apply Kd.R_drewN | apply Kd.R_drew)); exact HO320.out) (Kd.R_base ho0) hb); have n4_ := Aside0.mk (Kd.R_lower (Kd.R_newB (Kd.R_newB (Kd.R_new' (Kd.R_new' (Kd.R_new' ho0 (Kd.R_lt (by (with_reducible repeat (first | apply Kd.R_alloc | apply Kd.R_drewN | apply Kd.R_drew)); exact HO312.out))) (Kd.R_lt (by (with_reducible repeat (first | apply Kd.R_alloc | apply Kd.R_drewN | apply Kd.R_drew)); exact HO316.out))) (Kd.R_lt (by (with_reducible repeat (first | apply Kd.R_alloc | apply Kd.R_drewN | apply Kd.R_drew)); exact HO320.out))) (g := gb304) (o := .cells #[.int .i64 a1_0, .int .i64 a1_1] 24 (0, 0)) (by (with_reducible repeat (first | refine blk_drewN ?_ _ | refine blk_drew ?_ | refine blk_alloc ?_ _)); exact BK304.out)) (g := gb305) (o := .cells #[.int .i64 a2_0, .int .i64 a2_1] 24 (0, 0)) (by (with_reducible repeat (first | refine blk_drewN ?_ _ | refine blk_drew ?_ | refine blk_alloc ?_ _)); exact BK305.out)) (below_size (by repeat (first | (with_reducible first | exact HB.out | apply below_alloc | apply pw_below_drewN | apply below_drew1 | refine below_set ?_ GE304.out | refine below_set ?_ GE305.out) | exact HB.out)))); have n5_ := Aside0.mk (blk_below (g := gb304) (o := .cells #[.int .i64 a1_0, .int .i64 a1_1] 24 (0, 0)) (by (with_reducible repeat (first | refine blk_drewN ?_ _ | refine blk_drew ?_ | refine blk_alloc ?_ _)); exact BK304.out) hb); have n6_ := Aside0.mk (blk_below (g := gb305) (o := .cells #[.int .i64 a2_0, .int .i64 a2_1] 24 (0, 0)) (by (with_reducible repeat (first | refine blk_drewN ?_ _ | refine blk_drew ?_ | refine blk_alloc ?_ _)); exact BK305.out) hb); have n7_ := Aside0.mk (below_step (by repeat (first | (with_reducible first | exact HB.out | apply below_alloc | apply pw_below_drewN | apply below_drew1 | refine below_set ?_ GE304.out | refine below_set ?_ GE305.out) | exact HB.out)) hb); clear HO309; clear HO312; clear HO316; clear HO320; clear BK304; clear BK305; clear HB; have HO309 := n0_; have HO312 := n1_; have HO316 := n2_; have HO320 := n3_; have HO324 := n4_; have BK304 := n5_; have BK305 := n6_; have HB := n7_; clear n0_ n1_ n2_ n3_ n4_ n5_ n6_ n7_; (try clear hb); (try clear hb2); (try clear hk); (try clear hi); (try clear ho0); have hcz31_0 : w30.cell? ⟨gb304, 0, none⟩ = some (.int .i64 a1_0) := (blk_cell BK304.out 0).trans rfl; have hcz31_1 : w30.cell? ⟨gb304, 1, none⟩ = some (.int .i64 a1_1) := (blk_cell BK304.out 1).trans rfl; have hfz31_0 := blk_frozen BK304.out 0; have hfz31_1 := blk_frozen BK304.out 1) | ((with_reducible refine gate_callee (f := 15) rfl ?_); refine goesL_ (some 54) rfl rfl Tryd.func15 (by kernel_rfl) rfl #[.slice Ao21 t307.length co21, .agg #[.int .i64 a1_0, .int .i64 a1_1]] rfl (by (try simp only [List.map_toArray, List.map_cons, List.map_nil]); first | done | rfl | (simp only [List.length_drop, List.length_take]; rfl)) ?_; (with_reducible refine (band_Less.calls _ _ t307 a1_0 a1_1 t326 t329 _ ?side1 ?side2 ?side3 A10.out).mono ?_); (case side1 => repeat (first | exact (Kd.V_reads' HO309.out).2.2 | (with_reducible refine Kd.C_alloc ?_ _) | (with_reducible refine Kd.C_drewN ?_ _) | (with_reducible refine Kd.C_drew ?_))); (case side2 => exact (Kd.V_reads' HO309.out).2.1); (case side3 => exact (Gl.of_below HG.out (by repeat (first | (with_reducible first | exact HB.out | apply below_alloc | apply pw_below_drewN | apply below_drew1 | refine below_set ?_ GE304.out | refine below_set ?_ GE305.out) | exact HB.out))).le (by decide)); rintro e w32 ⟨v327, rfl, ho0, hb⟩; refine ⟨_, rfl, ?_⟩; have n0_ := Aside0.mk (Kd.V_elder' (by (with_reducible repeat (first | apply Kd.V_alloc | apply Kd.V_drewN | apply Kd.V_drew)); exact HO309.out) (Kd.R_base ho0) hb); have n1_ := Aside0.mk (Kd.R_elder' (by (with_reducible repeat (first | apply Kd.R_alloc | apply Kd.R_drewN | apply Kd.R_drew)); exact HO312.out) (Kd.R_base ho0) hb); have n2_ := Aside0.mk (Kd.R_elder' (by (with_reducible repeat (first | apply Kd.R_alloc | apply Kd.R_drewN | apply Kd.R_drew)); exact HO316.out) (Kd.R_base ho0) hb); have n3_ := Aside0.mk (Kd.R_elder' (by (with_reducible repeat (first | apply Kd.R_alloc | apply Kd.R_drewN | apply Kd.R_drew)); exact HO320.out) (Kd.R_base ho0) hb); have n4_ := Aside0.mk (Kd.R_elder' (by (with_reducible repeat (first | apply Kd.R_alloc | apply Kd.R_drewN | apply Kd.R_drew)); exact HO324.out) (Kd.R_base ho0) hb); have n5_ := Aside0.mk (Kd.R_lower (Kd.R_newB (Kd.R_newB (Kd.R_new' (Kd.R_new' (Kd.R_new' (Kd.R_new' ho0 (Kd.R_lt (by (with_reducible repeat (first | apply Kd.R_alloc | apply Kd.R_drewN | apply Kd.R_drew)); exact HO312.out))) (Kd.R_lt (by (with_reducible repeat (first | apply Kd.R_alloc | apply Kd.R_drewN | apply Kd.R_drew)); exact HO316.out))) (Kd.R_lt (by (with_reducible repeat (first | apply Kd.R_alloc | apply Kd.R_drewN | apply Kd.R_drew)); exact HO320.out))) (Kd.R_lt (by (with_reducible repeat (first | apply Kd.R_alloc | apply Kd.R_drewN | apply Kd.R_drew)); exact HO324.out))) (g := gb304) (o := .cells #[.int .i64 a1_0, .int .i64 a1_1] 24 (0, 0)) (by (with_reducible repeat (first | refine blk_drewN ?_ _ | refine blk_drew ?_ | refine blk_alloc ?_ _)); exact BK304.out)) (g := gb305) (o := .cells #[.int .i64 a2_0, .int .i64 a2_1] 24 (0, 0)) (by (with_reducible repeat (first | refine blk_drewN ?_ _ | refine blk_drew ?_ | refine blk_alloc ?_ _)); exact BK305.out)) (below_size (by repeat (first | (with_reducible first | exact HB.out | apply below_alloc | apply pw_below_drewN | apply below_drew1 | refine below_set ?_ GE304.out | refine below_set ?_ GE305.out) | exact HB.out)))); have n6_ := Aside0.mk (blk_below (g := gb304) (o := .cells #[.int .i64 a1_0, .int .i64 a1_1] 24 (0, 0)) (by (with_reducible repeat (first | refine blk_drewN ?_ _ | refine blk_drew ?_ | refine blk_alloc ?_ _)); exact BK304.out) hb); have n7_ := Aside0.mk (blk_below (g := gb305) (o := .cells #[.int .i64 a2_0, .int .i64 a2_1] 24 (0, 0)) (by (with_reducible repeat (first | refine blk_drewN ?_ _ | refine blk_drew ?_ | refine blk_alloc ?_ _)); exact BK305.out) hb); have n8_ := Aside0.mk (below_step (by repeat (first | (with_reducible first | exact HB.out | apply below_alloc | apply pw_below_drewN | apply below_drew1 | refine below_set ?_ GE304.out | refine below_set ?_ GE305.out) | exact HB.out)) hb); clear HO309; clear HO312; clear HO316; clear HO320; clear HO324; clear BK304; clear BK305; clear HB; have HO309 := n0_; have HO312 := n1_; have HO316 := n2_; have HO320 := n3_; have HO324 := n4_; have HO328 := n5_; have BK304 := n6_; have BK305 := n7_; have HB := n8_; clear n0_ n1_ n2_ n3_ n4_ n5_ n6_ n7_ n8_; (try clear hb); (try clear hb2); (try clear hk); (try clear hi); (try clear ho0); have hcz33_0 : w32.cell? ⟨gb305, 0, none⟩ = some (.int .i64 a2_0) := (blk_cell BK305.out 0).trans rfl; have hcz33_1 : w32.cell? ⟨gb305, 1, none⟩ = some (.int .i64 a2_1) := (blk_cell BK305.out 1).trans rfl; have hfz33_0 := blk_frozen BK305.out 0; have hfz33_1 := blk_frozen BK305.out 1; obtain ⟨Ao34, co34, eo34⟩ := Kd.R_slice HO328.out; subst eo34) | ((with_reducible refine gate_callee (f := 15) rfl ?_); refine goesL_ (some 60) rfl rfl Tryd.func15 (by kernel_rfl) rfl #[.slice Ao34 t326.length co34, .agg #[.int .i64 a2_0, .int .i64 a2_1]] rfl (by (try simp only [List.map_toArray, List.map_cons, List.map_nil]); first | done | rfl | (simp only [List.length_drop, List.length_take]; rfl)) ?_; (with_reducible refine (band_Less.calls _ _ t326 a2_0 a2_1 t330 t333 _ ?side1 ?side2 ?side3 A11.out).mono ?_); (case side1 => repeat (first | exact (Kd.R_reads' HO328.out).2.2 | (with_reducible refine Kd.C_alloc ?_ _) | (with_reducible refine Kd.C_drewN ?_ _) | (with_reducible refine Kd.C_drew ?_))); (case side2 => exact (Kd.R_reads' HO328.out).2.1); (case side3 => exact (Gl.of_below HG.out (by repeat (first | (with_reducible first | exact HB.out | apply below_alloc | apply pw_below_drewN | apply below_drew1 | refine below_set ?_ GE304.out | refine below_set ?_ GE305.out) | exact HB.out))).le (by decide)); rintro e w35 ⟨v331, rfl, ho0, hb⟩; refine ⟨_, rfl, ?_⟩; have n0_ := Aside0.mk (Kd.V_elder' (by (with_reducible repeat (first | apply Kd.V_alloc | apply Kd.V_drewN | apply Kd.V_drew)); exact HO309.out) (Kd.R_base ho0) hb); have n1_ := Aside0.mk (Kd.R_elder' (by (with_reducible repeat (first | apply Kd.R_alloc | apply Kd.R_drewN | apply Kd.R_drew)); exact HO312.out) (Kd.R_base ho0) hb); have n2_ := Aside0.mk (Kd.R_elder' (by (with_reducible repeat (first | apply Kd.R_alloc | apply Kd.R_drewN | apply Kd.R_drew)); exact HO316.out) (Kd.R_base ho0) hb); have n3_ := Aside0.mk (Kd.R_elder' (by (with_reducible repeat (first | apply Kd.R_alloc | apply Kd.R_drewN | apply Kd.R_drew)); exact HO320.out) (Kd.R_base ho0) hb); have n4_ := Aside0.mk (Kd.R_elder' (by (with_reducible repeat (first | apply Kd.R_alloc | apply Kd.R_drewN | apply Kd.R_drew)); exact HO324.out) (Kd.R_base ho0) hb); have n5_ := Aside0.mk (Kd.R_elder' (by (with_reducible repeat (first | apply Kd.R_alloc | apply Kd.R_drewN | apply Kd.R_drew)); exact HO328.out) (Kd.R_base ho0) hb); have n6_ := Aside0.mk (Kd.R_lower (Kd.R_newB (Kd.R_newB (Kd.R_new' (Kd.R_new' (Kd.R_new' (Kd.R_new' (Kd.R_new' ho0 (Kd.R_lt (by (with_reducible repeat (first | apply Kd.R_alloc | apply Kd.R_drewN | apply Kd.R_drew)); exact HO312.out))) (Kd.R_lt (by (with_reducible repeat (first | apply Kd.R_alloc | apply Kd.R_drewN | apply Kd.R_drew)); exact HO316.out))) (Kd.R_lt (by (with_reducible repeat (first | apply Kd.R_alloc | apply Kd.R_drewN | apply Kd.R_drew)); exact HO320.out))) (Kd.R_lt (by (with_reducible repeat (first | apply Kd.R_alloc | apply Kd.R_drewN | apply Kd.R_drew)); exact HO324.out))) (Kd.R_lt (by (with_reducible repeat (first | apply Kd.R_alloc | apply Kd.R_drewN | apply Kd.R_drew)); exact HO328.out))) (g := gb304) (o := .cells #[.int .i64 a1_0, .int .i64 a1_1] 24 (0, 0)) (by (with_reducible repeat (first | refine blk_drewN ?_ _ | refine blk_drew ?_ | refine blk_alloc ?_ _)); exact BK304.out)) (g := gb305) (o := .cells #[.int .i64 a2_0, .int .i64 a2_1] 24 (0, 0)) (by (with_reducible repeat (first | refine blk_drewN ?_ _ | refine blk_drew ?_ | refine blk_alloc ?_ _)); exact BK305.out)) (below_size (by repeat (first | (with_reducible first | exact HB.out | apply below_alloc | apply pw_below_drewN | apply below_drew1 | refine below_set ?_ GE304.out | refine below_set ?_ GE305.out) | exact HB.out)))); have n7_ := Aside0.mk (blk_below (g := gb304) (o := .cells #[.int .i64 a1_0, .int .i64 a1_1] 24 (0, 0)) (by (with_reducible repeat (first | refine blk_drewN ?_ _ | refine blk_drew ?_ | refine blk_alloc ?_ _)); exact BK304.out) hb); have n8_ := Aside0.mk (blk_below (g := gb305) (o := .cells #[.int .i64 a2_0, .int .i64 a2_1] 24 (0, 0)) (by (with_reducible repeat (first | refine blk_drewN ?_ _ | refine blk_drew ?_ | refine blk_alloc ?_ _)); exact BK305.out) hb); have n9_ := Aside0.mk (below_step (by repeat (first | (with_reducible first | exact HB.out | apply below_alloc | apply pw_below_drewN | apply below_drew1 | refine below_set ?_ GE304.out | refine below_set ?_ GE305.out) | exact HB.out)) hb); clear HO309; clear HO312; clear HO316; clear HO320; clear HO324; clear HO328; clear BK304; clear BK305; clear HB; have HO309 := n0_; have HO312 := n1_; have HO316 := n2_; have HO320 := n3_; have HO324 := n4_; have HO328 := n5_; have HO332 := n6_; have BK304 := n7_; have BK305 := n8_; have HB := n9_; clear n0_ n1_ n2_ n3_ n4_ n5_ n6_ n7_ n8_ n9_; (try clear hb); (try clear hb2); (try clear hk); (try clear hi); (try clear ho0); have hcz36_0 : w35.cell? ⟨gb305, 0, none⟩ = some (.int .i64 a2_0) := (blk_cell BK305.out 0).trans rfl; have hcz36_1 : w35.cell? ⟨gb305, 1, none⟩ = some (.int .i64 a2_1) := (blk_cell BK305.out 1).trans rfl; have hfz36_0 := blk_frozen BK305.out 0; have hfz36_1 := blk_frozen BK305.out 1) | ((with_reducible refine gate_callee (f := 15) rfl ?_); refine goesL_ (some 66) rfl rfl Tryd.func15 (by kernel_rfl) rfl #[.slice Ao21 t307.length co21, .agg #[.int .i64 a2_0, .int .i64 a2_1]] rfl (by (try simp only [List.map_toArray, List.map_cons, List.map_nil]); first | done | rfl | (simp only [List.length_drop, List.length_take]; rfl)) ?_; (with_reducible refine (band_Less.calls _ _ t307 a2_0 a2_1 t334 t337 _ ?side1 ?side2 ?side3 A12.out).mono ?_); (case side1 => repeat (first | exact (Kd.V_reads' HO309.out).2.2 | (with_reducible refine Kd.C_alloc ?_ _) | (with_reducible refine Kd.C_drewN ?_ _) | (with_reducible refine Kd.C_drew ?_))); (case side2 => exact (Kd.V_reads' HO309.out).2.1); (case side3 => exact (Gl.of_below HG.out (by repeat (first | (with_reducible first | exact HB.out | apply below_alloc | apply pw_below_drewN | apply below_drew1 | refine below_set ?_ GE304.out | refine below_set ?_ GE305.out) | exact HB.out))).le (by decide)); rintro e w37 ⟨v335, rfl, ho0, hb⟩; refine ⟨_, rfl, ?_⟩; have n0_ := Aside0.mk (Kd.V_elder' (by (with_reducible repeat (first | apply Kd.V_alloc | apply Kd.V_drewN | apply Kd.V_drew)); exact HO309.out) (Kd.R_base ho0) hb); have n1_ := Aside0.mk (Kd.R_elder' (by (with_reducible repeat (first | apply Kd.R_alloc | apply Kd.R_drewN | apply Kd.R_drew)); exact HO312.out) (Kd.R_base ho0) hb); have n2_ := Aside0.mk (Kd.R_elder' (by (with_reducible repeat (first | apply Kd.R_alloc | apply Kd.R_drewN | apply Kd.R_drew)); exact HO316.out) (Kd.R_base ho0) hb); have n3_ := Aside0.mk (Kd.R_elder' (by (with_reducible repeat (first | apply Kd.R_alloc | apply Kd.R_drewN | apply Kd.R_drew)); exact HO320.out) (Kd.R_base ho0) hb); have n4_ := Aside0.mk (Kd.R_elder' (by (with_reducible repeat (first | apply Kd.R_alloc | apply Kd.R_drewN | apply Kd.R_drew)); exact HO324.out) (Kd.R_base ho0) hb); have n5_ := Aside0.mk (Kd.R_elder' (by (with_reducible repeat (first | apply Kd.R_alloc | apply Kd.R_drewN | apply Kd.R_drew)); exact HO328.out) (Kd.R_base ho0) hb); have n6_ := Aside0.mk (Kd.R_elder' (by (with_reducible repeat (first | apply Kd.R_alloc | apply Kd.R_drewN | apply Kd.R_drew)); exact HO332.out) (Kd.R_base ho0) hb); have n7_ := Aside0.mk (Kd.R_lower (Kd.R_newB (Kd.R_newB (Kd.R_new' (Kd.R_new' (Kd.R_new' (Kd.R_new' (Kd.R_new' (Kd.R_new' ho0 (Kd.R_lt (by (with_reducible repeat (first | apply Kd.R_alloc | apply Kd.R_drewN | apply Kd.R_drew)); exact HO312.out))) (Kd.R_lt (by (with_reducible repeat (first | apply Kd.R_alloc | apply Kd.R_drewN | apply Kd.R_drew)); exact HO316.out))) (Kd.R_lt (by (with_reducible repeat (first | apply Kd.R_alloc | apply Kd.R_drewN | apply Kd.R_drew)); exact HO320.out))) (Kd.R_lt (by (with_reducible repeat (first | apply Kd.R_alloc | apply Kd.R_drewN | apply Kd.R_drew)); exact HO324.out))) (Kd.R_lt (by (with_reducible repeat (first | apply Kd.R_alloc | apply Kd.R_drewN | apply Kd.R_drew)); exact HO328.out))) (Kd.R_lt (by (with_reducible repeat (first | apply Kd.R_alloc | apply Kd.R_drewN | apply Kd.R_drew)); exact HO332.out))) (g := gb304) (o := .cells #[.int .i64 a1_0, .int .i64 a1_1] 24 (0, 0)) (by (with_reducible repeat (first | refine blk_drewN ?_ _ | refine blk_drew ?_ | refine blk_alloc ?_ _)); exact BK304.out)) (g := gb305) (o := .cells #[.int .i64 a2_0, .int .i64 a2_1] 24 (0, 0)) (by (with_reducible repeat (first | refine blk_drewN ?_ _ | refine blk_drew ?_ | refine blk_alloc ?_ _)); exact BK305.out)) (below_size (by repeat (first | (with_reducible first | exact HB.out | apply below_alloc | apply pw_below_drewN | apply below_drew1 | refine below_set ?_ GE304.out | refine below_set ?_ GE305.out) | exact HB.out)))); have n8_ := Aside0.mk (blk_below (g := gb304) (o := .cells #[.int .i64 a1_0, .int .i64 a1_1] 24 (0, 0)) (by (with_reducible repeat (first | refine blk_drewN ?_ _ | refine blk_drew ?_ | refine blk_alloc ?_ _)); exact BK304.out) hb); have n9_ := Aside0.mk (blk_below (g := gb305) (o := .cells #[.int .i64 a2_0, .int .i64 a2_1] 24 (0, 0)) (by (with_reducible repeat (first | refine blk_drewN ?_ _ | refine blk_drew ?_ | refine blk_alloc ?_ _)); exact BK305.out) hb); have n10_ := Aside0.mk (below_step (by repeat (first | (with_reducible first | exact HB.out | apply below_alloc | apply pw_below_drewN | apply below_drew1 | refine below_set ?_ GE304.out | refine below_set ?_ GE305.out) | exact HB.out)) hb); clear HO309; clear HO312; clear HO316; clear HO320; clear HO324; clear HO328; clear HO332; clear BK304; clear BK305; clear HB; have HO309 := n0_; have HO312 := n1_; have HO316 := n2_; have HO320 := n3_; have HO324 := n4_; have HO328 := n5_; have HO332 := n6_; have HO336 := n7_; have BK304 := n8_; have BK305 := n9_; have HB := n10_; clear n0_ n1_ n2_ n3_ n4_ n5_ n6_ n7_ n8_ n9_ n10_; (try clear hb); (try clear hb2); (try clear hk); (try clear hi); (try clear ho0); have hcz38_0 : w37.cell? ⟨gb304, 0, none⟩ = some (.int .i64 a1_0) := (blk_cell BK304.out 0).trans rfl; have hcz38_1 : w37.cell? ⟨gb304, 1, none⟩ = some (.int .i64 a1_1) := (blk_cell BK304.out 1).trans rfl; have hfz38_0 := blk_frozen BK304.out 0; have hfz38_1 := blk_frozen BK304.out 1; obtain ⟨Ao39, co39, eo39⟩ := Kd.R_slice HO336.out; subst eo39) | ((with_reducible refine gate_callee (f := 15) rfl ?_); refine goesL_ (some 72) rfl rfl Tryd.func15 (by kernel_rfl) rfl #[.slice Ao39 t334.length co39, .agg #[.int .i64 a1_0, .int .i64 a1_1]] rfl (by (try simp only [List.map_toArray, List.map_cons, List.map_nil]); first | done | rfl | (simp only [List.length_drop, List.length_take]; rfl)) ?_; (with_reducible refine (band_Less.calls _ _ t334 a1_0 a1_1 t338 t341 _ ?side1 ?side2 ?side3 A13.out).mono ?_); (case side1 => repeat (first | exact (Kd.R_reads' HO336.out).2.2 | (with_reducible refine Kd.C_alloc ?_ _) | (with_reducible refine Kd.C_drewN ?_ _) | (with_reducible refine Kd.C_drew ?_))); (case side2 => exact (Kd.R_reads' HO336.out).2.1); (case side3 => exact (Gl.of_below HG.out (by repeat (first | (with_reducible first | exact HB.out | apply below_alloc | apply pw_below_drewN | apply below_drew1 | refine below_set ?_ GE304.out | refine below_set ?_ GE305.out) | exact HB.out))).le (by decide)); rintro e w40 ⟨v339, rfl, ho0, hb⟩; refine ⟨_, rfl, ?_⟩; have n0_ := Aside0.mk (Kd.V_elder' (by (with_reducible repeat (first | apply Kd.V_alloc | apply Kd.V_drewN | apply Kd.V_drew)); exact HO309.out) (Kd.R_base ho0) hb); have n1_ := Aside0.mk (Kd.R_elder' (by (with_reducible repeat (first | apply Kd.R_alloc | apply Kd.R_drewN | apply Kd.R_drew)); exact HO312.out) (Kd.R_base ho0) hb); have n2_ := Aside0.mk (Kd.R_elder' (by (with_reducible repeat (first | apply Kd.R_alloc | apply Kd.R_drewN | apply Kd.R_drew)); exact HO316.out) (Kd.R_base ho0) hb); have n3_ := Aside0.mk (Kd.R_elder' (by (with_reducible repeat (first | apply Kd.R_alloc | apply Kd.R_drewN | apply Kd.R_drew)); exact HO320.out) (Kd.R_base ho0) hb); have n4_ := Aside0.mk (Kd.R_elder' (by (with_reducible repeat (first | apply Kd.R_alloc | apply Kd.R_drewN | apply Kd.R_drew)); exact HO324.out) (Kd.R_base ho0) hb); have n5_ := Aside0.mk (Kd.R_elder' (by (with_reducible repeat (first | apply Kd.R_alloc | apply Kd.R_drewN | apply Kd.R_drew)); exact HO328.out) (Kd.R_base ho0) hb); have n6_ := Aside0.mk (Kd.R_elder' (by (with_reducible repeat (first | apply Kd.R_alloc | apply Kd.R_drewN | apply Kd.R_drew)); exact HO332.out) (Kd.R_base ho0) hb); have n7_ := Aside0.mk (Kd.R_elder' (by (with_reducible repeat (first | apply Kd.R_alloc | apply Kd.R_drewN | apply Kd.R_drew)); exact HO336.out) (Kd.R_base ho0) hb); have n8_ := Aside0.mk (Kd.R_lower (Kd.R_newB (Kd.R_newB (Kd.R_new' (Kd.R_new' (Kd.R_new' (Kd.R_new' (Kd.R_new' (Kd.R_new' (Kd.R_new' ho0 (Kd.R_lt (by (with_reducible repeat (first | apply Kd.R_alloc | apply Kd.R_drewN | apply Kd.R_drew)); exact HO312.out))) (Kd.R_lt (by (with_reducible repeat (first | apply Kd.R_alloc | apply Kd.R_drewN | apply Kd.R_drew)); exact HO316.out))) (Kd.R_lt (by (with_reducible repeat (first | apply Kd.R_alloc | apply Kd.R_drewN | apply Kd.R_drew)); exact HO320.out))) (Kd.R_lt (by (with_reducible repeat (first | apply Kd.R_alloc | apply Kd.R_drewN | apply Kd.R_drew)); exact HO324.out))) (Kd.R_lt (by (with_reducible repeat (first | apply Kd.R_alloc | apply Kd.R_drewN | apply Kd.R_drew)); exact HO328.out))) (Kd.R_lt (by (with_reducible repeat (first | apply Kd.R_alloc | apply Kd.R_drewN | apply Kd.R_drew)); exact HO332.out))) (Kd.R_lt (by (with_reducible repeat (first | apply Kd.R_alloc | apply Kd.R_drewN | apply Kd.R_drew)); exact HO336.out))) (g := gb304) (o := .cells #[.int .i64 a1_0, .int .i64 a1_1] 24 (0, 0)) (by (with_reducible repeat (first | refine blk_drewN ?_ _ | refine blk_drew ?_ | refine blk_alloc ?_ _)); exact BK304.out)) (g := gb305) (o := .cells #[.int .i64 a2_0, .int .i64 a2_1] 24 (0, 0)) (by (with_reducible repeat (first | refine blk_drewN ?_ _ | refine blk_drew ?_ | refine blk_alloc ?_ _)); exact BK305.out)) (below_size (by repeat (first | (with_reducible first | exact HB.out | apply below_alloc | apply pw_below_drewN | apply below_drew1 | refine below_set ?_ GE304.out | refine below_set ?_ GE305.out) | exact HB.out)))); have n9_ := Aside0.mk (blk_below (g := gb304) (o := .cells #[.int .i64 a1_0, .int .i64 a1_1] 24 (0, 0)) (by (with_reducible repeat (first | refine blk_drewN ?_ _ | refine blk_drew ?_ | refine blk_alloc ?_ _)); exact BK304.out) hb); have n10_ := Aside0.mk (blk_below (g := gb305) (o := .cells #[.int .i64 a2_0, .int .i64 a2_1] 24 (0, 0)) (by (with_reducible repeat (first | refine blk_drewN ?_ _ | refine blk_drew ?_ | refine blk_alloc ?_ _)); exact BK305.out) hb); have n11_ := Aside0.mk (below_step (by repeat (first | (with_reducible first | exact HB.out | apply below_alloc | apply pw_below_drewN | apply below_drew1 | refine below_set ?_ GE304.out | refine below_set ?_ GE305.out) | exact HB.out)) hb); clear HO309; clear HO312; clear HO316; clear HO320; clear HO324; clear HO328; clear HO332; clear HO336; clear BK304; clear BK305; clear HB; have HO309 := n0_; have HO312 := n1_; have HO316 := n2_; have HO320 := n3_; have HO324 := n4_; have HO328 := n5_; have HO332 := n6_; have HO336 := n7_; have HO340 := n8_; have BK304 := n9_; have BK305 := n10_; have HB := n11_; clear n0_ n1_ n2_ n3_ n4_ n5_ n6_ n7_ n8_ n9_ n10_ n11_; (try clear hb); (try clear hb2); (try clear hk); (try clear hi); (try clear ho0)))
  (try simp only [Act.put, List.setIfInBounds_toArray, List.set_cons_zero, List.set_cons_succ])
  go_cut [80] (fun v80 wc => ∃ (kq : Nat) (x80_13 : Bool), v80 = .bool x80_13 ∧ Aside0 (gutterlaw03_BandTurns.j0 kq t306 t314 t321 t322 t325 t329 t330 t333 t337 t338 t341 x80_13 = some r) ∧ Aside0 (kq ≤ k) ∧ Aside0 (Kd.R k24 24 wc w.heap.size (fun k_ => some k_ ≠ (v323 : Value).ownBlock ∧ some k_ ≠ (v331 : Value).ownBlock ∧ some k_ ≠ (v339 : Value).ownBlock ∧ k_ ≠ gb304 ∧ k_ ≠ gb305) v315 t314) ∧ Aside0 (Kd.R k24 24 wc w.heap.size (fun k_ => some k_ ≠ (v315 : Value).ownBlock ∧ some k_ ≠ (v331 : Value).ownBlock ∧ some k_ ≠ (v339 : Value).ownBlock ∧ k_ ≠ gb304 ∧ k_ ≠ gb305) v323 t322) ∧ Aside0 (Kd.R k24 24 wc w.heap.size (fun k_ => some k_ ≠ (v315 : Value).ownBlock ∧ some k_ ≠ (v323 : Value).ownBlock ∧ some k_ ≠ (v339 : Value).ownBlock ∧ k_ ≠ gb304 ∧ k_ ≠ gb305) v331 t330) ∧ Aside0 (Kd.R k24 24 wc w.heap.size (fun k_ => some k_ ≠ (v315 : Value).ownBlock ∧ some k_ ≠ (v323 : Value).ownBlock ∧ some k_ ≠ (v331 : Value).ownBlock ∧ k_ ≠ gb304 ∧ k_ ≠ gb305) v339 t338) ∧ Aside0 (wc.heap[gb304]? = some (.cells #[.int .i64 a1_0, .int .i64 a1_1] 24 (0, 0))) ∧ Aside0 (wc.heap[gb305]? = some (.cells #[.int .i64 a2_0, .int .i64 a2_1] 24 (0, 0))) ∧ Aside0 (Below w.heap.size w wc))
  case first =>
    have H := HC14.out
    clear HC14
    by_cases c41 : t313 = 0
    · rw [if_pos c41] at H
      have c41b0 : (t313 == 0) = true := beq_iff_eq.mpr c41
      have c41b1 : (t313 != 0) = false := bne_eq_false_iff_eq.mpr c41
      clear c41
      (first | rw [c41b0] | (simp only [i64_w, i32_w]; rw [c41b0]) | skip)
      have H' := Aside0.mk H
      clear H
      go_wp2
      go_meet
      case rel => exact ⟨_, ((t317 != 0)), (by first | rfl | (simp; done) | (simp [*]; done)), H', ⟨by first | omega | exact Nat.le_refl _⟩, ⟨by (with_reducible repeat (first | apply Kd.R_alloc | apply Kd.R_drewN | apply Kd.R_drew)); exact Kd.R_mono HO316.out (fun _ hk => ⟨hk.1.1.1.1.2, ⟨hk.1.1.2, ⟨hk.2, ⟨hk.1.1.1.1.1.1.1.2, hk.1.1.1.1.1.1.2⟩⟩⟩⟩)⟩, ⟨by (with_reducible repeat (first | apply Kd.R_alloc | apply Kd.R_drewN | apply Kd.R_drew)); exact Kd.R_mono HO324.out (fun _ hk => ⟨hk.1.1.1.1.1.1.1.2, ⟨hk.1.1.2, ⟨hk.2, ⟨hk.1.1.1.1.1.2, hk.1.1.1.1.2⟩⟩⟩⟩)⟩, ⟨by (with_reducible repeat (first | apply Kd.R_alloc | apply Kd.R_drewN | apply Kd.R_drew)); exact Kd.R_mono HO332.out (fun _ hk => ⟨hk.1.1.1.1.1.1.1.2, ⟨hk.1.1.1.1.1.2, ⟨hk.2, ⟨hk.1.1.1.2, hk.1.1.2⟩⟩⟩⟩)⟩, ⟨by (with_reducible repeat (first | apply Kd.R_alloc | apply Kd.R_drewN | apply Kd.R_drew)); exact Kd.R_mono HO340.out (fun _ hk => ⟨hk.1.1.1.1.1.1.1.2, ⟨hk.1.1.1.1.1.2, ⟨hk.1.1.1.2, ⟨hk.1.2, hk.2⟩⟩⟩⟩)⟩, ⟨by (with_reducible repeat (first | refine blk_drewN ?_ _ | refine blk_drew ?_ | refine blk_alloc ?_ _)); exact BK304.out⟩, ⟨by (with_reducible repeat (first | refine blk_drewN ?_ _ | refine blk_drew ?_ | refine blk_alloc ?_ _)); exact BK305.out⟩, ⟨by repeat (first | (with_reducible first | exact HB.out | apply below_alloc | apply pw_below_drewN | apply below_drew1 | refine below_set ?_ GE304.out | refine below_set ?_ GE305.out) | exact HB.out)⟩⟩
    · rw [if_neg c41] at H
      have c41b0 : (t313 == 0) = false := beq_eq_false_iff_ne.mpr c41
      have c41b1 : (t313 != 0) = true := bne_iff_ne.mpr c41
      (first | rw [c41b0] | (simp only [i64_w, i32_w]; rw [c41b0]) | skip)
      have H' := Aside0.mk H
      clear H
      go_wp2
      go_meet
      case rel => exact ⟨_, (true), (by first | rfl | (simp; done) | (simp [*]; done)), H', ⟨by first | omega | exact Nat.le_refl _⟩, ⟨by (with_reducible repeat (first | apply Kd.R_alloc | apply Kd.R_drewN | apply Kd.R_drew)); exact Kd.R_mono HO316.out (fun _ hk => ⟨hk.1.1.1.1.2, ⟨hk.1.1.2, ⟨hk.2, ⟨hk.1.1.1.1.1.1.1.2, hk.1.1.1.1.1.1.2⟩⟩⟩⟩)⟩, ⟨by (with_reducible repeat (first | apply Kd.R_alloc | apply Kd.R_drewN | apply Kd.R_drew)); exact Kd.R_mono HO324.out (fun _ hk => ⟨hk.1.1.1.1.1.1.1.2, ⟨hk.1.1.2, ⟨hk.2, ⟨hk.1.1.1.1.1.2, hk.1.1.1.1.2⟩⟩⟩⟩)⟩, ⟨by (with_reducible repeat (first | apply Kd.R_alloc | apply Kd.R_drewN | apply Kd.R_drew)); exact Kd.R_mono HO332.out (fun _ hk => ⟨hk.1.1.1.1.1.1.1.2, ⟨hk.1.1.1.1.1.2, ⟨hk.2, ⟨hk.1.1.1.2, hk.1.1.2⟩⟩⟩⟩)⟩, ⟨by (with_reducible repeat (first | apply Kd.R_alloc | apply Kd.R_drewN | apply Kd.R_drew)); exact Kd.R_mono HO340.out (fun _ hk => ⟨hk.1.1.1.1.1.1.1.2, ⟨hk.1.1.1.1.1.2, ⟨hk.1.1.1.2, ⟨hk.1.2, hk.2⟩⟩⟩⟩)⟩, ⟨by (with_reducible repeat (first | refine blk_drewN ?_ _ | refine blk_drew ?_ | refine blk_alloc ?_ _)); exact BK304.out⟩, ⟨by (with_reducible repeat (first | refine blk_drewN ?_ _ | refine blk_drew ?_ | refine blk_alloc ?_ _)); exact BK305.out⟩, ⟨by repeat (first | (with_reducible first | exact HB.out | apply below_alloc | apply pw_below_drewN | apply below_drew1 | refine below_set ?_ GE304.out | refine below_set ?_ GE305.out) | exact HB.out)⟩⟩
  case rest =>
    clear HC14
    try clear c1
    try clear p2
    try clear c4
    try clear c6
    try clear c11
    try clear c12
    try clear c13
    try clear c15
    try clear c19
    try clear c41
    try clear c41b0
    try clear c41b1
    try clear hcz20_0
    try clear hcz20_1
    try clear hcz23_0
    try clear hcz23_1
    try clear hcz26_0
    try clear hcz26_1
    try clear hcz28_0
    try clear hcz28_1
    try clear hcz31_0
    try clear hcz31_1
    try clear hcz33_0
    try clear hcz33_1
    try clear hcz36_0
    try clear hcz36_1
    try clear hcz38_0
    try clear hcz38_1
    try clear hfz20_0
    try clear hfz20_1
    try clear hfz23_0
    try clear hfz23_1
    try clear hfz26_0
    try clear hfz26_1
    try clear hfz28_0
    try clear hfz28_1
    try clear hfz31_0
    try clear hfz31_1
    try clear hfz33_0
    try clear hfz33_1
    try clear hfz36_0
    try clear hfz36_1
    try clear hfz38_0
    try clear hfz38_1
    obtain ⟨kq, x80_13, rfl, HA, HJ13, HO_10, HO_14, HO_18, HO_22, BK304, BK305, HB⟩ := hcut
    cases kq with
    | zero => exact absurd HA.out (by simp [gutterlaw03_BandTurns.j0])
    | succ kj13 =>
      have H := HA.out
      clear HA
      simp only [gutterlaw03_BandTurns.j0] at H
      by_cases c42 : x80_13 = true
      · subst c42
        have H1 : (if t306 = true then (if t321 = 0 then (if t325 = 0 then (some false) else (if t329 = 0 then (if t333 = 0 then (some false) else (if t337 = 0 then (some (t341 != 0)) else (some true))) else (if t337 = 0 then (some (t341 != 0)) else (some true)))) else (if t329 = 0 then (if t333 = 0 then (some false) else (if t337 = 0 then (some (t341 != 0)) else (some true))) else (if t337 = 0 then (some (t341 != 0)) else (some true)))) else (some false)) = some r := by rw [if_pos rfl] at H; exact H
        clear H
        have H := H1
        clear H1
        by_cases c43 : t306 = true
        · subst c43
          have H1 : (if t321 = 0 then (if t325 = 0 then (some false) else (if t329 = 0 then (if t333 = 0 then (some false) else (if t337 = 0 then (some (t341 != 0)) else (some true))) else (if t337 = 0 then (some (t341 != 0)) else (some true)))) else (if t329 = 0 then (if t333 = 0 then (some false) else (if t337 = 0 then (some (t341 != 0)) else (some true))) else (if t337 = 0 then (some (t341 != 0)) else (some true)))) = some r := by rw [if_pos rfl] at H; exact H
          clear H
          have H := H1
          clear H1
          by_cases c44 : t321 = 0
          · rw [if_pos c44] at H
            have c44b0 : (t321 == 0) = true := beq_iff_eq.mpr c44
            have c44b1 : (t321 != 0) = false := bne_eq_false_iff_eq.mpr c44
            clear c44
            by_cases c45 : t325 = 0
            · rw [if_pos c45] at H
              have c45b0 : (t325 == 0) = true := beq_iff_eq.mpr c45
              have c45b1 : (t325 != 0) = false := bne_eq_false_iff_eq.mpr c45
              clear c45
              obtain rfl := Option.some.inj H
              go_wp2
              go_ret
              exact ⟨by first | rfl | (simp [errW_none, errW_some] <;> rfl) | (simp [*, errW_none, errW_some] <;> rfl), by repeat (first | (with_reducible first | exact HB.out | apply below_alloc | apply pw_below_drewN | apply below_drew1 | refine below_set ?_ GE304.out | refine below_set ?_ GE305.out) | exact HB.out)⟩
            · rw [if_neg c45] at H
              have c45b0 : (t325 == 0) = false := beq_eq_false_iff_ne.mpr c45
              have c45b1 : (t325 != 0) = true := bne_iff_ne.mpr c45
              by_cases c46 : t329 = 0
              · rw [if_pos c46] at H
                have c46b0 : (t329 == 0) = true := beq_iff_eq.mpr c46
                have c46b1 : (t329 != 0) = false := bne_eq_false_iff_eq.mpr c46
                clear c46
                by_cases c47 : t333 = 0
                · rw [if_pos c47] at H
                  have c47b0 : (t333 == 0) = true := beq_iff_eq.mpr c47
                  have c47b1 : (t333 != 0) = false := bne_eq_false_iff_eq.mpr c47
                  clear c47
                  obtain rfl := Option.some.inj H
                  go_wp2
                  go_ret
                  exact ⟨by first | rfl | (simp [errW_none, errW_some] <;> rfl) | (simp [*, errW_none, errW_some] <;> rfl), by repeat (first | (with_reducible first | exact HB.out | apply below_alloc | apply pw_below_drewN | apply below_drew1 | refine below_set ?_ GE304.out | refine below_set ?_ GE305.out) | exact HB.out)⟩
                · rw [if_neg c47] at H
                  have c47b0 : (t333 == 0) = false := beq_eq_false_iff_ne.mpr c47
                  have c47b1 : (t333 != 0) = true := bne_iff_ne.mpr c47
                  by_cases c48 : t337 = 0
                  · rw [if_pos c48] at H
                    have c48b0 : (t337 == 0) = true := beq_iff_eq.mpr c48
                    have c48b1 : (t337 != 0) = false := bne_eq_false_iff_eq.mpr c48
                    clear c48
                    obtain rfl := Option.some.inj H
                    go_wp2
                    go_ret
                    exact ⟨by first | rfl | (simp [errW_none, errW_some] <;> rfl) | (simp [*, errW_none, errW_some] <;> rfl), by repeat (first | (with_reducible first | exact HB.out | apply below_alloc | apply pw_below_drewN | apply below_drew1 | refine below_set ?_ GE304.out | refine below_set ?_ GE305.out) | exact HB.out)⟩
                  · rw [if_neg c48] at H
                    have c48b0 : (t337 == 0) = false := beq_eq_false_iff_ne.mpr c48
                    have c48b1 : (t337 != 0) = true := bne_iff_ne.mpr c48
                    obtain rfl := Option.some.inj H
                    go_wp2
                    go_ret
                    exact ⟨by first | rfl | (simp [errW_none, errW_some] <;> rfl) | (simp [*, errW_none, errW_some] <;> rfl), by repeat (first | (with_reducible first | exact HB.out | apply below_alloc | apply pw_below_drewN | apply below_drew1 | refine below_set ?_ GE304.out | refine below_set ?_ GE305.out) | exact HB.out)⟩
              · rw [if_neg c46] at H
                have c46b0 : (t329 == 0) = false := beq_eq_false_iff_ne.mpr c46
                have c46b1 : (t329 != 0) = true := bne_iff_ne.mpr c46
                by_cases c49 : t337 = 0
                · rw [if_pos c49] at H
                  have c49b0 : (t337 == 0) = true := beq_iff_eq.mpr c49
                  have c49b1 : (t337 != 0) = false := bne_eq_false_iff_eq.mpr c49
                  clear c49
                  obtain rfl := Option.some.inj H
                  go_wp2
                  go_ret
                  exact ⟨by first | rfl | (simp [errW_none, errW_some] <;> rfl) | (simp [*, errW_none, errW_some] <;> rfl), by repeat (first | (with_reducible first | exact HB.out | apply below_alloc | apply pw_below_drewN | apply below_drew1 | refine below_set ?_ GE304.out | refine below_set ?_ GE305.out) | exact HB.out)⟩
                · rw [if_neg c49] at H
                  have c49b0 : (t337 == 0) = false := beq_eq_false_iff_ne.mpr c49
                  have c49b1 : (t337 != 0) = true := bne_iff_ne.mpr c49
                  obtain rfl := Option.some.inj H
                  go_wp2
                  go_ret
                  exact ⟨by first | rfl | (simp [errW_none, errW_some] <;> rfl) | (simp [*, errW_none, errW_some] <;> rfl), by repeat (first | (with_reducible first | exact HB.out | apply below_alloc | apply pw_below_drewN | apply below_drew1 | refine below_set ?_ GE304.out | refine below_set ?_ GE305.out) | exact HB.out)⟩
          · rw [if_neg c44] at H
            have c44b0 : (t321 == 0) = false := beq_eq_false_iff_ne.mpr c44
            have c44b1 : (t321 != 0) = true := bne_iff_ne.mpr c44
            by_cases c50 : t329 = 0
            · rw [if_pos c50] at H
              have c50b0 : (t329 == 0) = true := beq_iff_eq.mpr c50
              have c50b1 : (t329 != 0) = false := bne_eq_false_iff_eq.mpr c50
              clear c50
              by_cases c51 : t333 = 0
              · rw [if_pos c51] at H
                have c51b0 : (t333 == 0) = true := beq_iff_eq.mpr c51
                have c51b1 : (t333 != 0) = false := bne_eq_false_iff_eq.mpr c51
                clear c51
                obtain rfl := Option.some.inj H
                go_wp2
                go_ret
                exact ⟨by first | rfl | (simp [errW_none, errW_some] <;> rfl) | (simp [*, errW_none, errW_some] <;> rfl), by repeat (first | (with_reducible first | exact HB.out | apply below_alloc | apply pw_below_drewN | apply below_drew1 | refine below_set ?_ GE304.out | refine below_set ?_ GE305.out) | exact HB.out)⟩
              · rw [if_neg c51] at H
                have c51b0 : (t333 == 0) = false := beq_eq_false_iff_ne.mpr c51
                have c51b1 : (t333 != 0) = true := bne_iff_ne.mpr c51
                by_cases c52 : t337 = 0
                · rw [if_pos c52] at H
                  have c52b0 : (t337 == 0) = true := beq_iff_eq.mpr c52
                  have c52b1 : (t337 != 0) = false := bne_eq_false_iff_eq.mpr c52
                  clear c52
                  obtain rfl := Option.some.inj H
                  go_wp2
                  go_ret
                  exact ⟨by first | rfl | (simp [errW_none, errW_some] <;> rfl) | (simp [*, errW_none, errW_some] <;> rfl), by repeat (first | (with_reducible first | exact HB.out | apply below_alloc | apply pw_below_drewN | apply below_drew1 | refine below_set ?_ GE304.out | refine below_set ?_ GE305.out) | exact HB.out)⟩
                · rw [if_neg c52] at H
                  have c52b0 : (t337 == 0) = false := beq_eq_false_iff_ne.mpr c52
                  have c52b1 : (t337 != 0) = true := bne_iff_ne.mpr c52
                  obtain rfl := Option.some.inj H
                  go_wp2
                  go_ret
                  exact ⟨by first | rfl | (simp [errW_none, errW_some] <;> rfl) | (simp [*, errW_none, errW_some] <;> rfl), by repeat (first | (with_reducible first | exact HB.out | apply below_alloc | apply pw_below_drewN | apply below_drew1 | refine below_set ?_ GE304.out | refine below_set ?_ GE305.out) | exact HB.out)⟩
            · rw [if_neg c50] at H
              have c50b0 : (t329 == 0) = false := beq_eq_false_iff_ne.mpr c50
              have c50b1 : (t329 != 0) = true := bne_iff_ne.mpr c50
              by_cases c53 : t337 = 0
              · rw [if_pos c53] at H
                have c53b0 : (t337 == 0) = true := beq_iff_eq.mpr c53
                have c53b1 : (t337 != 0) = false := bne_eq_false_iff_eq.mpr c53
                clear c53
                obtain rfl := Option.some.inj H
                go_wp2
                go_ret
                exact ⟨by first | rfl | (simp [errW_none, errW_some] <;> rfl) | (simp [*, errW_none, errW_some] <;> rfl), by repeat (first | (with_reducible first | exact HB.out | apply below_alloc | apply pw_below_drewN | apply below_drew1 | refine below_set ?_ GE304.out | refine below_set ?_ GE305.out) | exact HB.out)⟩
              · rw [if_neg c53] at H
                have c53b0 : (t337 == 0) = false := beq_eq_false_iff_ne.mpr c53
                have c53b1 : (t337 != 0) = true := bne_iff_ne.mpr c53
                obtain rfl := Option.some.inj H
                go_wp2
                go_ret
                exact ⟨by first | rfl | (simp [errW_none, errW_some] <;> rfl) | (simp [*, errW_none, errW_some] <;> rfl), by repeat (first | (with_reducible first | exact HB.out | apply below_alloc | apply pw_below_drewN | apply below_drew1 | refine below_set ?_ GE304.out | refine below_set ?_ GE305.out) | exact HB.out)⟩
        · replace c43 := Bool.eq_false_iff.mpr c43
          subst c43
          have H1 : (some false) = some r := by rw [if_neg (show ¬ (false = true) by decide)] at H; exact H
          clear H
          have H := H1
          clear H1
          obtain rfl := Option.some.inj H
          go_wp2
          go_ret
          exact ⟨by first | rfl | (simp [errW_none, errW_some] <;> rfl) | (simp [*, errW_none, errW_some] <;> rfl), by repeat (first | (with_reducible first | exact HB.out | apply below_alloc | apply pw_below_drewN | apply below_drew1 | refine below_set ?_ GE304.out | refine below_set ?_ GE305.out) | exact HB.out)⟩
      · replace c42 := Bool.eq_false_iff.mpr c42
        subst c42
        have H1 : (if t306 = true then (if t321 = 0 then (if t325 = 0 then (if t329 = 0 then (if t333 = 0 then (if t337 = 0 then (if t341 = 0 then ((band_Same.f kj13 t314 t322).bind fun t342 => (if t342 = true then ((band_Same.f kj13 t330 t338).bind fun t343 => (some t343)) else (some false))) else (some false)) else (some false)) else (some false)) else (some false)) else (some false)) else (some false)) else (some false)) = some r := by rw [if_neg (show ¬ (false = true) by decide)] at H; exact H
        clear H
        have H := H1
        clear H1
        by_cases c54 : t306 = true
        · subst c54
          have H1 : (if t321 = 0 then (if t325 = 0 then (if t329 = 0 then (if t333 = 0 then (if t337 = 0 then (if t341 = 0 then ((band_Same.f kj13 t314 t322).bind fun t342 => (if t342 = true then ((band_Same.f kj13 t330 t338).bind fun t343 => (some t343)) else (some false))) else (some false)) else (some false)) else (some false)) else (some false)) else (some false)) else (some false)) = some r := by rw [if_pos rfl] at H; exact H
          clear H
          have H := H1
          clear H1
          by_cases c55 : t321 = 0
          · rw [if_pos c55] at H
            have c55b0 : (t321 == 0) = true := beq_iff_eq.mpr c55
            have c55b1 : (t321 != 0) = false := bne_eq_false_iff_eq.mpr c55
            clear c55
            by_cases c56 : t325 = 0
            · rw [if_pos c56] at H
              have c56b0 : (t325 == 0) = true := beq_iff_eq.mpr c56
              have c56b1 : (t325 != 0) = false := bne_eq_false_iff_eq.mpr c56
              clear c56
              by_cases c57 : t329 = 0
              · rw [if_pos c57] at H
                have c57b0 : (t329 == 0) = true := beq_iff_eq.mpr c57
                have c57b1 : (t329 != 0) = false := bne_eq_false_iff_eq.mpr c57
                clear c57
                by_cases c58 : t333 = 0
                · rw [if_pos c58] at H
                  have c58b0 : (t333 == 0) = true := beq_iff_eq.mpr c58
                  have c58b1 : (t333 != 0) = false := bne_eq_false_iff_eq.mpr c58
                  clear c58
                  by_cases c59 : t337 = 0
                  · rw [if_pos c59] at H
                    have c59b0 : (t337 == 0) = true := beq_iff_eq.mpr c59
                    have c59b1 : (t337 != 0) = false := bne_eq_false_iff_eq.mpr c59
                    clear c59
                    by_cases c60 : t341 = 0
                    · rw [if_pos c60] at H
                      have c60b0 : (t341 == 0) = true := beq_iff_eq.mpr c60
                      have c60b1 : (t341 != 0) = false := bne_eq_false_iff_eq.mpr c60
                      clear c60
                      replace H := Option.bind_eq_some_iff.mp H
                      obtain ⟨t342, A610, H⟩ := H
                      replace H : (if t342 = true then ((band_Same.f kj13 t330 t338).bind fun t343 => (some t343)) else (some false)) = some r := H
                      have A61 := Aside0.mk A610
                      clear A610
                      by_cases c62 : t342 = true
                      · subst c62
                        have H1 : ((band_Same.f kj13 t330 t338).bind fun t343 => (some t343)) = some r := by rw [if_pos rfl] at H; exact H
                        clear H
                        have H := H1
                        clear H1
                        replace H := Option.bind_eq_some_iff.mp H
                        obtain ⟨t343, A630, H⟩ := H
                        replace H : (some t343) = some r := H
                        have A63 := Aside0.mk A630
                        clear A630
                        obtain rfl := Option.some.inj H
                        obtain ⟨Ao64, co64, eo64⟩ := Kd.R_slice HO_10.out
                        subst eo64
                        obtain ⟨Ao65, co65, eo65⟩ := Kd.R_slice HO_14.out
                        subst eo65
                        go_wp2_with (first | (go_at_call 27; (with_reducible refine (band_Same.calls kj13 _ _ t314 _ _ t322 true _ ?side1 ?side2 ?side3 ?side4 A61.out).mono ?_); (case side1 => repeat (first | exact (Kd.R_reads' HO_10.out).2.2 | (with_reducible refine Kd.C_alloc ?_ _) | (with_reducible refine Kd.C_drewN ?_ _) | (with_reducible refine Kd.C_drew ?_))); (case side2 => exact (Kd.R_reads' HO_10.out).2.1); (case side3 => repeat (first | exact (Kd.R_reads' HO_14.out).2.2 | (with_reducible refine Kd.C_alloc ?_ _) | (with_reducible refine Kd.C_drewN ?_ _) | (with_reducible refine Kd.C_drew ?_))); (case side4 => exact (Kd.R_reads' HO_14.out).2.1); rintro e w' ⟨rfl, ⟨nd, rfl⟩⟩; obtain ⟨Ao66, co66, eo66⟩ := Kd.R_slice HO_18.out; subst eo66; obtain ⟨Ao67, co67, eo67⟩ := Kd.R_slice HO_22.out; subst eo67) | (go_at_call 27; (with_reducible refine (band_Same.calls kj13 _ _ t330 _ _ t338 t343 _ ?side1 ?side2 ?side3 ?side4 A63.out).mono ?_); (case side1 => repeat (first | exact (Kd.R_reads' HO_18.out).2.2 | (with_reducible refine Kd.C_alloc ?_ _) | (with_reducible refine Kd.C_drewN ?_ _) | (with_reducible refine Kd.C_drew ?_))); (case side2 => exact (Kd.R_reads' HO_18.out).2.1); (case side3 => repeat (first | exact (Kd.R_reads' HO_22.out).2.2 | (with_reducible refine Kd.C_alloc ?_ _) | (with_reducible refine Kd.C_drewN ?_ _) | (with_reducible refine Kd.C_drew ?_))); (case side4 => exact (Kd.R_reads' HO_22.out).2.1); rintro e w' ⟨rfl, ⟨nd, rfl⟩⟩))
                        go_ret
                        exact ⟨by first | rfl | (simp [errW_none, errW_some] <;> rfl) | (simp [*, errW_none, errW_some] <;> rfl), by repeat (first | (with_reducible first | exact HB.out | apply below_alloc | apply pw_below_drewN | apply below_drew1 | refine below_set ?_ GE304.out | refine below_set ?_ GE305.out) | exact HB.out)⟩
                      · replace c62 := Bool.eq_false_iff.mpr c62
                        subst c62
                        have H1 : (some false) = some r := by rw [if_neg (show ¬ (false = true) by decide)] at H; exact H
                        clear H
                        have H := H1
                        clear H1
                        obtain rfl := Option.some.inj H
                        obtain ⟨Ao68, co68, eo68⟩ := Kd.R_slice HO_10.out
                        subst eo68
                        obtain ⟨Ao69, co69, eo69⟩ := Kd.R_slice HO_14.out
                        subst eo69
                        go_wp2_with (first | (go_at_call 27; (with_reducible refine (band_Same.calls kj13 _ _ t314 _ _ t322 false _ ?side1 ?side2 ?side3 ?side4 A61.out).mono ?_); (case side1 => repeat (first | exact (Kd.R_reads' HO_10.out).2.2 | (with_reducible refine Kd.C_alloc ?_ _) | (with_reducible refine Kd.C_drewN ?_ _) | (with_reducible refine Kd.C_drew ?_))); (case side2 => exact (Kd.R_reads' HO_10.out).2.1); (case side3 => repeat (first | exact (Kd.R_reads' HO_14.out).2.2 | (with_reducible refine Kd.C_alloc ?_ _) | (with_reducible refine Kd.C_drewN ?_ _) | (with_reducible refine Kd.C_drew ?_))); (case side4 => exact (Kd.R_reads' HO_14.out).2.1); rintro e w' ⟨rfl, ⟨nd, rfl⟩⟩))
                        go_ret
                        exact ⟨by first | rfl | (simp [errW_none, errW_some] <;> rfl) | (simp [*, errW_none, errW_some] <;> rfl), by repeat (first | (with_reducible first | exact HB.out | apply below_alloc | apply pw_below_drewN | apply below_drew1 | refine below_set ?_ GE304.out | refine below_set ?_ GE305.out) | exact HB.out)⟩
                    · rw [if_neg c60] at H
                      have c60b0 : (t341 == 0) = false := beq_eq_false_iff_ne.mpr c60
                      have c60b1 : (t341 != 0) = true := bne_iff_ne.mpr c60
                      obtain rfl := Option.some.inj H
                      go_wp2
                      go_ret
                      exact ⟨by first | rfl | (simp [errW_none, errW_some] <;> rfl) | (simp [*, errW_none, errW_some] <;> rfl), by repeat (first | (with_reducible first | exact HB.out | apply below_alloc | apply pw_below_drewN | apply below_drew1 | refine below_set ?_ GE304.out | refine below_set ?_ GE305.out) | exact HB.out)⟩
                  · rw [if_neg c59] at H
                    have c59b0 : (t337 == 0) = false := beq_eq_false_iff_ne.mpr c59
                    have c59b1 : (t337 != 0) = true := bne_iff_ne.mpr c59
                    obtain rfl := Option.some.inj H
                    go_wp2
                    go_ret
                    exact ⟨by first | rfl | (simp [errW_none, errW_some] <;> rfl) | (simp [*, errW_none, errW_some] <;> rfl), by repeat (first | (with_reducible first | exact HB.out | apply below_alloc | apply pw_below_drewN | apply below_drew1 | refine below_set ?_ GE304.out | refine below_set ?_ GE305.out) | exact HB.out)⟩
                · rw [if_neg c58] at H
                  have c58b0 : (t333 == 0) = false := beq_eq_false_iff_ne.mpr c58
                  have c58b1 : (t333 != 0) = true := bne_iff_ne.mpr c58
                  obtain rfl := Option.some.inj H
                  go_wp2
                  go_ret
                  exact ⟨by first | rfl | (simp [errW_none, errW_some] <;> rfl) | (simp [*, errW_none, errW_some] <;> rfl), by repeat (first | (with_reducible first | exact HB.out | apply below_alloc | apply pw_below_drewN | apply below_drew1 | refine below_set ?_ GE304.out | refine below_set ?_ GE305.out) | exact HB.out)⟩
              · rw [if_neg c57] at H
                have c57b0 : (t329 == 0) = false := beq_eq_false_iff_ne.mpr c57
                have c57b1 : (t329 != 0) = true := bne_iff_ne.mpr c57
                obtain rfl := Option.some.inj H
                go_wp2
                go_ret
                exact ⟨by first | rfl | (simp [errW_none, errW_some] <;> rfl) | (simp [*, errW_none, errW_some] <;> rfl), by repeat (first | (with_reducible first | exact HB.out | apply below_alloc | apply pw_below_drewN | apply below_drew1 | refine below_set ?_ GE304.out | refine below_set ?_ GE305.out) | exact HB.out)⟩
            · rw [if_neg c56] at H
              have c56b0 : (t325 == 0) = false := beq_eq_false_iff_ne.mpr c56
              have c56b1 : (t325 != 0) = true := bne_iff_ne.mpr c56
              obtain rfl := Option.some.inj H
              go_wp2
              go_ret
              exact ⟨by first | rfl | (simp [errW_none, errW_some] <;> rfl) | (simp [*, errW_none, errW_some] <;> rfl), by repeat (first | (with_reducible first | exact HB.out | apply below_alloc | apply pw_below_drewN | apply below_drew1 | refine below_set ?_ GE304.out | refine below_set ?_ GE305.out) | exact HB.out)⟩
          · rw [if_neg c55] at H
            have c55b0 : (t321 == 0) = false := beq_eq_false_iff_ne.mpr c55
            have c55b1 : (t321 != 0) = true := bne_iff_ne.mpr c55
            obtain rfl := Option.some.inj H
            go_wp2
            go_ret
            exact ⟨by first | rfl | (simp [errW_none, errW_some] <;> rfl) | (simp [*, errW_none, errW_some] <;> rfl), by repeat (first | (with_reducible first | exact HB.out | apply below_alloc | apply pw_below_drewN | apply below_drew1 | refine below_set ?_ GE304.out | refine below_set ?_ GE305.out) | exact HB.out)⟩
        · replace c54 := Bool.eq_false_iff.mpr c54
          subst c54
          have H1 : (some false) = some r := by rw [if_neg (show ¬ (false = true) by decide)] at H; exact H
          clear H
          have H := H1
          clear H1
          obtain rfl := Option.some.inj H
          go_wp2
          go_ret
          exact ⟨by first | rfl | (simp [errW_none, errW_some] <;> rfl) | (simp [*, errW_none, errW_some] <;> rfl), by repeat (first | (with_reducible first | exact HB.out | apply below_alloc | apply pw_below_drewN | apply below_drew1 | refine below_set ?_ GE304.out | refine below_set ?_ GE305.out) | exact HB.out)⟩

end Go.Proofs.YtomgpbhkoellpaaDoor.P
