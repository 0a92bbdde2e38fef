/-  -/
import Derived.Test.YtomgpbhkoellpaaDoorP
import Derived.Test.YtomgpbhkoellpaaDoorE13
import Derived.Test.YtomgpbhkoellpaaDoorE15
import Derived.Test.YtomgpbhkoellpaaDoorP19
import Derived.Test.YtomgpbhkoellpaaDoorE20
import Derived.Test.YtomgpbhkoellpaaDoorE23
set_option linter.unusedVariables false
set_option linter.unusedSimpArgs false
-- by a program (wip/tools: a turned copy of the kit's print): not trusted: Lean checks it
namespace Go.Proofs.YtomgpbhkoellpaaDoor.P
open Go.RowKit Go.Proofs.YtomgpbhkoellpaaDoorW.PrintWords Go.Proofs.YtomgpbhkoellpaaDoorW.PrintLast Go.Proofs.YtomgpbhkoellpaaDoorW.PrintMore
attribute [local go_sem] max2_int min2_int max_two min_two max_three min_three max_four min_four   -- for this text's walks alone

/-! ### gutterlaw03_shown: function 11 -/
def gutterlaw03_shown.f (k : Nat)  : Option (Bool) := (some (([(⟨0, 3⟩ : S24), (⟨4, 9⟩ : S24)] : List (S24)) : List (S24))).bind fun y113 => ((band_Less.f y113 2 5).bind fun bt116 => ((band_Plus.f y113 3 4).bind fun bt120 => ((band_First.f y113 4).bind fun bt124 => ((band_Plus.f y113 3 3).bind fun bt126 => ((gutterref03_Same.f k bt116.1 (([(⟨0, 2⟩ : S24), (⟨5, 9⟩ : S24)] : List (S24)))).bind fun t133 => (if t133 = true then (if bt116.2 = 0 then ((gutterref03_Same.f k bt120.1 (([(⟨0, 9⟩ : S24)] : List (S24)))).bind fun t137 => (if t137 = true then (if bt120.2 = 0 then (if bt124.1 = 4 then (if bt124.2 = true then (if bt126.2 = 30 then ((band_Total.f y113).bind fun t138 => (some (t138 == 8))) else (some false)) else (some false)) else (some false)) else (some false)) else (some false))) else (some false)) else (some false)))))))
theorem gutterlaw03_shown.mono : ∀ k, LeO (gutterlaw03_shown.f k ) (gutterlaw03_shown.f (k + 1) ) := by
  intro  k
  unfold gutterlaw03_shown.f
  repeat' first
      | (with_reducible exact gutterref03_Same.mono _ _ _)
      | (with_reducible exact LeO.refl _)
      | (with_reducible exact LeO.none _)
      | (with_reducible refine LeO.ite ?_ ?_)
      | (with_reducible refine LeO.bind ?_ (fun _ => ?_))
      | exact gutterref03_Same.mono _ _ _
      | exact LeO.none _
      | refine LeO.ite ?_ ?_
      | refine LeO.bind ?_ (fun _ => ?_)
end Go.Proofs.YtomgpbhkoellpaaDoor.P

-- by a program (wip/tools: a turned copy of the kit's print): not trusted: Lean checks it
namespace Go.Proofs.YtomgpbhkoellpaaDoor.P
open Go.RowKit Go.Proofs.YtomgpbhkoellpaaDoorW.PrintWords Go.Proofs.YtomgpbhkoellpaaDoorW.PrintLast Go.Proofs.YtomgpbhkoellpaaDoorW.PrintMore
attribute [local go_sem] max2_int min2_int max_two min_two max_three min_three max_four min_four   -- for this text's walks alone

set_option maxHeartbeats 8000000 in
set_option maxRecDepth 100000 in
theorem gutterlaw03_shown.callsT (k : Nat)  (r : Bool) (w : World) (hG : Gl 1 w) (h : gutterlaw03_shown.f k  = some r) (ht : r = true) :
    Calls Tryd.prog 11 #[] w fun e w' => e = .returned (.bool r) ∧ Below w.heap.size w w' := by
  have HTR := Lib.hid ht
  clear ht
  have hu24 := Tryd.underlying24
  have HG := Aside0.mk hG
  clear hG
  have HB := Aside0.mk (Below.refl w.heap.size w)
  have H : ((some (([(⟨0, 3⟩ : S24), (⟨4, 9⟩ : S24)] : List (S24)) : List (S24))).bind fun y113 => ((band_Less.f y113 2 5).bind fun bt116 => ((band_Plus.f y113 3 4).bind fun bt120 => ((band_First.f y113 4).bind fun bt124 => ((band_Plus.f y113 3 3).bind fun bt126 => ((gutterref03_Same.f k bt116.1 (([(⟨0, 2⟩ : S24), (⟨5, 9⟩ : S24)] : List (S24)))).bind fun t133 => (if t133 = true then (if bt116.2 = 0 then ((gutterref03_Same.f k bt120.1 (([(⟨0, 9⟩ : S24)] : List (S24)))).bind fun t137 => (if t137 = true then (if bt120.2 = 0 then (if bt124.1 = 4 then (if bt124.2 = true then (if bt126.2 = 30 then ((band_Total.f y113).bind fun t138 => (some (t138 == 8))) else (some false)) else (some false)) else (some false)) else (some false)) else (some false))) else (some false)) else (some false)))))))) = some r := h
  clear h
  obtain ⟨y113, hy113⟩ : ∃ y_ : List (S24), y_ = (([(⟨0, 3⟩ : S24), (⟨4, 9⟩ : S24)] : List (S24))) := ⟨_, rfl⟩
  replace H : ((band_Less.f y113 2 5).bind fun bt116 => ((band_Plus.f y113 3 4).bind fun bt120 => ((band_First.f y113 4).bind fun bt124 => ((band_Plus.f y113 3 3).bind fun bt126 => ((gutterref03_Same.f k bt116.1 (([(⟨0, 2⟩ : S24), (⟨5, 9⟩ : S24)] : List (S24)))).bind fun t133 => (if t133 = true then (if bt116.2 = 0 then ((gutterref03_Same.f k bt120.1 (([(⟨0, 9⟩ : S24)] : List (S24)))).bind fun t137 => (if t137 = true then (if bt120.2 = 0 then (if bt124.1 = 4 then (if bt124.2 = true then (if bt126.2 = 30 then ((band_Total.f y113).bind fun t138 => (some (t138 == 8))) else (some false)) else (some false)) else (some false)) else (some false)) else (some false))) else (some false)) else (some false))))))) = some r := by first | (rw [hy113]; with_reducible exact H) | (have H2_ := (Option.bind_some _ _).symm.trans H; rw [hy113]; with_reducible exact H2_) | (have H2_ := (Option.bind_some _ _).symm.trans H; with_reducible exact H2_) | with_reducible exact H | (rw [hy113]; exact H) | exact H
  have Ny113 := Aside0.mk hy113
  clear hy113
  replace H := Option.bind_eq_some_iff.mp H
  obtain ⟨⟨t116, t119⟩, A10, H⟩ := H
  replace H : ((band_Plus.f y113 3 4).bind fun bt120 => ((band_First.f y113 4).bind fun bt124 => ((band_Plus.f y113 3 3).bind fun bt126 => ((gutterref03_Same.f k t116 (([(⟨0, 2⟩ : S24), (⟨5, 9⟩ : S24)] : List (S24)))).bind fun t133 => (if t133 = true then (if t119 = 0 then ((gutterref03_Same.f k bt120.1 (([(⟨0, 9⟩ : S24)] : List (S24)))).bind fun t137 => (if t137 = true then (if bt120.2 = 0 then (if bt124.1 = 4 then (if bt124.2 = true then (if bt126.2 = 30 then ((band_Total.f y113).bind fun t138 => (some (t138 == 8))) else (some false)) else (some false)) else (some false)) else (some false)) else (some false))) else (some false)) else (some false)))))) = some r := H
  have A1 := Aside0.mk A10
  clear A10
  replace H := Option.bind_eq_some_iff.mp H
  obtain ⟨⟨t120, t123⟩, A20, H⟩ := H
  replace H : ((band_First.f y113 4).bind fun bt124 => ((band_Plus.f y113 3 3).bind fun bt126 => ((gutterref03_Same.f k t116 (([(⟨0, 2⟩ : S24), (⟨5, 9⟩ : S24)] : List (S24)))).bind fun t133 => (if t133 = true then (if t119 = 0 then ((gutterref03_Same.f k t120 (([(⟨0, 9⟩ : S24)] : List (S24)))).bind fun t137 => (if t137 = true then (if t123 = 0 then (if bt124.1 = 4 then (if bt124.2 = true then (if bt126.2 = 30 then ((band_Total.f y113).bind fun t138 => (some (t138 == 8))) else (some false)) else (some false)) else (some false)) else (some false)) else (some false))) else (some false)) else (some false))))) = some r := H
  have A2 := Aside0.mk A20
  clear A20
  replace H := Option.bind_eq_some_iff.mp H
  obtain ⟨⟨t124, t125⟩, A30, H⟩ := H
  replace H : ((band_Plus.f y113 3 3).bind fun bt126 => ((gutterref03_Same.f k t116 (([(⟨0, 2⟩ : S24), (⟨5, 9⟩ : S24)] : List (S24)))).bind fun t133 => (if t133 = true then (if t119 = 0 then ((gutterref03_Same.f k t120 (([(⟨0, 9⟩ : S24)] : List (S24)))).bind fun t137 => (if t137 = true then (if t123 = 0 then (if t124 = 4 then (if t125 = true then (if bt126.2 = 30 then ((band_Total.f y113).bind fun t138 => (some (t138 == 8))) else (some false)) else (some false)) else (some false)) else (some false)) else (some false))) else (some false)) else (some false)))) = some r := H
  have A3 := Aside0.mk A30
  clear A30
  replace H := Option.bind_eq_some_iff.mp H
  obtain ⟨⟨t126, t129⟩, A40, H⟩ := H
  replace H : ((gutterref03_Same.f k t116 (([(⟨0, 2⟩ : S24), (⟨5, 9⟩ : S24)] : List (S24)))).bind fun t133 => (if t133 = true then (if t119 = 0 then ((gutterref03_Same.f k t120 (([(⟨0, 9⟩ : S24)] : List (S24)))).bind fun t137 => (if t137 = true then (if t123 = 0 then (if t124 = 4 then (if t125 = true then (if t129 = 30 then ((band_Total.f y113).bind fun t138 => (some (t138 == 8))) else (some false)) else (some false)) else (some false)) else (some false)) else (some false))) else (some false)) else (some false))) = some r := H
  have A4 := Aside0.mk A40
  clear A40
  obtain ⟨y130, hy130⟩ : ∃ y_ : List (S24), y_ = (([(⟨0, 2⟩ : S24), (⟨5, 9⟩ : S24)] : List (S24))) := ⟨_, rfl⟩
  replace H : ((gutterref03_Same.f k t116 y130).bind fun t133 => (if t133 = true then (if t119 = 0 then ((gutterref03_Same.f k t120 (([(⟨0, 9⟩ : S24)] : List (S24)))).bind fun t137 => (if t137 = true then (if t123 = 0 then (if t124 = 4 then (if t125 = true then (if t129 = 30 then ((band_Total.f y113).bind fun t138 => (some (t138 == 8))) else (some false)) else (some false)) else (some false)) else (some false)) else (some false))) else (some false)) else (some false))) = some r := by first | (rw [hy130]; with_reducible exact H) | (have H2_ := (Option.bind_some _ _).symm.trans H; rw [hy130]; with_reducible exact H2_) | (have H2_ := (Option.bind_some _ _).symm.trans H; with_reducible exact H2_) | with_reducible exact H | (rw [hy130]; exact H) | exact H
  have Ny130 := Aside0.mk hy130
  clear hy130
  replace H := Option.bind_eq_some_iff.mp H
  obtain ⟨t133, A50, H⟩ := H
  replace H : (if t133 = true then (if t119 = 0 then ((gutterref03_Same.f k t120 (([(⟨0, 9⟩ : S24)] : List (S24)))).bind fun t137 => (if t137 = true then (if t123 = 0 then (if t124 = 4 then (if t125 = true then (if t129 = 30 then ((band_Total.f y113).bind fun t138 => (some (t138 == 8))) else (some false)) else (some false)) else (some false)) else (some false)) else (some false))) else (some false)) else (some false)) = some r := H
  have A5 := Aside0.mk A50
  clear A50
  by_cases c6 : t133 = true
  · subst c6
    have H1 : (if t119 = 0 then ((gutterref03_Same.f k t120 (([(⟨0, 9⟩ : S24)] : List (S24)))).bind fun t137 => (if t137 = true then (if t123 = 0 then (if t124 = 4 then (if t125 = true then (if t129 = 30 then ((band_Total.f y113).bind fun t138 => (some (t138 == 8))) else (some false)) else (some false)) else (some false)) else (some false)) else (some false))) else (some false)) = some r := by rw [if_pos rfl] at H; exact H
    clear H
    have H := H1
    clear H1
    by_cases c7 : t119 = 0
    · rw [if_pos c7] at H
      have c7b0 : (t119 == 0) = true := beq_iff_eq.mpr c7
      have c7b1 : (t119 != 0) = false := bne_eq_false_iff_eq.mpr c7
      clear c7
      obtain ⟨y134, hy134⟩ : ∃ y_ : List (S24), y_ = (([(⟨0, 9⟩ : S24)] : List (S24))) := ⟨_, rfl⟩
      replace H : ((gutterref03_Same.f k t120 y134).bind fun t137 => (if t137 = true then (if t123 = 0 then (if t124 = 4 then (if t125 = true then (if t129 = 30 then ((band_Total.f y113).bind fun t138 => (some (t138 == 8))) else (some false)) else (some false)) else (some false)) else (some false)) else (some false))) = some r := by first | (rw [hy134]; with_reducible exact H) | (have H2_ := (Option.bind_some _ _).symm.trans H; rw [hy134]; with_reducible exact H2_) | (have H2_ := (Option.bind_some _ _).symm.trans H; with_reducible exact H2_) | with_reducible exact H | (rw [hy134]; exact H) | exact H
      have Ny134 := Aside0.mk hy134
      clear hy134
      replace H := Option.bind_eq_some_iff.mp H
      obtain ⟨t137, A80, H⟩ := H
      replace H : (if t137 = true then (if t123 = 0 then (if t124 = 4 then (if t125 = true then (if t129 = 30 then ((band_Total.f y113).bind fun t138 => (some (t138 == 8))) else (some false)) else (some false)) else (some false)) else (some false)) else (some false)) = some r := H
      have A8 := Aside0.mk A80
      clear A80
      by_cases c9 : t137 = true
      · subst c9
        have H1 : (if t123 = 0 then (if t124 = 4 then (if t125 = true then (if t129 = 30 then ((band_Total.f y113).bind fun t138 => (some (t138 == 8))) else (some false)) else (some false)) else (some false)) else (some false)) = some r := by rw [if_pos rfl] at H; exact H
        clear H
        have H := H1
        clear H1
        by_cases c10 : t123 = 0
        · rw [if_pos c10] at H
          have c10b0 : (t123 == 0) = true := beq_iff_eq.mpr c10
          have c10b1 : (t123 != 0) = false := bne_eq_false_iff_eq.mpr c10
          clear c10
          by_cases c11 : t124 = 4
          · rw [if_pos c11] at H
            have c11b0 : (t124 == 4) = true := beq_iff_eq.mpr c11
            have c11b1 : (t124 != 4) = false := bne_eq_false_iff_eq.mpr c11
            clear c11
            by_cases c12 : t125 = true
            · subst c12
              have H1 : (if t129 = 30 then ((band_Total.f y113).bind fun t138 => (some (t138 == 8))) else (some false)) = some r := by rw [if_pos rfl] at H; exact H
              clear H
              have H := H1
              clear H1
              by_cases c13 : t129 = 30
              · rw [if_pos c13] at H
                have c13b0 : (t129 == 30) = true := beq_iff_eq.mpr c13
                have c13b1 : (t129 != 30) = false := bne_eq_false_iff_eq.mpr c13
                clear c13
                replace H := Option.bind_eq_some_iff.mp H
                obtain ⟨t138, A140, H⟩ := H
                replace H : (some (t138 == 8)) = some r := H
                have A14 := Aside0.mk A140
                clear A140
                obtain rfl := Option.some.inj H
                go_enter Tryd.func11, Tryd.ntmps11
                go_wp2_with (first | ((with_reducible refine gate_dst (N := 12) rfl ?_); (try (refine gate_guard (by rfl) ?_; dsimp only)); refine Kd.R_lit k24 _ 24 ?hg (N := 12) ?hd (xs := ([(⟨0, 3⟩ : S24), (⟨4, 9⟩ : S24)] : List (S24))) (inner := [.int .i64 0, .int .i64 3, .int .i64 4, .int .i64 9]) (ok := fun _ => True) (okp := fun _ => True) ?hr ?hp (fun _ hk => hk) trivial (Below.refl _ _) (Nat.le_refl _) (by simp) ?_; (case hd => rfl); (case hg => rfl); (case hr => first | (go_simp; done) | (go_simp; rfl)); (case hp => exact (Reps.c2 (show Kd.M k24 _ _ _ (⟨0, 3⟩ : S24) [.int .i64 0, .int .i64 3] from (k24_mkM _ _ _ (⟨0, 3⟩ : S24) )) (Reps.c2 (show Kd.M k24 _ _ _ (⟨4, 9⟩ : S24) [.int .i64 4, .int .i64 9] from (k24_mkM _ _ _ (⟨4, 9⟩ : S24) )) (Reps.none _ _)))); intro v114 w15 ho16 hb hg_ hnew_; clear hg_ hnew_; (first | rw [← Ny113.out] at ho16 | (simp only [Int.reduceToNat] at ho16; rw [← Ny113.out] at ho16)); have n0_ := Aside0.mk (Kd.R_lower ho16 (below_size (by repeat (first | (with_reducible first | exact HB.out | apply below_alloc | apply pw_below_drewN | apply below_drew1) | exact HB.out)))); have n1_ := Aside0.mk (below_step (by repeat (first | (with_reducible first | exact HB.out | apply below_alloc | apply pw_below_drewN | apply below_drew1) | exact HB.out)) hb); clear HB; have HO115 := n0_; have HB := n1_; clear n0_ n1_; clear hb ho16; obtain ⟨Ao17, co17, eo17⟩ := Kd.R_slice HO115.out; subst eo17) | ((with_reducible refine gate_callee (f := 15) rfl ?_); refine goesL_ (some 16) rfl rfl Tryd.func15 (by kernel_rfl) rfl #[.slice Ao17 y113.length co17, .agg #[.int .i64 2, .int .i64 5]] rfl (by (try simp only [List.map_toArray, List.map_cons, List.map_nil]); first | done | rfl | (simp only [List.length_drop, List.length_take]; rfl)) ?_; (with_reducible refine (band_Less.calls _ _ y113 2 5 t116 t119 _ ?side1 ?side2 ?side3 A1.out).mono ?_); (case side1 => repeat (first | exact (Kd.R_reads' HO115.out).2.2 | (with_reducible refine Kd.C_alloc ?_ _) | (with_reducible refine Kd.C_drewN ?_ _) | (with_reducible refine Kd.C_drew ?_))); (case side2 => exact (Kd.R_reads' HO115.out).2.1); (case side3 => exact (Gl.of_below HG.out (by repeat (first | (with_reducible first | exact HB.out | apply below_alloc | apply pw_below_drewN | apply below_drew1) | exact HB.out))).le (by decide)); rintro e w18 ⟨v117, rfl, ho0, hb⟩; refine ⟨_, rfl, ?_⟩; have n0_ := Aside0.mk (Kd.R_elder' (by (with_reducible repeat (first | apply Kd.R_alloc | apply Kd.R_drewN | apply Kd.R_drew)); exact HO115.out) (Kd.R_base ho0) hb); have n1_ := Aside0.mk (Kd.R_lower (Kd.R_new' ho0 (Kd.R_lt (by (with_reducible repeat (first | apply Kd.R_alloc | apply Kd.R_drewN | apply Kd.R_drew)); exact HO115.out))) (below_size (by repeat (first | (with_reducible first | exact HB.out | apply below_alloc | apply pw_below_drewN | apply below_drew1) | exact HB.out)))); have n2_ := Aside0.mk (below_step (by repeat (first | (with_reducible first | exact HB.out | apply below_alloc | apply pw_below_drewN | apply below_drew1) | exact HB.out)) hb); clear HO115; clear HB; have HO115 := n0_; have HO118 := n1_; have HB := n2_; clear n0_ n1_ n2_; (try clear hb); (try clear hb2); (try clear hk); (try clear hi); (try clear ho0)) | ((with_reducible refine gate_callee (f := 13) rfl ?_); refine goesL_ (some 22) rfl rfl Tryd.func13 (by kernel_rfl) rfl #[.slice Ao17 y113.length co17, .agg #[.int .i64 3, .int .i64 4]] rfl (by (try simp only [List.map_toArray, List.map_cons, List.map_nil]); first | done | rfl | (simp only [List.length_drop, List.length_take]; rfl)) ?_; (with_reducible refine (band_Plus.calls _ _ y113 3 4 t120 t123 _ ?side1 ?side2 ?side3 A2.out).mono ?_); (case side1 => repeat (first | exact (Kd.R_reads' HO115.out).2.2 | (with_reducible refine Kd.C_alloc ?_ _) | (with_reducible refine Kd.C_drewN ?_ _) | (with_reducible refine Kd.C_drew ?_))); (case side2 => exact (Kd.R_reads' HO115.out).2.1); (case side3 => exact (Gl.of_below HG.out (by repeat (first | (with_reducible first | exact HB.out | apply below_alloc | apply pw_below_drewN | apply below_drew1) | exact HB.out))).le (by decide)); rintro e w19 ⟨v121, rfl, ho0, hb⟩; refine ⟨_, rfl, ?_⟩; have n0_ := Aside0.mk (Kd.R_elder' (by (with_reducible repeat (first | apply Kd.R_alloc | apply Kd.R_drewN | apply Kd.R_drew)); exact HO115.out) (Kd.R_base ho0) hb); have n1_ := Aside0.mk (Kd.R_elder' (by (with_reducible repeat (first | apply Kd.R_alloc | apply Kd.R_drewN | apply Kd.R_drew)); exact HO118.out) (Kd.R_base ho0) hb); have n2_ := Aside0.mk (Kd.R_lower (Kd.R_new' (Kd.R_new' ho0 (Kd.R_lt (by (with_reducible repeat (first | apply Kd.R_alloc | apply Kd.R_drewN | apply Kd.R_drew)); exact HO115.out))) (Kd.R_lt (by (with_reducible repeat (first | apply Kd.R_alloc | apply Kd.R_drewN | apply Kd.R_drew)); exact HO118.out))) (below_size (by repeat (first | (with_reducible first | exact HB.out | apply below_alloc | apply pw_below_drewN | apply below_drew1) | exact HB.out)))); have n3_ := Aside0.mk (below_step (by repeat (first | (with_reducible first | exact HB.out | apply below_alloc | apply pw_below_drewN | apply below_drew1) | exact HB.out)) hb); clear HO115; clear HO118; clear HB; have HO115 := n0_; have HO118 := n1_; have HO122 := n2_; have HB := n3_; clear n0_ n1_ n2_ n3_; (try clear hb); (try clear hb2); (try clear hk); (try clear hi); (try clear ho0)) | ((with_reducible refine gate_callee (f := 20) rfl ?_); refine goesL_ (some 27) rfl rfl Tryd.func20 (by kernel_rfl) rfl #[.slice Ao17 y113.length co17, .int .i64 4] rfl (by (try simp only [List.map_toArray, List.map_cons, List.map_nil]); first | done | rfl | (simp only [List.length_drop, List.length_take]; rfl)) ?_; (with_reducible refine (band_First.calls _ _ y113 4 t124 true _ ?side1 ?side2 A3.out).mono ?_); (case side1 => repeat (first | exact (Kd.R_reads' HO115.out).2.2 | (with_reducible refine Kd.C_alloc ?_ _) | (with_reducible refine Kd.C_drewN ?_ _) | (with_reducible refine Kd.C_drew ?_))); (case side2 => exact (Kd.R_reads' HO115.out).2.1); rintro e w20 ⟨rfl, hb⟩; refine ⟨_, rfl, ?_⟩; have n0_ := Aside0.mk (Kd.R_below (by (with_reducible repeat (first | apply Kd.R_alloc | apply Kd.R_drewN | apply Kd.R_drew)); exact HO115.out) hb); have n1_ := Aside0.mk (Kd.R_below (by (with_reducible repeat (first | apply Kd.R_alloc | apply Kd.R_drewN | apply Kd.R_drew)); exact HO118.out) hb); have n2_ := Aside0.mk (Kd.R_below (by (with_reducible repeat (first | apply Kd.R_alloc | apply Kd.R_drewN | apply Kd.R_drew)); exact HO122.out) hb); have n3_ := Aside0.mk (below_step (by repeat (first | (with_reducible first | exact HB.out | apply below_alloc | apply pw_below_drewN | apply below_drew1) | exact HB.out)) hb); clear HO115; clear HO118; clear HO122; clear HB; have HO115 := n0_; have HO118 := n1_; have HO122 := n2_; have HB := n3_; clear n0_ n1_ n2_ n3_; (try clear hb); (try clear hb2); (try clear hk); (try clear hi)) | ((with_reducible refine gate_callee (f := 13) rfl ?_); refine goesL_ (some 33) rfl rfl Tryd.func13 (by kernel_rfl) rfl #[.slice Ao17 y113.length co17, .agg #[.int .i64 3, .int .i64 3]] rfl (by (try simp only [List.map_toArray, List.map_cons, List.map_nil]); first | done | rfl | (simp only [List.length_drop, List.length_take]; rfl)) ?_; (with_reducible refine (band_Plus.calls _ _ y113 3 3 t126 t129 _ ?side1 ?side2 ?side3 A4.out).mono ?_); (case side1 => repeat (first | exact (Kd.R_reads' HO115.out).2.2 | (with_reducible refine Kd.C_alloc ?_ _) | (with_reducible refine Kd.C_drewN ?_ _) | (with_reducible refine Kd.C_drew ?_))); (case side2 => exact (Kd.R_reads' HO115.out).2.1); (case side3 => exact (Gl.of_below HG.out (by repeat (first | (with_reducible first | exact HB.out | apply below_alloc | apply pw_below_drewN | apply below_drew1) | exact HB.out))).le (by decide)); rintro e w21 ⟨v127, rfl, ho0, hb⟩; refine ⟨_, rfl, ?_⟩; have n0_ := Aside0.mk (Kd.R_elder' (by (with_reducible repeat (first | apply Kd.R_alloc | apply Kd.R_drewN | apply Kd.R_drew)); exact HO115.out) (Kd.R_base ho0) hb); have n1_ := Aside0.mk (Kd.R_elder' (by (with_reducible repeat (first | apply Kd.R_alloc | apply Kd.R_drewN | apply Kd.R_drew)); exact HO118.out) (Kd.R_base ho0) hb); have n2_ := Aside0.mk (Kd.R_elder' (by (with_reducible repeat (first | apply Kd.R_alloc | apply Kd.R_drewN | apply Kd.R_drew)); exact HO122.out) (Kd.R_base ho0) hb); have n3_ := Aside0.mk (Kd.R_lower (Kd.R_new' (Kd.R_new' (Kd.R_new' ho0 (Kd.R_lt (by (with_reducible repeat (first | apply Kd.R_alloc | apply Kd.R_drewN | apply Kd.R_drew)); exact HO115.out))) (Kd.R_lt (by (with_reducible repeat (first | apply Kd.R_alloc | apply Kd.R_drewN | apply Kd.R_drew)); exact HO118.out))) (Kd.R_lt (by (with_reducible repeat (first | apply Kd.R_alloc | apply Kd.R_drewN | apply Kd.R_drew)); exact HO122.out))) (below_size (by repeat (first | (with_reducible first | exact HB.out | apply below_alloc | apply pw_below_drewN | apply below_drew1) | exact HB.out)))); have n4_ := Aside0.mk (below_step (by repeat (first | (with_reducible first | exact HB.out | apply below_alloc | apply pw_below_drewN | apply below_drew1) | exact HB.out)) hb); clear HO115; clear HO118; clear HO122; clear HB; have HO115 := n0_; have HO118 := n1_; have HO122 := n2_; have HO128 := n3_; have HB := n4_; clear n0_ n1_ n2_ n3_ n4_; (try clear hb); (try clear hb2); (try clear hk); (try clear hi); (try clear ho0)) | ((with_reducible refine gate_dst (N := 39) rfl ?_); (try (refine gate_guard (by rfl) ?_; dsimp only)); refine Kd.R_lit k24 _ 24 ?hg (N := 39) ?hd (xs := ([(⟨0, 2⟩ : S24), (⟨5, 9⟩ : S24)] : List (S24))) (inner := [.int .i64 0, .int .i64 2, .int .i64 5, .int .i64 9]) (ok := fun _ => True) (okp := fun _ => True) ?hr ?hp (fun _ hk => hk) trivial (Below.refl _ _) (Nat.le_refl _) (by simp) ?_; (case hd => rfl); (case hg => rfl); (case hr => first | (go_simp; done) | (go_simp; rfl)); (case hp => exact (Reps.c2 (show Kd.M k24 _ _ _ (⟨0, 2⟩ : S24) [.int .i64 0, .int .i64 2] from (k24_mkM _ _ _ (⟨0, 2⟩ : S24) )) (Reps.c2 (show Kd.M k24 _ _ _ (⟨5, 9⟩ : S24) [.int .i64 5, .int .i64 9] from (k24_mkM _ _ _ (⟨5, 9⟩ : S24) )) (Reps.none _ _)))); intro v131 w22 ho23 hb hg_ hnew_; clear hg_ hnew_; (first | rw [← Ny130.out] at ho23 | (simp only [Int.reduceToNat] at ho23; rw [← Ny130.out] at ho23)); have n0_ := Aside0.mk (Kd.R_elder' (by (with_reducible repeat (first | apply Kd.R_alloc | apply Kd.R_drewN | apply Kd.R_drew)); exact HO115.out) (Kd.R_base ho23) hb); have n1_ := Aside0.mk (Kd.R_elder' (by (with_reducible repeat (first | apply Kd.R_alloc | apply Kd.R_drewN | apply Kd.R_drew)); exact HO118.out) (Kd.R_base ho23) hb); have n2_ := Aside0.mk (Kd.R_elder' (by (with_reducible repeat (first | apply Kd.R_alloc | apply Kd.R_drewN | apply Kd.R_drew)); exact HO122.out) (Kd.R_base ho23) hb); have n3_ := Aside0.mk (Kd.R_elder' (by (with_reducible repeat (first | apply Kd.R_alloc | apply Kd.R_drewN | apply Kd.R_drew)); exact HO128.out) (Kd.R_base ho23) hb); have n4_ := Aside0.mk (Kd.R_lower (Kd.R_new' (Kd.R_new' (Kd.R_new' (Kd.R_new' ho23 (Kd.R_lt (by (with_reducible repeat (first | apply Kd.R_alloc | apply Kd.R_drewN | apply Kd.R_drew)); exact HO115.out))) (Kd.R_lt (by (with_reducible repeat (first | apply Kd.R_alloc | apply Kd.R_drewN | apply Kd.R_drew)); exact HO118.out))) (Kd.R_lt (by (with_reducible repeat (first | apply Kd.R_alloc | apply Kd.R_drewN | apply Kd.R_drew)); exact HO122.out))) (Kd.R_lt (by (with_reducible repeat (first | apply Kd.R_alloc | apply Kd.R_drewN | apply Kd.R_drew)); exact HO128.out))) (below_size (by repeat (first | (with_reducible first | exact HB.out | apply below_alloc | apply pw_below_drewN | apply below_drew1) | exact HB.out)))); have n5_ := Aside0.mk (below_step (by repeat (first | (with_reducible first | exact HB.out | apply below_alloc | apply pw_below_drewN | apply below_drew1) | exact HB.out)) hb); clear HO115; clear HO118; clear HO122; clear HO128; clear HB; have HO115 := n0_; have HO118 := n1_; have HO122 := n2_; have HO128 := n3_; have HO132 := n4_; have HB := n5_; clear n0_ n1_ n2_ n3_ n4_ n5_; clear hb ho23; obtain ⟨Ao24, co24, eo24⟩ := Kd.R_slice HO118.out; subst eo24; obtain ⟨Ao25, co25, eo25⟩ := Kd.R_slice HO132.out; subst eo25) | ((with_reducible refine gate_callee (f := 19) rfl ?_); refine goesL_ (some 40) rfl rfl Tryd.func19 (by kernel_rfl) rfl #[.slice Ao24 t116.length co24, .slice Ao25 y130.length co25] rfl (by (try simp only [List.map_toArray, List.map_cons, List.map_nil]); first | done | rfl | (simp only [List.length_drop, List.length_take]; rfl)) ?_; (with_reducible refine (gutterref03_Same.calls k _ _ t116 _ _ y130 true _ ?side1 ?side2 ?side3 ?side4 A5.out).mono ?_); (case side1 => repeat (first | exact (Kd.R_reads' HO118.out).2.2 | (with_reducible refine Kd.C_alloc ?_ _) | (with_reducible refine Kd.C_drewN ?_ _) | (with_reducible refine Kd.C_drew ?_))); (case side2 => exact (Kd.R_reads' HO118.out).2.1); (case side3 => repeat (first | exact (Kd.R_reads' HO132.out).2.2 | (with_reducible refine Kd.C_alloc ?_ _) | (with_reducible refine Kd.C_drewN ?_ _) | (with_reducible refine Kd.C_drew ?_))); (case side4 => exact (Kd.R_reads' HO132.out).2.1); rintro e w' ⟨rfl, ⟨nd, rfl⟩⟩; refine ⟨_, rfl, ?_⟩) | ((with_reducible refine gate_dst (N := 48) rfl ?_); (try (refine gate_guard (by rfl) ?_; dsimp only)); refine Kd.R_lit k24 _ 24 ?hg (N := 48) ?hd (xs := ([(⟨0, 9⟩ : S24)] : List (S24))) (inner := [.int .i64 0, .int .i64 9]) (ok := fun _ => True) (okp := fun _ => True) ?hr ?hp (fun _ hk => hk) trivial (Below.refl _ _) (Nat.le_refl _) (by simp) ?_; (case hd => rfl); (case hg => rfl); (case hr => first | (go_simp; done) | (go_simp; rfl)); (case hp => exact (Reps.c2 (show Kd.M k24 _ _ _ (⟨0, 9⟩ : S24) [.int .i64 0, .int .i64 9] from (k24_mkM _ _ _ (⟨0, 9⟩ : S24) )) (Reps.none _ _))); intro v135 w26 ho27 hb hg_ hnew_; clear hg_ hnew_; (first | rw [← Ny134.out] at ho27 | (simp only [Int.reduceToNat] at ho27; rw [← Ny134.out] at ho27)); have n0_ := Aside0.mk (Kd.R_elder' (by (with_reducible repeat (first | apply Kd.R_alloc | apply Kd.R_drewN | apply Kd.R_drew)); exact HO115.out) (Kd.R_base ho27) hb); have n1_ := Aside0.mk (Kd.R_elder' (by (with_reducible repeat (first | apply Kd.R_alloc | apply Kd.R_drewN | apply Kd.R_drew)); exact HO118.out) (Kd.R_base ho27) hb); have n2_ := Aside0.mk (Kd.R_elder' (by (with_reducible repeat (first | apply Kd.R_alloc | apply Kd.R_drewN | apply Kd.R_drew)); exact HO122.out) (Kd.R_base ho27) hb); have n3_ := Aside0.mk (Kd.R_elder' (by (with_reducible repeat (first | apply Kd.R_alloc | apply Kd.R_drewN | apply Kd.R_drew)); exact HO128.out) (Kd.R_base ho27) hb); have n4_ := Aside0.mk (Kd.R_elder' (by (with_reducible repeat (first | apply Kd.R_alloc | apply Kd.R_drewN | apply Kd.R_drew)); exact HO132.out) (Kd.R_base ho27) hb); have n5_ := Aside0.mk (Kd.R_lower (Kd.R_new' (Kd.R_new' (Kd.R_new' (Kd.R_new' (Kd.R_new' ho27 (Kd.R_lt (by (with_reducible repeat (first | apply Kd.R_alloc | apply Kd.R_drewN | apply Kd.R_drew)); exact HO115.out))) (Kd.R_lt (by (with_reducible repeat (first | apply Kd.R_alloc | apply Kd.R_drewN | apply Kd.R_drew)); exact HO118.out))) (Kd.R_lt (by (with_reducible repeat (first | apply Kd.R_alloc | apply Kd.R_drewN | apply Kd.R_drew)); exact HO122.out))) (Kd.R_lt (by (with_reducible repeat (first | apply Kd.R_alloc | apply Kd.R_drewN | apply Kd.R_drew)); exact HO128.out))) (Kd.R_lt (by (with_reducible repeat (first | apply Kd.R_alloc | apply Kd.R_drewN | apply Kd.R_drew)); exact HO132.out))) (below_size (by repeat (first | (with_reducible first | exact HB.out | apply below_alloc | apply pw_below_drewN | apply below_drew1) | exact HB.out)))); have n6_ := Aside0.mk (below_step (by repeat (first | (with_reducible first | exact HB.out | apply below_alloc | apply pw_below_drewN | apply below_drew1) | exact HB.out)) hb); clear HO115; clear HO118; clear HO122; clear HO128; clear HO132; clear HB; have HO115 := n0_; have HO118 := n1_; have HO122 := n2_; have HO128 := n3_; have HO132 := n4_; have HO136 := n5_; have HB := n6_; clear n0_ n1_ n2_ n3_ n4_ n5_ n6_; clear hb ho27; obtain ⟨Ao28, co28, eo28⟩ := Kd.R_slice HO122.out; subst eo28; obtain ⟨Ao29, co29, eo29⟩ := Kd.R_slice HO136.out; subst eo29) | (go_at_call 19; (with_reducible refine (gutterref03_Same.calls k _ _ t120 _ _ y134 true _ ?side1 ?side2 ?side3 ?side4 A8.out).mono ?_); (case side1 => repeat (first | exact (Kd.R_reads' HO122.out).2.2 | (with_reducible refine Kd.C_alloc ?_ _) | (with_reducible refine Kd.C_drewN ?_ _) | (with_reducible refine Kd.C_drew ?_))); (case side2 => exact (Kd.R_reads' HO122.out).2.1); (case side3 => repeat (first | exact (Kd.R_reads' HO136.out).2.2 | (with_reducible refine Kd.C_alloc ?_ _) | (with_reducible refine Kd.C_drewN ?_ _) | (with_reducible refine Kd.C_drew ?_))); (case side4 => exact (Kd.R_reads' HO136.out).2.1); rintro e w' ⟨rfl, ⟨nd, rfl⟩⟩) | (go_at_call 23; (with_reducible refine (band_Total.calls _ _ y113 t138 _ ?side1 ?side2 A14.out).mono ?_); (case side1 => repeat (first | exact (Kd.R_reads' HO115.out).2.2 | (with_reducible refine Kd.C_alloc ?_ _) | (with_reducible refine Kd.C_drewN ?_ _) | (with_reducible refine Kd.C_drew ?_))); (case side2 => exact (Kd.R_reads' HO115.out).2.1); rintro e w30 ⟨rfl, hb⟩; have n0_ := Aside0.mk (Kd.R_below (by (with_reducible repeat (first | apply Kd.R_alloc | apply Kd.R_drewN | apply Kd.R_drew)); exact HO115.out) hb); have n1_ := Aside0.mk (Kd.R_below (by (with_reducible repeat (first | apply Kd.R_alloc | apply Kd.R_drewN | apply Kd.R_drew)); exact HO118.out) hb); have n2_ := Aside0.mk (Kd.R_below (by (with_reducible repeat (first | apply Kd.R_alloc | apply Kd.R_drewN | apply Kd.R_drew)); exact HO122.out) hb); have n3_ := Aside0.mk (Kd.R_below (by (with_reducible repeat (first | apply Kd.R_alloc | apply Kd.R_drewN | apply Kd.R_drew)); exact HO128.out) hb); have n4_ := Aside0.mk (Kd.R_below (by (with_reducible repeat (first | apply Kd.R_alloc | apply Kd.R_drewN | apply Kd.R_drew)); exact HO132.out) hb); have n5_ := Aside0.mk (Kd.R_below (by (with_reducible repeat (first | apply Kd.R_alloc | apply Kd.R_drewN | apply Kd.R_drew)); exact HO136.out) hb); have n6_ := Aside0.mk (below_step (by repeat (first | (with_reducible first | exact HB.out | apply below_alloc | apply pw_below_drewN | apply below_drew1) | exact HB.out)) hb); clear HO115; clear HO118; clear HO122; clear HO128; clear HO132; clear HO136; clear HB; have HO115 := n0_; have HO118 := n1_; have HO122 := n2_; have HO128 := n3_; have HO132 := n4_; have HO136 := n5_; have HB := n6_; clear n0_ n1_ n2_ n3_ n4_ n5_ n6_; (try clear hb); (try clear hb2); (try clear hk); (try clear hi)))
                go_ret
                exact ⟨by first | rfl | (simp [errW_none, errW_some] <;> rfl) | (simp [*, errW_none, errW_some] <;> rfl), by repeat (first | (with_reducible first | exact HB.out | apply below_alloc | apply pw_below_drewN | apply below_drew1) | exact HB.out)⟩
              · rw [if_neg c13] at H
                have c13b0 : (t129 == 30) = false := beq_eq_false_iff_ne.mpr c13
                have c13b1 : (t129 != 30) = true := bne_iff_ne.mpr c13
                with_reducible exact absurd ((Option.some.inj H).trans HTR.out) Bool.false_ne_true
            · replace c12 := Bool.eq_false_iff.mpr c12
              subst c12
              have H1 : (some false) = some r := by rw [if_neg (show ¬ (false = true) by decide)] at H; exact H
              clear H
              have H := H1
              clear H1
              with_reducible exact absurd ((Option.some.inj H).trans HTR.out) Bool.false_ne_true
          · rw [if_neg c11] at H
            have c11b0 : (t124 == 4) = false := beq_eq_false_iff_ne.mpr c11
            have c11b1 : (t124 != 4) = true := bne_iff_ne.mpr c11
            with_reducible exact absurd ((Option.some.inj H).trans HTR.out) Bool.false_ne_true
        · rw [if_neg c10] at H
          have c10b0 : (t123 == 0) = false := beq_eq_false_iff_ne.mpr c10
          have c10b1 : (t123 != 0) = true := bne_iff_ne.mpr c10
          with_reducible exact absurd ((Option.some.inj H).trans HTR.out) Bool.false_ne_true
      · replace c9 := Bool.eq_false_iff.mpr c9
        subst c9
        have H1 : (some false) = some r := by rw [if_neg (show ¬ (false = true) by decide)] at H; exact H
        clear H
        have H := H1
        clear H1
        with_reducible exact absurd ((Option.some.inj H).trans HTR.out) Bool.false_ne_true
    · rw [if_neg c7] at H
      have c7b0 : (t119 == 0) = false := beq_eq_false_iff_ne.mpr c7
      have c7b1 : (t119 != 0) = true := bne_iff_ne.mpr c7
      with_reducible exact absurd ((Option.some.inj H).trans HTR.out) Bool.false_ne_true
  · replace c6 := Bool.eq_false_iff.mpr c6
    subst c6
    have H1 : (some false) = some r := by rw [if_neg (show ¬ (false = true) by decide)] at H; exact H
    clear H
    have H := H1
    clear H1
    with_reducible exact absurd ((Option.some.inj H).trans HTR.out) Bool.false_ne_true

/-- Lifts: more steps, the same answer. -/
theorem LeO.lift {α : Type} {f : Nat → Option α} (hm : ∀ k, Go.Proofs.YtomgpbhkoellpaaDoorW.PrintWords.LeO (f k) (f (k + 1))) {k : Nat} {r : α} (h : f k = some r) : ∀ d, f (k + d) = some r
  | 0 => h
  | d + 1 => hm _ _ (LeO.lift hm h d)
theorem LeO.liftLe {α : Type} {f : Nat → Option α} (hm : ∀ k, Go.Proofs.YtomgpbhkoellpaaDoorW.PrintWords.LeO (f k) (f (k + 1))) {k m : Nat} {r : α} (h : f k = some r) (hk : k ≤ m) : f m = some r := by
  obtain ⟨d, rfl⟩ := Nat.exists_eq_add_of_le hk
  exact LeO.lift hm h d
theorem shown3 {k : Nat} (hk : 100 ≤ k) : gutterlaw03_shown.f k = some true :=
  LeO.liftLe (f := fun k => gutterlaw03_shown.f k) gutterlaw03_shown.mono (k := 10) (by kernel_rfl) (by omega)
theorem shown_only {k : Nat} {r : Bool} (h : gutterlaw03_shown.f k = some r) : r = true :=
  Option.some.inj ((LeO.lift (f := fun k => gutterlaw03_shown.f k) gutterlaw03_shown.mono h 100).symm.trans (shown3 (by omega)))
theorem gutterlaw03_shown.calls (k : Nat) (r : Bool) (w : World) (hG : Gl 1 w) (h : gutterlaw03_shown.f k = some r) :
    Calls Tryd.prog 11 #[] w fun e w' => e = .returned (.bool r) ∧ Below w.heap.size w w' := gutterlaw03_shown.callsT k r w hG h (shown_only h)

end Go.Proofs.YtomgpbhkoellpaaDoor.P
