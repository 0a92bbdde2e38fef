/-  -/
import Derived.Test.YtjpifknencfipaaDoorP
import Derived.Test.YtjpifknencfipaaDoorP47
import Derived.Test.YtjpifknencfipaaDoorP39
import Derived.Test.YtjpifknencfipaaDoorP52
set_option linter.unusedVariables false
set_option linter.unusedSimpArgs false
-- by a program (wip/tools: a turned copy of the kit's print): not trusted: Lean checks it
namespace Go.Proofs.YtjpifknencfipaaDoor.P
open Go.RowKit Go.Proofs.YtjpifknencfipaaDoorW.PrintWords Go.Proofs.YtjpifknencfipaaDoorW.PrintLast Go.Proofs.YtjpifknencfipaaDoorW.PrintMore
attribute [local go_sem] max2_int min2_int max_two min_two max_three min_three max_four min_four   -- for this text's walks alone

/-! ### gutterlaw17_RowBack: function 15 -/
def gutterlaw17_RowBack.f (k : Nat) (l0 : List (S58)) (a1 : Int) (a2 : Int) : Option (Bool) := (gutterlaw17_shown.f k).bind fun t536 => ((gutterlaw17_Pieces.f k l0).bind fun t537 => ((gutterlaw17_near.f a1).bind fun t540 => ((gutterlaw17_near.f a2).bind fun t541 => ((row_Move.f t537 t540 t541).bind fun t542 => ((gutterlaw17_near.f a1).bind fun t545 => ((gutterlaw17_near.f a2).bind fun t546 => ((row_Move.f t542 (wrap64 (-t545)) (wrap64 (-t546))).bind fun t547 => (if t536 = true then ((row_Same.f k t537 t547).bind fun t550 => (if t550 = true then (if (t542.length : Int) = (t537.length : Int) then ((gutterlaw17_near.f a1).bind fun t551 => ((row_Move.f t537 t551 0).bind fun t552 => ((row_Low.f k t552).bind fun t555 => ((row_Low.f k t537).bind fun t556 => (some (t555 == t556)))))) else (some false)) else (some false))) else (some false)))))))))
theorem gutterlaw17_RowBack.mono : ∀ a0 a1 a2 k, LeO (gutterlaw17_RowBack.f k a0 a1 a2) (gutterlaw17_RowBack.f (k + 1) a0 a1 a2) := by
  intro a0 a1 a2 k
  unfold gutterlaw17_RowBack.f
  repeat' first
      | (with_reducible exact gutterlaw17_Pieces.mono _ _)
      | (with_reducible exact gutterlaw17_shown.mono _)
      | (with_reducible exact row_Low.mono _ _)
      | (with_reducible exact row_Same.mono _ _ _)
      | (with_reducible exact LeO.refl _)
      | (with_reducible exact LeO.none _)
      | (with_reducible refine LeO.ite ?_ ?_)
      | (with_reducible refine LeO.bind ?_ (fun _ => ?_))
      | exact gutterlaw17_Pieces.mono _ _
      | exact gutterlaw17_shown.mono _
      | exact row_Low.mono _ _
      | exact row_Same.mono _ _ _
      | exact LeO.none _
      | refine LeO.ite ?_ ?_
      | refine LeO.bind ?_ (fun _ => ?_)
end Go.Proofs.YtjpifknencfipaaDoor.P

-- by a program (wip/tools: a turned copy of the kit's print): not trusted: Lean checks it
namespace Go.Proofs.YtjpifknencfipaaDoor.P
open Go.RowKit Go.Proofs.YtjpifknencfipaaDoorW.PrintWords Go.Proofs.YtjpifknencfipaaDoorW.PrintLast Go.Proofs.YtjpifknencfipaaDoorW.PrintMore
attribute [local go_sem] max2_int min2_int max_two min_two max_three min_three max_four min_four   -- for this text's walks alone

set_option maxHeartbeats 8000000 in
set_option maxRecDepth 100000 in
theorem gutterlaw17_RowBack.callsT (k : Nat) (A0 : Option Addr) (c0 : Nat) (l0 : List (S58)) (a1 : Int) (a2 : Int) (r : Bool) (w : World) (hr0 : Kd.C k58 w A0 l0.length l0) (hc0 : l0.length ≤ c0) (hG : Gl 3 w) (h : gutterlaw17_RowBack.f k l0 a1 a2 = some r) (ht : r = true) :
    Calls Tryd.prog 15 #[.slice A0 l0.length c0, .int .i64 a1, .int .i64 a2] w fun e w' => e = .returned (.bool r) ∧ Below w.heap.size w w' := by
  have HTR := Lib.hid ht
  clear ht
  have HR0 := Aside0.mk hr0
  have HC0 := Aside0.mk hc0
  clear hr0 hc0
  have HG := Aside0.mk hG
  clear hG
  have HB := Aside0.mk (Below.refl w.heap.size w)
  have H : ((gutterlaw17_shown.f k).bind fun t536 => ((gutterlaw17_Pieces.f k l0).bind fun t537 => ((gutterlaw17_near.f a1).bind fun t540 => ((gutterlaw17_near.f a2).bind fun t541 => ((row_Move.f t537 t540 t541).bind fun t542 => ((gutterlaw17_near.f a1).bind fun t545 => ((gutterlaw17_near.f a2).bind fun t546 => ((row_Move.f t542 (wrap64 (-t545)) (wrap64 (-t546))).bind fun t547 => (if t536 = true then ((row_Same.f k t537 t547).bind fun t550 => (if t550 = true then (if (t542.length : Int) = (t537.length : Int) then ((gutterlaw17_near.f a1).bind fun t551 => ((row_Move.f t537 t551 0).bind fun t552 => ((row_Low.f k t552).bind fun t555 => ((row_Low.f k t537).bind fun t556 => (some (t555 == t556)))))) else (some false)) else (some false))) else (some false)))))))))) = some r := h
  clear h
  replace H := Option.bind_eq_some_iff.mp H
  obtain ⟨t536, A40, H⟩ := H
  replace H : ((gutterlaw17_Pieces.f k l0).bind fun t537 => ((gutterlaw17_near.f a1).bind fun t540 => ((gutterlaw17_near.f a2).bind fun t541 => ((row_Move.f t537 t540 t541).bind fun t542 => ((gutterlaw17_near.f a1).bind fun t545 => ((gutterlaw17_near.f a2).bind fun t546 => ((row_Move.f t542 (wrap64 (-t545)) (wrap64 (-t546))).bind fun t547 => (if t536 = true then ((row_Same.f k t537 t547).bind fun t550 => (if t550 = true then (if (t542.length : Int) = (t537.length : Int) then ((gutterlaw17_near.f a1).bind fun t551 => ((row_Move.f t537 t551 0).bind fun t552 => ((row_Low.f k t552).bind fun t555 => ((row_Low.f k t537).bind fun t556 => (some (t555 == t556)))))) else (some false)) else (some false))) else (some false))))))))) = some r := H
  have A4 := Aside0.mk A40
  clear A40
  replace H := Option.bind_eq_some_iff.mp H
  obtain ⟨t537, A50, H⟩ := H
  replace H : ((gutterlaw17_near.f a1).bind fun t540 => ((gutterlaw17_near.f a2).bind fun t541 => ((row_Move.f t537 t540 t541).bind fun t542 => ((gutterlaw17_near.f a1).bind fun t545 => ((gutterlaw17_near.f a2).bind fun t546 => ((row_Move.f t542 (wrap64 (-t545)) (wrap64 (-t546))).bind fun t547 => (if t536 = true then ((row_Same.f k t537 t547).bind fun t550 => (if t550 = true then (if (t542.length : Int) = (t537.length : Int) then ((gutterlaw17_near.f a1).bind fun t551 => ((row_Move.f t537 t551 0).bind fun t552 => ((row_Low.f k t552).bind fun t555 => ((row_Low.f k t537).bind fun t556 => (some (t555 == t556)))))) else (some false)) else (some false))) else (some false)))))))) = some r := H
  have A5 := Aside0.mk A50
  clear A50
  replace H := Option.bind_eq_some_iff.mp H
  obtain ⟨t540, A60, H⟩ := H
  replace H : ((gutterlaw17_near.f a2).bind fun t541 => ((row_Move.f t537 t540 t541).bind fun t542 => ((gutterlaw17_near.f a1).bind fun t545 => ((gutterlaw17_near.f a2).bind fun t546 => ((row_Move.f t542 (wrap64 (-t545)) (wrap64 (-t546))).bind fun t547 => (if t536 = true then ((row_Same.f k t537 t547).bind fun t550 => (if t550 = true then (if (t542.length : Int) = (t537.length : Int) then ((gutterlaw17_near.f a1).bind fun t551 => ((row_Move.f t537 t551 0).bind fun t552 => ((row_Low.f k t552).bind fun t555 => ((row_Low.f k t537).bind fun t556 => (some (t555 == t556)))))) else (some false)) else (some false))) else (some false))))))) = some r := H
  have A6 := Aside0.mk A60
  clear A60
  replace H := Option.bind_eq_some_iff.mp H
  obtain ⟨t541, A70, H⟩ := H
  replace H : ((row_Move.f t537 t540 t541).bind fun t542 => ((gutterlaw17_near.f a1).bind fun t545 => ((gutterlaw17_near.f a2).bind fun t546 => ((row_Move.f t542 (wrap64 (-t545)) (wrap64 (-t546))).bind fun t547 => (if t536 = true then ((row_Same.f k t537 t547).bind fun t550 => (if t550 = true then (if (t542.length : Int) = (t537.length : Int) then ((gutterlaw17_near.f a1).bind fun t551 => ((row_Move.f t537 t551 0).bind fun t552 => ((row_Low.f k t552).bind fun t555 => ((row_Low.f k t537).bind fun t556 => (some (t555 == t556)))))) else (some false)) else (some false))) else (some false)))))) = some r := H
  have A7 := Aside0.mk A70
  clear A70
  replace H := Option.bind_eq_some_iff.mp H
  obtain ⟨t542, A80, H⟩ := H
  replace H : ((gutterlaw17_near.f a1).bind fun t545 => ((gutterlaw17_near.f a2).bind fun t546 => ((row_Move.f t542 (wrap64 (-t545)) (wrap64 (-t546))).bind fun t547 => (if t536 = true then ((row_Same.f k t537 t547).bind fun t550 => (if t550 = true then (if (t542.length : Int) = (t537.length : Int) then ((gutterlaw17_near.f a1).bind fun t551 => ((row_Move.f t537 t551 0).bind fun t552 => ((row_Low.f k t552).bind fun t555 => ((row_Low.f k t537).bind fun t556 => (some (t555 == t556)))))) else (some false)) else (some false))) else (some false))))) = some r := H
  have A8 := Aside0.mk A80
  clear A80
  replace H := Option.bind_eq_some_iff.mp H
  obtain ⟨t545, A90, H⟩ := H
  replace H : ((gutterlaw17_near.f a2).bind fun t546 => ((row_Move.f t542 (wrap64 (-t545)) (wrap64 (-t546))).bind fun t547 => (if t536 = true then ((row_Same.f k t537 t547).bind fun t550 => (if t550 = true then (if (t542.length : Int) = (t537.length : Int) then ((gutterlaw17_near.f a1).bind fun t551 => ((row_Move.f t537 t551 0).bind fun t552 => ((row_Low.f k t552).bind fun t555 => ((row_Low.f k t537).bind fun t556 => (some (t555 == t556)))))) else (some false)) else (some false))) else (some false)))) = some r := H
  have A9 := Aside0.mk A90
  clear A90
  replace H := Option.bind_eq_some_iff.mp H
  obtain ⟨t546, A100, H⟩ := H
  replace H : ((row_Move.f t542 (wrap64 (-t545)) (wrap64 (-t546))).bind fun t547 => (if t536 = true then ((row_Same.f k t537 t547).bind fun t550 => (if t550 = true then (if (t542.length : Int) = (t537.length : Int) then ((gutterlaw17_near.f a1).bind fun t551 => ((row_Move.f t537 t551 0).bind fun t552 => ((row_Low.f k t552).bind fun t555 => ((row_Low.f k t537).bind fun t556 => (some (t555 == t556)))))) else (some false)) else (some false))) else (some false))) = some r := H
  have A10 := Aside0.mk A100
  clear A100
  replace H := Option.bind_eq_some_iff.mp H
  obtain ⟨t547, A110, H⟩ := H
  replace H : (if t536 = true then ((row_Same.f k t537 t547).bind fun t550 => (if t550 = true then (if (t542.length : Int) = (t537.length : Int) then ((gutterlaw17_near.f a1).bind fun t551 => ((row_Move.f t537 t551 0).bind fun t552 => ((row_Low.f k t552).bind fun t555 => ((row_Low.f k t537).bind fun t556 => (some (t555 == t556)))))) else (some false)) else (some false))) else (some false)) = some r := H
  have A11 := Aside0.mk A110
  clear A110
  by_cases c12 : t536 = true
  · subst c12
    have H1 : ((row_Same.f k t537 t547).bind fun t550 => (if t550 = true then (if (t542.length : Int) = (t537.length : Int) then ((gutterlaw17_near.f a1).bind fun t551 => ((row_Move.f t537 t551 0).bind fun t552 => ((row_Low.f k t552).bind fun t555 => ((row_Low.f k t537).bind fun t556 => (some (t555 == t556)))))) else (some false)) else (some false))) = some r := by rw [if_pos rfl] at H; exact H
    clear H
    have H := H1
    clear H1
    replace H := Option.bind_eq_some_iff.mp H
    obtain ⟨t550, A130, H⟩ := H
    replace H : (if t550 = true then (if (t542.length : Int) = (t537.length : Int) then ((gutterlaw17_near.f a1).bind fun t551 => ((row_Move.f t537 t551 0).bind fun t552 => ((row_Low.f k t552).bind fun t555 => ((row_Low.f k t537).bind fun t556 => (some (t555 == t556)))))) else (some false)) else (some false)) = some r := H
    have A13 := Aside0.mk A130
    clear A130
    by_cases c14 : t550 = true
    · subst c14
      have H1 : (if (t542.length : Int) = (t537.length : Int) then ((gutterlaw17_near.f a1).bind fun t551 => ((row_Move.f t537 t551 0).bind fun t552 => ((row_Low.f k t552).bind fun t555 => ((row_Low.f k t537).bind fun t556 => (some (t555 == t556)))))) else (some false)) = some r := by rw [if_pos rfl] at H; exact H
      clear H
      have H := H1
      clear H1
      by_cases c15 : (t542.length : Int) = (t537.length : Int)
      · rw [if_pos c15] at H
        have c15b0 : ((t542.length : Int) == (t537.length : Int)) = true := beq_iff_eq.mpr c15
        have c15b1 : ((t542.length : Int) != (t537.length : Int)) = false := bne_eq_false_iff_eq.mpr c15
        have c15b2 : (t542.length == t537.length) = true := by first | simpa using c15 | (simp at c15 ⊢; omega)
        clear c15
        replace H := Option.bind_eq_some_iff.mp H
        obtain ⟨t551, A160, H⟩ := H
        replace H : ((row_Move.f t537 t551 0).bind fun t552 => ((row_Low.f k t552).bind fun t555 => ((row_Low.f k t537).bind fun t556 => (some (t555 == t556))))) = some r := H
        have A16 := Aside0.mk A160
        clear A160
        replace H := Option.bind_eq_some_iff.mp H
        obtain ⟨t552, A170, H⟩ := H
        replace H : ((row_Low.f k t552).bind fun t555 => ((row_Low.f k t537).bind fun t556 => (some (t555 == t556)))) = some r := H
        have A17 := Aside0.mk A170
        clear A170
        replace H := Option.bind_eq_some_iff.mp H
        obtain ⟨t555, A180, H⟩ := H
        replace H : ((row_Low.f k t537).bind fun t556 => (some (t555 == t556))) = some r := H
        have A18 := Aside0.mk A180
        clear A180
        replace H := Option.bind_eq_some_iff.mp H
        obtain ⟨t556, A190, H⟩ := H
        replace H : (some (t555 == t556)) = some r := H
        have A19 := Aside0.mk A190
        clear A190
        obtain rfl := Option.some.inj H
        go_enter Tryd.func15, Tryd.ntmps15
        go_wp2_with (first | ((with_reducible refine gate_callee (f := 39) rfl ?_); refine goesL_ (some 10) rfl rfl Tryd.func39 (by kernel_rfl) rfl #[] rfl (by (try simp only [List.map_toArray, List.map_cons, List.map_nil]); first | done | rfl | (simp only [List.length_drop, List.length_take]; rfl)) ?_; (with_reducible refine (gutterlaw17_shown.calls k  true _ ?side1 A4.out).mono ?_); (case side1 => exact (Gl.of_below HG.out (by repeat (first | (with_reducible first | exact HB.out | apply below_alloc | apply pw_below_drewN | apply below_drew1) | exact HB.out))).le (by decide)); rintro e w20 ⟨rfl, hb⟩; refine ⟨_, rfl, ?_⟩; have n0_ := Aside0.mk (below_step (by repeat (first | (with_reducible first | exact HB.out | apply below_alloc | apply pw_below_drewN | apply below_drew1) | exact HB.out)) hb); clear HB; have HB := n0_; clear n0_; (try clear hb); (try clear hb2); (try clear hk); (try clear hi)) | ((with_reducible refine gate_callee (f := 46) rfl ?_); refine goesL_ (some 12) rfl rfl Tryd.func46 (by kernel_rfl) rfl #[.slice A0 l0.length c0] rfl (by (try simp only [List.map_toArray, List.map_cons, List.map_nil]); first | done | rfl | (simp only [List.length_drop, List.length_take]; rfl)) ?_; (with_reducible refine (gutterlaw17_Pieces.calls k _ _ l0 t537 _ ?side1 ?side2 A5.out).mono ?_); (case side1 => repeat (first | exact (Kd.C_below HR0.out HB.out) | (with_reducible refine Kd.C_alloc ?_ _) | (with_reducible refine Kd.C_drewN ?_ _) | (with_reducible refine Kd.C_drew ?_))); (case side2 => exact HC0.out); rintro e w21 ⟨v538, rfl, ho0, hb⟩; refine ⟨_, rfl, ?_⟩; have n0_ := Aside0.mk (Kd.R_lower ho0 (below_size (by repeat (first | (with_reducible first | exact HB.out | apply below_alloc | apply pw_below_drewN | apply below_drew1) | exact HB.out)))); have n1_ := Aside0.mk (below_step (by repeat (first | (with_reducible first | exact HB.out | apply below_alloc | apply pw_below_drewN | apply below_drew1) | exact HB.out)) hb); clear HB; have HO539 := n0_; have HB := n1_; clear n0_ n1_; (try clear hb); (try clear hb2); (try clear hk); (try clear hi); (try clear ho0)) | ((with_reducible refine gate_callee (f := 49) rfl ?_); refine goesL_ (some 15) rfl rfl Tryd.func49 (by kernel_rfl) rfl #[.int .i64 a1] rfl (by (try simp only [List.map_toArray, List.map_cons, List.map_nil]); first | done | rfl | (simp only [List.length_drop, List.length_take]; rfl)) ?_; (with_reducible refine (gutterlaw17_near.calls a1 t540 _ A6.out).mono ?_); rintro e w22 ⟨rfl, hb⟩; refine ⟨_, rfl, ?_⟩; have n0_ := Aside0.mk (Kd.R_below (by (with_reducible repeat (first | apply Kd.R_alloc | apply Kd.R_drewN | apply Kd.R_drew)); exact HO539.out) hb); have n1_ := Aside0.mk (below_step (by repeat (first | (with_reducible first | exact HB.out | apply below_alloc | apply pw_below_drewN | apply below_drew1) | exact HB.out)) hb); clear HO539; clear HB; have HO539 := n0_; have HB := n1_; clear n0_ n1_; (try clear hb); (try clear hb2); (try clear hk); (try clear hi)) | ((with_reducible refine gate_callee (f := 49) rfl ?_); refine goesL_ (some 17) rfl rfl Tryd.func49 (by kernel_rfl) rfl #[.int .i64 a2] rfl (by (try simp only [List.map_toArray, List.map_cons, List.map_nil]); first | done | rfl | (simp only [List.length_drop, List.length_take]; rfl)) ?_; (with_reducible refine (gutterlaw17_near.calls a2 t541 _ A7.out).mono ?_); rintro e w23 ⟨rfl, hb⟩; refine ⟨_, rfl, ?_⟩; have n0_ := Aside0.mk (Kd.R_below (by (with_reducible repeat (first | apply Kd.R_alloc | apply Kd.R_drewN | apply Kd.R_drew)); exact HO539.out) hb); have n1_ := Aside0.mk (below_step (by repeat (first | (with_reducible first | exact HB.out | apply below_alloc | apply pw_below_drewN | apply below_drew1) | exact HB.out)) hb); clear HO539; clear HB; have HO539 := n0_; have HB := n1_; clear n0_ n1_; (try clear hb); (try clear hb2); (try clear hk); (try clear hi); obtain ⟨Ao24, co24, eo24⟩ := Kd.R_slice HO539.out; subst eo24) | ((with_reducible refine gate_callee (f := 48) rfl ?_); refine goesL_ (some 18) rfl rfl Tryd.func48 (by kernel_rfl) rfl #[.slice Ao24 t537.length co24, .int .i64 t540, .int .i64 t541] rfl (by (try simp only [List.map_toArray, List.map_cons, List.map_nil]); first | done | rfl | (simp only [List.length_drop, List.length_take]; rfl)) ?_; (with_reducible refine (row_Move.calls _ _ t537 t540 t541 t542 _ ?side1 ?side2 A8.out).mono ?_); (case side1 => repeat (first | exact (Kd.R_reads' HO539.out).2.2 | (with_reducible refine Kd.C_alloc ?_ _) | (with_reducible refine Kd.C_drewN ?_ _) | (with_reducible refine Kd.C_drew ?_))); (case side2 => exact (Kd.R_reads' HO539.out).2.1); rintro e w25 ⟨v543, rfl, ho0, hb⟩; refine ⟨_, rfl, ?_⟩; have n0_ := Aside0.mk (Kd.R_elder' (by (with_reducible repeat (first | apply Kd.R_alloc | apply Kd.R_drewN | apply Kd.R_drew)); exact HO539.out) (Kd.R_base ho0) hb); have n1_ := Aside0.mk (Kd.R_lower (Kd.R_new' ho0 (Kd.R_lt (by (with_reducible repeat (first | apply Kd.R_alloc | apply Kd.R_drewN | apply Kd.R_drew)); exact HO539.out))) (below_size (by repeat (first | (with_reducible first | exact HB.out | apply below_alloc | apply pw_below_drewN | apply below_drew1) | exact HB.out)))); have n2_ := Aside0.mk (below_step (by repeat (first | (with_reducible first | exact HB.out | apply below_alloc | apply pw_below_drewN | apply below_drew1) | exact HB.out)) hb); clear HO539; clear HB; have HO539 := n0_; have HO544 := n1_; have HB := n2_; clear n0_ n1_ n2_; (try clear hb); (try clear hb2); (try clear hk); (try clear hi); (try clear ho0)) | ((with_reducible refine gate_callee (f := 49) rfl ?_); refine goesL_ (some 21) rfl rfl Tryd.func49 (by kernel_rfl) rfl #[.int .i64 a1] rfl (by (try simp only [List.map_toArray, List.map_cons, List.map_nil]); first | done | rfl | (simp only [List.length_drop, List.length_take]; rfl)) ?_; (with_reducible refine (gutterlaw17_near.calls a1 t545 _ A9.out).mono ?_); rintro e w26 ⟨rfl, hb⟩; refine ⟨_, rfl, ?_⟩; have n0_ := Aside0.mk (Kd.R_below (by (with_reducible repeat (first | apply Kd.R_alloc | apply Kd.R_drewN | apply Kd.R_drew)); exact HO539.out) hb); have n1_ := Aside0.mk (Kd.R_below (by (with_reducible repeat (first | apply Kd.R_alloc | apply Kd.R_drewN | apply Kd.R_drew)); exact HO544.out) hb); have n2_ := Aside0.mk (below_step (by repeat (first | (with_reducible first | exact HB.out | apply below_alloc | apply pw_below_drewN | apply below_drew1) | exact HB.out)) hb); clear HO539; clear HO544; clear HB; have HO539 := n0_; have HO544 := n1_; have HB := n2_; clear n0_ n1_ n2_; (try clear hb); (try clear hb2); (try clear hk); (try clear hi)) | ((with_reducible refine gate_callee (f := 49) rfl ?_); refine goesL_ (some 24) rfl rfl Tryd.func49 (by kernel_rfl) rfl #[.int .i64 a2] rfl (by (try simp only [List.map_toArray, List.map_cons, List.map_nil]); first | done | rfl | (simp only [List.length_drop, List.length_take]; rfl)) ?_; (with_reducible refine (gutterlaw17_near.calls a2 t546 _ A10.out).mono ?_); rintro e w27 ⟨rfl, hb⟩; refine ⟨_, rfl, ?_⟩; have n0_ := Aside0.mk (Kd.R_below (by (with_reducible repeat (first | apply Kd.R_alloc | apply Kd.R_drewN | apply Kd.R_drew)); exact HO539.out) hb); have n1_ := Aside0.mk (Kd.R_below (by (with_reducible repeat (first | apply Kd.R_alloc | apply Kd.R_drewN | apply Kd.R_drew)); exact HO544.out) hb); have n2_ := Aside0.mk (below_step (by repeat (first | (with_reducible first | exact HB.out | apply below_alloc | apply pw_below_drewN | apply below_drew1) | exact HB.out)) hb); clear HO539; clear HO544; clear HB; have HO539 := n0_; have HO544 := n1_; have HB := n2_; clear n0_ n1_ n2_; (try clear hb); (try clear hb2); (try clear hk); (try clear hi); obtain ⟨Ao28, co28, eo28⟩ := Kd.R_slice HO544.out; subst eo28) | ((with_reducible refine gate_callee (f := 48) rfl ?_); refine goesL_ (some 26) rfl rfl Tryd.func48 (by kernel_rfl) rfl #[.slice Ao28 t542.length co28, .int .i64 (wrap64 (-t545)), .int .i64 (wrap64 (-t546))] rfl (by (try simp only [List.map_toArray, List.map_cons, List.map_nil]); first | done | rfl | (simp only [List.length_drop, List.length_take]; rfl)) ?_; (with_reducible refine (row_Move.calls _ _ t542 (wrap64 (-t545)) (wrap64 (-t546)) t547 _ ?side1 ?side2 A11.out).mono ?_); (case side1 => repeat (first | exact (Kd.R_reads' HO544.out).2.2 | (with_reducible refine Kd.C_alloc ?_ _) | (with_reducible refine Kd.C_drewN ?_ _) | (with_reducible refine Kd.C_drew ?_))); (case side2 => exact (Kd.R_reads' HO544.out).2.1); rintro e w29 ⟨v548, rfl, ho0, hb⟩; refine ⟨_, rfl, ?_⟩; have n0_ := Aside0.mk (Kd.R_elder' (by (with_reducible repeat (first | apply Kd.R_alloc | apply Kd.R_drewN | apply Kd.R_drew)); exact HO539.out) (Kd.R_base ho0) hb); have n1_ := Aside0.mk (Kd.R_elder' (by (with_reducible repeat (first | apply Kd.R_alloc | apply Kd.R_drewN | apply Kd.R_drew)); exact HO544.out) (Kd.R_base ho0) hb); have n2_ := Aside0.mk (Kd.R_lower (Kd.R_new' (Kd.R_new' ho0 (Kd.R_lt (by (with_reducible repeat (first | apply Kd.R_alloc | apply Kd.R_drewN | apply Kd.R_drew)); exact HO539.out))) (Kd.R_lt (by (with_reducible repeat (first | apply Kd.R_alloc | apply Kd.R_drewN | apply Kd.R_drew)); exact HO544.out))) (below_size (by repeat (first | (with_reducible first | exact HB.out | apply below_alloc | apply pw_below_drewN | apply below_drew1) | exact HB.out)))); have n3_ := Aside0.mk (below_step (by repeat (first | (with_reducible first | exact HB.out | apply below_alloc | apply pw_below_drewN | apply below_drew1) | exact HB.out)) hb); clear HO539; clear HO544; clear HB; have HO539 := n0_; have HO544 := n1_; have HO549 := n2_; have HB := n3_; clear n0_ n1_ n2_ n3_; (try clear hb); (try clear hb2); (try clear hk); (try clear hi); (try clear ho0); obtain ⟨Ao30, co30, eo30⟩ := Kd.R_slice HO549.out; subst eo30) | (go_at_call 52; (with_reducible refine (row_Same.calls k _ _ t537 _ _ t547 true _ ?side1 ?side2 ?side3 ?side4 A13.out).mono ?_); (case side1 => repeat (first | exact (Kd.R_reads' HO539.out).2.2 | (with_reducible refine Kd.C_alloc ?_ _) | (with_reducible refine Kd.C_drewN ?_ _) | (with_reducible refine Kd.C_drew ?_))); (case side2 => exact (Kd.R_reads' HO539.out).2.1); (case side3 => repeat (first | exact (Kd.R_reads' HO549.out).2.2 | (with_reducible refine Kd.C_alloc ?_ _) | (with_reducible refine Kd.C_drewN ?_ _) | (with_reducible refine Kd.C_drew ?_))); (case side4 => exact (Kd.R_reads' HO549.out).2.1); rintro e w' ⟨rfl, ⟨nd, rfl⟩⟩) | (go_at_call 49; (with_reducible refine (gutterlaw17_near.calls a1 t551 _ A16.out).mono ?_); rintro e w31 ⟨rfl, hb⟩; have n0_ := Aside0.mk (Kd.R_below (by (with_reducible repeat (first | apply Kd.R_alloc | apply Kd.R_drewN | apply Kd.R_drew)); exact HO539.out) hb); have n1_ := Aside0.mk (Kd.R_below (by (with_reducible repeat (first | apply Kd.R_alloc | apply Kd.R_drewN | apply Kd.R_drew)); exact HO544.out) hb); have n2_ := Aside0.mk (Kd.R_below (by (with_reducible repeat (first | apply Kd.R_alloc | apply Kd.R_drewN | apply Kd.R_drew)); exact HO549.out) hb); have n3_ := Aside0.mk (below_step (by repeat (first | (with_reducible first | exact HB.out | apply below_alloc | apply pw_below_drewN | apply below_drew1) | exact HB.out)) hb); clear HO539; clear HO544; clear HO549; clear HB; have HO539 := n0_; have HO544 := n1_; have HO549 := n2_; have HB := n3_; clear n0_ n1_ n2_ n3_; (try clear hb); (try clear hb2); (try clear hk); (try clear hi)) | (go_at_call 48; (with_reducible refine (row_Move.calls _ _ t537 t551 0 t552 _ ?side1 ?side2 A17.out).mono ?_); (case side1 => repeat (first | exact (Kd.R_reads' HO539.out).2.2 | (with_reducible refine Kd.C_alloc ?_ _) | (with_reducible refine Kd.C_drewN ?_ _) | (with_reducible refine Kd.C_drew ?_))); (case side2 => exact (Kd.R_reads' HO539.out).2.1); rintro e w32 ⟨v553, rfl, ho0, hb⟩; have n0_ := Aside0.mk (Kd.R_elder' (by (with_reducible repeat (first | apply Kd.R_alloc | apply Kd.R_drewN | apply Kd.R_drew)); exact HO539.out) (Kd.R_base ho0) hb); have n1_ := Aside0.mk (Kd.R_elder' (by (with_reducible repeat (first | apply Kd.R_alloc | apply Kd.R_drewN | apply Kd.R_drew)); exact HO544.out) (Kd.R_base ho0) hb); have n2_ := Aside0.mk (Kd.R_elder' (by (with_reducible repeat (first | apply Kd.R_alloc | apply Kd.R_drewN | apply Kd.R_drew)); exact HO549.out) (Kd.R_base ho0) hb); have n3_ := Aside0.mk (Kd.R_lower (Kd.R_new' (Kd.R_new' (Kd.R_new' ho0 (Kd.R_lt (by (with_reducible repeat (first | apply Kd.R_alloc | apply Kd.R_drewN | apply Kd.R_drew)); exact HO539.out))) (Kd.R_lt (by (with_reducible repeat (first | apply Kd.R_alloc | apply Kd.R_drewN | apply Kd.R_drew)); exact HO544.out))) (Kd.R_lt (by (with_reducible repeat (first | apply Kd.R_alloc | apply Kd.R_drewN | apply Kd.R_drew)); exact HO549.out))) (below_size (by repeat (first | (with_reducible first | exact HB.out | apply below_alloc | apply pw_below_drewN | apply below_drew1) | exact HB.out)))); have n4_ := Aside0.mk (below_step (by repeat (first | (with_reducible first | exact HB.out | apply below_alloc | apply pw_below_drewN | apply below_drew1) | exact HB.out)) hb); clear HO539; clear HO544; clear HO549; clear HB; have HO539 := n0_; have HO544 := n1_; have HO549 := n2_; have HO554 := n3_; have HB := n4_; clear n0_ n1_ n2_ n3_ n4_; (try clear hb); (try clear hb2); (try clear hk); (try clear hi); (try clear ho0); obtain ⟨Ao33, co33, eo33⟩ := Kd.R_slice HO554.out; subst eo33) | (go_at_call 44; (with_reducible refine (row_Low.calls k _ _ t552 t555 _ ?side1 ?side2 A18.out).mono ?_); (case side1 => repeat (first | exact (Kd.R_reads' HO554.out).2.2 | (with_reducible refine Kd.C_alloc ?_ _) | (with_reducible refine Kd.C_drewN ?_ _) | (with_reducible refine Kd.C_drew ?_))); (case side2 => exact (Kd.R_reads' HO554.out).2.1); rintro e w34 ⟨rfl, hb⟩; have n0_ := Aside0.mk (Kd.R_below (by (with_reducible repeat (first | apply Kd.R_alloc | apply Kd.R_drewN | apply Kd.R_drew)); exact HO539.out) hb); have n1_ := Aside0.mk (Kd.R_below (by (with_reducible repeat (first | apply Kd.R_alloc | apply Kd.R_drewN | apply Kd.R_drew)); exact HO544.out) hb); have n2_ := Aside0.mk (Kd.R_below (by (with_reducible repeat (first | apply Kd.R_alloc | apply Kd.R_drewN | apply Kd.R_drew)); exact HO549.out) hb); have n3_ := Aside0.mk (Kd.R_below (by (with_reducible repeat (first | apply Kd.R_alloc | apply Kd.R_drewN | apply Kd.R_drew)); exact HO554.out) hb); have n4_ := Aside0.mk (below_step (by repeat (first | (with_reducible first | exact HB.out | apply below_alloc | apply pw_below_drewN | apply below_drew1) | exact HB.out)) hb); clear HO539; clear HO544; clear HO549; clear HO554; clear HB; have HO539 := n0_; have HO544 := n1_; have HO549 := n2_; have HO554 := n3_; have HB := n4_; clear n0_ n1_ n2_ n3_ n4_; (try clear hb); (try clear hb2); (try clear hk); (try clear hi)) | (go_at_call 44; (with_reducible refine (row_Low.calls k _ _ t537 t556 _ ?side1 ?side2 A19.out).mono ?_); (case side1 => repeat (first | exact (Kd.R_reads' HO539.out).2.2 | (with_reducible refine Kd.C_alloc ?_ _) | (with_reducible refine Kd.C_drewN ?_ _) | (with_reducible refine Kd.C_drew ?_))); (case side2 => exact (Kd.R_reads' HO539.out).2.1); rintro e w35 ⟨rfl, hb⟩; have n0_ := Aside0.mk (Kd.R_below (by (with_reducible repeat (first | apply Kd.R_alloc | apply Kd.R_drewN | apply Kd.R_drew)); exact HO539.out) hb); have n1_ := Aside0.mk (Kd.R_below (by (with_reducible repeat (first | apply Kd.R_alloc | apply Kd.R_drewN | apply Kd.R_drew)); exact HO544.out) hb); have n2_ := Aside0.mk (Kd.R_below (by (with_reducible repeat (first | apply Kd.R_alloc | apply Kd.R_drewN | apply Kd.R_drew)); exact HO549.out) hb); have n3_ := Aside0.mk (Kd.R_below (by (with_reducible repeat (first | apply Kd.R_alloc | apply Kd.R_drewN | apply Kd.R_drew)); exact HO554.out) hb); have n4_ := Aside0.mk (below_step (by repeat (first | (with_reducible first | exact HB.out | apply below_alloc | apply pw_below_drewN | apply below_drew1) | exact HB.out)) hb); clear HO539; clear HO544; clear HO549; clear HO554; clear HB; have HO539 := n0_; have HO544 := n1_; have HO549 := n2_; have HO554 := n3_; have HB := n4_; clear n0_ n1_ n2_ n3_ n4_; (try clear hb); (try clear hb2); (try clear hk); (try clear hi)))
        go_ret
        exact ⟨by first | rfl | (simp [errW_none, errW_some] <;> rfl) | (simp [*, errW_none, errW_some] <;> rfl), by repeat (first | (with_reducible first | exact HB.out | apply below_alloc | apply pw_below_drewN | apply below_drew1) | exact HB.out)⟩
      · rw [if_neg c15] at H
        have c15b0 : ((t542.length : Int) == (t537.length : Int)) = false := beq_eq_false_iff_ne.mpr c15
        have c15b1 : ((t542.length : Int) != (t537.length : Int)) = true := bne_iff_ne.mpr c15
        have c15b2 : (t542.length == t537.length) = false := by first | simpa using c15 | (simp at c15 ⊢; omega)
        exact absurd ((Option.some.inj H).trans HTR.out) (by decide)
    · replace c14 := Bool.eq_false_iff.mpr c14
      subst c14
      have H1 : (some false) = some r := by rw [if_neg (show ¬ (false = true) by decide)] at H; exact H
      clear H
      have H := H1
      clear H1
      exact absurd ((Option.some.inj H).trans HTR.out) (by decide)
  · replace c12 := Bool.eq_false_iff.mpr c12
    subst c12
    have H1 : (some false) = some r := by rw [if_neg (show ¬ (false = true) by decide)] at H; exact H
    clear H
    have H := H1
    clear H1
    exact absurd ((Option.some.inj H).trans HTR.out) (by decide)
end Go.Proofs.YtjpifknencfipaaDoor.P
