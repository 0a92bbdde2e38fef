/-  -/
import Derived.Test.YtjpifknencfipaaDoorP
import Derived.Test.YtjpifknencfipaaDoorP47
import Derived.Test.YtjpifknencfipaaDoorP39
import Derived.Test.YtjpifknencfipaaDoorP52
import Derived.Test.YtjpifknencfipaaDoorE50
import Derived.Test.YtjpifknencfipaaDoorP53
set_option linter.unusedVariables false
set_option linter.unusedSimpArgs false
-- by a program (wip/tools: a turned copy of the kit's print): not trusted: Lean checks it
namespace Go.Proofs.YtjpifknencfipaaDoor.P
open Go.RowKit Go.Proofs.YtjpifknencfipaaDoorW.PrintWords Go.Proofs.YtjpifknencfipaaDoorW.PrintLast Go.Proofs.YtjpifknencfipaaDoorW.PrintMore
attribute [local go_sem] max2_int min2_int max_two min_two max_three min_three max_four min_four   -- for this text's walks alone

/-! ### gutterlaw17_RowMoves: function 14 -/
def gutterlaw17_RowMoves.f (k : Nat) (l0 : List (S58)) (l1 : List (S58)) (a2 : Int) (a3 : Int) (a4 : Int) (a5 : Int) : Option (Bool) := (gutterlaw17_shown.f k).bind fun t510 => ((gutterlaw17_Pieces.f k l0).bind fun t511 => ((gutterlaw17_Pieces.f k l1).bind fun t514 => (if t510 = true then ((gutterlaw17_near.f a2).bind fun t518 => ((gutterlaw17_near.f a3).bind fun t519 => ((row_Move.f t511 t518 t519).bind fun t520 => ((gutterlaw17_near.f a2).bind fun t523 => ((gutterlaw17_near.f a3).bind fun t524 => ((gutterref17_Move.f t511 t523 t524).bind fun t525 => ((gutterref17_Same.f k t520 t525).bind fun t528 => (if t528 = true then ((row_Low.f k t511).bind fun t529 => ((gutterref17_Low.f k t511).bind fun t530 => (if t529 = t530 then ((row_Same.f k t511 t514).bind fun t531 => ((gutterref17_Same.f k t511 t514).bind fun t532 => (if (t531 == t532) = true then ((row_Same.f k t511 t511).bind fun t533 => (if t533 = true then ((row_Over.f 0 (mn (mx a4 (-1000)) 1000) ([] : List (S58)) (mn (mx a5 (-1000)) 1000)).bind fun t534 => ((gutterref17_Over.f 0 (mn (mx a4 (-1000)) 1000) ([] : List (S58)) (mn (mx a5 (-1000)) 1000)).bind fun t535 => (some (t534 == t535)))) else (some false))) else (some false)))) else (some false)))) else (some false))))))))) else (some false))))
theorem gutterlaw17_RowMoves.mono : ∀ a0 a1 a2 a3 a4 a5 k, LeO (gutterlaw17_RowMoves.f k a0 a1 a2 a3 a4 a5) (gutterlaw17_RowMoves.f (k + 1) a0 a1 a2 a3 a4 a5) := by
  intro a0 a1 a2 a3 a4 a5 k
  unfold gutterlaw17_RowMoves.f
  repeat' first
      | (with_reducible exact gutterlaw17_Pieces.mono _ _)
      | (with_reducible exact gutterlaw17_shown.mono _)
      | (with_reducible exact gutterref17_Low.mono _ _)
      | (with_reducible exact gutterref17_Same.mono _ _ _)
      | (with_reducible exact row_Low.mono _ _)
      | (with_reducible exact row_Same.mono _ _ _)
      | (with_reducible exact LeO.refl _)
      | (with_reducible exact LeO.none _)
      | (with_reducible refine LeO.ite ?_ ?_)
      | (with_reducible refine LeO.bind ?_ (fun _ => ?_))
      | exact gutterlaw17_Pieces.mono _ _
      | exact gutterlaw17_shown.mono _
      | exact gutterref17_Low.mono _ _
      | exact gutterref17_Same.mono _ _ _
      | exact row_Low.mono _ _
      | exact row_Same.mono _ _ _
      | exact LeO.none _
      | refine LeO.ite ?_ ?_
      | refine LeO.bind ?_ (fun _ => ?_)
def gutterlaw17_RowMoves.T6 : Bool × List (List Nat × List Nat) := (true, [([], []), ([0], [0]), ([1], [1]), ([1], [1]), ([3, 1, 1], [1, 3]), ([1], [1]), ([5, 4, 1], [1, 5]), ([2, 4, 6, 6, 1], [1, 2, 4, 6]), ([1], [1]), ([1], [1]), ([9, 7, 1], [1, 9]), ([1], [1]), ([11, 10, 1], [1, 11]), ([8, 10, 12, 12, 1], [1, 8, 10, 12]), ([7, 13, 13, 1], [1, 7, 13]), ([1, 14], [1, 14]), ([15, 14], [15]), ([16], [16]), ([17, 16, 16], [16, 17]), ([16], [16]), ([19, 18, 16], [16, 19]), ([18, 20, 16], [16, 18, 20]), ([16, 21], [16, 21]), ([22, 20], [22]), ([23], [23]), ([23], [23]), ([24, 25, 23, 23], [23, 24, 25]), ([23], [23]), ([23], [23]), ([27, 28, 26, 23], [23, 27, 28]), ([26, 29, 23], [23, 26, 29]), ([23, 30], [23, 30]), ([31, 29], [31]), ([32], [32]), ([32], [32]), ([33, 34, 32, 32], [32, 33, 34]), ([32, 35], [32, 35]), ([36, 35], [36]), ([37], [37]), ([37], [37]), ([38, 39, 37, 37], [37, 38, 39]), ([37], [37]), ([37], [37]), ([41, 42, 40, 37], [37, 41, 42]), ([40, 43, 37], [37, 40, 43]), ([37, 44], [37, 44]), ([45, 43, 0, 1, 2, 3, 4, 5, 6, 7, 8, 9, 10, 11, 12, 13, 14, 15, 16, 17, 18, 19, 20, 21, 22, 23, 24, 25, 26, 27, 28, 29, 30, 31, 32, 33, 34, 35, 36, 37, 38, 39, 40, 41, 42, 43, 44, 45], [45])])
def gutterlaw17_RowMoves.B6 : List Nat := [0, 1, 3, 3, 11, 3, 59, 127, 3, 3, 767, 3, 3839, 8191, 16383, 32767, 65535, 131071, 262143, 131071, 1048575, 2097151, 4194303, 8388607, 16777215, 16777215, 67108863, 16777215, 16777215, 536870911, 1073741823, 2147483647, 4294967295, 8589934591, 8589934591, 34359738367, 68719476735, 137438953471, 274877906943, 274877906943, 1099511627775, 274877906943, 274877906943, 8796093022207, 17592186044415, 35184372088831, 70368744177663]
theorem gutterlaw17_RowMoves.tab6 : rtab .any (opsOf Tryd.f14 6) = gutterlaw17_RowMoves.T6 := by kernel_rfl
theorem gutterlaw17_RowMoves.bits6 : waitsOk gutterlaw17_RowMoves.T6.2 gutterlaw17_RowMoves.B6 = true := by kernel_rfl
end Go.Proofs.YtjpifknencfipaaDoor.P

-- by a program (wip/tools: a turned copy of the kit's print): not trusted: Lean checks it
namespace Go.Proofs.YtjpifknencfipaaDoor.P
open Go.RowKit Go.Proofs.YtjpifknencfipaaDoorW.PrintWords Go.Proofs.YtjpifknencfipaaDoorW.PrintLast Go.Proofs.YtjpifknencfipaaDoorW.PrintMore
attribute [local go_sem] max2_int min2_int max_two min_two max_three min_three max_four min_four   -- for this text's walks alone

set_option maxHeartbeats 8000000 in
set_option maxRecDepth 100000 in
theorem gutterlaw17_RowMoves.callsT (k : Nat) (A0 : Option Addr) (c0 : Nat) (l0 : List (S58)) (A1 : Option Addr) (c1 : Nat) (l1 : List (S58)) (a2 : Int) (a3 : Int) (a4 : Int) (a5 : Int) (r : Bool) (w : World) (hr0 : Kd.C k58 w A0 l0.length l0) (hc0 : l0.length ≤ c0) (hr1 : Kd.C k58 w A1 l1.length l1) (hc1 : l1.length ≤ c1) (hG : Gl 3 w) (h : gutterlaw17_RowMoves.f k l0 l1 a2 a3 a4 a5 = some r) (ht : r = true) :
    Calls Tryd.prog 14 #[.slice A0 l0.length c0, .slice A1 l1.length c1, .int .i64 a2, .int .i64 a3, .int .i64 a4, .int .i64 a5] w fun e w' => e = .returned (.bool r) ∧ Below w.heap.size w w' := by
  have HTR := Lib.hid ht
  clear ht
  have hu50 := Tryd.underlying50
  have HR0 := Aside0.mk hr0
  have HC0 := Aside0.mk hc0
  clear hr0 hc0
  have HR1 := Aside0.mk hr1
  have HC1 := Aside0.mk hc1
  clear hr1 hc1
  have HG := Aside0.mk hG
  clear hG
  have HB := Aside0.mk (Below.refl w.heap.size w)
  have H : ((gutterlaw17_shown.f k).bind fun t510 => ((gutterlaw17_Pieces.f k l0).bind fun t511 => ((gutterlaw17_Pieces.f k l1).bind fun t514 => (if t510 = true then ((gutterlaw17_near.f a2).bind fun t518 => ((gutterlaw17_near.f a3).bind fun t519 => ((row_Move.f t511 t518 t519).bind fun t520 => ((gutterlaw17_near.f a2).bind fun t523 => ((gutterlaw17_near.f a3).bind fun t524 => ((gutterref17_Move.f t511 t523 t524).bind fun t525 => ((gutterref17_Same.f k t520 t525).bind fun t528 => (if t528 = true then ((row_Low.f k t511).bind fun t529 => ((gutterref17_Low.f k t511).bind fun t530 => (if t529 = t530 then ((row_Same.f k t511 t514).bind fun t531 => ((gutterref17_Same.f k t511 t514).bind fun t532 => (if (t531 == t532) = true then ((row_Same.f k t511 t511).bind fun t533 => (if t533 = true then ((row_Over.f 0 (mn (mx a4 (-1000)) 1000) ([] : List (S58)) (mn (mx a5 (-1000)) 1000)).bind fun t534 => ((gutterref17_Over.f 0 (mn (mx a4 (-1000)) 1000) ([] : List (S58)) (mn (mx a5 (-1000)) 1000)).bind fun t535 => (some (t534 == t535)))) else (some false))) else (some false)))) else (some false)))) else (some false))))))))) else (some false))))) = some r := h
  clear h
  replace H := Option.bind_eq_some_iff.mp H
  obtain ⟨t510, A70, H⟩ := H
  replace H : ((gutterlaw17_Pieces.f k l0).bind fun t511 => ((gutterlaw17_Pieces.f k l1).bind fun t514 => (if t510 = true then ((gutterlaw17_near.f a2).bind fun t518 => ((gutterlaw17_near.f a3).bind fun t519 => ((row_Move.f t511 t518 t519).bind fun t520 => ((gutterlaw17_near.f a2).bind fun t523 => ((gutterlaw17_near.f a3).bind fun t524 => ((gutterref17_Move.f t511 t523 t524).bind fun t525 => ((gutterref17_Same.f k t520 t525).bind fun t528 => (if t528 = true then ((row_Low.f k t511).bind fun t529 => ((gutterref17_Low.f k t511).bind fun t530 => (if t529 = t530 then ((row_Same.f k t511 t514).bind fun t531 => ((gutterref17_Same.f k t511 t514).bind fun t532 => (if (t531 == t532) = true then ((row_Same.f k t511 t511).bind fun t533 => (if t533 = true then ((row_Over.f 0 (mn (mx a4 (-1000)) 1000) ([] : List (S58)) (mn (mx a5 (-1000)) 1000)).bind fun t534 => ((gutterref17_Over.f 0 (mn (mx a4 (-1000)) 1000) ([] : List (S58)) (mn (mx a5 (-1000)) 1000)).bind fun t535 => (some (t534 == t535)))) else (some false))) else (some false)))) else (some false)))) else (some false))))))))) else (some false)))) = some r := H
  have A7 := Aside0.mk A70
  clear A70
  replace H := Option.bind_eq_some_iff.mp H
  obtain ⟨t511, A80, H⟩ := H
  replace H : ((gutterlaw17_Pieces.f k l1).bind fun t514 => (if t510 = true then ((gutterlaw17_near.f a2).bind fun t518 => ((gutterlaw17_near.f a3).bind fun t519 => ((row_Move.f t511 t518 t519).bind fun t520 => ((gutterlaw17_near.f a2).bind fun t523 => ((gutterlaw17_near.f a3).bind fun t524 => ((gutterref17_Move.f t511 t523 t524).bind fun t525 => ((gutterref17_Same.f k t520 t525).bind fun t528 => (if t528 = true then ((row_Low.f k t511).bind fun t529 => ((gutterref17_Low.f k t511).bind fun t530 => (if t529 = t530 then ((row_Same.f k t511 t514).bind fun t531 => ((gutterref17_Same.f k t511 t514).bind fun t532 => (if (t531 == t532) = true then ((row_Same.f k t511 t511).bind fun t533 => (if t533 = true then ((row_Over.f 0 (mn (mx a4 (-1000)) 1000) ([] : List (S58)) (mn (mx a5 (-1000)) 1000)).bind fun t534 => ((gutterref17_Over.f 0 (mn (mx a4 (-1000)) 1000) ([] : List (S58)) (mn (mx a5 (-1000)) 1000)).bind fun t535 => (some (t534 == t535)))) else (some false))) else (some false)))) else (some false)))) else (some false))))))))) else (some false))) = some r := H
  have A8 := Aside0.mk A80
  clear A80
  replace H := Option.bind_eq_some_iff.mp H
  obtain ⟨t514, A90, H⟩ := H
  replace H : (if t510 = true then ((gutterlaw17_near.f a2).bind fun t518 => ((gutterlaw17_near.f a3).bind fun t519 => ((row_Move.f t511 t518 t519).bind fun t520 => ((gutterlaw17_near.f a2).bind fun t523 => ((gutterlaw17_near.f a3).bind fun t524 => ((gutterref17_Move.f t511 t523 t524).bind fun t525 => ((gutterref17_Same.f k t520 t525).bind fun t528 => (if t528 = true then ((row_Low.f k t511).bind fun t529 => ((gutterref17_Low.f k t511).bind fun t530 => (if t529 = t530 then ((row_Same.f k t511 t514).bind fun t531 => ((gutterref17_Same.f k t511 t514).bind fun t532 => (if (t531 == t532) = true then ((row_Same.f k t511 t511).bind fun t533 => (if t533 = true then ((row_Over.f 0 (mn (mx a4 (-1000)) 1000) ([] : List (S58)) (mn (mx a5 (-1000)) 1000)).bind fun t534 => ((gutterref17_Over.f 0 (mn (mx a4 (-1000)) 1000) ([] : List (S58)) (mn (mx a5 (-1000)) 1000)).bind fun t535 => (some (t534 == t535)))) else (some false))) else (some false)))) else (some false)))) else (some false))))))))) else (some false)) = some r := H
  have A9 := Aside0.mk A90
  clear A90
  obtain ⟨ji10, hji10⟩ : ∃ j_ : Int, (mx a4 (-1000)) = j_ := ⟨_, rfl⟩
  replace H : (if t510 = true then ((gutterlaw17_near.f a2).bind fun t518 => ((gutterlaw17_near.f a3).bind fun t519 => ((row_Move.f t511 t518 t519).bind fun t520 => ((gutterlaw17_near.f a2).bind fun t523 => ((gutterlaw17_near.f a3).bind fun t524 => ((gutterref17_Move.f t511 t523 t524).bind fun t525 => ((gutterref17_Same.f k t520 t525).bind fun t528 => (if t528 = true then ((row_Low.f k t511).bind fun t529 => ((gutterref17_Low.f k t511).bind fun t530 => (if t529 = t530 then ((row_Same.f k t511 t514).bind fun t531 => ((gutterref17_Same.f k t511 t514).bind fun t532 => (if (t531 == t532) = true then ((row_Same.f k t511 t511).bind fun t533 => (if t533 = true then ((row_Over.f 0 (mn (ji10) 1000) ([] : List (S58)) (mn (mx a5 (-1000)) 1000)).bind fun t534 => ((gutterref17_Over.f 0 (mn (ji10) 1000) ([] : List (S58)) (mn (mx a5 (-1000)) 1000)).bind fun t535 => (some (t534 == t535)))) else (some false))) else (some false)))) else (some false)))) else (some false))))))))) else (some false)) = some r := by first | (rw [hji10] at H; exact H) | (simp only [hji10] at H ⊢; exact H)
  (try rw [hji10] at A7)
  (try rw [hji10] at A8)
  (try rw [hji10] at A9)
  have hji10_ : (if a4 < (-1000) then (-1000) else a4) = ji10 := hji10
  obtain ⟨ji11, hji11⟩ : ∃ j_ : Int, (mn (ji10) 1000) = j_ := ⟨_, rfl⟩
  replace H : (if t510 = true then ((gutterlaw17_near.f a2).bind fun t518 => ((gutterlaw17_near.f a3).bind fun t519 => ((row_Move.f t511 t518 t519).bind fun t520 => ((gutterlaw17_near.f a2).bind fun t523 => ((gutterlaw17_near.f a3).bind fun t524 => ((gutterref17_Move.f t511 t523 t524).bind fun t525 => ((gutterref17_Same.f k t520 t525).bind fun t528 => (if t528 = true then ((row_Low.f k t511).bind fun t529 => ((gutterref17_Low.f k t511).bind fun t530 => (if t529 = t530 then ((row_Same.f k t511 t514).bind fun t531 => ((gutterref17_Same.f k t511 t514).bind fun t532 => (if (t531 == t532) = true then ((row_Same.f k t511 t511).bind fun t533 => (if t533 = true then ((row_Over.f 0 (ji11) ([] : List (S58)) (mn (mx a5 (-1000)) 1000)).bind fun t534 => ((gutterref17_Over.f 0 (ji11) ([] : List (S58)) (mn (mx a5 (-1000)) 1000)).bind fun t535 => (some (t534 == t535)))) else (some false))) else (some false)))) else (some false)))) else (some false))))))))) else (some false)) = some r := by first | (rw [hji11] at H; exact H) | (simp only [hji11] at H ⊢; exact H)
  (try rw [hji11] at A7)
  (try rw [hji11] at A8)
  (try rw [hji11] at A9)
  have hji11_ : (if 1000 < (ji10) then 1000 else (ji10)) = ji11 := hji11
  obtain ⟨ji12, hji12⟩ : ∃ j_ : Int, (mx a5 (-1000)) = j_ := ⟨_, rfl⟩
  replace H : (if t510 = true then ((gutterlaw17_near.f a2).bind fun t518 => ((gutterlaw17_near.f a3).bind fun t519 => ((row_Move.f t511 t518 t519).bind fun t520 => ((gutterlaw17_near.f a2).bind fun t523 => ((gutterlaw17_near.f a3).bind fun t524 => ((gutterref17_Move.f t511 t523 t524).bind fun t525 => ((gutterref17_Same.f k t520 t525).bind fun t528 => (if t528 = true then ((row_Low.f k t511).bind fun t529 => ((gutterref17_Low.f k t511).bind fun t530 => (if t529 = t530 then ((row_Same.f k t511 t514).bind fun t531 => ((gutterref17_Same.f k t511 t514).bind fun t532 => (if (t531 == t532) = true then ((row_Same.f k t511 t511).bind fun t533 => (if t533 = true then ((row_Over.f 0 (ji11) ([] : List (S58)) (mn (ji12) 1000)).bind fun t534 => ((gutterref17_Over.f 0 (ji11) ([] : List (S58)) (mn (ji12) 1000)).bind fun t535 => (some (t534 == t535)))) else (some false))) else (some false)))) else (some false)))) else (some false))))))))) else (some false)) = some r := by first | (rw [hji12] at H; exact H) | (simp only [hji12] at H ⊢; exact H)
  (try rw [hji12] at A7)
  (try rw [hji12] at A8)
  (try rw [hji12] at A9)
  have hji12_ : (if a5 < (-1000) then (-1000) else a5) = ji12 := hji12
  obtain ⟨ji13, hji13⟩ : ∃ j_ : Int, (mn (ji12) 1000) = j_ := ⟨_, rfl⟩
  replace H : (if t510 = true then ((gutterlaw17_near.f a2).bind fun t518 => ((gutterlaw17_near.f a3).bind fun t519 => ((row_Move.f t511 t518 t519).bind fun t520 => ((gutterlaw17_near.f a2).bind fun t523 => ((gutterlaw17_near.f a3).bind fun t524 => ((gutterref17_Move.f t511 t523 t524).bind fun t525 => ((gutterref17_Same.f k t520 t525).bind fun t528 => (if t528 = true then ((row_Low.f k t511).bind fun t529 => ((gutterref17_Low.f k t511).bind fun t530 => (if t529 = t530 then ((row_Same.f k t511 t514).bind fun t531 => ((gutterref17_Same.f k t511 t514).bind fun t532 => (if (t531 == t532) = true then ((row_Same.f k t511 t511).bind fun t533 => (if t533 = true then ((row_Over.f 0 (ji11) ([] : List (S58)) (ji13)).bind fun t534 => ((gutterref17_Over.f 0 (ji11) ([] : List (S58)) (ji13)).bind fun t535 => (some (t534 == t535)))) else (some false))) else (some false)))) else (some false)))) else (some false))))))))) else (some false)) = some r := by first | (rw [hji13] at H; exact H) | (simp only [hji13] at H ⊢; exact H)
  (try rw [hji13] at A7)
  (try rw [hji13] at A8)
  (try rw [hji13] at A9)
  have hji13_ : (if 1000 < (ji12) then 1000 else (ji12)) = ji13 := hji13
  by_cases c14 : t510 = true
  · subst c14
    have H1 : ((gutterlaw17_near.f a2).bind fun t518 => ((gutterlaw17_near.f a3).bind fun t519 => ((row_Move.f t511 t518 t519).bind fun t520 => ((gutterlaw17_near.f a2).bind fun t523 => ((gutterlaw17_near.f a3).bind fun t524 => ((gutterref17_Move.f t511 t523 t524).bind fun t525 => ((gutterref17_Same.f k t520 t525).bind fun t528 => (if t528 = true then ((row_Low.f k t511).bind fun t529 => ((gutterref17_Low.f k t511).bind fun t530 => (if t529 = t530 then ((row_Same.f k t511 t514).bind fun t531 => ((gutterref17_Same.f k t511 t514).bind fun t532 => (if (t531 == t532) = true then ((row_Same.f k t511 t511).bind fun t533 => (if t533 = true then ((row_Over.f 0 (ji11) ([] : List (S58)) (ji13)).bind fun t534 => ((gutterref17_Over.f 0 (ji11) ([] : List (S58)) (ji13)).bind fun t535 => (some (t534 == t535)))) else (some false))) else (some false)))) else (some false)))) else (some false))))))))) = some r := by rw [if_pos rfl] at H; exact H
    clear H
    have H := H1
    clear H1
    replace H := Option.bind_eq_some_iff.mp H
    obtain ⟨t518, A150, H⟩ := H
    replace H : ((gutterlaw17_near.f a3).bind fun t519 => ((row_Move.f t511 t518 t519).bind fun t520 => ((gutterlaw17_near.f a2).bind fun t523 => ((gutterlaw17_near.f a3).bind fun t524 => ((gutterref17_Move.f t511 t523 t524).bind fun t525 => ((gutterref17_Same.f k t520 t525).bind fun t528 => (if t528 = true then ((row_Low.f k t511).bind fun t529 => ((gutterref17_Low.f k t511).bind fun t530 => (if t529 = t530 then ((row_Same.f k t511 t514).bind fun t531 => ((gutterref17_Same.f k t511 t514).bind fun t532 => (if (t531 == t532) = true then ((row_Same.f k t511 t511).bind fun t533 => (if t533 = true then ((row_Over.f 0 (ji11) ([] : List (S58)) (ji13)).bind fun t534 => ((gutterref17_Over.f 0 (ji11) ([] : List (S58)) (ji13)).bind fun t535 => (some (t534 == t535)))) else (some false))) else (some false)))) else (some false)))) else (some false)))))))) = some r := H
    have A15 := Aside0.mk A150
    clear A150
    replace H := Option.bind_eq_some_iff.mp H
    obtain ⟨t519, A160, H⟩ := H
    replace H : ((row_Move.f t511 t518 t519).bind fun t520 => ((gutterlaw17_near.f a2).bind fun t523 => ((gutterlaw17_near.f a3).bind fun t524 => ((gutterref17_Move.f t511 t523 t524).bind fun t525 => ((gutterref17_Same.f k t520 t525).bind fun t528 => (if t528 = true then ((row_Low.f k t511).bind fun t529 => ((gutterref17_Low.f k t511).bind fun t530 => (if t529 = t530 then ((row_Same.f k t511 t514).bind fun t531 => ((gutterref17_Same.f k t511 t514).bind fun t532 => (if (t531 == t532) = true then ((row_Same.f k t511 t511).bind fun t533 => (if t533 = true then ((row_Over.f 0 (ji11) ([] : List (S58)) (ji13)).bind fun t534 => ((gutterref17_Over.f 0 (ji11) ([] : List (S58)) (ji13)).bind fun t535 => (some (t534 == t535)))) else (some false))) else (some false)))) else (some false)))) else (some false))))))) = some r := H
    have A16 := Aside0.mk A160
    clear A160
    replace H := Option.bind_eq_some_iff.mp H
    obtain ⟨t520, A170, H⟩ := H
    replace H : ((gutterlaw17_near.f a2).bind fun t523 => ((gutterlaw17_near.f a3).bind fun t524 => ((gutterref17_Move.f t511 t523 t524).bind fun t525 => ((gutterref17_Same.f k t520 t525).bind fun t528 => (if t528 = true then ((row_Low.f k t511).bind fun t529 => ((gutterref17_Low.f k t511).bind fun t530 => (if t529 = t530 then ((row_Same.f k t511 t514).bind fun t531 => ((gutterref17_Same.f k t511 t514).bind fun t532 => (if (t531 == t532) = true then ((row_Same.f k t511 t511).bind fun t533 => (if t533 = true then ((row_Over.f 0 (ji11) ([] : List (S58)) (ji13)).bind fun t534 => ((gutterref17_Over.f 0 (ji11) ([] : List (S58)) (ji13)).bind fun t535 => (some (t534 == t535)))) else (some false))) else (some false)))) else (some false)))) else (some false)))))) = some r := H
    have A17 := Aside0.mk A170
    clear A170
    replace H := Option.bind_eq_some_iff.mp H
    obtain ⟨t523, A180, H⟩ := H
    replace H : ((gutterlaw17_near.f a3).bind fun t524 => ((gutterref17_Move.f t511 t523 t524).bind fun t525 => ((gutterref17_Same.f k t520 t525).bind fun t528 => (if t528 = true then ((row_Low.f k t511).bind fun t529 => ((gutterref17_Low.f k t511).bind fun t530 => (if t529 = t530 then ((row_Same.f k t511 t514).bind fun t531 => ((gutterref17_Same.f k t511 t514).bind fun t532 => (if (t531 == t532) = true then ((row_Same.f k t511 t511).bind fun t533 => (if t533 = true then ((row_Over.f 0 (ji11) ([] : List (S58)) (ji13)).bind fun t534 => ((gutterref17_Over.f 0 (ji11) ([] : List (S58)) (ji13)).bind fun t535 => (some (t534 == t535)))) else (some false))) else (some false)))) else (some false)))) else (some false))))) = some r := H
    have A18 := Aside0.mk A180
    clear A180
    replace H := Option.bind_eq_some_iff.mp H
    obtain ⟨t524, A190, H⟩ := H
    replace H : ((gutterref17_Move.f t511 t523 t524).bind fun t525 => ((gutterref17_Same.f k t520 t525).bind fun t528 => (if t528 = true then ((row_Low.f k t511).bind fun t529 => ((gutterref17_Low.f k t511).bind fun t530 => (if t529 = t530 then ((row_Same.f k t511 t514).bind fun t531 => ((gutterref17_Same.f k t511 t514).bind fun t532 => (if (t531 == t532) = true then ((row_Same.f k t511 t511).bind fun t533 => (if t533 = true then ((row_Over.f 0 (ji11) ([] : List (S58)) (ji13)).bind fun t534 => ((gutterref17_Over.f 0 (ji11) ([] : List (S58)) (ji13)).bind fun t535 => (some (t534 == t535)))) else (some false))) else (some false)))) else (some false)))) else (some false)))) = some r := H
    have A19 := Aside0.mk A190
    clear A190
    replace H := Option.bind_eq_some_iff.mp H
    obtain ⟨t525, A200, H⟩ := H
    replace H : ((gutterref17_Same.f k t520 t525).bind fun t528 => (if t528 = true then ((row_Low.f k t511).bind fun t529 => ((gutterref17_Low.f k t511).bind fun t530 => (if t529 = t530 then ((row_Same.f k t511 t514).bind fun t531 => ((gutterref17_Same.f k t511 t514).bind fun t532 => (if (t531 == t532) = true then ((row_Same.f k t511 t511).bind fun t533 => (if t533 = true then ((row_Over.f 0 (ji11) ([] : List (S58)) (ji13)).bind fun t534 => ((gutterref17_Over.f 0 (ji11) ([] : List (S58)) (ji13)).bind fun t535 => (some (t534 == t535)))) else (some false))) else (some false)))) else (some false)))) else (some false))) = some r := H
    have A20 := Aside0.mk A200
    clear A200
    replace H := Option.bind_eq_some_iff.mp H
    obtain ⟨t528, A210, H⟩ := H
    replace H : (if t528 = true then ((row_Low.f k t511).bind fun t529 => ((gutterref17_Low.f k t511).bind fun t530 => (if t529 = t530 then ((row_Same.f k t511 t514).bind fun t531 => ((gutterref17_Same.f k t511 t514).bind fun t532 => (if (t531 == t532) = true then ((row_Same.f k t511 t511).bind fun t533 => (if t533 = true then ((row_Over.f 0 (ji11) ([] : List (S58)) (ji13)).bind fun t534 => ((gutterref17_Over.f 0 (ji11) ([] : List (S58)) (ji13)).bind fun t535 => (some (t534 == t535)))) else (some false))) else (some false)))) else (some false)))) else (some false)) = some r := H
    have A21 := Aside0.mk A210
    clear A210
    by_cases c22 : t528 = true
    · subst c22
      have H1 : ((row_Low.f k t511).bind fun t529 => ((gutterref17_Low.f k t511).bind fun t530 => (if t529 = t530 then ((row_Same.f k t511 t514).bind fun t531 => ((gutterref17_Same.f k t511 t514).bind fun t532 => (if (t531 == t532) = true then ((row_Same.f k t511 t511).bind fun t533 => (if t533 = true then ((row_Over.f 0 (ji11) ([] : List (S58)) (ji13)).bind fun t534 => ((gutterref17_Over.f 0 (ji11) ([] : List (S58)) (ji13)).bind fun t535 => (some (t534 == t535)))) else (some false))) else (some false)))) else (some false)))) = some r := by rw [if_pos rfl] at H; exact H
      clear H
      have H := H1
      clear H1
      replace H := Option.bind_eq_some_iff.mp H
      obtain ⟨t529, A230, H⟩ := H
      replace H : ((gutterref17_Low.f k t511).bind fun t530 => (if t529 = t530 then ((row_Same.f k t511 t514).bind fun t531 => ((gutterref17_Same.f k t511 t514).bind fun t532 => (if (t531 == t532) = true then ((row_Same.f k t511 t511).bind fun t533 => (if t533 = true then ((row_Over.f 0 (ji11) ([] : List (S58)) (ji13)).bind fun t534 => ((gutterref17_Over.f 0 (ji11) ([] : List (S58)) (ji13)).bind fun t535 => (some (t534 == t535)))) else (some false))) else (some false)))) else (some false))) = some r := H
      have A23 := Aside0.mk A230
      clear A230
      replace H := Option.bind_eq_some_iff.mp H
      obtain ⟨t530, A240, H⟩ := H
      replace H : (if t529 = t530 then ((row_Same.f k t511 t514).bind fun t531 => ((gutterref17_Same.f k t511 t514).bind fun t532 => (if (t531 == t532) = true then ((row_Same.f k t511 t511).bind fun t533 => (if t533 = true then ((row_Over.f 0 (ji11) ([] : List (S58)) (ji13)).bind fun t534 => ((gutterref17_Over.f 0 (ji11) ([] : List (S58)) (ji13)).bind fun t535 => (some (t534 == t535)))) else (some false))) else (some false)))) else (some false)) = some r := H
      have A24 := Aside0.mk A240
      clear A240
      by_cases c25 : t529 = t530
      · rw [if_pos c25] at H
        have c25b0 : (t529 == t530) = true := beq_iff_eq.mpr c25
        have c25b1 : (t529 != t530) = false := bne_eq_false_iff_eq.mpr c25
        clear c25
        replace H := Option.bind_eq_some_iff.mp H
        obtain ⟨t531, A260, H⟩ := H
        replace H : ((gutterref17_Same.f k t511 t514).bind fun t532 => (if (t531 == t532) = true then ((row_Same.f k t511 t511).bind fun t533 => (if t533 = true then ((row_Over.f 0 (ji11) ([] : List (S58)) (ji13)).bind fun t534 => ((gutterref17_Over.f 0 (ji11) ([] : List (S58)) (ji13)).bind fun t535 => (some (t534 == t535)))) else (some false))) else (some false))) = some r := H
        have A26 := Aside0.mk A260
        clear A260
        replace H := Option.bind_eq_some_iff.mp H
        obtain ⟨t532, A270, H⟩ := H
        replace H : (if (t531 == t532) = true then ((row_Same.f k t511 t511).bind fun t533 => (if t533 = true then ((row_Over.f 0 (ji11) ([] : List (S58)) (ji13)).bind fun t534 => ((gutterref17_Over.f 0 (ji11) ([] : List (S58)) (ji13)).bind fun t535 => (some (t534 == t535)))) else (some false))) else (some false)) = some r := H
        have A27 := Aside0.mk A270
        clear A270
        by_cases c28 : (t531 == t532) = true
        · rw [if_pos c28] at H
          have c28b0 : (t531 == t532) = true := c28
          (try (have c28b1 : decide (t531 = t532) = true := by simpa using c28))
          (try (have c28b2 : (t531 == t532) = true := by simpa using c28))
          clear c28
          replace H := Option.bind_eq_some_iff.mp H
          obtain ⟨t533, A290, H⟩ := H
          replace H : (if t533 = true then ((row_Over.f 0 (ji11) ([] : List (S58)) (ji13)).bind fun t534 => ((gutterref17_Over.f 0 (ji11) ([] : List (S58)) (ji13)).bind fun t535 => (some (t534 == t535)))) else (some false)) = some r := H
          have A29 := Aside0.mk A290
          clear A290
          by_cases c30 : t533 = true
          · subst c30
            have H1 : ((row_Over.f 0 (ji11) ([] : List (S58)) (ji13)).bind fun t534 => ((gutterref17_Over.f 0 (ji11) ([] : List (S58)) (ji13)).bind fun t535 => (some (t534 == t535)))) = some r := by rw [if_pos rfl] at H; exact H
            clear H
            have H := H1
            clear H1
            replace H := Option.bind_eq_some_iff.mp H
            obtain ⟨t534, A310, H⟩ := H
            replace H : ((gutterref17_Over.f 0 (ji11) ([] : List (S58)) (ji13)).bind fun t535 => (some (t534 == t535))) = some r := H
            have A31 := Aside0.mk A310
            clear A310
            replace H := Option.bind_eq_some_iff.mp H
            obtain ⟨t535, A320, H⟩ := H
            replace H : (some (t534 == t535)) = some r := H
            have A32 := Aside0.mk A320
            clear A320
            obtain rfl := Option.some.inj H
            go_enter Tryd.func14, Tryd.ntmps14
            try go_wp2_with (first | ((with_reducible refine gate_callee (f := 39) rfl ?_); refine goesL_ (some 15) rfl rfl Tryd.func39 (by kernel_rfl) rfl #[] rfl (by (try simp only [List.map_toArray, List.map_cons, List.map_nil]); first | done | rfl | (simp only [List.length_drop, List.length_take]; rfl)) ?_; (with_reducible refine (gutterlaw17_shown.calls k  true _ ?side1 A7.out).mono ?_); (case side1 => exact (Gl.of_below HG.out (by repeat (first | (with_reducible first | exact HB.out | apply below_alloc | apply pw_below_drewN | apply below_drew1) | exact HB.out))).le (by decide)); rintro e w33 ⟨rfl, hb⟩; refine ⟨_, rfl, ?_⟩; have n0_ := Aside0.mk (below_step (by repeat (first | (with_reducible first | exact HB.out | apply below_alloc | apply pw_below_drewN | apply below_drew1) | exact HB.out)) hb); clear HB; have HB := n0_; clear n0_; (try clear hb); (try clear hb2); (try clear hk); (try clear hi)) | ((with_reducible refine gate_callee (f := 46) rfl ?_); refine goesL_ (some 17) rfl rfl Tryd.func46 (by kernel_rfl) rfl #[.slice A0 l0.length c0] rfl (by (try simp only [List.map_toArray, List.map_cons, List.map_nil]); first | done | rfl | (simp only [List.length_drop, List.length_take]; rfl)) ?_; (with_reducible refine (gutterlaw17_Pieces.calls k _ _ l0 t511 _ ?side1 ?side2 A8.out).mono ?_); (case side1 => repeat (first | exact (Kd.C_below HR0.out HB.out) | (with_reducible refine Kd.C_alloc ?_ _) | (with_reducible refine Kd.C_drewN ?_ _) | (with_reducible refine Kd.C_drew ?_))); (case side2 => exact HC0.out); rintro e w34 ⟨v512, rfl, ho0, hb⟩; refine ⟨_, rfl, ?_⟩; have n0_ := Aside0.mk (Kd.R_lower ho0 (below_size (by repeat (first | (with_reducible first | exact HB.out | apply below_alloc | apply pw_below_drewN | apply below_drew1) | exact HB.out)))); have n1_ := Aside0.mk (below_step (by repeat (first | (with_reducible first | exact HB.out | apply below_alloc | apply pw_below_drewN | apply below_drew1) | exact HB.out)) hb); clear HB; have HO513 := n0_; have HB := n1_; clear n0_ n1_; (try clear hb); (try clear hb2); (try clear hk); (try clear hi); (try clear ho0)) | ((with_reducible refine gate_callee (f := 46) rfl ?_); refine goesL_ (some 19) rfl rfl Tryd.func46 (by kernel_rfl) rfl #[.slice A1 l1.length c1] rfl (by (try simp only [List.map_toArray, List.map_cons, List.map_nil]); first | done | rfl | (simp only [List.length_drop, List.length_take]; rfl)) ?_; (with_reducible refine (gutterlaw17_Pieces.calls k _ _ l1 t514 _ ?side1 ?side2 A9.out).mono ?_); (case side1 => repeat (first | exact (Kd.C_below HR1.out HB.out) | (with_reducible refine Kd.C_alloc ?_ _) | (with_reducible refine Kd.C_drewN ?_ _) | (with_reducible refine Kd.C_drew ?_))); (case side2 => exact HC1.out); rintro e w35 ⟨v515, rfl, ho0, hb⟩; refine ⟨_, rfl, ?_⟩; have n0_ := Aside0.mk (Kd.R_elder' (by (with_reducible repeat (first | apply Kd.R_alloc | apply Kd.R_drewN | apply Kd.R_drew)); exact HO513.out) (Kd.R_base ho0) hb); have n1_ := Aside0.mk (Kd.R_lower (Kd.R_new' ho0 (Kd.R_lt (by (with_reducible repeat (first | apply Kd.R_alloc | apply Kd.R_drewN | apply Kd.R_drew)); exact HO513.out))) (below_size (by repeat (first | (with_reducible first | exact HB.out | apply below_alloc | apply pw_below_drewN | apply below_drew1) | exact HB.out)))); have n2_ := Aside0.mk (below_step (by repeat (first | (with_reducible first | exact HB.out | apply below_alloc | apply pw_below_drewN | apply below_drew1) | exact HB.out)) hb); clear HO513; clear HB; have HO513 := n0_; have HO516 := n1_; have HB := n2_; clear n0_ n1_ n2_; (try clear hb); (try clear hb2); (try clear hk); (try clear hi); (try clear ho0)) | ((with_reducible refine gate_dst (N := 14) rfl ?_); refine box_event ?hg (N := 14) ?hd (cs := #[.int .i64 0, .int .i64 0, .slice none 0 0]) (t := 50) ?hr ?_; (case hd => rfl); (case hg => rfl); (case hr => first | (go_simp; done) | (go_simp; rfl)); intro gb517 hg w36 hbox hb; have n0_ := Aside0.mk (Kd.R_below (by (with_reducible repeat (first | apply Kd.R_alloc | apply Kd.R_drewN | apply Kd.R_drew)); exact HO513.out) hb); have n1_ := Aside0.mk (Kd.R_below (by (with_reducible repeat (first | apply Kd.R_alloc | apply Kd.R_drewN | apply Kd.R_drew)); exact HO516.out) hb); have n2_ := Aside0.mk (below_step (by repeat (first | (with_reducible first | exact HB.out | apply below_alloc | apply pw_below_drewN | apply below_drew1) | exact HB.out)) hb); have n3_ := Aside0.mk (hbox); have n4_ := Aside0.mk ((by rw [hg]; exact (below_size (by repeat (first | (with_reducible first | exact HB.out | apply below_alloc | apply pw_below_drewN | apply below_drew1) | exact HB.out))) : w.heap.size ≤ gb517)); have n5_ := Aside0.mk ((by rw [hg]; exact (below_size (by repeat (first | (with_reducible first | exact HB.out | apply below_alloc | apply pw_below_drewN | apply below_drew1) | exact HB.out))) : w.heap.size ≤ gb517)); clear HO513; clear HO516; clear HB; have HO513 := n0_; have HO516 := n1_; have HB := n2_; have BK517 := n3_; have GW517 := n4_; have GE517 := n5_; clear n0_ n1_ n2_ n3_ n4_ n5_; clear hb hbox hg; have hcz37_0 : w36.cell? ⟨gb517, 0, none⟩ = some (.int .i64 0) := (blk_cell BK517.out 0).trans rfl; have hcz37_1 : w36.cell? ⟨gb517, 1, none⟩ = some (.int .i64 0) := (blk_cell BK517.out 1).trans rfl; have hcz37_2 : w36.cell? ⟨gb517, 2, none⟩ = some (.slice none 0 0) := (blk_cell BK517.out 2).trans rfl; have hfz37_0 := blk_frozen BK517.out 0; have hfz37_1 := blk_frozen BK517.out 1; have hfz37_2 := blk_frozen BK517.out 2))
            have n0_ : Aside0 (Kd.R k58 58 (((w36.setCell ⟨gb517, 0, none⟩ (.int .i64 0)).setCell ⟨gb517, 1, none⟩ (.int .i64 ji11)).setCell ⟨gb517, 2, none⟩ (.slice none 0 0)) w.heap.size (fun k_ => some k_ ≠ (v515 : Value).ownBlock) v512 t511) := ⟨by (with_reducible repeat (first | apply Kd.R_alloc | apply Kd.R_drewN | apply Kd.R_drew)); exact Kd.R_mono (Kd.R_far (p := ⟨gb517, 2, none⟩) (Kd.R_far (p := ⟨gb517, 1, none⟩) (Kd.R_far (p := ⟨gb517, 0, none⟩) (Kd.R_types HO513.out BK517.out (by decide)) (fun _ hk => hk.2) (.int .i64 0)) (fun _ hk => hk.2) (.int .i64 ji11)) (fun _ hk => hk.2) (.slice none 0 0)) (fun _ hk => hk.1.2)⟩
            have n1_ : Aside0 (Kd.R k58 58 (((w36.setCell ⟨gb517, 0, none⟩ (.int .i64 0)).setCell ⟨gb517, 1, none⟩ (.int .i64 ji11)).setCell ⟨gb517, 2, none⟩ (.slice none 0 0)) w.heap.size (fun k_ => some k_ ≠ (v512 : Value).ownBlock) v515 t514) := ⟨by (with_reducible repeat (first | apply Kd.R_alloc | apply Kd.R_drewN | apply Kd.R_drew)); exact Kd.R_mono (Kd.R_far (p := ⟨gb517, 2, none⟩) (Kd.R_far (p := ⟨gb517, 1, none⟩) (Kd.R_far (p := ⟨gb517, 0, none⟩) (Kd.R_types HO516.out BK517.out (by decide)) (fun _ hk => hk.2) (.int .i64 0)) (fun _ hk => hk.2) (.int .i64 ji11)) (fun _ hk => hk.2) (.slice none 0 0)) (fun _ hk => hk.1.2)⟩
            have n2_ : Aside0 ((((w36.setCell ⟨gb517, 0, none⟩ (.int .i64 0)).setCell ⟨gb517, 1, none⟩ (.int .i64 ji11)).setCell ⟨gb517, 2, none⟩ (.slice none 0 0)).heap[gb517]? = some (.cells #[.int .i64 0, .int .i64 ji11, .slice none 0 0] 50 (0, 0))) := ⟨by (with_reducible repeat (first | refine blk_drewN ?_ _ | refine blk_drew ?_ | refine blk_alloc ?_ _)); refine blk_put (cs := #[.int .i64 0, .int .i64 ji11, .slice none 0 0]) ?_ 2 _ rfl; (with_reducible repeat (first | refine blk_drewN ?_ _ | refine blk_drew ?_ | refine blk_alloc ?_ _)); refine blk_put (cs := #[.int .i64 0, .int .i64 0, .slice none 0 0]) ?_ 1 _ rfl; (with_reducible repeat (first | refine blk_drewN ?_ _ | refine blk_drew ?_ | refine blk_alloc ?_ _)); refine blk_put (cs := #[.int .i64 0, .int .i64 0, .slice none 0 0]) ?_ 0 _ rfl; (with_reducible repeat (first | refine blk_drewN ?_ _ | refine blk_drew ?_ | refine blk_alloc ?_ _)); exact BK517.out⟩
            have n3_ : Aside0 (Below w.heap.size w (((w36.setCell ⟨gb517, 0, none⟩ (.int .i64 0)).setCell ⟨gb517, 1, none⟩ (.int .i64 ji11)).setCell ⟨gb517, 2, none⟩ (.slice none 0 0))) := ⟨by repeat (first | (with_reducible first | exact HB.out | apply below_alloc | apply pw_below_drewN | apply below_drew1 | refine below_set ?_ GE517.out) | exact HB.out)⟩
            (try clear HO513)
            (try clear HO516)
            (try clear BK517)
            (try clear HB)
            generalize (((w36.setCell ⟨gb517, 0, none⟩ (.int .i64 0)).setCell ⟨gb517, 1, none⟩ (.int .i64 ji11)).setCell ⟨gb517, 2, none⟩ (.slice none 0 0)) = w38 at n0_ n1_ n2_ n3_ ⊢
            have HO513 := n0_
            have HO516 := n1_
            have BK517 := n2_
            have HB := n3_
            clear n0_ n1_ n2_ n3_
            have n0_ := Aside0.mk (Kd.R_drew HO513.out)
            have n1_ := Aside0.mk (Kd.R_drew HO516.out)
            have n2_ := Aside0.mk (blk_drew BK517.out)
            have n3_ := Aside0.mk (below_drew1 HB.out)
            clear HO513
            clear HO516
            clear BK517
            clear HB
            have HO513 := n0_
            have HO516 := n1_
            have BK517 := n2_
            have HB := n3_
            clear n0_ n1_ n2_ n3_
            refine start_ (n := 47) (S := fun w' => w'.cell? ⟨gb517, 0, none⟩ = some (.int .i64 0) ∧ w'.cell? ⟨gb517, 1, none⟩ = some (.int .i64 ji11) ∧ w'.cell? ⟨gb517, 2, none⟩ = some (.slice none 0 0)) (ds := []) #[false, false, false, false, false, false, false, false, false, false, false, false, false, false, false, false, false, false, false, false, false, false, false, false, false, false, false, false, false, false, false, false, false, false, false, false, false, false, false, false, false, false, false, false, false, false, false] (by kernel_rfl) rfl rfl ⟨(blk_cell BK517.out 0).trans rfl, (blk_cell BK517.out 1).trans rfl, (blk_cell BK517.out 2).trans rfl⟩ (fun hHeld => ?_); refine with_tabW gutterlaw17_RowMoves.tab6 gutterlaw17_RowMoves.bits6 (fun HT_ HW_ => ?_)
            generalize w38.drew = w39 at HO513 HO516 BK517 HB hHeld ⊢
            refine pure_ (i := 0) (N := some 27) (v := ?_) (a' := ?_) #[true, false, false, false, false, false, false, false, false, false, false, false, false, false, false, false, false, false, false, false, false, false, false, false, false, false, false, false, false, false, false, false, false, false, false, false, false, false, false, false, false, false, false, false, false, false, false] rfl rfl (any_of HT_.out (by kernel_rfl)) (fun _ _ _ h => h) (Or.inl ⟨by rfl, ?_⟩) ?_ ?_
            rotate_left
            · intro w'
              go_simp
              with_reducible rfl
            rotate_left
            · simp only [Act.put, List.setIfInBounds_toArray, List.set_cons_zero, List.set_cons_succ, i64_w, i32_w]
              rfl
            refine pure_ (i := 1) (N := some 28) (v := ?_) (a' := ?_) #[true, true, false, false, false, false, false, false, false, false, false, false, false, false, false, false, false, false, false, false, false, false, false, false, false, false, false, false, false, false, false, false, false, false, false, false, false, false, false, false, false, false, false, false, false, false, false] rfl rfl (any_of HT_.out (by kernel_rfl)) (fun _ _ _ h => h) (Or.inl ⟨by rfl, ?_⟩) ?_ ?_
            rotate_left
            · intro w'
              go_simp
              with_reducible rfl
            rotate_left
            · simp only [Act.put, List.setIfInBounds_toArray, List.set_cons_zero, List.set_cons_succ, i64_w, i32_w]
              rfl
            refine pure_ (i := 2) (N := some 29) (v := ?_) (a' := ?_) #[true, true, true, false, false, false, false, false, false, false, false, false, false, false, false, false, false, false, false, false, false, false, false, false, false, false, false, false, false, false, false, false, false, false, false, false, false, false, false, false, false, false, false, false, false, false, false] rfl rfl (any_of HT_.out (by kernel_rfl)) (fun _ _ _ h => h) (Or.inl ⟨by rfl, ?_⟩) ?_ ?_
            rotate_left
            · intro w'
              go_simp
              with_reducible rfl
            rotate_left
            · simp only [Act.put, List.setIfInBounds_toArray, List.set_cons_zero, List.set_cons_succ, i64_w, i32_w]
              rfl
            refine pure_ (i := 3) (N := some 30) (v := ?_) (a' := ?_) #[true, true, true, true, false, false, false, false, false, false, false, false, false, false, false, false, false, false, false, false, false, false, false, false, false, false, false, false, false, false, false, false, false, false, false, false, false, false, false, false, false, false, false, false, false, false, false] rfl rfl (any_of HT_.out (by kernel_rfl)) (fun _ _ _ h => h) (Or.inl ⟨by rfl, ?_⟩) ?_ ?_
            rotate_left
            · intro w'
              go_simp
              with_reducible rfl
            rotate_left
            · simp only [Act.put, List.setIfInBounds_toArray, List.set_cons_zero, List.set_cons_succ, i64_w, i32_w]
              rfl
            refine pure_ (i := 5) (N := some 32) (v := ?_) (a' := ?_) #[true, true, true, true, false, true, false, false, false, false, false, false, false, false, false, false, false, false, false, false, false, false, false, false, false, false, false, false, false, false, false, false, false, false, false, false, false, false, false, false, false, false, false, false, false, false, false] rfl rfl (any_of HT_.out (by kernel_rfl)) (fun _ _ _ h => h) (Or.inl ⟨by rfl, ?_⟩) ?_ ?_
            rotate_left
            · intro w'
              go_simp
              with_reducible rfl
            rotate_left
            · simp only [Act.put, List.setIfInBounds_toArray, List.set_cons_zero, List.set_cons_succ, i64_w, i32_w]
              rfl
            refine pure_ (i := 8) (N := some 35) (v := ?_) (a' := ?_) #[true, true, true, true, false, true, false, false, true, false, false, false, false, false, false, false, false, false, false, false, false, false, false, false, false, false, false, false, false, false, false, false, false, false, false, false, false, false, false, false, false, false, false, false, false, false, false] rfl rfl (any_of HT_.out (by kernel_rfl)) (fun _ _ _ h => h) (Or.inl ⟨by rfl, ?_⟩) ?_ ?_
            rotate_left
            · intro w'
              go_simp
              with_reducible rfl
            rotate_left
            · simp only [Act.put, List.setIfInBounds_toArray, List.set_cons_zero, List.set_cons_succ, i64_w, i32_w]
              rfl
            refine pure_ (i := 9) (N := some 36) (v := ?_) (a' := ?_) #[true, true, true, true, false, true, false, false, true, true, false, false, false, false, false, false, false, false, false, false, false, false, false, false, false, false, false, false, false, false, false, false, false, false, false, false, false, false, false, false, false, false, false, false, false, false, false] rfl rfl (any_of HT_.out (by kernel_rfl)) (fun _ _ _ h => h) (Or.inl ⟨by rfl, ?_⟩) ?_ ?_
            rotate_left
            · intro w'
              go_simp
              with_reducible rfl
            rotate_left
            · simp only [Act.put, List.setIfInBounds_toArray, List.set_cons_zero, List.set_cons_succ, i64_w, i32_w]
              rfl
            refine pure_ (i := 11) (N := some 38) (v := ?_) (a' := ?_) #[true, true, true, true, false, true, false, false, true, true, false, true, false, false, false, false, false, false, false, false, false, false, false, false, false, false, false, false, false, false, false, false, false, false, false, false, false, false, false, false, false, false, false, false, false, false, false] rfl rfl (any_of HT_.out (by kernel_rfl)) (fun _ _ _ h => h) (Or.inl ⟨by rfl, ?_⟩) ?_ ?_
            rotate_left
            · intro w'
              go_simp
              with_reducible rfl
            rotate_left
            · simp only [Act.put, List.setIfInBounds_toArray, List.set_cons_zero, List.set_cons_succ, i64_w, i32_w]
              rfl
            refine one_ (i := 4) (N := some 31) #[true, true, true, true, true, true, false, false, true, true, false, true, false, false, false, false, false, false, false, false, false, false, false, false, false, false, false, false, false, false, false, false, false, false, false, false, false, false, false, false, false, false, false, false, false, false, false] rfl rfl (one_of HT_.out (by kernel_rfl)) (by decide) (fun K hK => ?_)
            refine goes_ Tryd.func49 (by kernel_rfl) rfl #[.int .i64 a2] (by rfl) rfl rfl (by (try simp only [List.map_toArray, List.map_cons, List.map_nil]); first | done | rfl | (simp only [List.length_drop, List.length_take]; rfl)) ?_
            with_reducible refine (gutterlaw17_near.calls a2 t518 _ A15.out).mono ?_
            rintro e w40 ⟨rfl, hb⟩
            refine ⟨_, rfl, ?_⟩
            have n0_ := Aside0.mk (Kd.R_below (by (with_reducible repeat (first | apply Kd.R_alloc | apply Kd.R_drewN | apply Kd.R_drew)); exact HO513.out) hb)
            have n1_ := Aside0.mk (Kd.R_below (by (with_reducible repeat (first | apply Kd.R_alloc | apply Kd.R_drewN | apply Kd.R_drew)); exact HO516.out) hb)
            have n2_ := Aside0.mk (blk_below (g := gb517) (o := .cells #[.int .i64 0, .int .i64 ji11, .slice none 0 0] 50 (0, 0)) (by (with_reducible repeat (first | refine blk_drewN ?_ _ | refine blk_drew ?_ | refine blk_alloc ?_ _)); exact BK517.out) hb)
            have n3_ := Aside0.mk (below_step (by repeat (first | (with_reducible first | exact HB.out | apply below_alloc | apply pw_below_drewN | apply below_drew1 | refine below_set ?_ GE517.out) | exact HB.out)) hb)
            clear HO513
            clear HO516
            clear BK517
            clear HB
            have HO513 := n0_
            have HO516 := n1_
            have BK517 := n2_
            have HB := n3_
            clear n0_ n1_ n2_ n3_
            (try clear hb)
            (try clear hb2)
            (try clear hk)
            (try clear hi)
            refine hK.out _ _ ⟨(blk_cell BK517.out 0).trans rfl, (blk_cell BK517.out 1).trans rfl, (blk_cell BK517.out 2).trans rfl⟩ (fun hHeld => ?_)
            clear hK K
            refine norm_ (a' := ?_) ?_ ?_
            rotate_left
            · show Act.put _ (some 31) _ = _
              simp only [Act.put, List.setIfInBounds_toArray, List.set_cons_zero, List.set_cons_succ, i64_w, i32_w]
              rfl
            refine one_ (i := 6) (N := some 33) #[true, true, true, true, true, true, true, false, true, true, false, true, false, false, false, false, false, false, false, false, false, false, false, false, false, false, false, false, false, false, false, false, false, false, false, false, false, false, false, false, false, false, false, false, false, false, false] rfl rfl (one_of HT_.out (by kernel_rfl)) (by decide) (fun K hK => ?_)
            refine goes_ Tryd.func49 (by kernel_rfl) rfl #[.int .i64 a3] (by rfl) rfl rfl (by (try simp only [List.map_toArray, List.map_cons, List.map_nil]); first | done | rfl | (simp only [List.length_drop, List.length_take]; rfl)) ?_
            with_reducible refine (gutterlaw17_near.calls a3 t519 _ A16.out).mono ?_
            rintro e w41 ⟨rfl, hb⟩
            refine ⟨_, rfl, ?_⟩
            have n0_ := Aside0.mk (Kd.R_below (by (with_reducible repeat (first | apply Kd.R_alloc | apply Kd.R_drewN | apply Kd.R_drew)); exact HO513.out) hb)
            have n1_ := Aside0.mk (Kd.R_below (by (with_reducible repeat (first | apply Kd.R_alloc | apply Kd.R_drewN | apply Kd.R_drew)); exact HO516.out) hb)
            have n2_ := Aside0.mk (blk_below (g := gb517) (o := .cells #[.int .i64 0, .int .i64 ji11, .slice none 0 0] 50 (0, 0)) (by (with_reducible repeat (first | refine blk_drewN ?_ _ | refine blk_drew ?_ | refine blk_alloc ?_ _)); exact BK517.out) hb)
            have n3_ := Aside0.mk (below_step (by repeat (first | (with_reducible first | exact HB.out | apply below_alloc | apply pw_below_drewN | apply below_drew1 | refine below_set ?_ GE517.out) | exact HB.out)) hb)
            clear HO513
            clear HO516
            clear BK517
            clear HB
            have HO513 := n0_
            have HO516 := n1_
            have BK517 := n2_
            have HB := n3_
            clear n0_ n1_ n2_ n3_
            (try clear hb)
            (try clear hb2)
            (try clear hk)
            (try clear hi)
            obtain ⟨Ao42, co42, eo42⟩ := Kd.R_slice HO513.out
            (first | subst eo42 | (injection eo42 with f1_ f2_ f3_; have f4_ := f1_.symm; have f5_ := f3_.symm; clear f1_ f2_ f3_; subst f4_; subst f5_))
            refine hK.out _ _ ⟨(blk_cell BK517.out 0).trans rfl, (blk_cell BK517.out 1).trans rfl, (blk_cell BK517.out 2).trans rfl⟩ (fun hHeld => ?_)
            clear hK K
            refine norm_ (a' := ?_) ?_ ?_
            rotate_left
            · show Act.put _ (some 33) _ = _
              simp only [Act.put, List.setIfInBounds_toArray, List.set_cons_zero, List.set_cons_succ, i64_w, i32_w]
              rfl
            refine one_ (i := 7) (N := some 34) #[true, true, true, true, true, true, true, true, true, true, false, true, false, false, false, false, false, false, false, false, false, false, false, false, false, false, false, false, false, false, false, false, false, false, false, false, false, false, false, false, false, false, false, false, false, false, false] rfl rfl (one_of HT_.out (by kernel_rfl)) (by decide) (fun K hK => ?_)
            refine goes_ Tryd.func48 (by kernel_rfl) rfl #[.slice Ao42 t511.length co42, .int .i64 t518, .int .i64 t519] (by rfl) rfl rfl (by (try simp only [List.map_toArray, List.map_cons, List.map_nil]); first | done | rfl | (simp only [List.length_drop, List.length_take]; rfl)) ?_
            with_reducible refine (row_Move.calls _ _ t511 t518 t519 t520 _ ?side1 ?side2 A17.out).mono ?_
            (case side1 => repeat (first | exact (Kd.R_reads' HO513.out).2.2 | (with_reducible refine Kd.C_alloc ?_ _) | (with_reducible refine Kd.C_drewN ?_ _) | (with_reducible refine Kd.C_drew ?_)))
            (case side2 => exact (Kd.R_reads' HO513.out).2.1)
            rintro e w43 ⟨v521, rfl, ho0, hb⟩
            refine ⟨_, rfl, ?_⟩
            have n0_ := Aside0.mk (Kd.R_elder' (by (with_reducible repeat (first | apply Kd.R_alloc | apply Kd.R_drewN | apply Kd.R_drew)); exact HO513.out) (Kd.R_base ho0) hb)
            have n1_ := Aside0.mk (Kd.R_elder' (by (with_reducible repeat (first | apply Kd.R_alloc | apply Kd.R_drewN | apply Kd.R_drew)); exact HO516.out) (Kd.R_base ho0) hb)
            have n2_ := Aside0.mk (Kd.R_lower (Kd.R_new' (Kd.R_new' ho0 (Kd.R_lt (by (with_reducible repeat (first | apply Kd.R_alloc | apply Kd.R_drewN | apply Kd.R_drew)); exact HO513.out))) (Kd.R_lt (by (with_reducible repeat (first | apply Kd.R_alloc | apply Kd.R_drewN | apply Kd.R_drew)); exact HO516.out))) (below_size (by repeat (first | (with_reducible first | exact HB.out | apply below_alloc | apply pw_below_drewN | apply below_drew1 | refine below_set ?_ GE517.out) | exact HB.out))))
            have n3_ := Aside0.mk (blk_below (g := gb517) (o := .cells #[.int .i64 0, .int .i64 ji11, .slice none 0 0] 50 (0, 0)) (by (with_reducible repeat (first | refine blk_drewN ?_ _ | refine blk_drew ?_ | refine blk_alloc ?_ _)); exact BK517.out) hb)
            have n4_ := Aside0.mk (below_step (by repeat (first | (with_reducible first | exact HB.out | apply below_alloc | apply pw_below_drewN | apply below_drew1 | refine below_set ?_ GE517.out) | exact HB.out)) hb)
            clear HO513
            clear HO516
            clear BK517
            clear HB
            have HO513 := n0_
            have HO516 := n1_
            have HO522 := n2_
            have BK517 := n3_
            have HB := n4_
            clear n0_ n1_ n2_ n3_ n4_
            (try clear hb)
            (try clear hb2)
            (try clear hk)
            (try clear hi)
            (try clear ho0)
            refine hK.out _ _ ⟨(blk_cell BK517.out 0).trans rfl, (blk_cell BK517.out 1).trans rfl, (blk_cell BK517.out 2).trans rfl⟩ (fun hHeld => ?_)
            clear hK K
            refine norm_ (a' := ?_) ?_ ?_
            rotate_left
            · show Act.put _ (some 34) _ = _
              simp only [Act.put, List.setIfInBounds_toArray, List.set_cons_zero, List.set_cons_succ, i64_w, i32_w]
              rfl
            refine one_ (i := 10) (N := some 37) #[true, true, true, true, true, true, true, true, true, true, true, true, false, false, false, false, false, false, false, false, false, false, false, false, false, false, false, false, false, false, false, false, false, false, false, false, false, false, false, false, false, false, false, false, false, false, false] rfl rfl (one_of HT_.out (by kernel_rfl)) (by decide) (fun K hK => ?_)
            refine goes_ Tryd.func49 (by kernel_rfl) rfl #[.int .i64 a2] (by rfl) rfl rfl (by (try simp only [List.map_toArray, List.map_cons, List.map_nil]); first | done | rfl | (simp only [List.length_drop, List.length_take]; rfl)) ?_
            with_reducible refine (gutterlaw17_near.calls a2 t523 _ A18.out).mono ?_
            rintro e w44 ⟨rfl, hb⟩
            refine ⟨_, rfl, ?_⟩
            have n0_ := Aside0.mk (Kd.R_below (by (with_reducible repeat (first | apply Kd.R_alloc | apply Kd.R_drewN | apply Kd.R_drew)); exact HO513.out) hb)
            have n1_ := Aside0.mk (Kd.R_below (by (with_reducible repeat (first | apply Kd.R_alloc | apply Kd.R_drewN | apply Kd.R_drew)); exact HO516.out) hb)
            have n2_ := Aside0.mk (Kd.R_below (by (with_reducible repeat (first | apply Kd.R_alloc | apply Kd.R_drewN | apply Kd.R_drew)); exact HO522.out) hb)
            have n3_ := Aside0.mk (blk_below (g := gb517) (o := .cells #[.int .i64 0, .int .i64 ji11, .slice none 0 0] 50 (0, 0)) (by (with_reducible repeat (first | refine blk_drewN ?_ _ | refine blk_drew ?_ | refine blk_alloc ?_ _)); exact BK517.out) hb)
            have n4_ := Aside0.mk (below_step (by repeat (first | (with_reducible first | exact HB.out | apply below_alloc | apply pw_below_drewN | apply below_drew1 | refine below_set ?_ GE517.out) | exact HB.out)) hb)
            clear HO513
            clear HO516
            clear HO522
            clear BK517
            clear HB
            have HO513 := n0_
            have HO516 := n1_
            have HO522 := n2_
            have BK517 := n3_
            have HB := n4_
            clear n0_ n1_ n2_ n3_ n4_
            (try clear hb)
            (try clear hb2)
            (try clear hk)
            (try clear hi)
            refine hK.out _ _ ⟨(blk_cell BK517.out 0).trans rfl, (blk_cell BK517.out 1).trans rfl, (blk_cell BK517.out 2).trans rfl⟩ (fun hHeld => ?_)
            clear hK K
            refine norm_ (a' := ?_) ?_ ?_
            rotate_left
            · show Act.put _ (some 37) _ = _
              simp only [Act.put, List.setIfInBounds_toArray, List.set_cons_zero, List.set_cons_succ, i64_w, i32_w]
              rfl
            refine one_ (i := 12) (N := some 39) #[true, true, true, true, true, true, true, true, true, true, true, true, true, false, false, false, false, false, false, false, false, false, false, false, false, false, false, false, false, false, false, false, false, false, false, false, false, false, false, false, false, false, false, false, false, false, false] rfl rfl (one_of HT_.out (by kernel_rfl)) (by decide) (fun K hK => ?_)
            refine goes_ Tryd.func49 (by kernel_rfl) rfl #[.int .i64 a3] (by rfl) rfl rfl (by (try simp only [List.map_toArray, List.map_cons, List.map_nil]); first | done | rfl | (simp only [List.length_drop, List.length_take]; rfl)) ?_
            with_reducible refine (gutterlaw17_near.calls a3 t524 _ A19.out).mono ?_
            rintro e w45 ⟨rfl, hb⟩
            refine ⟨_, rfl, ?_⟩
            have n0_ := Aside0.mk (Kd.R_below (by (with_reducible repeat (first | apply Kd.R_alloc | apply Kd.R_drewN | apply Kd.R_drew)); exact HO513.out) hb)
            have n1_ := Aside0.mk (Kd.R_below (by (with_reducible repeat (first | apply Kd.R_alloc | apply Kd.R_drewN | apply Kd.R_drew)); exact HO516.out) hb)
            have n2_ := Aside0.mk (Kd.R_below (by (with_reducible repeat (first | apply Kd.R_alloc | apply Kd.R_drewN | apply Kd.R_drew)); exact HO522.out) hb)
            have n3_ := Aside0.mk (blk_below (g := gb517) (o := .cells #[.int .i64 0, .int .i64 ji11, .slice none 0 0] 50 (0, 0)) (by (with_reducible repeat (first | refine blk_drewN ?_ _ | refine blk_drew ?_ | refine blk_alloc ?_ _)); exact BK517.out) hb)
            have n4_ := Aside0.mk (below_step (by repeat (first | (with_reducible first | exact HB.out | apply below_alloc | apply pw_below_drewN | apply below_drew1 | refine below_set ?_ GE517.out) | exact HB.out)) hb)
            clear HO513
            clear HO516
            clear HO522
            clear BK517
            clear HB
            have HO513 := n0_
            have HO516 := n1_
            have HO522 := n2_
            have BK517 := n3_
            have HB := n4_
            clear n0_ n1_ n2_ n3_ n4_
            (try clear hb)
            (try clear hb2)
            (try clear hk)
            (try clear hi)
            refine hK.out _ _ ⟨(blk_cell BK517.out 0).trans rfl, (blk_cell BK517.out 1).trans rfl, (blk_cell BK517.out 2).trans rfl⟩ (fun hHeld => ?_)
            clear hK K
            refine norm_ (a' := ?_) ?_ ?_
            rotate_left
            · show Act.put _ (some 39) _ = _
              simp only [Act.put, List.setIfInBounds_toArray, List.set_cons_zero, List.set_cons_succ, i64_w, i32_w]
              rfl
            refine one_ (i := 13) (N := some 40) #[true, true, true, true, true, true, true, true, true, true, true, true, true, true, false, false, false, false, false, false, false, false, false, false, false, false, false, false, false, false, false, false, false, false, false, false, false, false, false, false, false, false, false, false, false, false, false] rfl rfl (one_of HT_.out (by kernel_rfl)) (by decide) (fun K hK => ?_)
            refine goes_ Tryd.func50 (by kernel_rfl) rfl #[.slice Ao42 t511.length co42, .int .i64 t523, .int .i64 t524] (by rfl) rfl rfl (by (try simp only [List.map_toArray, List.map_cons, List.map_nil]); first | done | rfl | (simp only [List.length_drop, List.length_take]; rfl)) ?_
            with_reducible refine (gutterref17_Move.calls _ _ t511 t523 t524 t525 _ ?side1 ?side2 A20.out).mono ?_
            (case side1 => repeat (first | exact (Kd.R_reads' HO513.out).2.2 | (with_reducible refine Kd.C_alloc ?_ _) | (with_reducible refine Kd.C_drewN ?_ _) | (with_reducible refine Kd.C_drew ?_)))
            (case side2 => exact (Kd.R_reads' HO513.out).2.1)
            rintro e w46 ⟨v526, rfl, ho0, hb⟩
            refine ⟨_, rfl, ?_⟩
            have n0_ := Aside0.mk (Kd.R_elder' (by (with_reducible repeat (first | apply Kd.R_alloc | apply Kd.R_drewN | apply Kd.R_drew)); exact HO513.out) (Kd.R_base ho0) hb)
            have n1_ := Aside0.mk (Kd.R_elder' (by (with_reducible repeat (first | apply Kd.R_alloc | apply Kd.R_drewN | apply Kd.R_drew)); exact HO516.out) (Kd.R_base ho0) hb)
            have n2_ := Aside0.mk (Kd.R_elder' (by (with_reducible repeat (first | apply Kd.R_alloc | apply Kd.R_drewN | apply Kd.R_drew)); exact HO522.out) (Kd.R_base ho0) hb)
            have n3_ := Aside0.mk (Kd.R_lower (Kd.R_new' (Kd.R_new' (Kd.R_new' ho0 (Kd.R_lt (by (with_reducible repeat (first | apply Kd.R_alloc | apply Kd.R_drewN | apply Kd.R_drew)); exact HO513.out))) (Kd.R_lt (by (with_reducible repeat (first | apply Kd.R_alloc | apply Kd.R_drewN | apply Kd.R_drew)); exact HO516.out))) (Kd.R_lt (by (with_reducible repeat (first | apply Kd.R_alloc | apply Kd.R_drewN | apply Kd.R_drew)); exact HO522.out))) (below_size (by repeat (first | (with_reducible first | exact HB.out | apply below_alloc | apply pw_below_drewN | apply below_drew1 | refine below_set ?_ GE517.out) | exact HB.out))))
            have n4_ := Aside0.mk (blk_below (g := gb517) (o := .cells #[.int .i64 0, .int .i64 ji11, .slice none 0 0] 50 (0, 0)) (by (with_reducible repeat (first | refine blk_drewN ?_ _ | refine blk_drew ?_ | refine blk_alloc ?_ _)); exact BK517.out) hb)
            have n5_ := Aside0.mk (below_step (by repeat (first | (with_reducible first | exact HB.out | apply below_alloc | apply pw_below_drewN | apply below_drew1 | refine below_set ?_ GE517.out) | exact HB.out)) hb)
            clear HO513
            clear HO516
            clear HO522
            clear BK517
            clear HB
            have HO513 := n0_
            have HO516 := n1_
            have HO522 := n2_
            have HO527 := n3_
            have BK517 := n4_
            have HB := n5_
            clear n0_ n1_ n2_ n3_ n4_ n5_
            (try clear hb)
            (try clear hb2)
            (try clear hk)
            (try clear hi)
            (try clear ho0)
            obtain ⟨Ao47, co47, eo47⟩ := Kd.R_slice HO522.out
            (first | subst eo47 | (injection eo47 with f1_ f2_ f3_; have f4_ := f1_.symm; have f5_ := f3_.symm; clear f1_ f2_ f3_; subst f4_; subst f5_))
            obtain ⟨Ao48, co48, eo48⟩ := Kd.R_slice HO527.out
            (first | subst eo48 | (injection eo48 with f1_ f2_ f3_; have f4_ := f1_.symm; have f5_ := f3_.symm; clear f1_ f2_ f3_; subst f4_; subst f5_))
            refine hK.out _ _ ⟨(blk_cell BK517.out 0).trans rfl, (blk_cell BK517.out 1).trans rfl, (blk_cell BK517.out 2).trans rfl⟩ (fun hHeld => ?_)
            clear hK K
            refine norm_ (a' := ?_) ?_ ?_
            rotate_left
            · show Act.put _ (some 40) _ = _
              simp only [Act.put, List.setIfInBounds_toArray, List.set_cons_zero, List.set_cons_succ, i64_w, i32_w]
              rfl
            refine one_ (i := 14) (N := some 41) #[true, true, true, true, true, true, true, true, true, true, true, true, true, true, true, false, false, false, false, false, false, false, false, false, false, false, false, false, false, false, false, false, false, false, false, false, false, false, false, false, false, false, false, false, false, false, false] rfl rfl (one_of HT_.out (by kernel_rfl)) (by decide) (fun K hK => ?_)
            refine goes_ Tryd.func47 (by kernel_rfl) rfl #[.slice Ao47 t520.length co47, .slice Ao48 t525.length co48] (by rfl) rfl rfl (by (try simp only [List.map_toArray, List.map_cons, List.map_nil]); first | done | rfl | (simp only [List.length_drop, List.length_take]; rfl)) ?_
            with_reducible refine (gutterref17_Same.calls k _ _ t520 _ _ t525 true _ ?side1 ?side2 ?side3 ?side4 A21.out).mono ?_
            (case side1 => repeat (first | exact (Kd.R_reads' HO522.out).2.2 | (with_reducible refine Kd.C_alloc ?_ _) | (with_reducible refine Kd.C_drewN ?_ _) | (with_reducible refine Kd.C_drew ?_)))
            (case side2 => exact (Kd.R_reads' HO522.out).2.1)
            (case side3 => repeat (first | exact (Kd.R_reads' HO527.out).2.2 | (with_reducible refine Kd.C_alloc ?_ _) | (with_reducible refine Kd.C_drewN ?_ _) | (with_reducible refine Kd.C_drew ?_)))
            (case side4 => exact (Kd.R_reads' HO527.out).2.1)
            rintro e w' ⟨rfl, ⟨nd, rfl⟩⟩
            refine ⟨_, rfl, ?_⟩
            refine hK.out _ _ ⟨(blk_cell BK517.out 0).trans rfl, (blk_cell BK517.out 1).trans rfl, (blk_cell BK517.out 2).trans rfl⟩ (fun hHeld => ?_)
            clear hK K
            refine norm_ (a' := ?_) ?_ ?_
            rotate_left
            · show Act.put _ (some 41) _ = _
              simp only [Act.put, List.setIfInBounds_toArray, List.set_cons_zero, List.set_cons_succ, i64_w, i32_w]
              rfl
            refine pure_ (i := 15) (N := some 42) (v := ?_) (a' := ?_) #[true, true, true, true, true, true, true, true, true, true, true, true, true, true, true, true, false, false, false, false, false, false, false, false, false, false, false, false, false, false, false, false, false, false, false, false, false, false, false, false, false, false, false, false, false, false, false] rfl rfl (any_of HT_.out (by kernel_rfl)) (fun _ _ _ h => h) (Or.inl ⟨by rfl, ?_⟩) ?_ ?_
            rotate_left
            · intro w'
              go_simp
              with_reducible rfl
            rotate_left
            · simp only [Act.put, List.setIfInBounds_toArray, List.set_cons_zero, List.set_cons_succ, i64_w, i32_w]
              rfl
            refine pure_ (i := 16) (N := some 43) (v := ?_) (a' := ?_) #[true, true, true, true, true, true, true, true, true, true, true, true, true, true, true, true, true, false, false, false, false, false, false, false, false, false, false, false, false, false, false, false, false, false, false, false, false, false, false, false, false, false, false, false, false, false, false] rfl rfl (any_of HT_.out (by kernel_rfl)) (fun _ _ _ h => h) (Or.inl ⟨by rfl, ?_⟩) ?_ ?_
            rotate_left
            · intro w'
              go_simp
              with_reducible rfl
            rotate_left
            · simp only [Act.put, List.setIfInBounds_toArray, List.set_cons_zero, List.set_cons_succ, i64_w, i32_w]
              rfl
            refine pure_ (i := 17) (N := some 44) (v := ?_) (a' := ?_) #[true, true, true, true, true, true, true, true, true, true, true, true, true, true, true, true, true, true, false, false, false, false, false, false, false, false, false, false, false, false, false, false, false, false, false, false, false, false, false, false, false, false, false, false, false, false, false] rfl rfl (any_of HT_.out (by kernel_rfl)) (fun _ _ _ h => h) (Or.inl ⟨by rfl, ?_⟩) ?_ ?_
            rotate_left
            · intro w'
              go_simp
              with_reducible rfl
            rotate_left
            · simp only [Act.put, List.setIfInBounds_toArray, List.set_cons_zero, List.set_cons_succ, i64_w, i32_w]
              rfl
            refine pure_ (i := 19) (N := some 46) (v := ?_) (a' := ?_) #[true, true, true, true, true, true, true, true, true, true, true, true, true, true, true, true, true, true, false, true, false, false, false, false, false, false, false, false, false, false, false, false, false, false, false, false, false, false, false, false, false, false, false, false, false, false, false] rfl rfl (any_of HT_.out (by kernel_rfl)) (fun _ _ _ h => h) (Or.inl ⟨by rfl, ?_⟩) ?_ ?_
            rotate_left
            · intro w'
              go_simp
              with_reducible rfl
            rotate_left
            · simp only [Act.put, List.setIfInBounds_toArray, List.set_cons_zero, List.set_cons_succ, i64_w, i32_w]
              rfl
            refine one_ (i := 18) (N := some 45) #[true, true, true, true, true, true, true, true, true, true, true, true, true, true, true, true, true, true, true, true, false, false, false, false, false, false, false, false, false, false, false, false, false, false, false, false, false, false, false, false, false, false, false, false, false, false, false] rfl rfl (one_of HT_.out (by kernel_rfl)) (by decide) (fun K hK => ?_)
            refine goes_ Tryd.func44 (by kernel_rfl) rfl #[.slice Ao42 t511.length co42] (by rfl) rfl rfl (by (try simp only [List.map_toArray, List.map_cons, List.map_nil]); first | done | rfl | (simp only [List.length_drop, List.length_take]; rfl)) ?_
            with_reducible refine (row_Low.calls k _ _ t511 t529 _ ?side1 ?side2 A23.out).mono ?_
            (case side1 => repeat (first | exact (Kd.R_reads' HO513.out).2.2 | (with_reducible refine Kd.C_alloc ?_ _) | (with_reducible refine Kd.C_drewN ?_ _) | (with_reducible refine Kd.C_drew ?_)))
            (case side2 => exact (Kd.R_reads' HO513.out).2.1)
            rintro e w49 ⟨rfl, hb⟩
            refine ⟨_, rfl, ?_⟩
            have n0_ := Aside0.mk (Kd.R_below (by (with_reducible repeat (first | apply Kd.R_alloc | apply Kd.R_drewN | apply Kd.R_drew)); exact HO513.out) hb)
            have n1_ := Aside0.mk (Kd.R_below (by (with_reducible repeat (first | apply Kd.R_alloc | apply Kd.R_drewN | apply Kd.R_drew)); exact HO516.out) hb)
            have n2_ := Aside0.mk (Kd.R_below (by (with_reducible repeat (first | apply Kd.R_alloc | apply Kd.R_drewN | apply Kd.R_drew)); exact HO522.out) hb)
            have n3_ := Aside0.mk (Kd.R_below (by (with_reducible repeat (first | apply Kd.R_alloc | apply Kd.R_drewN | apply Kd.R_drew)); exact HO527.out) hb)
            have n4_ := Aside0.mk (blk_below (g := gb517) (o := .cells #[.int .i64 0, .int .i64 ji11, .slice none 0 0] 50 (0, 0)) (by (with_reducible repeat (first | refine blk_drewN ?_ _ | refine blk_drew ?_ | refine blk_alloc ?_ _)); exact BK517.out) hb)
            have n5_ := Aside0.mk (below_step (by repeat (first | (with_reducible first | exact HB.out | apply below_alloc | apply pw_below_drewN | apply below_drew1 | refine below_set ?_ GE517.out) | exact HB.out)) hb)
            clear HO513
            clear HO516
            clear HO522
            clear HO527
            clear BK517
            clear HB
            have HO513 := n0_
            have HO516 := n1_
            have HO522 := n2_
            have HO527 := n3_
            have BK517 := n4_
            have HB := n5_
            clear n0_ n1_ n2_ n3_ n4_ n5_
            (try clear hb)
            (try clear hb2)
            (try clear hk)
            (try clear hi)
            refine hK.out _ _ ⟨(blk_cell BK517.out 0).trans rfl, (blk_cell BK517.out 1).trans rfl, (blk_cell BK517.out 2).trans rfl⟩ (fun hHeld => ?_)
            clear hK K
            refine norm_ (a' := ?_) ?_ ?_
            rotate_left
            · show Act.put _ (some 45) _ = _
              simp only [Act.put, List.setIfInBounds_toArray, List.set_cons_zero, List.set_cons_succ, i64_w, i32_w]
              rfl
            refine one_ (i := 20) (N := some 47) #[true, true, true, true, true, true, true, true, true, true, true, true, true, true, true, true, true, true, true, true, true, false, false, false, false, false, false, false, false, false, false, false, false, false, false, false, false, false, false, false, false, false, false, false, false, false, false] rfl rfl (one_of HT_.out (by kernel_rfl)) (by decide) (fun K hK => ?_)
            refine goes_ Tryd.func51 (by kernel_rfl) rfl #[.slice Ao42 t511.length co42] (by rfl) rfl rfl (by (try simp only [List.map_toArray, List.map_cons, List.map_nil]); first | done | rfl | (simp only [List.length_drop, List.length_take]; rfl)) ?_
            with_reducible refine (gutterref17_Low.calls k _ _ t511 t530 _ ?side1 ?side2 A24.out).mono ?_
            (case side1 => repeat (first | exact (Kd.R_reads' HO513.out).2.2 | (with_reducible refine Kd.C_alloc ?_ _) | (with_reducible refine Kd.C_drewN ?_ _) | (with_reducible refine Kd.C_drew ?_)))
            (case side2 => exact (Kd.R_reads' HO513.out).2.1)
            rintro e w50 ⟨rfl, hb⟩
            refine ⟨_, rfl, ?_⟩
            have n0_ := Aside0.mk (Kd.R_below (by (with_reducible repeat (first | apply Kd.R_alloc | apply Kd.R_drewN | apply Kd.R_drew)); exact HO513.out) hb)
            have n1_ := Aside0.mk (Kd.R_below (by (with_reducible repeat (first | apply Kd.R_alloc | apply Kd.R_drewN | apply Kd.R_drew)); exact HO516.out) hb)
            have n2_ := Aside0.mk (Kd.R_below (by (with_reducible repeat (first | apply Kd.R_alloc | apply Kd.R_drewN | apply Kd.R_drew)); exact HO522.out) hb)
            have n3_ := Aside0.mk (Kd.R_below (by (with_reducible repeat (first | apply Kd.R_alloc | apply Kd.R_drewN | apply Kd.R_drew)); exact HO527.out) hb)
            have n4_ := Aside0.mk (blk_below (g := gb517) (o := .cells #[.int .i64 0, .int .i64 ji11, .slice none 0 0] 50 (0, 0)) (by (with_reducible repeat (first | refine blk_drewN ?_ _ | refine blk_drew ?_ | refine blk_alloc ?_ _)); exact BK517.out) hb)
            have n5_ := Aside0.mk (below_step (by repeat (first | (with_reducible first | exact HB.out | apply below_alloc | apply pw_below_drewN | apply below_drew1 | refine below_set ?_ GE517.out) | exact HB.out)) hb)
            clear HO513
            clear HO516
            clear HO522
            clear HO527
            clear BK517
            clear HB
            have HO513 := n0_
            have HO516 := n1_
            have HO522 := n2_
            have HO527 := n3_
            have BK517 := n4_
            have HB := n5_
            clear n0_ n1_ n2_ n3_ n4_ n5_
            (try clear hb)
            (try clear hb2)
            (try clear hk)
            (try clear hi)
            obtain ⟨Ao51, co51, eo51⟩ := Kd.R_slice HO516.out
            (first | subst eo51 | (injection eo51 with f1_ f2_ f3_; have f4_ := f1_.symm; have f5_ := f3_.symm; clear f1_ f2_ f3_; subst f4_; subst f5_))
            refine hK.out _ _ ⟨(blk_cell BK517.out 0).trans rfl, (blk_cell BK517.out 1).trans rfl, (blk_cell BK517.out 2).trans rfl⟩ (fun hHeld => ?_)
            clear hK K
            refine norm_ (a' := ?_) ?_ ?_
            rotate_left
            · show Act.put _ (some 47) _ = _
              simp only [Act.put, List.setIfInBounds_toArray, List.set_cons_zero, List.set_cons_succ, i64_w, i32_w]
              rfl
            refine pure_ (i := 21) (N := some 48) (v := ?_) (a' := ?_) #[true, true, true, true, true, true, true, true, true, true, true, true, true, true, true, true, true, true, true, true, true, true, false, false, false, false, false, false, false, false, false, false, false, false, false, false, false, false, false, false, false, false, false, false, false, false, false] rfl rfl (any_of HT_.out (by kernel_rfl)) (fun _ _ _ h => h) (Or.inl ⟨by rfl, ?_⟩) ?_ ?_
            rotate_left
            · intro w'
              go_simp
              with_reducible rfl
            rotate_left
            · simp only [Act.put, List.setIfInBounds_toArray, List.set_cons_zero, List.set_cons_succ, i64_w, i32_w]
              rfl
            refine pure_ (i := 22) (N := some 49) (v := ?_) (a' := ?_) #[true, true, true, true, true, true, true, true, true, true, true, true, true, true, true, true, true, true, true, true, true, true, true, false, false, false, false, false, false, false, false, false, false, false, false, false, false, false, false, false, false, false, false, false, false, false, false] rfl rfl (any_of HT_.out (by kernel_rfl)) (fun _ _ _ h => h) (Or.inl ⟨by rfl, ?_⟩) ?_ ?_
            rotate_left
            · intro w'
              go_simp
              with_reducible rfl
            rotate_left
            · simp only [Act.put, List.setIfInBounds_toArray, List.set_cons_zero, List.set_cons_succ, i64_w, i32_w]
              rfl
            refine pure_ (i := 23) (N := some 50) (v := ?_) (a' := ?_) #[true, true, true, true, true, true, true, true, true, true, true, true, true, true, true, true, true, true, true, true, true, true, true, true, false, false, false, false, false, false, false, false, false, false, false, false, false, false, false, false, false, false, false, false, false, false, false] rfl rfl (any_of HT_.out (by kernel_rfl)) (fun _ _ _ h => h) (Or.inl ⟨by rfl, ?_⟩) ?_ ?_
            rotate_left
            · intro w'
              go_simp
              with_reducible rfl
            rotate_left
            · simp only [Act.put, List.setIfInBounds_toArray, List.set_cons_zero, List.set_cons_succ, i64_w, i32_w]
              rfl
            refine pure_ (i := 24) (N := some 51) (v := ?_) (a' := ?_) #[true, true, true, true, true, true, true, true, true, true, true, true, true, true, true, true, true, true, true, true, true, true, true, true, true, false, false, false, false, false, false, false, false, false, false, false, false, false, false, false, false, false, false, false, false, false, false] rfl rfl (any_of HT_.out (by kernel_rfl)) (fun _ _ _ h => h) (Or.inl ⟨by rfl, ?_⟩) ?_ ?_
            rotate_left
            · intro w'
              go_simp
              with_reducible rfl
            rotate_left
            · simp only [Act.put, List.setIfInBounds_toArray, List.set_cons_zero, List.set_cons_succ, i64_w, i32_w]
              rfl
            refine pure_ (i := 25) (N := some 52) (v := ?_) (a' := ?_) #[true, true, true, true, true, true, true, true, true, true, true, true, true, true, true, true, true, true, true, true, true, true, true, true, true, true, false, false, false, false, false, false, false, false, false, false, false, false, false, false, false, false, false, false, false, false, false] rfl rfl (any_of HT_.out (by kernel_rfl)) (fun _ _ _ h => h) (Or.inl ⟨by rfl, ?_⟩) ?_ ?_
            rotate_left
            · intro w'
              go_simp
              with_reducible rfl
            rotate_left
            · simp only [Act.put, List.setIfInBounds_toArray, List.set_cons_zero, List.set_cons_succ, i64_w, i32_w]
              rfl
            refine pure_ (i := 27) (N := some 54) (v := ?_) (a' := ?_) #[true, true, true, true, true, true, true, true, true, true, true, true, true, true, true, true, true, true, true, true, true, true, true, true, true, true, false, true, false, false, false, false, false, false, false, false, false, false, false, false, false, false, false, false, false, false, false] rfl rfl (any_of HT_.out (by kernel_rfl)) (fun _ _ _ h => h) (Or.inl ⟨by rfl, ?_⟩) ?_ ?_
            rotate_left
            · intro w'
              go_simp
              with_reducible rfl
            rotate_left
            · simp only [Act.put, List.setIfInBounds_toArray, List.set_cons_zero, List.set_cons_succ, i64_w, i32_w]
              rfl
            refine pure_ (i := 28) (N := some 55) (v := ?_) (a' := ?_) #[true, true, true, true, true, true, true, true, true, true, true, true, true, true, true, true, true, true, true, true, true, true, true, true, true, true, false, true, true, false, false, false, false, false, false, false, false, false, false, false, false, false, false, false, false, false, false] rfl rfl (any_of HT_.out (by kernel_rfl)) (fun _ _ _ h => h) (Or.inl ⟨by rfl, ?_⟩) ?_ ?_
            rotate_left
            · intro w'
              go_simp
              with_reducible rfl
            rotate_left
            · simp only [Act.put, List.setIfInBounds_toArray, List.set_cons_zero, List.set_cons_succ, i64_w, i32_w]
              rfl
            refine one_ (i := 26) (N := some 53) #[true, true, true, true, true, true, true, true, true, true, true, true, true, true, true, true, true, true, true, true, true, true, true, true, true, true, true, true, true, false, false, false, false, false, false, false, false, false, false, false, false, false, false, false, false, false, false] rfl rfl (one_of HT_.out (by kernel_rfl)) (by decide) (fun K hK => ?_)
            refine goes_ Tryd.func52 (by kernel_rfl) rfl #[.slice Ao42 t511.length co42, .slice Ao51 t514.length co51] (by rfl) rfl rfl (by (try simp only [List.map_toArray, List.map_cons, List.map_nil]); first | done | rfl | (simp only [List.length_drop, List.length_take]; rfl)) ?_
            with_reducible refine (row_Same.calls k _ _ t511 _ _ t514 t531 _ ?side1 ?side2 ?side3 ?side4 A26.out).mono ?_
            (case side1 => repeat (first | exact (Kd.R_reads' HO513.out).2.2 | (with_reducible refine Kd.C_alloc ?_ _) | (with_reducible refine Kd.C_drewN ?_ _) | (with_reducible refine Kd.C_drew ?_)))
            (case side2 => exact (Kd.R_reads' HO513.out).2.1)
            (case side3 => repeat (first | exact (Kd.R_reads' HO516.out).2.2 | (with_reducible refine Kd.C_alloc ?_ _) | (with_reducible refine Kd.C_drewN ?_ _) | (with_reducible refine Kd.C_drew ?_)))
            (case side4 => exact (Kd.R_reads' HO516.out).2.1)
            rintro e w' ⟨rfl, ⟨nd, rfl⟩⟩
            refine ⟨_, rfl, ?_⟩
            refine hK.out _ _ ⟨(blk_cell BK517.out 0).trans rfl, (blk_cell BK517.out 1).trans rfl, (blk_cell BK517.out 2).trans rfl⟩ (fun hHeld => ?_)
            clear hK K
            refine norm_ (a' := ?_) ?_ ?_
            rotate_left
            · show Act.put _ (some 53) _ = _
              simp only [Act.put, List.setIfInBounds_toArray, List.set_cons_zero, List.set_cons_succ, i64_w, i32_w]
              rfl
            refine one_ (i := 29) (N := some 56) #[true, true, true, true, true, true, true, true, true, true, true, true, true, true, true, true, true, true, true, true, true, true, true, true, true, true, true, true, true, true, false, false, false, false, false, false, false, false, false, false, false, false, false, false, false, false, false] rfl rfl (one_of HT_.out (by kernel_rfl)) (by decide) (fun K hK => ?_)
            refine goes_ Tryd.func47 (by kernel_rfl) rfl #[.slice Ao42 t511.length co42, .slice Ao51 t514.length co51] (by rfl) rfl rfl (by (try simp only [List.map_toArray, List.map_cons, List.map_nil]); first | done | rfl | (simp only [List.length_drop, List.length_take]; rfl)) ?_
            with_reducible refine (gutterref17_Same.calls k _ _ t511 _ _ t514 t532 _ ?side1 ?side2 ?side3 ?side4 A27.out).mono ?_
            (case side1 => repeat (first | exact (Kd.R_reads' HO513.out).2.2 | (with_reducible refine Kd.C_alloc ?_ _) | (with_reducible refine Kd.C_drewN ?_ _) | (with_reducible refine Kd.C_drew ?_)))
            (case side2 => exact (Kd.R_reads' HO513.out).2.1)
            (case side3 => repeat (first | exact (Kd.R_reads' HO516.out).2.2 | (with_reducible refine Kd.C_alloc ?_ _) | (with_reducible refine Kd.C_drewN ?_ _) | (with_reducible refine Kd.C_drew ?_)))
            (case side4 => exact (Kd.R_reads' HO516.out).2.1)
            rintro e w' ⟨rfl, ⟨nd, rfl⟩⟩
            refine ⟨_, rfl, ?_⟩
            refine hK.out _ _ ⟨(blk_cell BK517.out 0).trans rfl, (blk_cell BK517.out 1).trans rfl, (blk_cell BK517.out 2).trans rfl⟩ (fun hHeld => ?_)
            clear hK K
            refine norm_ (a' := ?_) ?_ ?_
            rotate_left
            · show Act.put _ (some 56) _ = _
              simp only [Act.put, List.setIfInBounds_toArray, List.set_cons_zero, List.set_cons_succ, i64_w, i32_w]
              rfl
            refine pure_ (i := 30) (N := some 57) (v := ?_) (a' := ?_) #[true, true, true, true, true, true, true, true, true, true, true, true, true, true, true, true, true, true, true, true, true, true, true, true, true, true, true, true, true, true, true, false, false, false, false, false, false, false, false, false, false, false, false, false, false, false, false] rfl rfl (any_of HT_.out (by kernel_rfl)) (fun _ _ _ h => h) (Or.inl ⟨by rfl, ?_⟩) ?_ ?_
            rotate_left
            · intro w'
              go_simp
              with_reducible rfl
            rotate_left
            · simp only [Act.put, List.setIfInBounds_toArray, List.set_cons_zero, List.set_cons_succ, i64_w, i32_w]
              rfl
            refine pure_ (i := 31) (N := some 58) (v := ?_) (a' := ?_) #[true, true, true, true, true, true, true, true, true, true, true, true, true, true, true, true, true, true, true, true, true, true, true, true, true, true, true, true, true, true, true, true, false, false, false, false, false, false, false, false, false, false, false, false, false, false, false] rfl rfl (any_of HT_.out (by kernel_rfl)) (fun _ _ _ h => h) (Or.inl ⟨by rfl, ?_⟩) ?_ ?_
            rotate_left
            · intro w'
              go_simp
              with_reducible rfl
            rotate_left
            · simp only [Act.put, List.setIfInBounds_toArray, List.set_cons_zero, List.set_cons_succ, i64_w, i32_w]
              rfl
            refine pure_ (i := 32) (N := some 59) (v := ?_) (a' := ?_) #[true, true, true, true, true, true, true, true, true, true, true, true, true, true, true, true, true, true, true, true, true, true, true, true, true, true, true, true, true, true, true, true, true, false, false, false, false, false, false, false, false, false, false, false, false, false, false] rfl rfl (any_of HT_.out (by kernel_rfl)) (fun _ _ _ h => h) (Or.inl ⟨by rfl, ?_⟩) ?_ ?_
            rotate_left
            · intro w'
              go_simp
              with_reducible rfl
            rotate_left
            · simp only [Act.put, List.setIfInBounds_toArray, List.set_cons_zero, List.set_cons_succ, i64_w, i32_w]
              rfl
            refine pure_ (i := 33) (N := some 60) (v := ?_) (a' := ?_) #[true, true, true, true, true, true, true, true, true, true, true, true, true, true, true, true, true, true, true, true, true, true, true, true, true, true, true, true, true, true, true, true, true, true, false, false, false, false, false, false, false, false, false, false, false, false, false] rfl rfl (any_of HT_.out (by kernel_rfl)) (fun _ _ _ h => h) (Or.inl ⟨by rfl, ?_⟩) ?_ ?_
            rotate_left
            · intro w'
              go_simp
              with_reducible rfl
            rotate_left
            · simp only [Act.put, List.setIfInBounds_toArray, List.set_cons_zero, List.set_cons_succ, i64_w, i32_w]
              rfl
            refine pure_ (i := 34) (N := some 61) (v := ?_) (a' := ?_) #[true, true, true, true, true, true, true, true, true, true, true, true, true, true, true, true, true, true, true, true, true, true, true, true, true, true, true, true, true, true, true, true, true, true, true, false, false, false, false, false, false, false, false, false, false, false, false] rfl rfl (any_of HT_.out (by kernel_rfl)) (fun _ _ _ h => h) (Or.inl ⟨by rfl, ?_⟩) ?_ ?_
            rotate_left
            · intro w'
              go_simp
              with_reducible rfl
            rotate_left
            · simp only [Act.put, List.setIfInBounds_toArray, List.set_cons_zero, List.set_cons_succ, i64_w, i32_w]
              rfl
            refine one_ (i := 35) (N := some 62) #[true, true, true, true, true, true, true, true, true, true, true, true, true, true, true, true, true, true, true, true, true, true, true, true, true, true, true, true, true, true, true, true, true, true, true, true, false, false, false, false, false, false, false, false, false, false, false] rfl rfl (one_of HT_.out (by kernel_rfl)) (by decide) (fun K hK => ?_)
            refine goes_ Tryd.func52 (by kernel_rfl) rfl #[.slice Ao42 t511.length co42, .slice Ao42 t511.length co42] (by rfl) rfl rfl (by (try simp only [List.map_toArray, List.map_cons, List.map_nil]); first | done | rfl | (simp only [List.length_drop, List.length_take]; rfl)) ?_
            with_reducible refine (row_Same.calls k _ _ t511 _ _ t511 true _ ?side1 ?side2 ?side3 ?side4 A29.out).mono ?_
            (case side1 => repeat (first | exact (Kd.R_reads' HO513.out).2.2 | (with_reducible refine Kd.C_alloc ?_ _) | (with_reducible refine Kd.C_drewN ?_ _) | (with_reducible refine Kd.C_drew ?_)))
            (case side2 => exact (Kd.R_reads' HO513.out).2.1)
            (case side3 => repeat (first | exact (Kd.R_reads' HO513.out).2.2 | (with_reducible refine Kd.C_alloc ?_ _) | (with_reducible refine Kd.C_drewN ?_ _) | (with_reducible refine Kd.C_drew ?_)))
            (case side4 => exact (Kd.R_reads' HO513.out).2.1)
            rintro e w' ⟨rfl, ⟨nd, rfl⟩⟩
            refine ⟨_, rfl, ?_⟩
            refine hK.out _ _ ⟨(blk_cell BK517.out 0).trans rfl, (blk_cell BK517.out 1).trans rfl, (blk_cell BK517.out 2).trans rfl⟩ (fun hHeld => ?_)
            clear hK K
            refine norm_ (a' := ?_) ?_ ?_
            rotate_left
            · show Act.put _ (some 62) _ = _
              simp only [Act.put, List.setIfInBounds_toArray, List.set_cons_zero, List.set_cons_succ, i64_w, i32_w]
              rfl
            refine pure_ (i := 36) (N := some 63) (v := ?_) (a' := ?_) #[true, true, true, true, true, true, true, true, true, true, true, true, true, true, true, true, true, true, true, true, true, true, true, true, true, true, true, true, true, true, true, true, true, true, true, true, true, false, false, false, false, false, false, false, false, false, false] rfl rfl (any_of HT_.out (by kernel_rfl)) (fun _ _ _ h => h) (Or.inl ⟨by rfl, ?_⟩) ?_ ?_
            rotate_left
            · intro w'
              go_simp
              with_reducible rfl
            rotate_left
            · simp only [Act.put, List.setIfInBounds_toArray, List.set_cons_zero, List.set_cons_succ, i64_w, i32_w]
              rfl
            refine pure_ (i := 37) (N := some 64) (v := ?_) (a' := ?_) #[true, true, true, true, true, true, true, true, true, true, true, true, true, true, true, true, true, true, true, true, true, true, true, true, true, true, true, true, true, true, true, true, true, true, true, true, true, true, false, false, false, false, false, false, false, false, false] rfl rfl (any_of HT_.out (by kernel_rfl)) (fun _ _ _ h => h) (Or.inl ⟨by rfl, ?_⟩) ?_ ?_
            rotate_left
            · intro w'
              go_simp
              with_reducible rfl
            rotate_left
            · simp only [Act.put, List.setIfInBounds_toArray, List.set_cons_zero, List.set_cons_succ, i64_w, i32_w]
              rfl
            refine pure_ (i := 39) (N := some 66) (v := ?_) (a' := ?_) #[true, true, true, true, true, true, true, true, true, true, true, true, true, true, true, true, true, true, true, true, true, true, true, true, true, true, true, true, true, true, true, true, true, true, true, true, true, true, false, true, false, false, false, false, false, false, false] rfl rfl (any_of HT_.out (by kernel_rfl)) (fun _ _ _ h => h) (Or.inl ⟨by rfl, ?_⟩) ?_ ?_
            rotate_left
            · intro w'
              go_simp
              with_reducible rfl
            rotate_left
            · simp only [Act.put, List.setIfInBounds_toArray, List.set_cons_zero, List.set_cons_succ, i64_w, i32_w]
              rfl
            refine pure_ (i := 42) (N := some 69) (v := ?_) (a' := ?_) #[true, true, true, true, true, true, true, true, true, true, true, true, true, true, true, true, true, true, true, true, true, true, true, true, true, true, true, true, true, true, true, true, true, true, true, true, true, true, false, true, false, false, true, false, false, false, false] rfl rfl (any_of HT_.out (by kernel_rfl)) (fun _ _ _ h => h) (Or.inl ⟨by rfl, ?_⟩) ?_ ?_
            rotate_left
            · intro w'
              go_simp
              with_reducible rfl
            rotate_left
            · simp only [Act.put, List.setIfInBounds_toArray, List.set_cons_zero, List.set_cons_succ, i64_w, i32_w]
              rfl
            refine take_ (i := 38) (N := some 65) (v := ?_) (a' := ?_) #[true, true, true, true, true, true, true, true, true, true, true, true, true, true, true, true, true, true, true, true, true, true, true, true, true, true, true, true, true, true, true, true, true, true, true, true, true, true, true, true, false, false, true, false, false, false, false] rfl rfl (take_ofW HT_.out HW_.out (by kernel_rfl)) (fun _ _ _ h => h) (Or.inl ⟨by rfl, ?_⟩) hHeld ?_ ?_
            rotate_left
            · rintro w' ⟨s0, s1, s2⟩
              go_simp
              with_reducible rfl
            rotate_left
            · simp only [Act.put, List.setIfInBounds_toArray, List.set_cons_zero, List.set_cons_succ, i64_w, i32_w]
              rfl
            refine take_ (i := 41) (N := some 68) (v := ?_) (a' := ?_) #[true, true, true, true, true, true, true, true, true, true, true, true, true, true, true, true, true, true, true, true, true, true, true, true, true, true, true, true, true, true, true, true, true, true, true, true, true, true, true, true, false, true, true, false, false, false, false] rfl rfl (take_ofW HT_.out HW_.out (by kernel_rfl)) (fun _ _ _ h => h) (Or.inl ⟨by rfl, ?_⟩) hHeld ?_ ?_
            rotate_left
            · rintro w' ⟨s0, s1, s2⟩
              go_simp
              with_reducible rfl
            rotate_left
            · simp only [Act.put, List.setIfInBounds_toArray, List.set_cons_zero, List.set_cons_succ, i64_w, i32_w]
              rfl
            refine one_ (i := 40) (N := some 67) #[true, true, true, true, true, true, true, true, true, true, true, true, true, true, true, true, true, true, true, true, true, true, true, true, true, true, true, true, true, true, true, true, true, true, true, true, true, true, true, true, true, true, true, false, false, false, false] rfl rfl (one_of HT_.out (by kernel_rfl)) (by decide) (fun K hK => ?_)
            refine goes_ Tryd.func45 (by kernel_rfl) rfl #[.agg #[.int .i64 0, .int .i64 ji11, .slice none 0 0], .int .i64 ji13] (by rfl) rfl rfl (by (try simp only [List.map_toArray, List.map_cons, List.map_nil]); first | done | (simp only [hji11, hji13]; rfl) | rfl | (simp only [List.length_drop, List.length_take]; rfl)) ?_
            refine (row_Over.calls 0 ji11 _ _ ([] : List (S58)) ji13 t534 _ ?side1 ?side2 A31.out).mono ?_
            (case side1 => exact Kd.C_nil _ _)
            (case side2 => exact Nat.le_refl _)
            rintro e w52 ⟨rfl, hb⟩
            refine ⟨_, rfl, ?_⟩
            have n0_ := Aside0.mk (Kd.R_below (by (with_reducible repeat (first | apply Kd.R_alloc | apply Kd.R_drewN | apply Kd.R_drew)); exact HO513.out) hb)
            have n1_ := Aside0.mk (Kd.R_below (by (with_reducible repeat (first | apply Kd.R_alloc | apply Kd.R_drewN | apply Kd.R_drew)); exact HO516.out) hb)
            have n2_ := Aside0.mk (Kd.R_below (by (with_reducible repeat (first | apply Kd.R_alloc | apply Kd.R_drewN | apply Kd.R_drew)); exact HO522.out) hb)
            have n3_ := Aside0.mk (Kd.R_below (by (with_reducible repeat (first | apply Kd.R_alloc | apply Kd.R_drewN | apply Kd.R_drew)); exact HO527.out) hb)
            have n4_ := Aside0.mk (blk_below (g := gb517) (o := .cells #[.int .i64 0, .int .i64 ji11, .slice none 0 0] 50 (0, 0)) (by (with_reducible repeat (first | refine blk_drewN ?_ _ | refine blk_drew ?_ | refine blk_alloc ?_ _)); exact BK517.out) hb)
            have n5_ := Aside0.mk (below_step (by repeat (first | (with_reducible first | exact HB.out | apply below_alloc | apply pw_below_drewN | apply below_drew1 | refine below_set ?_ GE517.out) | exact HB.out)) hb)
            clear HO513
            clear HO516
            clear HO522
            clear HO527
            clear BK517
            clear HB
            have HO513 := n0_
            have HO516 := n1_
            have HO522 := n2_
            have HO527 := n3_
            have BK517 := n4_
            have HB := n5_
            clear n0_ n1_ n2_ n3_ n4_ n5_
            (try clear hb)
            (try clear hb2)
            (try clear hk)
            (try clear hi)
            refine hK.out _ _ ⟨(blk_cell BK517.out 0).trans rfl, (blk_cell BK517.out 1).trans rfl, (blk_cell BK517.out 2).trans rfl⟩ (fun hHeld => ?_)
            clear hK K
            refine norm_ (a' := ?_) ?_ ?_
            rotate_left
            · show Act.put _ (some 67) _ = _
              simp only [Act.put, List.setIfInBounds_toArray, List.set_cons_zero, List.set_cons_succ, i64_w, i32_w]
              rfl
            refine one_ (i := 43) (N := some 70) #[true, true, true, true, true, true, true, true, true, true, true, true, true, true, true, true, true, true, true, true, true, true, true, true, true, true, true, true, true, true, true, true, true, true, true, true, true, true, true, true, true, true, true, true, false, false, false] rfl rfl (one_of HT_.out (by kernel_rfl)) (by decide) (fun K hK => ?_)
            refine goes_ Tryd.func53 (by kernel_rfl) rfl #[.agg #[.int .i64 0, .int .i64 ji11, .slice none 0 0], .int .i64 ji13] (by rfl) rfl rfl (by (try simp only [List.map_toArray, List.map_cons, List.map_nil]); first | done | (simp only [hji11, hji13]; rfl) | rfl | (simp only [List.length_drop, List.length_take]; rfl)) ?_
            refine (gutterref17_Over.calls 0 ji11 _ _ ([] : List (S58)) ji13 t535 _ ?side1 ?side2 A32.out).mono ?_
            (case side1 => exact Kd.C_nil _ _)
            (case side2 => exact Nat.le_refl _)
            rintro e w53 ⟨rfl, hb⟩
            refine ⟨_, rfl, ?_⟩
            have n0_ := Aside0.mk (Kd.R_below (by (with_reducible repeat (first | apply Kd.R_alloc | apply Kd.R_drewN | apply Kd.R_drew)); exact HO513.out) hb)
            have n1_ := Aside0.mk (Kd.R_below (by (with_reducible repeat (first | apply Kd.R_alloc | apply Kd.R_drewN | apply Kd.R_drew)); exact HO516.out) hb)
            have n2_ := Aside0.mk (Kd.R_below (by (with_reducible repeat (first | apply Kd.R_alloc | apply Kd.R_drewN | apply Kd.R_drew)); exact HO522.out) hb)
            have n3_ := Aside0.mk (Kd.R_below (by (with_reducible repeat (first | apply Kd.R_alloc | apply Kd.R_drewN | apply Kd.R_drew)); exact HO527.out) hb)
            have n4_ := Aside0.mk (blk_below (g := gb517) (o := .cells #[.int .i64 0, .int .i64 ji11, .slice none 0 0] 50 (0, 0)) (by (with_reducible repeat (first | refine blk_drewN ?_ _ | refine blk_drew ?_ | refine blk_alloc ?_ _)); exact BK517.out) hb)
            have n5_ := Aside0.mk (below_step (by repeat (first | (with_reducible first | exact HB.out | apply below_alloc | apply pw_below_drewN | apply below_drew1 | refine below_set ?_ GE517.out) | exact HB.out)) hb)
            clear HO513
            clear HO516
            clear HO522
            clear HO527
            clear BK517
            clear HB
            have HO513 := n0_
            have HO516 := n1_
            have HO522 := n2_
            have HO527 := n3_
            have BK517 := n4_
            have HB := n5_
            clear n0_ n1_ n2_ n3_ n4_ n5_
            (try clear hb)
            (try clear hb2)
            (try clear hk)
            (try clear hi)
            refine hK.out _ _ ⟨(blk_cell BK517.out 0).trans rfl, (blk_cell BK517.out 1).trans rfl, (blk_cell BK517.out 2).trans rfl⟩ (fun hHeld => ?_)
            clear hK K
            refine norm_ (a' := ?_) ?_ ?_
            rotate_left
            · show Act.put _ (some 70) _ = _
              simp only [Act.put, List.setIfInBounds_toArray, List.set_cons_zero, List.set_cons_succ, i64_w, i32_w]
              rfl
            refine pure_ (i := 44) (N := some 71) (v := ?_) (a' := ?_) #[true, true, true, true, true, true, true, true, true, true, true, true, true, true, true, true, true, true, true, true, true, true, true, true, true, true, true, true, true, true, true, true, true, true, true, true, true, true, true, true, true, true, true, true, true, false, false] rfl rfl (any_of HT_.out (by kernel_rfl)) (fun _ _ _ h => h) (Or.inl ⟨by rfl, ?_⟩) ?_ ?_
            rotate_left
            · intro w'
              go_simp
              with_reducible rfl
            rotate_left
            · simp only [Act.put, List.setIfInBounds_toArray, List.set_cons_zero, List.set_cons_succ, i64_w, i32_w]
              rfl
            refine pure_ (i := 45) (N := some 72) (v := ?_) (a' := ?_) #[true, true, true, true, true, true, true, true, true, true, true, true, true, true, true, true, true, true, true, true, true, true, true, true, true, true, true, true, true, true, true, true, true, true, true, true, true, true, true, true, true, true, true, true, true, true, false] rfl rfl (any_of HT_.out (by kernel_rfl)) (fun _ _ _ h => h) (Or.inl ⟨by rfl, ?_⟩) ?_ ?_
            rotate_left
            · intro w'
              go_simp
              with_reducible rfl
            rotate_left
            · simp only [Act.put, List.setIfInBounds_toArray, List.set_cons_zero, List.set_cons_succ, i64_w, i32_w]
              rfl
            refine pure_ (i := 46) (N := some 12) (v := ?_) (a' := ?_) #[true, true, true, true, true, true, true, true, true, true, true, true, true, true, true, true, true, true, true, true, true, true, true, true, true, true, true, true, true, true, true, true, true, true, true, true, true, true, true, true, true, true, true, true, true, true, true] rfl rfl (any_of HT_.out (by kernel_rfl)) (fun _ _ _ h => h) (Or.inl ⟨by rfl, ?_⟩) ?_ ?_
            rotate_left
            · intro w'
              go_simp
              with_reducible rfl
            rotate_left
            · simp only [Act.put, List.setIfInBounds_toArray, List.set_cons_zero, List.set_cons_succ, i64_w, i32_w]
              rfl
            refine done_ (done_of HT_.out (by kernel_rfl)) ?_
            try go_wp2
            go_ret
            exact ⟨by first | rfl | (simp [errW_none, errW_some] <;> rfl) | (simp only [← hji10, ← hji11, ← hji12, ← hji13]; first | rfl | (simp [errW_none, errW_some] <;> rfl)) | (simp [*, errW_none, errW_some] <;> rfl), by repeat (first | (with_reducible first | exact HB.out | apply below_alloc | apply pw_below_drewN | apply below_drew1 | refine below_set ?_ GE517.out) | exact HB.out)⟩
          · replace c30 := Bool.eq_false_iff.mpr c30
            subst c30
            have H1 : (some false) = some r := by rw [if_neg (show ¬ (false = true) by decide)] at H; exact H
            clear H
            have H := H1
            clear H1
            exact absurd ((Option.some.inj H).trans HTR.out) (by decide)
        · rw [if_neg c28] at H
          have c28b0 : (t531 == t532) = false := by simpa using c28
          (try (have c28b1 : decide (t531 = t532) = false := by simpa using c28))
          (try (have c28b2 : (t531 == t532) = false := by simpa using c28))
          (try (have c28b3 : ¬ (t531 = t532) := by simpa using c28))
          clear c28
          exact absurd ((Option.some.inj H).trans HTR.out) (by decide)
      · rw [if_neg c25] at H
        have c25b0 : (t529 == t530) = false := beq_eq_false_iff_ne.mpr c25
        have c25b1 : (t529 != t530) = true := bne_iff_ne.mpr c25
        exact absurd ((Option.some.inj H).trans HTR.out) (by decide)
    · replace c22 := Bool.eq_false_iff.mpr c22
      subst c22
      have H1 : (some false) = some r := by rw [if_neg (show ¬ (false = true) by decide)] at H; exact H
      clear H
      have H := H1
      clear H1
      exact absurd ((Option.some.inj H).trans HTR.out) (by decide)
  · replace c14 := Bool.eq_false_iff.mpr c14
    subst c14
    have H1 : (some false) = some r := by rw [if_neg (show ¬ (false = true) by decide)] at H; exact H
    clear H
    have H := H1
    clear H1
    exact absurd ((Option.some.inj H).trans HTR.out) (by decide)
end Go.Proofs.YtjpifknencfipaaDoor.P
