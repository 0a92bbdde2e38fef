-- by a program (wip/tools: a turned copy of the kit's print): not trusted: Lean checks it
import Derived.Test.YtjpifknencfipaaDoorP
import Derived.Test.YtjpifknencfipaaDoorP27
import Derived.Test.YtjpifknencfipaaDoorP28
import Derived.Test.YtjpifknencfipaaDoorP37
import Derived.Test.YtjpifknencfipaaDoorP81
namespace Go.Proofs.YtjpifknencfipaaDoor.P
open Go.RowKit Go.Proofs.YtjpifknencfipaaDoorW.PrintWords Go.Proofs.YtjpifknencfipaaDoorW.PrintLast Go.Proofs.YtjpifknencfipaaDoorW.PrintMore
attribute [local go_sem] max2_int min2_int max_two min_two max_three min_three max_four min_four   -- for this text's walks alone
set_option linter.unusedVariables false
set_option linter.unusedSimpArgs false

mutual
def gutterref17_Lay.j0 : Nat → List (S32) → Int → Int → Int → Int → Bool → Bool → Option (Int × Int × (List (S58)) × Int)
  | 0, _, _, _, _, _, _, _ => none
  | k + 1, x0, x1, x2, x3, x4, x5, x56 => if x56 = true then (some (0, 0, ([] : List (S58)), 160)) else (if x5 = true then (gutterref17_Lay.j1 k x0 x1 x2 x3 x4 x4 (x4 == 0)) else (gutterref17_Lay.j1 k x0 x1 x2 x3 x4 x4 true))
def gutterref17_Lay.j1 : Nat → List (S32) → Int → Int → Int → Int → Int → Bool → Option (Int × Int × (List (S58)) × Int)
  | 0, _, _, _, _, _, _, _ => none
  | k + 1, x0, x1, x2, x3, x4, x14, x64 => if x64 = true then ((gutterref15_Balance.f k x0 x1 x4 1000).bind fun bt369 => (gutterref17_Lay.j2 k x0 x2 x3 bt369.1)) else (gutterref17_Lay.j2 k x0 x2 x3 x14)
def gutterref17_Lay.j2 : Nat → List (S32) → Int → Int → Int → Option (Int × Int × (List (S58)) × Int)
  | 0, _, _, _, _ => none
  | k + 1, x0, x2, x3, x14 => (gutterref14_Fill.f k x0 x14).bind fun bt375 => (gutterref17_Lay.l0 k x0 x2 x3 bt375.1 0 x14 (bt375.1.length : Int) ([] : List (S58)))
def gutterref17_Lay.l0 : Nat → List (S32) → Int → Int → List (S73) → Int → Int → Int → List (S58) → Option (Int × Int × (List (S58)) × Int)
  | 0, _, _, _, _, _, _, _, _ => none
  | k + 1, x0, x2, x3, x17, x20, x380000, x380001, x380002 => if x20 < (x17.length : Int) then (if 0 ≤ x20 then (gutterref17_Lay.l1 k x0 x2 x3 x17 x20 ((rd_T73 x17 x20).f0) x380000 x380001 x380002) else (none)) else (some (x380000, x380001, x380002, 0))
def gutterref17_Lay.l1 : Nat → List (S32) → Int → Int → List (S73) → Int → Int → Int → Int → List (S58) → Option (Int × Int × (List (S58)) × Int)
  | 0, _, _, _, _, _, _, _, _, _ => none
  | k + 1, x0, x2, x3, x17, x20, x21, x380000, x380001, x380002 => if 0 ≤ x20 then (if x20 < (x17.length : Int) then (if x21 < ((rd_T73 x17 x20).f1) then (if 0 ≤ ((rd_T73 x17 x20).f0) then (if ((rd_T73 x17 x20).f0) ≤ (wrap64 (x21 + 1)) then (if (wrap64 (x21 + 1)) ≤ (x0.length : Int) then ((gutterref13_High.f k ((x0.take ((wrap64 (x21 + 1)) : Int).toNat).drop (((rd_T73 x17 x20).f0) : Int).toNat)).bind fun t387 => (if 0 ≤ x21 then (if x21 < (x0.length : Int) then (if x380002.length < 2513169434916 then (gutterref17_Lay.l1 k x0 x2 x3 x17 x20 (wrap64 (x21 + 1)) x380000 x380001 (x380002 ++ [(⟨(rd_T32 x0 x21).f0, (rd_T32 x0 x21).f1, x20, (⟨wrap64 (x20 * (wrap64 (x2 + x3))), wrap64 (t387 - ((rd_T32 x0 x21).f2)), x2, (rd_T32 x0 x21).f2⟩ : S56)⟩ : S58)])) else (none)) else (none)) else (none))) else (none)) else (none)) else (none)) else (gutterref17_Lay.l0 k x0 x2 x3 x17 (wrap64 (x20 + 1)) x380000 x380001 x380002)) else (none)) else (none)
end
def gutterref17_Lay.f (k : Nat) (l0 : List (S32)) (a1 : Int) (a2 : Int) (a3 : Int) (a4 : Int) (a5 : Bool) : Option (Int × Int × (List (S58)) × Int) := (gutterref13_Right.f k l0).bind fun t366 => (if t366 = true then (if (l0.length : Int) > 200 then (gutterref17_Lay.j0 k l0 a1 a2 a3 a4 a5 true) else (if a1 < 1 then (gutterref17_Lay.j0 k l0 a1 a2 a3 a4 a5 true) else (if a1 > 50 then (gutterref17_Lay.j0 k l0 a1 a2 a3 a4 a5 true) else ((gutterref17_size.f a2).bind fun t367 => (if t367 = true then ((gutterref17_size.f a3).bind fun t368 => (if t368 = true then (if a4 < 0 then (gutterref17_Lay.j0 k l0 a1 a2 a3 a4 a5 true) else (gutterref17_Lay.j0 k l0 a1 a2 a3 a4 a5 (decide (a4 > 1099511627776)))) else (gutterref17_Lay.j0 k l0 a1 a2 a3 a4 a5 true))) else (gutterref17_Lay.j0 k l0 a1 a2 a3 a4 a5 true)))))) else (gutterref17_Lay.j0 k l0 a1 a2 a3 a4 a5 true))
theorem gutterref17_Lay.mono_l : ∀ k, (∀ y0 y1 y2 y3 y4 y5 y6, LeO (gutterref17_Lay.j0 k y0 y1 y2 y3 y4 y5 y6) (gutterref17_Lay.j0 (k + 1) y0 y1 y2 y3 y4 y5 y6)) ∧ (∀ y0 y1 y2 y3 y4 y5 y6, LeO (gutterref17_Lay.j1 k y0 y1 y2 y3 y4 y5 y6) (gutterref17_Lay.j1 (k + 1) y0 y1 y2 y3 y4 y5 y6)) ∧ (∀ y0 y1 y2 y3, LeO (gutterref17_Lay.j2 k y0 y1 y2 y3) (gutterref17_Lay.j2 (k + 1) y0 y1 y2 y3)) ∧ (∀ y0 y1 y2 y3 y4 y5 y6 y7, LeO (gutterref17_Lay.l0 k y0 y1 y2 y3 y4 y5 y6 y7) (gutterref17_Lay.l0 (k + 1) y0 y1 y2 y3 y4 y5 y6 y7)) ∧ (∀ y0 y1 y2 y3 y4 y5 y6 y7 y8, LeO (gutterref17_Lay.l1 k y0 y1 y2 y3 y4 y5 y6 y7 y8) (gutterref17_Lay.l1 (k + 1) y0 y1 y2 y3 y4 y5 y6 y7 y8))
  | 0 => ⟨fun _ _ _ _ _ _ _ r h => by simp [gutterref17_Lay.j0] at h, fun _ _ _ _ _ _ _ r h => by simp [gutterref17_Lay.j1] at h, fun _ _ _ _ r h => by simp [gutterref17_Lay.j2] at h, fun _ _ _ _ _ _ _ _ r h => by simp [gutterref17_Lay.l0] at h, fun _ _ _ _ _ _ _ _ _ r h => by simp [gutterref17_Lay.l1] at h⟩
  | k + 1 => by
    obtain ⟨ih0, ih1, ih2, ih3, ih4⟩ := gutterref17_Lay.mono_l k
    refine ⟨?_, ?_, ?_, ?_, ?_⟩
    · intro y0 y1 y2 y3 y4 y5 y6
      unfold gutterref17_Lay.j0
      repeat' first
      | (with_reducible exact ih0 _ _ _ _ _ _ _)
      | (with_reducible exact ih1 _ _ _ _ _ _ _)
      | (with_reducible exact ih2 _ _ _ _)
      | (with_reducible exact ih3 _ _ _ _ _ _ _ _)
      | (with_reducible exact ih4 _ _ _ _ _ _ _ _ _)
      | (with_reducible exact gutterref13_High.mono _ _)
      | (with_reducible exact gutterref13_Right.mono _ _)
      | (with_reducible exact gutterref14_Fill.mono _ _ _)
      | (with_reducible exact gutterref15_Balance.mono _ _ _ _ _)
      | (with_reducible exact LeO.refl _)
      | (with_reducible exact LeO.none _)
      | (with_reducible refine LeO.ite ?_ ?_)
      | (with_reducible refine LeO.bind ?_ (fun _ => ?_))
      | exact ih0 _ _ _ _ _ _ _
      | exact ih1 _ _ _ _ _ _ _
      | exact ih2 _ _ _ _
      | exact ih3 _ _ _ _ _ _ _ _
      | exact ih4 _ _ _ _ _ _ _ _ _
      | exact gutterref13_High.mono _ _
      | exact gutterref13_Right.mono _ _
      | exact gutterref14_Fill.mono _ _ _
      | exact gutterref15_Balance.mono _ _ _ _ _
      | exact LeO.none _
      | refine LeO.ite ?_ ?_
      | refine LeO.bind ?_ (fun _ => ?_)
    · intro y0 y1 y2 y3 y4 y5 y6
      unfold gutterref17_Lay.j1
      repeat' first
      | (with_reducible exact ih0 _ _ _ _ _ _ _)
      | (with_reducible exact ih1 _ _ _ _ _ _ _)
      | (with_reducible exact ih2 _ _ _ _)
      | (with_reducible exact ih3 _ _ _ _ _ _ _ _)
      | (with_reducible exact ih4 _ _ _ _ _ _ _ _ _)
      | (with_reducible exact gutterref13_High.mono _ _)
      | (with_reducible exact gutterref13_Right.mono _ _)
      | (with_reducible exact gutterref14_Fill.mono _ _ _)
      | (with_reducible exact gutterref15_Balance.mono _ _ _ _ _)
      | (with_reducible exact LeO.refl _)
      | (with_reducible exact LeO.none _)
      | (with_reducible refine LeO.ite ?_ ?_)
      | (with_reducible refine LeO.bind ?_ (fun _ => ?_))
      | exact ih0 _ _ _ _ _ _ _
      | exact ih1 _ _ _ _ _ _ _
      | exact ih2 _ _ _ _
      | exact ih3 _ _ _ _ _ _ _ _
      | exact ih4 _ _ _ _ _ _ _ _ _
      | exact gutterref13_High.mono _ _
      | exact gutterref13_Right.mono _ _
      | exact gutterref14_Fill.mono _ _ _
      | exact gutterref15_Balance.mono _ _ _ _ _
      | exact LeO.none _
      | refine LeO.ite ?_ ?_
      | refine LeO.bind ?_ (fun _ => ?_)
    · intro y0 y1 y2 y3
      unfold gutterref17_Lay.j2
      repeat' first
      | (with_reducible exact ih0 _ _ _ _ _ _ _)
      | (with_reducible exact ih1 _ _ _ _ _ _ _)
      | (with_reducible exact ih2 _ _ _ _)
      | (with_reducible exact ih3 _ _ _ _ _ _ _ _)
      | (with_reducible exact ih4 _ _ _ _ _ _ _ _ _)
      | (with_reducible exact gutterref13_High.mono _ _)
      | (with_reducible exact gutterref13_Right.mono _ _)
      | (with_reducible exact gutterref14_Fill.mono _ _ _)
      | (with_reducible exact gutterref15_Balance.mono _ _ _ _ _)
      | (with_reducible exact LeO.refl _)
      | (with_reducible exact LeO.none _)
      | (with_reducible refine LeO.ite ?_ ?_)
      | (with_reducible refine LeO.bind ?_ (fun _ => ?_))
      | exact ih0 _ _ _ _ _ _ _
      | exact ih1 _ _ _ _ _ _ _
      | exact ih2 _ _ _ _
      | exact ih3 _ _ _ _ _ _ _ _
      | exact ih4 _ _ _ _ _ _ _ _ _
      | exact gutterref13_High.mono _ _
      | exact gutterref13_Right.mono _ _
      | exact gutterref14_Fill.mono _ _ _
      | exact gutterref15_Balance.mono _ _ _ _ _
      | exact LeO.none _
      | refine LeO.ite ?_ ?_
      | refine LeO.bind ?_ (fun _ => ?_)
    · intro y0 y1 y2 y3 y4 y5 y6 y7
      unfold gutterref17_Lay.l0
      repeat' first
      | (with_reducible exact ih0 _ _ _ _ _ _ _)
      | (with_reducible exact ih1 _ _ _ _ _ _ _)
      | (with_reducible exact ih2 _ _ _ _)
      | (with_reducible exact ih3 _ _ _ _ _ _ _ _)
      | (with_reducible exact ih4 _ _ _ _ _ _ _ _ _)
      | (with_reducible exact gutterref13_High.mono _ _)
      | (with_reducible exact gutterref13_Right.mono _ _)
      | (with_reducible exact gutterref14_Fill.mono _ _ _)
      | (with_reducible exact gutterref15_Balance.mono _ _ _ _ _)
      | (with_reducible exact LeO.refl _)
      | (with_reducible exact LeO.none _)
      | (with_reducible refine LeO.ite ?_ ?_)
      | (with_reducible refine LeO.bind ?_ (fun _ => ?_))
      | exact ih0 _ _ _ _ _ _ _
      | exact ih1 _ _ _ _ _ _ _
      | exact ih2 _ _ _ _
      | exact ih3 _ _ _ _ _ _ _ _
      | exact ih4 _ _ _ _ _ _ _ _ _
      | exact gutterref13_High.mono _ _
      | exact gutterref13_Right.mono _ _
      | exact gutterref14_Fill.mono _ _ _
      | exact gutterref15_Balance.mono _ _ _ _ _
      | exact LeO.none _
      | refine LeO.ite ?_ ?_
      | refine LeO.bind ?_ (fun _ => ?_)
    · intro y0 y1 y2 y3 y4 y5 y6 y7 y8
      unfold gutterref17_Lay.l1
      repeat' first
      | (with_reducible exact ih0 _ _ _ _ _ _ _)
      | (with_reducible exact ih1 _ _ _ _ _ _ _)
      | (with_reducible exact ih2 _ _ _ _)
      | (with_reducible exact ih3 _ _ _ _ _ _ _ _)
      | (with_reducible exact ih4 _ _ _ _ _ _ _ _ _)
      | (with_reducible exact gutterref13_High.mono _ _)
      | (with_reducible exact gutterref13_Right.mono _ _)
      | (with_reducible exact gutterref14_Fill.mono _ _ _)
      | (with_reducible exact gutterref15_Balance.mono _ _ _ _ _)
      | (with_reducible exact LeO.refl _)
      | (with_reducible exact LeO.none _)
      | (with_reducible refine LeO.ite ?_ ?_)
      | (with_reducible refine LeO.bind ?_ (fun _ => ?_))
      | exact ih0 _ _ _ _ _ _ _
      | exact ih1 _ _ _ _ _ _ _
      | exact ih2 _ _ _ _
      | exact ih3 _ _ _ _ _ _ _ _
      | exact ih4 _ _ _ _ _ _ _ _ _
      | exact gutterref13_High.mono _ _
      | exact gutterref13_Right.mono _ _
      | exact gutterref14_Fill.mono _ _ _
      | exact gutterref15_Balance.mono _ _ _ _ _
      | exact LeO.none _
      | refine LeO.ite ?_ ?_
      | refine LeO.bind ?_ (fun _ => ?_)
theorem gutterref17_Lay.mono : ∀ a0 a1 a2 a3 a4 a5 k, LeO (gutterref17_Lay.f k a0 a1 a2 a3 a4 a5) (gutterref17_Lay.f (k + 1) a0 a1 a2 a3 a4 a5) := by
  intro a0 a1 a2 a3 a4 a5 k
  obtain ⟨ih0, ih1, ih2, ih3, ih4⟩ := gutterref17_Lay.mono_l k
  unfold gutterref17_Lay.f
  repeat' first
      | (with_reducible exact ih0 _ _ _ _ _ _ _)
      | (with_reducible exact ih1 _ _ _ _ _ _ _)
      | (with_reducible exact ih2 _ _ _ _)
      | (with_reducible exact ih3 _ _ _ _ _ _ _ _)
      | (with_reducible exact ih4 _ _ _ _ _ _ _ _ _)
      | (with_reducible exact gutterref13_High.mono _ _)
      | (with_reducible exact gutterref13_Right.mono _ _)
      | (with_reducible exact gutterref14_Fill.mono _ _ _)
      | (with_reducible exact gutterref15_Balance.mono _ _ _ _ _)
      | (with_reducible exact LeO.refl _)
      | (with_reducible exact LeO.none _)
      | (with_reducible refine LeO.ite ?_ ?_)
      | (with_reducible refine LeO.bind ?_ (fun _ => ?_))
      | exact ih0 _ _ _ _ _ _ _
      | exact ih1 _ _ _ _ _ _ _
      | exact ih2 _ _ _ _
      | exact ih3 _ _ _ _ _ _ _ _
      | exact ih4 _ _ _ _ _ _ _ _ _
      | exact gutterref13_High.mono _ _
      | exact gutterref13_Right.mono _ _
      | exact gutterref14_Fill.mono _ _ _
      | exact gutterref15_Balance.mono _ _ _ _ _
      | exact LeO.none _
      | refine LeO.ite ?_ ?_
      | refine LeO.bind ?_ (fun _ => ?_)
def gutterref17_Lay.T15 : Bool × List (List Nat × List Nat) := (true, [([], []), ([], []), ([], []), ([1, 2], [1, 2]), ([3], [3]), ([4], [4]), ([], []), ([6], [6]), ([0, 5, 7], [0, 5, 7]), ([8], [8]), ([], []), ([], []), ([10, 11], [10, 11]), ([12], [12]), ([13], [13]), ([9, 14], [9, 14]), ([15, 9, 0, 1, 2, 3, 4, 5, 6, 7, 8, 9, 10, 11, 12, 13, 14, 15], [15])])
def gutterref17_Lay.B15 : List Nat := [0, 0, 0, 6, 14, 30, 0, 64, 255, 511, 0, 0, 3072, 7168, 15360, 32767, 65535]
theorem gutterref17_Lay.tab15 : rtab .any (opsOf Tryd.f42 15) = gutterref17_Lay.T15 := by kernel_rfl
theorem gutterref17_Lay.bits15 : waitsOk gutterref17_Lay.T15.2 gutterref17_Lay.B15 = true := by kernel_rfl
def gutterref17_Lay.T16 : Bool × List (List Nat × List Nat) := (true, [([], []), ([0], [0]), ([], []), ([], []), ([2, 3], [2, 3]), ([4], [4]), ([5], [5]), ([], []), ([], []), ([7, 8], [7, 8]), ([9], [9]), ([10], [10]), ([], []), ([], []), ([], []), ([], []), ([14, 15], [14, 15]), ([13, 16], [13, 16]), ([], []), ([], []), ([], []), ([], []), ([20, 21], [20, 21]), ([22], [22]), ([23], [23]), ([17, 18, 19, 24], [17, 18, 19, 24]), ([6, 11, 12, 25], [6, 11, 12, 25]), ([26], [26]), ([1, 27], [1, 27]), ([0, 1, 2, 3, 4, 5, 6, 7, 8, 9, 10, 11, 12, 13, 14, 15, 16, 17, 18, 19, 20, 21, 22, 23, 24, 25, 26, 27, 28], []), ([29, 28, 28, 0, 1, 2, 3, 4, 5, 6, 7, 8, 9, 10, 11, 12, 13, 14, 15, 16, 17, 18, 19, 20, 21, 22, 23, 24, 25, 26, 27, 28], [28, 29])])
def gutterref17_Lay.B16 : List Nat := [0, 1, 0, 0, 12, 28, 60, 0, 0, 384, 896, 1920, 0, 0, 0, 0, 49152, 122880, 0, 0, 0, 0, 3145728, 7340032, 15728640, 33546240, 67108860, 134217724, 268435455, 536870911, 1073741823]
theorem gutterref17_Lay.tab16 : rtab .any (opsOf Tryd.f42 16) = gutterref17_Lay.T16 := by kernel_rfl
theorem gutterref17_Lay.bits16 : waitsOk gutterref17_Lay.T16.2 gutterref17_Lay.B16 = true := by kernel_rfl
set_option maxHeartbeats 8000000 in
set_option maxRecDepth 100000 in
theorem gutterref17_Lay.calls (k : Nat) (A0 : Option Addr) (c0 : Nat) (l0 : List (S32)) (a1 : Int) (a2 : Int) (a3 : Int) (a4 : Int) (a5 : Bool) (r1 : Int) (r2 : Int) (r3 : List (S58)) (r4 : Int) (w : World) (hr0 : Kd.C k32 w A0 l0.length l0) (hc0 : l0.length ≤ c0) (h : gutterref17_Lay.f k l0 a1 a2 a3 a4 a5 = some (r1, r2, r3, r4)) :
    Calls Tryd.prog 42 #[.slice A0 l0.length c0, .int .i64 a1, .int .i64 a2, .int .i64 a3, .int .i64 a4, .bool a5] w fun e w' => ∃ v2_ : Value, e = .returned (.tuple #[.agg #[.int .i64 r1, .int .i64 r2, v2_], .int .i64 r4]) ∧ Kd.R k58 58 w' w.heap.size (fun _ => True) v2_ r3 ∧ Below w.heap.size w w' := by
  have hu50 := Tryd.underlying50
  have hu26 := Tryd.underlying26
  have hu56 := Tryd.underlying56
  have hu58 := Tryd.underlying58
  have HR0 := Aside0.mk hr0
  have HC0 := Aside0.mk hc0
  clear hr0 hc0
  have HB := Aside0.mk (Below.refl w.heap.size w)
  have H : ((gutterref13_Right.f k l0).bind fun t366 => (if t366 = true then (if (l0.length : Int) > 200 then (gutterref17_Lay.j0 k l0 a1 a2 a3 a4 a5 true) else (if a1 < 1 then (gutterref17_Lay.j0 k l0 a1 a2 a3 a4 a5 true) else (if a1 > 50 then (gutterref17_Lay.j0 k l0 a1 a2 a3 a4 a5 true) else ((gutterref17_size.f a2).bind fun t367 => (if t367 = true then ((gutterref17_size.f a3).bind fun t368 => (if t368 = true then (if a4 < 0 then (gutterref17_Lay.j0 k l0 a1 a2 a3 a4 a5 true) else (gutterref17_Lay.j0 k l0 a1 a2 a3 a4 a5 (decide (a4 > 1099511627776)))) else (gutterref17_Lay.j0 k l0 a1 a2 a3 a4 a5 true))) else (gutterref17_Lay.j0 k l0 a1 a2 a3 a4 a5 true)))))) else (gutterref17_Lay.j0 k l0 a1 a2 a3 a4 a5 true))) = some (r1, r2, r3, r4) := h
  clear h
  have HC7 := Aside0.mk H
  clear H
  go_enter Tryd.func42, Tryd.ntmps42
  go_upto_region 1 with (first | ((with_reducible refine gate_dst (N := 12) rfl ?_); (try (refine gate_guard (by rfl) ?_; dsimp only)); refine box_event ?hg (N := 12) ?hd (cs := #[.int .i64 0, .int .i64 0, .slice none 0 0]) (t := 50) ?hr ?_; (case hd => rfl); (case hg => rfl); (case hr => first | (go_simp; done) | (go_simp; rfl)); intro gb365 hg w8 hbox hb; have n0_ := Aside0.mk (below_step (by repeat (first | (with_reducible first | exact HB.out | apply below_alloc | apply pw_below_drewN | apply below_drew1) | exact HB.out)) hb); have n1_ := Aside0.mk (hbox); have n2_ := Aside0.mk ((by rw [hg]; exact (below_size (by repeat (first | (with_reducible first | exact HB.out | apply below_alloc | apply pw_below_drewN | apply below_drew1) | exact HB.out))) : w.heap.size ≤ gb365)); have n3_ := Aside0.mk ((by rw [hg]; exact (below_size (by repeat (first | (with_reducible first | exact HB.out | apply below_alloc | apply pw_below_drewN | apply below_drew1) | exact HB.out))) : w.heap.size ≤ gb365)); clear HB; have HB := n0_; have BK365 := n1_; have GW365 := n2_; have GE365 := n3_; clear n0_ n1_ n2_ n3_; clear hb hbox hg))
  (try simp only [Act.put, List.setIfInBounds_toArray, List.set_cons_zero, List.set_cons_succ])
  go_cut [56] (fun v56 wc => ∃ (kq : Nat) (x56_6 : Bool), v56 = .bool x56_6 ∧ Aside0 (gutterref17_Lay.j0 kq l0 a1 a2 a3 a4 a5 x56_6 = some (r1, r2, r3, r4)) ∧ Aside0 (kq ≤ k) ∧ Aside0 (wc.heap[gb365]? = some (.cells #[.int .i64 0, .int .i64 0, (.slice none 0 0)] 50 (0, 0))) ∧ Aside0 (Below w.heap.size w wc))
  case first =>
    have H := HC7.out
    clear HC7
    replace H := Option.bind_eq_some_iff.mp H
    obtain ⟨t366, A90, H⟩ := H
    replace H : (if t366 = true then (if (l0.length : Int) > 200 then (gutterref17_Lay.j0 k l0 a1 a2 a3 a4 a5 true) else (if a1 < 1 then (gutterref17_Lay.j0 k l0 a1 a2 a3 a4 a5 true) else (if a1 > 50 then (gutterref17_Lay.j0 k l0 a1 a2 a3 a4 a5 true) else ((gutterref17_size.f a2).bind fun t367 => (if t367 = true then ((gutterref17_size.f a3).bind fun t368 => (if t368 = true then (if a4 < 0 then (gutterref17_Lay.j0 k l0 a1 a2 a3 a4 a5 true) else (gutterref17_Lay.j0 k l0 a1 a2 a3 a4 a5 (decide (a4 > 1099511627776)))) else (gutterref17_Lay.j0 k l0 a1 a2 a3 a4 a5 true))) else (gutterref17_Lay.j0 k l0 a1 a2 a3 a4 a5 true)))))) else (gutterref17_Lay.j0 k l0 a1 a2 a3 a4 a5 true)) = some (r1, r2, r3, r4) := H
    have A9 := Aside0.mk A90
    clear A90
    by_cases c10 : t366 = true
    · subst c10
      have H1 : (if (l0.length : Int) > 200 then (gutterref17_Lay.j0 k l0 a1 a2 a3 a4 a5 true) else (if a1 < 1 then (gutterref17_Lay.j0 k l0 a1 a2 a3 a4 a5 true) else (if a1 > 50 then (gutterref17_Lay.j0 k l0 a1 a2 a3 a4 a5 true) else ((gutterref17_size.f a2).bind fun t367 => (if t367 = true then ((gutterref17_size.f a3).bind fun t368 => (if t368 = true then (if a4 < 0 then (gutterref17_Lay.j0 k l0 a1 a2 a3 a4 a5 true) else (gutterref17_Lay.j0 k l0 a1 a2 a3 a4 a5 (decide (a4 > 1099511627776)))) else (gutterref17_Lay.j0 k l0 a1 a2 a3 a4 a5 true))) else (gutterref17_Lay.j0 k l0 a1 a2 a3 a4 a5 true)))))) = some (r1, r2, r3, r4) := by rw [if_pos rfl] at H; exact H
      clear H
      have H := H1
      clear H1
      by_cases c11 : (l0.length : Int) > 200
      · rw [if_pos c11] at H
        have c11b0 : decide (200 < (l0.length : Int)) = true := decide_eq_true c11
        have c11b1 : decide (200 < l0.length) = true := decide_eq_true (by omega)
        clear c11
        (first | rw [c11b0] | (simp only [i64_w, i32_w]; rw [c11b0]) | skip)
        have H' := Aside0.mk H
        clear H
        go_wp2_with (first | ((with_reducible refine gate_callee (f := 27) rfl ?_); refine goesL_ (some 24) rfl rfl Tryd.func27 (by kernel_rfl) rfl #[.slice A0 l0.length c0] rfl (by (try simp only [List.map_toArray, List.map_cons, List.map_nil]); first | done | rfl | (simp only [List.length_drop, List.length_take]; rfl)) ?_; (with_reducible refine (gutterref13_Right.calls k _ _ l0 true _ ?side1 ?side2 A9.out).mono ?_); (case side1 => repeat (first | exact (Kd.C_below HR0.out HB.out) | (with_reducible refine Kd.C_alloc ?_ _) | (with_reducible refine Kd.C_drewN ?_ _) | (with_reducible refine Kd.C_drew ?_))); (case side2 => exact HC0.out); rintro e w12 ⟨rfl, hb⟩; refine ⟨_, rfl, ?_⟩; have n0_ := Aside0.mk (blk_below (g := gb365) (o := .cells #[.int .i64 0, .int .i64 0, .slice none 0 0] 50 (0, 0)) (by (with_reducible repeat (first | refine blk_drewN ?_ _ | refine blk_drew ?_ | refine blk_alloc ?_ _)); exact BK365.out) hb); have n1_ := Aside0.mk (below_step (by repeat (first | (with_reducible first | exact HB.out | apply below_alloc | apply pw_below_drewN | apply below_drew1 | refine below_set ?_ GE365.out) | exact HB.out)) hb); clear BK365; clear HB; have BK365 := n0_; have HB := n1_; clear n0_ n1_; (try clear hb); (try clear hb2); (try clear hk); (try clear hi)))
        go_meet
        case rel => exact ⟨_, (true), (by first | rfl | (simp; done) | (simp [*]; done)), H', ⟨by first | omega | exact Nat.le_refl _⟩, ⟨by (with_reducible repeat (first | refine blk_drewN ?_ _ | refine blk_drew ?_ | refine blk_alloc ?_ _)); exact BK365.out⟩, ⟨by repeat (first | (with_reducible first | exact HB.out | apply below_alloc | apply pw_below_drewN | apply below_drew1 | refine below_set ?_ GE365.out) | exact HB.out)⟩⟩
      · rw [if_neg c11] at H
        have c11b0 : decide (200 < (l0.length : Int)) = false := decide_eq_false c11
        have c11b1 : decide (200 < l0.length) = false := decide_eq_false (by omega)
        clear c11
        (first | rw [c11b0] | (simp only [i64_w, i32_w]; rw [c11b0]) | skip)
        by_cases c13 : a1 < 1
        · rw [if_pos c13] at H
          have c13b0 : decide (a1 < 1) = true := decide_eq_true c13
          clear c13
          have H' := Aside0.mk H
          clear H
          go_wp2_with (first | ((with_reducible refine gate_callee (f := 27) rfl ?_); refine goesL_ (some 24) rfl rfl Tryd.func27 (by kernel_rfl) rfl #[.slice A0 l0.length c0] rfl (by (try simp only [List.map_toArray, List.map_cons, List.map_nil]); first | done | rfl | (simp only [List.length_drop, List.length_take]; rfl)) ?_; (with_reducible refine (gutterref13_Right.calls k _ _ l0 true _ ?side1 ?side2 A9.out).mono ?_); (case side1 => repeat (first | exact (Kd.C_below HR0.out HB.out) | (with_reducible refine Kd.C_alloc ?_ _) | (with_reducible refine Kd.C_drewN ?_ _) | (with_reducible refine Kd.C_drew ?_))); (case side2 => exact HC0.out); rintro e w14 ⟨rfl, hb⟩; refine ⟨_, rfl, ?_⟩; have n0_ := Aside0.mk (blk_below (g := gb365) (o := .cells #[.int .i64 0, .int .i64 0, .slice none 0 0] 50 (0, 0)) (by (with_reducible repeat (first | refine blk_drewN ?_ _ | refine blk_drew ?_ | refine blk_alloc ?_ _)); exact BK365.out) hb); have n1_ := Aside0.mk (below_step (by repeat (first | (with_reducible first | exact HB.out | apply below_alloc | apply pw_below_drewN | apply below_drew1 | refine below_set ?_ GE365.out) | exact HB.out)) hb); clear BK365; clear HB; have BK365 := n0_; have HB := n1_; clear n0_ n1_; (try clear hb); (try clear hb2); (try clear hk); (try clear hi)))
          go_meet
          case rel => exact ⟨_, (true), (by first | rfl | (simp; done) | (simp [*]; done)), H', ⟨by first | omega | exact Nat.le_refl _⟩, ⟨by (with_reducible repeat (first | refine blk_drewN ?_ _ | refine blk_drew ?_ | refine blk_alloc ?_ _)); exact BK365.out⟩, ⟨by repeat (first | (with_reducible first | exact HB.out | apply below_alloc | apply pw_below_drewN | apply below_drew1 | refine below_set ?_ GE365.out) | exact HB.out)⟩⟩
        · rw [if_neg c13] at H
          have c13b0 : decide (a1 < 1) = false := decide_eq_false c13
          clear c13
          by_cases c15 : a1 > 50
          · rw [if_pos c15] at H
            have c15b0 : decide (50 < a1) = true := decide_eq_true c15
            clear c15
            have H' := Aside0.mk H
            clear H
            go_wp2_with (first | ((with_reducible refine gate_callee (f := 27) rfl ?_); refine goesL_ (some 24) rfl rfl Tryd.func27 (by kernel_rfl) rfl #[.slice A0 l0.length c0] rfl (by (try simp only [List.map_toArray, List.map_cons, List.map_nil]); first | done | rfl | (simp only [List.length_drop, List.length_take]; rfl)) ?_; (with_reducible refine (gutterref13_Right.calls k _ _ l0 true _ ?side1 ?side2 A9.out).mono ?_); (case side1 => repeat (first | exact (Kd.C_below HR0.out HB.out) | (with_reducible refine Kd.C_alloc ?_ _) | (with_reducible refine Kd.C_drewN ?_ _) | (with_reducible refine Kd.C_drew ?_))); (case side2 => exact HC0.out); rintro e w16 ⟨rfl, hb⟩; refine ⟨_, rfl, ?_⟩; have n0_ := Aside0.mk (blk_below (g := gb365) (o := .cells #[.int .i64 0, .int .i64 0, .slice none 0 0] 50 (0, 0)) (by (with_reducible repeat (first | refine blk_drewN ?_ _ | refine blk_drew ?_ | refine blk_alloc ?_ _)); exact BK365.out) hb); have n1_ := Aside0.mk (below_step (by repeat (first | (with_reducible first | exact HB.out | apply below_alloc | apply pw_below_drewN | apply below_drew1 | refine below_set ?_ GE365.out) | exact HB.out)) hb); clear BK365; clear HB; have BK365 := n0_; have HB := n1_; clear n0_ n1_; (try clear hb); (try clear hb2); (try clear hk); (try clear hi)))
            go_meet
            case rel => exact ⟨_, (true), (by first | rfl | (simp; done) | (simp [*]; done)), H', ⟨by first | omega | exact Nat.le_refl _⟩, ⟨by (with_reducible repeat (first | refine blk_drewN ?_ _ | refine blk_drew ?_ | refine blk_alloc ?_ _)); exact BK365.out⟩, ⟨by repeat (first | (with_reducible first | exact HB.out | apply below_alloc | apply pw_below_drewN | apply below_drew1 | refine below_set ?_ GE365.out) | exact HB.out)⟩⟩
          · rw [if_neg c15] at H
            have c15b0 : decide (50 < a1) = false := decide_eq_false c15
            clear c15
            replace H := Option.bind_eq_some_iff.mp H
            obtain ⟨t367, A170, H⟩ := H
            replace H : (if t367 = true then ((gutterref17_size.f a3).bind fun t368 => (if t368 = true then (if a4 < 0 then (gutterref17_Lay.j0 k l0 a1 a2 a3 a4 a5 true) else (gutterref17_Lay.j0 k l0 a1 a2 a3 a4 a5 (decide (a4 > 1099511627776)))) else (gutterref17_Lay.j0 k l0 a1 a2 a3 a4 a5 true))) else (gutterref17_Lay.j0 k l0 a1 a2 a3 a4 a5 true)) = some (r1, r2, r3, r4) := H
            have A17 := Aside0.mk A170
            clear A170
            by_cases c18 : t367 = true
            · subst c18
              have H1 : ((gutterref17_size.f a3).bind fun t368 => (if t368 = true then (if a4 < 0 then (gutterref17_Lay.j0 k l0 a1 a2 a3 a4 a5 true) else (gutterref17_Lay.j0 k l0 a1 a2 a3 a4 a5 (decide (a4 > 1099511627776)))) else (gutterref17_Lay.j0 k l0 a1 a2 a3 a4 a5 true))) = some (r1, r2, r3, r4) := by rw [if_pos rfl] at H; exact H
              clear H
              have H := H1
              clear H1
              replace H := Option.bind_eq_some_iff.mp H
              obtain ⟨t368, A190, H⟩ := H
              replace H : (if t368 = true then (if a4 < 0 then (gutterref17_Lay.j0 k l0 a1 a2 a3 a4 a5 true) else (gutterref17_Lay.j0 k l0 a1 a2 a3 a4 a5 (decide (a4 > 1099511627776)))) else (gutterref17_Lay.j0 k l0 a1 a2 a3 a4 a5 true)) = some (r1, r2, r3, r4) := H
              have A19 := Aside0.mk A190
              clear A190
              by_cases c20 : t368 = true
              · subst c20
                have H1 : (if a4 < 0 then (gutterref17_Lay.j0 k l0 a1 a2 a3 a4 a5 true) else (gutterref17_Lay.j0 k l0 a1 a2 a3 a4 a5 (decide (a4 > 1099511627776)))) = some (r1, r2, r3, r4) := by rw [if_pos rfl] at H; exact H
                clear H
                have H := H1
                clear H1
                by_cases c21 : a4 < 0
                · rw [if_pos c21] at H
                  have c21b0 : decide (a4 < 0) = true := decide_eq_true c21
                  clear c21
                  have H' := Aside0.mk H
                  clear H
                  go_wp2_with (first | ((with_reducible refine gate_callee (f := 27) rfl ?_); refine goesL_ (some 24) rfl rfl Tryd.func27 (by kernel_rfl) rfl #[.slice A0 l0.length c0] rfl (by (try simp only [List.map_toArray, List.map_cons, List.map_nil]); first | done | rfl | (simp only [List.length_drop, List.length_take]; rfl)) ?_; (with_reducible refine (gutterref13_Right.calls k _ _ l0 true _ ?side1 ?side2 A9.out).mono ?_); (case side1 => repeat (first | exact (Kd.C_below HR0.out HB.out) | (with_reducible refine Kd.C_alloc ?_ _) | (with_reducible refine Kd.C_drewN ?_ _) | (with_reducible refine Kd.C_drew ?_))); (case side2 => exact HC0.out); rintro e w22 ⟨rfl, hb⟩; refine ⟨_, rfl, ?_⟩; have n0_ := Aside0.mk (blk_below (g := gb365) (o := .cells #[.int .i64 0, .int .i64 0, .slice none 0 0] 50 (0, 0)) (by (with_reducible repeat (first | refine blk_drewN ?_ _ | refine blk_drew ?_ | refine blk_alloc ?_ _)); exact BK365.out) hb); have n1_ := Aside0.mk (below_step (by repeat (first | (with_reducible first | exact HB.out | apply below_alloc | apply pw_below_drewN | apply below_drew1 | refine below_set ?_ GE365.out) | exact HB.out)) hb); clear BK365; clear HB; have BK365 := n0_; have HB := n1_; clear n0_ n1_; (try clear hb); (try clear hb2); (try clear hk); (try clear hi)) | (go_at_call 81; (with_reducible refine (gutterref17_size.calls a2 true _ A17.out).mono ?_); rintro e w' ⟨rfl, ⟨nd, rfl⟩⟩) | (go_at_call 81; (with_reducible refine (gutterref17_size.calls a3 true _ A19.out).mono ?_); rintro e w' ⟨rfl, ⟨nd, rfl⟩⟩))
                  go_meet
                  case rel => exact ⟨_, (true), (by first | rfl | (simp; done) | (simp [*]; done)), H', ⟨by first | omega | exact Nat.le_refl _⟩, ⟨by (with_reducible repeat (first | refine blk_drewN ?_ _ | refine blk_drew ?_ | refine blk_alloc ?_ _)); exact BK365.out⟩, ⟨by repeat (first | (with_reducible first | exact HB.out | apply below_alloc | apply pw_below_drewN | apply below_drew1 | refine below_set ?_ GE365.out) | exact HB.out)⟩⟩
                · rw [if_neg c21] at H
                  have c21b0 : decide (a4 < 0) = false := decide_eq_false c21
                  clear c21
                  have H' := Aside0.mk H
                  clear H
                  go_wp2_with (first | ((with_reducible refine gate_callee (f := 27) rfl ?_); refine goesL_ (some 24) rfl rfl Tryd.func27 (by kernel_rfl) rfl #[.slice A0 l0.length c0] rfl (by (try simp only [List.map_toArray, List.map_cons, List.map_nil]); first | done | rfl | (simp only [List.length_drop, List.length_take]; rfl)) ?_; (with_reducible refine (gutterref13_Right.calls k _ _ l0 true _ ?side1 ?side2 A9.out).mono ?_); (case side1 => repeat (first | exact (Kd.C_below HR0.out HB.out) | (with_reducible refine Kd.C_alloc ?_ _) | (with_reducible refine Kd.C_drewN ?_ _) | (with_reducible refine Kd.C_drew ?_))); (case side2 => exact HC0.out); rintro e w23 ⟨rfl, hb⟩; refine ⟨_, rfl, ?_⟩; have n0_ := Aside0.mk (blk_below (g := gb365) (o := .cells #[.int .i64 0, .int .i64 0, .slice none 0 0] 50 (0, 0)) (by (with_reducible repeat (first | refine blk_drewN ?_ _ | refine blk_drew ?_ | refine blk_alloc ?_ _)); exact BK365.out) hb); have n1_ := Aside0.mk (below_step (by repeat (first | (with_reducible first | exact HB.out | apply below_alloc | apply pw_below_drewN | apply below_drew1 | refine below_set ?_ GE365.out) | exact HB.out)) hb); clear BK365; clear HB; have BK365 := n0_; have HB := n1_; clear n0_ n1_; (try clear hb); (try clear hb2); (try clear hk); (try clear hi)) | (go_at_call 81; (with_reducible refine (gutterref17_size.calls a2 true _ A17.out).mono ?_); rintro e w' ⟨rfl, ⟨nd, rfl⟩⟩) | (go_at_call 81; (with_reducible refine (gutterref17_size.calls a3 true _ A19.out).mono ?_); rintro e w' ⟨rfl, ⟨nd, rfl⟩⟩))
                  go_meet
                  case rel => exact ⟨_, (decide (a4 > 1099511627776)), (by first | rfl | (simp; done) | (simp [*]; done)), H', ⟨by first | omega | exact Nat.le_refl _⟩, ⟨by (with_reducible repeat (first | refine blk_drewN ?_ _ | refine blk_drew ?_ | refine blk_alloc ?_ _)); exact BK365.out⟩, ⟨by repeat (first | (with_reducible first | exact HB.out | apply below_alloc | apply pw_below_drewN | apply below_drew1 | refine below_set ?_ GE365.out) | exact HB.out)⟩⟩
              · replace c20 := Bool.eq_false_iff.mpr c20
                subst c20
                have H1 : (gutterref17_Lay.j0 k l0 a1 a2 a3 a4 a5 true) = some (r1, r2, r3, r4) := by rw [if_neg (show ¬ (false = true) by decide)] at H; exact H
                clear H
                have H := H1
                clear H1
                have H' := Aside0.mk H
                clear H
                go_wp2_with (first | ((with_reducible refine gate_callee (f := 27) rfl ?_); refine goesL_ (some 24) rfl rfl Tryd.func27 (by kernel_rfl) rfl #[.slice A0 l0.length c0] rfl (by (try simp only [List.map_toArray, List.map_cons, List.map_nil]); first | done | rfl | (simp only [List.length_drop, List.length_take]; rfl)) ?_; (with_reducible refine (gutterref13_Right.calls k _ _ l0 true _ ?side1 ?side2 A9.out).mono ?_); (case side1 => repeat (first | exact (Kd.C_below HR0.out HB.out) | (with_reducible refine Kd.C_alloc ?_ _) | (with_reducible refine Kd.C_drewN ?_ _) | (with_reducible refine Kd.C_drew ?_))); (case side2 => exact HC0.out); rintro e w24 ⟨rfl, hb⟩; refine ⟨_, rfl, ?_⟩; have n0_ := Aside0.mk (blk_below (g := gb365) (o := .cells #[.int .i64 0, .int .i64 0, .slice none 0 0] 50 (0, 0)) (by (with_reducible repeat (first | refine blk_drewN ?_ _ | refine blk_drew ?_ | refine blk_alloc ?_ _)); exact BK365.out) hb); have n1_ := Aside0.mk (below_step (by repeat (first | (with_reducible first | exact HB.out | apply below_alloc | apply pw_below_drewN | apply below_drew1 | refine below_set ?_ GE365.out) | exact HB.out)) hb); clear BK365; clear HB; have BK365 := n0_; have HB := n1_; clear n0_ n1_; (try clear hb); (try clear hb2); (try clear hk); (try clear hi)) | (go_at_call 81; (with_reducible refine (gutterref17_size.calls a2 true _ A17.out).mono ?_); rintro e w' ⟨rfl, ⟨nd, rfl⟩⟩) | (go_at_call 81; (with_reducible refine (gutterref17_size.calls a3 false _ A19.out).mono ?_); rintro e w' ⟨rfl, ⟨nd, rfl⟩⟩))
                go_meet
                case rel => exact ⟨_, (true), (by first | rfl | (simp; done) | (simp [*]; done)), H', ⟨by first | omega | exact Nat.le_refl _⟩, ⟨by (with_reducible repeat (first | refine blk_drewN ?_ _ | refine blk_drew ?_ | refine blk_alloc ?_ _)); exact BK365.out⟩, ⟨by repeat (first | (with_reducible first | exact HB.out | apply below_alloc | apply pw_below_drewN | apply below_drew1 | refine below_set ?_ GE365.out) | exact HB.out)⟩⟩
            · replace c18 := Bool.eq_false_iff.mpr c18
              subst c18
              have H1 : (gutterref17_Lay.j0 k l0 a1 a2 a3 a4 a5 true) = some (r1, r2, r3, r4) := by rw [if_neg (show ¬ (false = true) by decide)] at H; exact H
              clear H
              have H := H1
              clear H1
              have H' := Aside0.mk H
              clear H
              go_wp2_with (first | ((with_reducible refine gate_callee (f := 27) rfl ?_); refine goesL_ (some 24) rfl rfl Tryd.func27 (by kernel_rfl) rfl #[.slice A0 l0.length c0] rfl (by (try simp only [List.map_toArray, List.map_cons, List.map_nil]); first | done | rfl | (simp only [List.length_drop, List.length_take]; rfl)) ?_; (with_reducible refine (gutterref13_Right.calls k _ _ l0 true _ ?side1 ?side2 A9.out).mono ?_); (case side1 => repeat (first | exact (Kd.C_below HR0.out HB.out) | (with_reducible refine Kd.C_alloc ?_ _) | (with_reducible refine Kd.C_drewN ?_ _) | (with_reducible refine Kd.C_drew ?_))); (case side2 => exact HC0.out); rintro e w25 ⟨rfl, hb⟩; refine ⟨_, rfl, ?_⟩; have n0_ := Aside0.mk (blk_below (g := gb365) (o := .cells #[.int .i64 0, .int .i64 0, .slice none 0 0] 50 (0, 0)) (by (with_reducible repeat (first | refine blk_drewN ?_ _ | refine blk_drew ?_ | refine blk_alloc ?_ _)); exact BK365.out) hb); have n1_ := Aside0.mk (below_step (by repeat (first | (with_reducible first | exact HB.out | apply below_alloc | apply pw_below_drewN | apply below_drew1 | refine below_set ?_ GE365.out) | exact HB.out)) hb); clear BK365; clear HB; have BK365 := n0_; have HB := n1_; clear n0_ n1_; (try clear hb); (try clear hb2); (try clear hk); (try clear hi)) | (go_at_call 81; (with_reducible refine (gutterref17_size.calls a2 false _ A17.out).mono ?_); rintro e w' ⟨rfl, ⟨nd, rfl⟩⟩))
              go_meet
              case rel => exact ⟨_, (true), (by first | rfl | (simp; done) | (simp [*]; done)), H', ⟨by first | omega | exact Nat.le_refl _⟩, ⟨by (with_reducible repeat (first | refine blk_drewN ?_ _ | refine blk_drew ?_ | refine blk_alloc ?_ _)); exact BK365.out⟩, ⟨by repeat (first | (with_reducible first | exact HB.out | apply below_alloc | apply pw_below_drewN | apply below_drew1 | refine below_set ?_ GE365.out) | exact HB.out)⟩⟩
    · replace c10 := Bool.eq_false_iff.mpr c10
      subst c10
      have H1 : (gutterref17_Lay.j0 k l0 a1 a2 a3 a4 a5 true) = some (r1, r2, r3, r4) := by rw [if_neg (show ¬ (false = true) by decide)] at H; exact H
      clear H
      have H := H1
      clear H1
      have H' := Aside0.mk H
      clear H
      go_wp2_with (first | ((with_reducible refine gate_callee (f := 27) rfl ?_); refine goesL_ (some 24) rfl rfl Tryd.func27 (by kernel_rfl) rfl #[.slice A0 l0.length c0] rfl (by (try simp only [List.map_toArray, List.map_cons, List.map_nil]); first | done | rfl | (simp only [List.length_drop, List.length_take]; rfl)) ?_; (with_reducible refine (gutterref13_Right.calls k _ _ l0 false _ ?side1 ?side2 A9.out).mono ?_); (case side1 => repeat (first | exact (Kd.C_below HR0.out HB.out) | (with_reducible refine Kd.C_alloc ?_ _) | (with_reducible refine Kd.C_drewN ?_ _) | (with_reducible refine Kd.C_drew ?_))); (case side2 => exact HC0.out); rintro e w26 ⟨rfl, hb⟩; refine ⟨_, rfl, ?_⟩; have n0_ := Aside0.mk (blk_below (g := gb365) (o := .cells #[.int .i64 0, .int .i64 0, .slice none 0 0] 50 (0, 0)) (by (with_reducible repeat (first | refine blk_drewN ?_ _ | refine blk_drew ?_ | refine blk_alloc ?_ _)); exact BK365.out) hb); have n1_ := Aside0.mk (below_step (by repeat (first | (with_reducible first | exact HB.out | apply below_alloc | apply pw_below_drewN | apply below_drew1 | refine below_set ?_ GE365.out) | exact HB.out)) hb); clear BK365; clear HB; have BK365 := n0_; have HB := n1_; clear n0_ n1_; (try clear hb); (try clear hb2); (try clear hk); (try clear hi)))
      go_meet
      case rel => exact ⟨_, (true), (by first | rfl | (simp; done) | (simp [*]; done)), H', ⟨by first | omega | exact Nat.le_refl _⟩, ⟨by (with_reducible repeat (first | refine blk_drewN ?_ _ | refine blk_drew ?_ | refine blk_alloc ?_ _)); exact BK365.out⟩, ⟨by repeat (first | (with_reducible first | exact HB.out | apply below_alloc | apply pw_below_drewN | apply below_drew1 | refine below_set ?_ GE365.out) | exact HB.out)⟩⟩
  case rest =>
    clear HC7
    try clear c1
    try clear c2
    try clear p2
    try clear c4
    try clear c10
    try clear c11
    try clear c11b0
    try clear c11b1
    try clear c13
    try clear c13b0
    try clear c15
    try clear c15b0
    try clear c18
    try clear c20
    try clear c21
    try clear c21b0
    obtain ⟨kq, x56_6, rfl, HA, HJ6, BK365, HB⟩ := hcut
    cases kq with
    | zero => exact absurd HA.out (by simp [gutterref17_Lay.j0])
    | succ kj6 =>
      have H := HA.out
      clear HA
      simp only [gutterref17_Lay.j0] at H
      by_cases c27 : x56_6 = true
      · subst c27
        have H1 : (some (0, 0, ([] : List (S58)), 160)) = some (r1, r2, r3, r4) := by rw [if_pos rfl] at H; exact H
        clear H
        have H := H1
        clear H1
        simp only [Option.some.injEq, Prod.mk.injEq] at H
        obtain ⟨rfl, rfl, rfl, rfl⟩ := H
        have hcz28_0 : wc.cell? ⟨gb365, 0, none⟩ = some (.int .i64 0) := (blk_cell BK365.out 0).trans rfl
        have hcz28_1 : wc.cell? ⟨gb365, 1, none⟩ = some (.int .i64 0) := (blk_cell BK365.out 1).trans rfl
        have hcz28_2 : wc.cell? ⟨gb365, 2, none⟩ = some (.slice none 0 0) := (blk_cell BK365.out 2).trans rfl
        have hfz28_0 := blk_frozen BK365.out 0
        have hfz28_1 := blk_frozen BK365.out 1
        have hfz28_2 := blk_frozen BK365.out 2
        go_wp2
        refine bodyPost_ret (results_ct rfl _ _ gb365 50 #[.int .i64 0, .int .i64 0, .slice none 0 0] (0, 0) _ rfl (by (with_reducible repeat (first | refine blk_drewN ?_ _ | refine blk_drew ?_ | refine blk_alloc ?_ _)); refine blk_put (cs := #[.int .i64 0, .int .i64 0, .slice none 0 0]) ?_ 2 _ rfl; (with_reducible repeat (first | refine blk_drewN ?_ _ | refine blk_drew ?_ | refine blk_alloc ?_ _)); refine blk_put (cs := #[.int .i64 0, .int .i64 0, .slice none 0 0]) ?_ 1 _ rfl; (with_reducible repeat (first | refine blk_drewN ?_ _ | refine blk_drew ?_ | refine blk_alloc ?_ _)); refine blk_put (cs := #[.int .i64 0, .int .i64 0, .slice none 0 0]) ?_ 0 _ rfl; (with_reducible repeat (first | refine blk_drewN ?_ _ | refine blk_drew ?_ | refine blk_alloc ?_ _)); exact BK365.out) Tryd.underlying50 rfl (by kernel_rfl)) rfl ?_
        exact ⟨_, by first | rfl | (simp [errW_none, errW_some] <;> rfl) | (simp [*, errW_none, errW_some] <;> rfl), by first | exact Kd.R_nil _ _ _ _ _ | exact Kd.N_nil _ _ _ _ _ | exact Kd.V_nil _ _ _ _ _ | exact Kd.Q_nil _ _ _ _ _ | exact Kd.S_nil _ _ _ _ _, by repeat (first | (with_reducible first | exact HB.out | apply below_alloc | apply pw_below_drewN | apply below_drew1 | refine below_set ?_ GE365.out) | exact HB.out)⟩
      · replace c27 := Bool.eq_false_iff.mpr c27
        subst c27
        have H1 : (if a5 = true then (gutterref17_Lay.j1 kj6 l0 a1 a2 a3 a4 a4 (a4 == 0)) else (gutterref17_Lay.j1 kj6 l0 a1 a2 a3 a4 a4 true)) = some (r1, r2, r3, r4) := by rw [if_neg (show ¬ (false = true) by decide)] at H; exact H
        clear H
        have H := H1
        clear H1
        have HC29 := Aside0.mk H
        clear H
        go_upto_region 4 with (fail)
        go_cut [64] (fun v64 wc => ∃ (kq : Nat) (x64_28 : Bool), v64 = .bool x64_28 ∧ Aside0 (gutterref17_Lay.j1 kq l0 a1 a2 a3 a4 a4 x64_28 = some (r1, r2, r3, r4)) ∧ Aside0 (kq ≤ kj6) ∧ Aside0 (wc.heap[gb365]? = some (.cells #[.int .i64 0, .int .i64 0, (.slice none 0 0)] 50 (0, 0))) ∧ Aside0 (Below w.heap.size w wc))
        case first =>
          have H := HC29.out
          clear HC29
          by_cases c30 : a5 = true
          · subst c30
            have H1 : (gutterref17_Lay.j1 kj6 l0 a1 a2 a3 a4 a4 (a4 == 0)) = some (r1, r2, r3, r4) := by rw [if_pos rfl] at H; exact H
            clear H
            have H := H1
            clear H1
            have H' := Aside0.mk H
            clear H
            go_wp2
            go_meet
            case rel => exact ⟨_, ((a4 == 0)), (by first | rfl | (simp; done) | (simp [*]; done)), H', ⟨by have := HJ6.out; first | omega | exact Nat.le_refl _⟩, ⟨by (with_reducible repeat (first | refine blk_drewN ?_ _ | refine blk_drew ?_ | refine blk_alloc ?_ _)); exact BK365.out⟩, ⟨by repeat (first | (with_reducible first | exact HB.out | apply below_alloc | apply pw_below_drewN | apply below_drew1 | refine below_set ?_ GE365.out) | exact HB.out)⟩⟩
          · replace c30 := Bool.eq_false_iff.mpr c30
            subst c30
            have H1 : (gutterref17_Lay.j1 kj6 l0 a1 a2 a3 a4 a4 true) = some (r1, r2, r3, r4) := by rw [if_neg (show ¬ (false = true) by decide)] at H; exact H
            clear H
            have H := H1
            clear H1
            have H' := Aside0.mk H
            clear H
            go_wp2
            go_meet
            case rel => exact ⟨_, (true), (by first | rfl | (simp; done) | (simp [*]; done)), H', ⟨by have := HJ6.out; first | omega | exact Nat.le_refl _⟩, ⟨by (with_reducible repeat (first | refine blk_drewN ?_ _ | refine blk_drew ?_ | refine blk_alloc ?_ _)); exact BK365.out⟩, ⟨by repeat (first | (with_reducible first | exact HB.out | apply below_alloc | apply pw_below_drewN | apply below_drew1 | refine below_set ?_ GE365.out) | exact HB.out)⟩⟩
        case rest =>
          clear HC29
          try clear c1
          try clear c2
          try clear p2
          try clear c3
          try clear c4
          try clear c10
          try clear c11
          try clear c11b0
          try clear c11b1
          try clear c13
          try clear c13b0
          try clear c15
          try clear c15b0
          try clear c18
          try clear c20
          try clear c21
          try clear c21b0
          try clear c27
          try clear c30
          try clear hcz28_0
          try clear hcz28_1
          try clear hcz28_2
          try clear hfz28_0
          try clear hfz28_1
          try clear hfz28_2
          try clear p2
          obtain ⟨kq, x64_28, rfl, HA, HJ28, BK365, HB⟩ := hcut
          cases kq with
          | zero => exact absurd HA.out (by simp [gutterref17_Lay.j1])
          | succ kj28 =>
            have H := HA.out
            clear HA
            simp only [gutterref17_Lay.j1] at H
            have HC31 := Aside0.mk H
            clear H
            go_upto_if 64 with (fail)
            go_cut [14] (fun v14 wc => ∃ (kq : Nat) (x14_30 : Int), v14 = .int .i64 x14_30 ∧ Aside0 (gutterref17_Lay.j2 kq l0 a2 a3 x14_30 = some (r1, r2, r3, r4)) ∧ Aside0 (kq ≤ kj28) ∧ Aside0 (wc.heap[gb365]? = some (.cells #[.int .i64 0, .int .i64 0, (.slice none 0 0)] 50 (0, 0))) ∧ Aside0 (Below w.heap.size w wc))
            case first =>
              have H := HC31.out
              clear HC31
              by_cases c32 : x64_28 = true
              · subst c32
                have H1 : ((gutterref15_Balance.f kj28 l0 a1 a4 1000).bind fun bt369 => (gutterref17_Lay.j2 kj28 l0 a2 a3 bt369.1)) = some (r1, r2, r3, r4) := by rw [if_pos rfl] at H; exact H
                clear H
                have H := H1
                clear H1
                replace H := Option.bind_eq_some_iff.mp H
                obtain ⟨⟨t369, t370, t371, t372, t373⟩, A330, H⟩ := H
                replace H : (gutterref17_Lay.j2 kj28 l0 a2 a3 t369) = some (r1, r2, r3, r4) := H
                have A33 := Aside0.mk A330
                clear A330
                have H' := Aside0.mk H
                clear H
                go_wp2_with (first | ((with_reducible refine gate_callee (f := 35) rfl ?_); refine goesL_ (some 69) rfl rfl Tryd.func35 (by kernel_rfl) rfl #[.slice A0 l0.length c0, .int .i64 a1, .int .i64 a4, .int .i64 1000] rfl (by (try simp only [List.map_toArray, List.map_cons, List.map_nil]); first | done | rfl | (simp only [List.length_drop, List.length_take]; rfl)) ?_; (with_reducible refine (gutterref15_Balance.calls kj28 _ _ l0 a1 a4 1000 t369 t370 t371 t372 t373 _ ?side1 ?side2 A33.out).mono ?_); (case side1 => repeat (first | exact (Kd.C_below HR0.out HB.out) | (with_reducible refine Kd.C_alloc ?_ _) | (with_reducible refine Kd.C_drewN ?_ _) | (with_reducible refine Kd.C_drew ?_))); (case side2 => exact HC0.out); rintro e w34 ⟨rfl, hb⟩; refine ⟨_, rfl, ?_⟩; have n0_ := Aside0.mk (blk_below (g := gb365) (o := .cells #[.int .i64 0, .int .i64 0, .slice none 0 0] 50 (0, 0)) (by (with_reducible repeat (first | refine blk_drewN ?_ _ | refine blk_drew ?_ | refine blk_alloc ?_ _)); exact BK365.out) hb); have n1_ := Aside0.mk (below_step (by repeat (first | (with_reducible first | exact HB.out | apply below_alloc | apply pw_below_drewN | apply below_drew1 | refine below_set ?_ GE365.out) | exact HB.out)) hb); clear BK365; clear HB; have BK365 := n0_; have HB := n1_; clear n0_ n1_; (try clear hb); (try clear hb2); (try clear hk); (try clear hi)) | ((with_reducible refine gate_dst (N := 15) rfl ?_); (try (refine gate_guard (by rfl) ?_; dsimp only)); refine box_event ?hg (N := 15) ?hd (cs := #[.int .i64 0, .int .i64 0, .int .i64 0, .bool false]) (t := 26) ?hr ?_; (case hd => rfl); (case hg => rfl); (case hr => first | (go_simp; done) | (go_simp; rfl)); intro gb374 hg w35 hbox hb; have n0_ := Aside0.mk (blk_below (g := gb365) (o := .cells #[.int .i64 0, .int .i64 0, .slice none 0 0] 50 (0, 0)) (by (with_reducible repeat (first | refine blk_drewN ?_ _ | refine blk_drew ?_ | refine blk_alloc ?_ _)); exact BK365.out) hb); have n1_ := Aside0.mk (below_step (by repeat (first | (with_reducible first | exact HB.out | apply below_alloc | apply pw_below_drewN | apply below_drew1 | refine below_set ?_ GE365.out) | exact HB.out)) hb); have n2_ := Aside0.mk (hbox); have n3_ := Aside0.mk ((by rw [hg]; exact (below_size (by repeat (first | (with_reducible first | exact HB.out | apply below_alloc | apply pw_below_drewN | apply below_drew1 | refine below_set ?_ GE365.out) | exact HB.out))) : w.heap.size ≤ gb374)); have n4_ := Aside0.mk ((by rw [hg]; exact (below_size (by repeat (first | (with_reducible first | exact HB.out | apply below_alloc | apply pw_below_drewN | apply below_drew1 | refine below_set ?_ GE365.out) | exact HB.out))) : w.heap.size ≤ gb374)); have n5_ := Aside0.mk ((by rw [hg]; exact Nat.ne_of_lt (blk_lt (g := gb365) (o := .cells #[.int .i64 0, .int .i64 0, .slice none 0 0] 50 (0, 0)) (by (with_reducible repeat (first | refine blk_drewN ?_ _ | refine blk_drew ?_ | refine blk_alloc ?_ _)); exact BK365.out)) : gb365 ≠ gb374)); have n6_ := Aside0.mk ((by rw [hg]; exact Nat.ne_of_gt (blk_lt (g := gb365) (o := .cells #[.int .i64 0, .int .i64 0, .slice none 0 0] 50 (0, 0)) (by (with_reducible repeat (first | refine blk_drewN ?_ _ | refine blk_drew ?_ | refine blk_alloc ?_ _)); exact BK365.out)) : gb374 ≠ gb365)); clear BK365; clear HB; have BK365 := n0_; have HB := n1_; have BK374 := n2_; have GW374 := n3_; have GE374 := n4_; have NB365_374 := n5_; have NB374_365 := n6_; clear n0_ n1_ n2_ n3_ n4_ n5_ n6_; clear hb hbox hg; have hnb36 := NB374_365.out; have hnc36 := NB365_374.out; have hcz37_0 : w35.cell? ⟨gb374, 0, none⟩ = some (.int .i64 0) := (blk_cell BK374.out 0).trans rfl; have hcz37_1 : w35.cell? ⟨gb374, 1, none⟩ = some (.int .i64 0) := (blk_cell BK374.out 1).trans rfl; have hcz37_2 : w35.cell? ⟨gb374, 2, none⟩ = some (.int .i64 0) := (blk_cell BK374.out 2).trans rfl; have hcz37_3 : w35.cell? ⟨gb374, 3, none⟩ = some (.bool false) := (blk_cell BK374.out 3).trans rfl; have hfz37_0 := blk_frozen BK374.out 0; have hfz37_1 := blk_frozen BK374.out 1; have hfz37_2 := blk_frozen BK374.out 2; have hfz37_3 := blk_frozen BK374.out 3))
                go_meet
                case rel => exact ⟨_, (t369), (by first | rfl | (simp; done) | (simp [*]; done)), H', ⟨by have := HJ6.out; have := HJ28.out; first | omega | exact Nat.le_refl _⟩, ⟨by (with_reducible repeat (first | refine blk_drewN ?_ _ | refine blk_drew ?_ | refine blk_alloc ?_ _)); refine blk_far ?_ NB365_374.out _; (with_reducible repeat (first | refine blk_drewN ?_ _ | refine blk_drew ?_ | refine blk_alloc ?_ _)); refine blk_far ?_ NB365_374.out _; (with_reducible repeat (first | refine blk_drewN ?_ _ | refine blk_drew ?_ | refine blk_alloc ?_ _)); refine blk_far ?_ NB365_374.out _; (with_reducible repeat (first | refine blk_drewN ?_ _ | refine blk_drew ?_ | refine blk_alloc ?_ _)); refine blk_far ?_ NB365_374.out _; (with_reducible repeat (first | refine blk_drewN ?_ _ | refine blk_drew ?_ | refine blk_alloc ?_ _)); exact BK365.out⟩, ⟨by repeat (first | (with_reducible first | exact HB.out | apply below_alloc | apply pw_below_drewN | apply below_drew1 | refine below_set ?_ GE365.out | refine below_set ?_ GE374.out) | exact HB.out)⟩⟩
              · replace c32 := Bool.eq_false_iff.mpr c32
                subst c32
                have H1 : (gutterref17_Lay.j2 kj28 l0 a2 a3 a4) = some (r1, r2, r3, r4) := by rw [if_neg (show ¬ (false = true) by decide)] at H; exact H
                clear H
                have H := H1
                clear H1
                have H' := Aside0.mk H
                clear H
                go_wp2
                go_meet
                case rel => exact ⟨_, (a4), (by first | rfl | (simp; done) | (simp [*]; done)), H', ⟨by have := HJ6.out; have := HJ28.out; first | omega | exact Nat.le_refl _⟩, ⟨by (with_reducible repeat (first | refine blk_drewN ?_ _ | refine blk_drew ?_ | refine blk_alloc ?_ _)); exact BK365.out⟩, ⟨by repeat (first | (with_reducible first | exact HB.out | apply below_alloc | apply pw_below_drewN | apply below_drew1 | refine below_set ?_ GE365.out) | exact HB.out)⟩⟩
            case rest =>
              clear HC31
              try clear c1
              try clear c2
              try clear p2
              try clear c3
              try clear c4
              try clear c10
              try clear c11
              try clear c11b0
              try clear c11b1
              try clear c13
              try clear c13b0
              try clear c15
              try clear c15b0
              try clear c18
              try clear c20
              try clear c21
              try clear c21b0
              try clear c27
              try clear c30
              try clear c32
              try clear c35
              try clear c36
              try clear hcz28_0
              try clear hcz28_1
              try clear hcz28_2
              try clear hcz37_0
              try clear hcz37_1
              try clear hcz37_2
              try clear hcz37_3
              try clear hfz28_0
              try clear hfz28_1
              try clear hfz28_2
              try clear hfz37_0
              try clear hfz37_1
              try clear hfz37_2
              try clear hfz37_3
              try clear p2
              obtain ⟨kq, x14_30, rfl, HA, HJ30, BK365, HB⟩ := hcut
              cases kq with
              | zero => exact absurd HA.out (by simp [gutterref17_Lay.j2])
              | succ kj30 =>
                have H := HA.out
                clear HA
                simp only [gutterref17_Lay.j2] at H
                replace H := Option.bind_eq_some_iff.mp H
                obtain ⟨⟨t375, t376⟩, A380, H⟩ := H
                replace H : (gutterref17_Lay.l0 kj30 l0 a2 a3 t375 0 x14_30 (t375.length : Int) ([] : List (S58))) = some (r1, r2, r3, r4) := H
                have A38 := Aside0.mk A380
                clear A380
                have H' := Aside0.mk H
                clear H
                go_wp2_with (first | ((with_reducible refine gate_callee (f := 57) rfl ?_); refine goesL_ (some 77) rfl rfl Tryd.func57 (by kernel_rfl) rfl #[.slice A0 l0.length c0, .int .i64 x14_30] rfl (by (try simp only [List.map_toArray, List.map_cons, List.map_nil]); first | done | rfl | (simp only [List.length_drop, List.length_take]; rfl)) ?_; (with_reducible refine (gutterref14_Fill.calls kj30 _ _ l0 x14_30 t375 t376 _ ?side1 ?side2 A38.out).mono ?_); (case side1 => repeat (first | exact (Kd.C_below HR0.out HB.out) | (with_reducible refine Kd.C_alloc ?_ _) | (with_reducible refine Kd.C_drewN ?_ _) | (with_reducible refine Kd.C_drew ?_))); (case side2 => exact HC0.out); rintro e w39 ⟨v377, rfl, ho0, hb⟩; refine ⟨_, rfl, ?_⟩; have n0_ := Aside0.mk (Kd.R_lower ho0 (below_size (by repeat (first | (with_reducible first | exact HB.out | apply below_alloc | apply pw_below_drewN | apply below_drew1 | refine below_set ?_ GE365.out) | exact HB.out)))); have n1_ := Aside0.mk (blk_below (g := gb365) (o := .cells #[.int .i64 0, .int .i64 0, .slice none 0 0] 50 (0, 0)) (by (with_reducible repeat (first | refine blk_drewN ?_ _ | refine blk_drew ?_ | refine blk_alloc ?_ _)); exact BK365.out) hb); have n2_ := Aside0.mk (below_step (by repeat (first | (with_reducible first | exact HB.out | apply below_alloc | apply pw_below_drewN | apply below_drew1 | refine below_set ?_ GE365.out) | exact HB.out)) hb); clear BK365; clear HB; have HO378 := n0_; have BK365 := n1_; have HB := n2_; clear n0_ n1_ n2_; (try clear hb); (try clear hb2); (try clear hk); (try clear hi); (try clear ho0); obtain ⟨Ao40, co40, eo40⟩ := Kd.R_slice HO378.out; subst eo40) | ((with_reducible refine gate_dst (N := 19) rfl ?_); (try (refine gate_guard (by rfl) ?_; dsimp only)); refine box_event ?hg (N := 19) ?hd (cs := #[.int .i64 0, .int .i64 0, .slice none 0 0]) (t := 50) ?hr ?_; (case hd => rfl); (case hg => rfl); (case hr => first | (go_simp; done) | (go_simp; rfl)); intro gb379 hg w41 hbox hb; have n0_ := Aside0.mk (Kd.R_below (by (with_reducible repeat (first | apply Kd.R_alloc | apply Kd.R_drewN | apply Kd.R_drew)); exact HO378.out) hb); have n1_ := Aside0.mk (blk_below (g := gb365) (o := .cells #[.int .i64 0, .int .i64 0, .slice none 0 0] 50 (0, 0)) (by (with_reducible repeat (first | refine blk_drewN ?_ _ | refine blk_drew ?_ | refine blk_alloc ?_ _)); exact BK365.out) hb); have n2_ := Aside0.mk (below_step (by repeat (first | (with_reducible first | exact HB.out | apply below_alloc | apply pw_below_drewN | apply below_drew1 | refine below_set ?_ GE365.out) | exact HB.out)) hb); have n3_ := Aside0.mk (hbox); have n4_ := Aside0.mk ((by rw [hg]; exact (below_size (by repeat (first | (with_reducible first | exact HB.out | apply below_alloc | apply pw_below_drewN | apply below_drew1 | refine below_set ?_ GE365.out) | exact HB.out))) : w.heap.size ≤ gb379)); have n5_ := Aside0.mk ((by rw [hg]; exact (below_size (by repeat (first | (with_reducible first | exact HB.out | apply below_alloc | apply pw_below_drewN | apply below_drew1 | refine below_set ?_ GE365.out) | exact HB.out))) : w.heap.size ≤ gb379)); have n6_ := Aside0.mk ((by rw [hg]; exact Nat.ne_of_lt (blk_lt (g := gb365) (o := .cells #[.int .i64 0, .int .i64 0, .slice none 0 0] 50 (0, 0)) (by (with_reducible repeat (first | refine blk_drewN ?_ _ | refine blk_drew ?_ | refine blk_alloc ?_ _)); exact BK365.out)) : gb365 ≠ gb379)); have n7_ := Aside0.mk ((by rw [hg]; exact Nat.ne_of_gt (blk_lt (g := gb365) (o := .cells #[.int .i64 0, .int .i64 0, .slice none 0 0] 50 (0, 0)) (by (with_reducible repeat (first | refine blk_drewN ?_ _ | refine blk_drew ?_ | refine blk_alloc ?_ _)); exact BK365.out)) : gb379 ≠ gb365)); clear HO378; clear BK365; clear HB; have HO378 := n0_; have BK365 := n1_; have HB := n2_; have BK379 := n3_; have GW379 := n4_; have GE379 := n5_; have NB365_379 := n6_; have NB379_365 := n7_; clear n0_ n1_ n2_ n3_ n4_ n5_ n6_ n7_; clear hb hbox hg; have hnb42 := NB379_365.out; have hnc42 := NB365_379.out; have hcz43_0 : w41.cell? ⟨gb379, 0, none⟩ = some (.int .i64 0) := (blk_cell BK379.out 0).trans rfl; have hcz43_1 : w41.cell? ⟨gb379, 1, none⟩ = some (.int .i64 0) := (blk_cell BK379.out 1).trans rfl; have hcz43_2 : w41.cell? ⟨gb379, 2, none⟩ = some (.slice none 0 0) := (blk_cell BK379.out 2).trans rfl; have hfz43_0 := blk_frozen BK379.out 0; have hfz43_1 := blk_frozen BK379.out 1; have hfz43_2 := blk_frozen BK379.out 2))
                go_loopg [20] kj30 (fun kq v20 w' => ∃ (x20_4 : Int) (x380002_4 : List (S58)) (u380002 : Value), v20 = .int .i64 x20_4 ∧ Aside0 (gutterref17_Lay.l0 kq l0 a2 a3 t375 x20_4 x14_30 (t375.length : Int) x380002_4 = some (r1, r2, r3, r4)) ∧ Aside0 (kq ≤ kj30) ∧ Aside0 (Kd.R k73 73 w' w.heap.size (fun _ => True) (.slice Ao40 t375.length co40) t375) ∧ Aside0 (Kd.R k58 58 w' w.heap.size (fun _ => True) u380002 x380002_4) ∧ Aside0 (w'.heap[gb365]? = some (.cells #[.int .i64 0, .int .i64 0, (.slice none 0 0)] 50 (0, 0))) ∧ Aside0 (w'.heap[gb379]? = some (.cells #[.int .i64 x14_30, .int .i64 (t375.length : Int), u380002] 50 (0, 0))) ∧ Aside0 (Below w.heap.size w w'))
                case atStart => exact ⟨(0), (([] : List (S58))), (.slice none 0 0), (by first | rfl | (simp; done) | (simp [*]; done)), H', ⟨Nat.le_refl _⟩, ⟨by (with_reducible repeat (first | apply Kd.R_alloc | apply Kd.R_drewN | apply Kd.R_drew)); exact Kd.R_mono (Kd.R_far (p := ⟨gb379, 2, none⟩) (Kd.R_far (p := ⟨gb379, 1, none⟩) (Kd.R_far (p := ⟨gb379, 0, none⟩) (Kd.R_types HO378.out BK379.out (by decide)) (fun _ hk => hk.2) (.int .i64 x14_30)) (fun _ hk => hk.2) (.int .i64 (t375.length : Int))) (fun _ hk => hk.2) (.slice none 0 0)) (fun _ hk => trivial)⟩, ⟨by first | exact Kd.R_nil _ _ _ _ _ | exact Kd.N_nil _ _ _ _ _ | exact Kd.V_nil _ _ _ _ _ | exact Kd.Q_nil _ _ _ _ _ | exact Kd.S_nil _ _ _ _ _⟩, ⟨by (with_reducible repeat (first | refine blk_drewN ?_ _ | refine blk_drew ?_ | refine blk_alloc ?_ _)); refine blk_far ?_ NB365_379.out _; (with_reducible repeat (first | refine blk_drewN ?_ _ | refine blk_drew ?_ | refine blk_alloc ?_ _)); refine blk_far ?_ NB365_379.out _; (with_reducible repeat (first | refine blk_drewN ?_ _ | refine blk_drew ?_ | refine blk_alloc ?_ _)); refine blk_far ?_ NB365_379.out _; (with_reducible repeat (first | refine blk_drewN ?_ _ | refine blk_drew ?_ | refine blk_alloc ?_ _)); exact BK365.out⟩, ⟨by (with_reducible repeat (first | refine blk_drewN ?_ _ | refine blk_drew ?_ | refine blk_alloc ?_ _)); refine blk_put (cs := #[.int .i64 x14_30, .int .i64 (t375.length : Int), .slice none 0 0]) ?_ 2 _ rfl; (with_reducible repeat (first | refine blk_drewN ?_ _ | refine blk_drew ?_ | refine blk_alloc ?_ _)); refine blk_put (cs := #[.int .i64 x14_30, .int .i64 0, .slice none 0 0]) ?_ 1 _ rfl; (with_reducible repeat (first | refine blk_drewN ?_ _ | refine blk_drew ?_ | refine blk_alloc ?_ _)); refine blk_put (cs := #[.int .i64 0, .int .i64 0, .slice none 0 0]) ?_ 0 _ rfl; (with_reducible repeat (first | refine blk_drewN ?_ _ | refine blk_drew ?_ | refine blk_alloc ?_ _)); exact BK379.out⟩, ⟨by repeat (first | (with_reducible first | exact HB.out | apply below_alloc | apply pw_below_drewN | apply below_drew1 | refine below_set ?_ GE365.out | refine below_set ?_ GE379.out) | exact HB.out)⟩⟩
                case round =>
                  clear H'
                  try clear c1
                  try clear c2
                  try clear p2
                  try clear c3
                  try clear c4
                  try clear c5
                  try clear c10
                  try clear c11
                  try clear c11b0
                  try clear c11b1
                  try clear c13
                  try clear c13b0
                  try clear c15
                  try clear c15b0
                  try clear c18
                  try clear c20
                  try clear c21
                  try clear c21b0
                  try clear c27
                  try clear c30
                  try clear c32
                  try clear c35
                  try clear c36
                  try clear c42
                  try clear hcz28_0
                  try clear hcz28_1
                  try clear hcz28_2
                  try clear hcz37_0
                  try clear hcz37_1
                  try clear hcz37_2
                  try clear hcz37_3
                  try clear hcz43_0
                  try clear hcz43_1
                  try clear hcz43_2
                  try clear hfz28_0
                  try clear hfz28_1
                  try clear hfz28_2
                  try clear hfz37_0
                  try clear hfz37_1
                  try clear hfz37_2
                  try clear hfz37_3
                  try clear hfz43_0
                  try clear hfz43_1
                  try clear hfz43_2
                  try clear p2
                  obtain ⟨x20_4, x380002_4, u380002, rfl, HA, HK4, HO_17, HO_380002, BK365, BK379, HB⟩ := hrel
                  cases gk with
                  | zero => exact absurd HA.out (by simp [gutterref17_Lay.l0])
                  | succ k4 =>
                    have H := HA.out
                    clear HA
                    simp only [gutterref17_Lay.l0] at H
                    by_cases c44 : x20_4 < (t375.length : Int)
                    · rw [if_pos c44] at H
                      have c44b0 : decide (x20_4 < (t375.length : Int)) = true := decide_eq_true c44
                      clear c44
                      by_cases c45 : 0 ≤ x20_4
                      · rw [if_pos c45] at H
                        have c45b0 : decide (0 ≤ x20_4) = true := decide_eq_true c45
                        clear c45
                        have H' := Aside0.mk H
                        clear H
                        have p380 : 0 ≤ (x20_4 : Int) := of_decide_eq_true (by first | (with_reducible assumption) | assumption)
                        have q380 : x20_4 < (t375.length : Int) := of_decide_eq_true (by first | (with_reducible assumption) | assumption)
                        obtain ⟨ad380, e380, hx380_0, hx380_1, hx380_2⟩ := at_T73 (Kd.R_reads' HO_17.out).2.2 x20_4 p380 q380
                        cases e380
                        replace p380 := eq_true p380
                        replace q380 := eq_true q380
                        go_wp2
                        go_loopg [21] k4 (fun kq v21 w' => ∃ (x21_5 : Int) (x380002_5 : List (S58)) (u380002 : Value), v21 = .int .i64 x21_5 ∧ Aside0 (gutterref17_Lay.l1 kq l0 a2 a3 t375 x20_4 x21_5 x14_30 (t375.length : Int) x380002_5 = some (r1, r2, r3, r4)) ∧ Aside0 (kq ≤ k4) ∧ Aside0 (Kd.R k73 73 w' w.heap.size (fun _ => True) (.slice (some ad380) t375.length co40) t375) ∧ Aside0 (Kd.R k58 58 w' w.heap.size (fun _ => True) u380002 x380002_5) ∧ Aside0 (w'.heap[gb365]? = some (.cells #[.int .i64 0, .int .i64 0, (.slice none 0 0)] 50 (0, 0))) ∧ Aside0 (w'.heap[gb379]? = some (.cells #[.int .i64 x14_30, .int .i64 (t375.length : Int), u380002] 50 (0, 0))) ∧ Aside0 (Below w.heap.size w w'))
                        case atStart => exact ⟨((rd_T73 t375 x20_4).f0), (x380002_4), (u380002), (by first | rfl | (simp; done) | (simp [*]; done)), H', ⟨Nat.le_refl _⟩, ⟨by (with_reducible repeat (first | apply Kd.R_alloc | apply Kd.R_drewN | apply Kd.R_drew)); exact HO_17.out⟩, ⟨by (with_reducible repeat (first | apply Kd.R_alloc | apply Kd.R_drewN | apply Kd.R_drew)); exact HO_380002.out⟩, ⟨by (with_reducible repeat (first | refine blk_drewN ?_ _ | refine blk_drew ?_ | refine blk_alloc ?_ _)); exact BK365.out⟩, ⟨by (with_reducible repeat (first | refine blk_drewN ?_ _ | refine blk_drew ?_ | refine blk_alloc ?_ _)); exact BK379.out⟩, ⟨by repeat (first | (with_reducible first | exact HB.out | apply below_alloc | apply pw_below_drewN | apply below_drew1 | refine below_set ?_ GE365.out | refine below_set ?_ GE379.out) | exact HB.out)⟩⟩
                        case round =>
                          clear H'
                          try clear c1
                          try clear c2
                          try clear p2
                          try clear c3
                          try clear p3
                          try clear q3
                          try clear hx3
                          try clear c4
                          try clear c5
                          try clear c10
                          try clear c11
                          try clear c11b0
                          try clear c11b1
                          try clear c13
                          try clear c13b0
                          try clear c15
                          try clear c15b0
                          try clear c18
                          try clear c20
                          try clear c21
                          try clear c21b0
                          try clear c27
                          try clear c30
                          try clear c32
                          try clear c35
                          try clear c36
                          try clear p38
                          try clear q38
                          try clear hx38
                          try clear c42
                          try clear c44
                          try clear c44b0
                          try clear c45
                          try clear c45b0
                          try clear hcz28_0
                          try clear hcz28_1
                          try clear hcz28_2
                          try clear hcz37_0
                          try clear hcz37_1
                          try clear hcz37_2
                          try clear hcz37_3
                          try clear hcz43_0
                          try clear hcz43_1
                          try clear hcz43_2
                          try clear hfz28_0
                          try clear hfz28_1
                          try clear hfz28_2
                          try clear hfz37_0
                          try clear hfz37_1
                          try clear hfz37_2
                          try clear hfz37_3
                          try clear hfz43_0
                          try clear hfz43_1
                          try clear hfz43_2
                          try clear hx380_0
                          try clear hx380_1
                          try clear hx380_2
                          try clear p2
                          try clear p380
                          try clear q380
                          obtain ⟨x21_5, x380002_5, u380002, rfl, HA, HK5, HO_17, HO_380002, BK365, BK379, HB⟩ := hrel
                          cases gk with
                          | zero => exact absurd HA.out (by simp [gutterref17_Lay.l1])
                          | succ k5 =>
                            have H := HA.out
                            clear HA
                            simp only [gutterref17_Lay.l1] at H
                            by_cases c46 : 0 ≤ x20_4
                            · rw [if_pos c46] at H
                              have c46b0 : decide (0 ≤ x20_4) = true := decide_eq_true c46
                              clear c46
                              by_cases c47 : x20_4 < (t375.length : Int)
                              · rw [if_pos c47] at H
                                have c47b0 : decide (x20_4 < (t375.length : Int)) = true := decide_eq_true c47
                                clear c47
                                by_cases c48 : x21_5 < ((rd_T73 t375 x20_4).f1)
                                · rw [if_pos c48] at H
                                  have c48b0 : decide (x21_5 < ((rd_T73 t375 x20_4).f1)) = true := decide_eq_true c48
                                  clear c48
                                  by_cases c49 : 0 ≤ ((rd_T73 t375 x20_4).f0)
                                  · rw [if_pos c49] at H
                                    have c49b0 := eq_true c49
                                    have c49b1 : decide (0 ≤ ((rd_T73 t375 x20_4).f0)) = true := decide_eq_true c49
                                    clear c49
                                    by_cases c50 : ((rd_T73 t375 x20_4).f0) ≤ (wrap64 (x21_5 + 1))
                                    · rw [if_pos c50] at H
                                      have c50b0 := eq_true c50
                                      have c50b1 : decide (((rd_T73 t375 x20_4).f0) ≤ (wrap64 (x21_5 + 1))) = true := decide_eq_true c50
                                      by_cases c51 : (wrap64 (x21_5 + 1)) ≤ (l0.length : Int)
                                      · rw [if_pos c51] at H
                                        have c51b0 := eq_true c51
                                        have c51b1 : decide ((wrap64 (x21_5 + 1)) ≤ (l0.length : Int)) = true := decide_eq_true c51
                                        obtain ⟨y383, hy383⟩ : ∃ y_ : List (S32), y_ = ((l0.take ((wrap64 (x21_5 + 1)) : Int).toNat).drop (((rd_T73 t375 x20_4).f0) : Int).toNat) := ⟨_, rfl⟩
                                        replace H : ((gutterref13_High.f k5 y383).bind fun t387 => (if 0 ≤ x21_5 then (if x21_5 < (l0.length : Int) then (if x380002_5.length < 2513169434916 then (gutterref17_Lay.l1 k5 l0 a2 a3 t375 x20_4 (wrap64 (x21_5 + 1)) x14_30 (t375.length : Int) (x380002_5 ++ [(⟨(rd_T32 l0 x21_5).f0, (rd_T32 l0 x21_5).f1, x20_4, (⟨wrap64 (x20_4 * (wrap64 (a2 + a3))), wrap64 (t387 - ((rd_T32 l0 x21_5).f2)), a2, (rd_T32 l0 x21_5).f2⟩ : S56)⟩ : S58)])) else (none)) else (none)) else (none))) = some (r1, r2, r3, r4) := by first | (rw [hy383]; with_reducible exact H) | (have H2_ := (Option.bind_some _ _).symm.trans H; rw [hy383]; with_reducible exact H2_) | (have H2_ := (Option.bind_some _ _).symm.trans H; with_reducible exact H2_) | with_reducible exact H | (rw [hy383]; exact H) | exact H
                                        have Ny383 := Aside0.mk hy383
                                        clear hy383
                                        replace H := Option.bind_eq_some_iff.mp H
                                        obtain ⟨t387, A520, H⟩ := H
                                        replace H : (if 0 ≤ x21_5 then (if x21_5 < (l0.length : Int) then (if x380002_5.length < 2513169434916 then (gutterref17_Lay.l1 k5 l0 a2 a3 t375 x20_4 (wrap64 (x21_5 + 1)) x14_30 (t375.length : Int) (x380002_5 ++ [(⟨(rd_T32 l0 x21_5).f0, (rd_T32 l0 x21_5).f1, x20_4, (⟨wrap64 (x20_4 * (wrap64 (a2 + a3))), wrap64 (t387 - ((rd_T32 l0 x21_5).f2)), a2, (rd_T32 l0 x21_5).f2⟩ : S56)⟩ : S58)])) else (none)) else (none)) else (none)) = some (r1, r2, r3, r4) := H
                                        have A52 := Aside0.mk A520
                                        clear A520
                                        by_cases c53 : 0 ≤ x21_5
                                        · rw [if_pos c53] at H
                                          have c53b0 : decide (0 ≤ x21_5) = true := decide_eq_true c53
                                          clear c53
                                          by_cases c54 : x21_5 < (l0.length : Int)
                                          · rw [if_pos c54] at H
                                            have c54b0 : decide (x21_5 < (l0.length : Int)) = true := decide_eq_true c54
                                            clear c54
                                            by_cases c55 : x380002_5.length < 2513169434916
                                            · rw [if_pos c55] at H
                                              have LMc55 := Aside0.mk c55
                                              clear c55
                                              obtain ⟨y392, hy392⟩ : ∃ y_ : List (S58), y_ = (x380002_5 ++ [(⟨(rd_T32 l0 x21_5).f0, (rd_T32 l0 x21_5).f1, x20_4, (⟨wrap64 (x20_4 * (wrap64 (a2 + a3))), wrap64 (t387 - ((rd_T32 l0 x21_5).f2)), a2, (rd_T32 l0 x21_5).f2⟩ : S56)⟩ : S58)]) := ⟨_, rfl⟩
                                              replace H : (gutterref17_Lay.l1 k5 l0 a2 a3 t375 x20_4 (wrap64 (x21_5 + 1)) x14_30 (t375.length : Int) y392) = some (r1, r2, r3, r4) := by first | (rw [hy392]; with_reducible exact H) | (have H2_ := (Option.bind_some _ _).symm.trans H; rw [hy392]; with_reducible exact H2_) | (have H2_ := (Option.bind_some _ _).symm.trans H; with_reducible exact H2_) | with_reducible exact H | (rw [hy392]; exact H) | exact H
                                              have Ny392 := Aside0.mk hy392
                                              clear hy392
                                              have H' := Aside0.mk H
                                              clear H
                                              have p381 : 0 ≤ (x20_4 : Int) := of_decide_eq_true (by first | (with_reducible assumption) | assumption)
                                              have q381 : x20_4 < (t375.length : Int) := of_decide_eq_true (by first | (with_reducible assumption) | assumption)
                                              obtain ⟨ad381, e381, hx381_0, hx381_1, hx381_2⟩ := at_T73 (Kd.R_reads' HO_17.out).2.2 x20_4 p381 q381
                                              obtain rfl : ad380 = ad381 := (by injection e381)
                                              replace p381 := eq_true p381
                                              replace q381 := eq_true q381
                                              try go_wp2
                                              have n0_ := Aside0.mk (Kd.R_drew HO_17.out)
                                              have n1_ := Aside0.mk (Kd.R_drew HO_380002.out)
                                              have n2_ := Aside0.mk (blk_drew BK365.out)
                                              have n3_ := Aside0.mk (blk_drew BK379.out)
                                              have n4_ := Aside0.mk (below_drew1 HB.out)
                                              clear HO_17
                                              clear HO_380002
                                              clear BK365
                                              clear BK379
                                              clear HB
                                              have HO_17 := n0_
                                              have HO_380002 := n1_
                                              have BK365 := n2_
                                              have BK379 := n3_
                                              have HB := n4_
                                              clear n0_ n1_ n2_ n3_ n4_
                                              have p382 : 0 ≤ (x20_4 : Int) := of_decide_eq_true (by first | (with_reducible assumption) | assumption)
                                              have q382 : x20_4 < (t375.length : Int) := of_decide_eq_true (by first | (with_reducible assumption) | assumption)
                                              obtain ⟨ad382, e382, hx382_0, hx382_1, hx382_2⟩ := at_T73 (Kd.R_reads' HO_17.out).2.2 x20_4 p382 q382
                                              obtain rfl : ad380 = ad382 := (by injection e382)
                                              replace p382 := eq_true p382
                                              replace q382 := eq_true q382
                                              have q57 : ((wrap64 (x21_5 + 1)) : Int) ≤ ((l0.length : Int) : Int) := of_decide_eq_true (by first | (with_reducible assumption) | assumption)
                                              obtain ⟨i057, hi057, _, hsz57, _⟩ := info_parts info32
                                              have hroom57 : l0.length ≤ c0 := HC0.out
                                              have hC57 : Kd.C k32 _ A0 l0.length l0 := HR0.out
                                              have ql57 : (((rd_T73 t375 x20_4).f0) : Int) ≤ ((wrap64 (x21_5 + 1)) : Int) := of_decide_eq_true (by first | (with_reducible assumption) | assumption)
                                              have q057 : (0 : Int) ≤ (((rd_T73 t375 x20_4).f0) : Int) := of_decide_eq_true (by first | (with_reducible assumption) | assumption)
                                              have hcut57 := cut_mid (P := Tryd.prog) 22 32 .i64 .i64 Tryd.underlying22 hi057 5 hsz57 A0 l0.length c0 ((rd_T73 t375 x20_4).f0) (wrap64 (x21_5 + 1)) q057 ql57 q57 hroom57
                                              have hr57 := Kd.C_mid (lo := (((rd_T73 t375 x20_4).f0) : Int).toNat) (hi := ((wrap64 (x21_5 + 1)) : Int).toNat) (c := c0) hC57 (by omega) (by omega) hroom57
                                              obtain ⟨A57, hA57⟩ : ∃ A1, A1 = (if c0 = (((rd_T73 t375 x20_4).f0) : Int).toNat then A0 else (A0 : Option Addr).map (·.add ((((rd_T73 t375 x20_4).f0) : Int).toNat * 5))) := ⟨_, rfl⟩
                                              obtain ⟨c57, hc57⟩ : ∃ c1, c1 = c0 - (((rd_T73 t375 x20_4).f0) : Int).toNat := ⟨_, rfl⟩
                                              have hy57 : y383.length = ((wrap64 (x21_5 + 1)) : Int).toNat - (((rd_T73 t375 x20_4).f0) : Int).toNat := (by rw [Ny383.out, List.length_drop, List.length_take] <;> omega)
                                              rw [show ((l0).take ((wrap64 (x21_5 + 1)) : Int).toNat).drop (((rd_T73 t375 x20_4).f0) : Int).toNat = y383 from Ny383.out.symm] at hr57
                                              replace hr57 : Kd.C k32 _ A57 y383.length y383 := (by rw [hA57]; exact hr57)
                                              rw [← hy57, ← hA57, ← hc57] at hcut57
                                              have HR386 := Aside0.mk hr57
                                              have HC386 := Aside0.mk (show y383.length ≤ c57 from by rw [hy57, hc57]; exact Nat.sub_le_sub_right (Nat.le_trans (by omega) hroom57) _)
                                              clear hr57 hC57 hroom57 hi057 hsz57 hc57
                                              have KY57 := Aside0.mk hy57
                                              have KA57 := Aside0.mk hA57
                                              clear hy57 hA57
                                              replace q57 := eq_true q57
                                              have p388 : 0 ≤ (x21_5 : Int) := of_decide_eq_true (by first | (with_reducible assumption) | assumption)
                                              have q388 : x21_5 < (l0.length : Int) := of_decide_eq_true (by first | (with_reducible assumption) | assumption)
                                              obtain ⟨ad388, e388, hx388_0, hx388_1, hx388_2, hx388_3, hx388_4⟩ := at_T32 HR0.out x21_5 p388 q388
                                              have hw388_4 := hx388_4
                                              have hw388_3 := hx388_3
                                              have hw388_2 := hx388_2
                                              have hw388_1 := hx388_1
                                              have hw388_0 := hx388_0
                                              cases e388
                                              replace hx388_0 := (HB.out.cell (World.block_lt_of_cell? w _ hx388_0)).trans hx388_0
                                              replace hx388_1 := (HB.out.cell (World.block_lt_of_cell? w _ hx388_1)).trans hx388_1
                                              replace hx388_2 := (HB.out.cell (World.block_lt_of_cell? w _ hx388_2)).trans hx388_2
                                              replace hx388_3 := (HB.out.cell (World.block_lt_of_cell? w _ hx388_3)).trans hx388_3
                                              replace hx388_4 := (HB.out.cell (World.block_lt_of_cell? w _ hx388_4)).trans hx388_4
                                              replace p388 := eq_true p388
                                              replace q388 := eq_true q388
                                              refine start_ (n := 17) (S := fun w' => w'.cell? (ad380.add ((x20_4).toNat * 3)) = some (.int .i64 ((rd_T73 t375 x20_4).f0)) ∧ w'.cell? ⟨(ad380.add ((x20_4).toNat * 3)).block, (ad380.add ((x20_4).toNat * 3)).off + 1, none⟩ = some (.int .i64 ((rd_T73 t375 x20_4).f1)) ∧ w'.cell? ⟨(ad380.add ((x20_4).toNat * 3)).block, (ad380.add ((x20_4).toNat * 3)).off + 2, none⟩ = some (.int .i64 ((rd_T73 t375 x20_4).f2)) ∧ w'.cell? (ad388.add ((x21_5).toNat * 5)) = some (.int .i64 ((rd_T32 l0 x21_5).f0)) ∧ w'.cell? ⟨(ad388.add ((x21_5).toNat * 5)).block, (ad388.add ((x21_5).toNat * 5)).off + 1, none⟩ = some (.int .i64 ((rd_T32 l0 x21_5).f1)) ∧ w'.cell? ⟨(ad388.add ((x21_5).toNat * 5)).block, (ad388.add ((x21_5).toNat * 5)).off + 2, none⟩ = some (.int .i64 ((rd_T32 l0 x21_5).f2)) ∧ w'.cell? ⟨(ad388.add ((x21_5).toNat * 5)).block, (ad388.add ((x21_5).toNat * 5)).off + 3, none⟩ = some (.int .i64 ((rd_T32 l0 x21_5).f3)) ∧ w'.cell? ⟨(ad388.add ((x21_5).toNat * 5)).block, (ad388.add ((x21_5).toNat * 5)).off + 4, none⟩ = some (.int .i64 ((rd_T32 l0 x21_5).f4))) (ds := []) #[false, false, false, false, false, false, false, false, false, false, false, false, false, false, false, false, false] (by kernel_rfl) rfl rfl ⟨hx382_0, hx382_1, hx382_2, ((HB.out.cell (World.block_lt_of_cell? w _ hw388_0)).trans hw388_0), ((HB.out.cell (World.block_lt_of_cell? w _ hw388_1)).trans hw388_1), ((HB.out.cell (World.block_lt_of_cell? w _ hw388_2)).trans hw388_2), ((HB.out.cell (World.block_lt_of_cell? w _ hw388_3)).trans hw388_3), ((HB.out.cell (World.block_lt_of_cell? w _ hw388_4)).trans hw388_4)⟩ (fun hHeld => ?_); refine with_tabW gutterref17_Lay.tab15 gutterref17_Lay.bits15 (fun HT_ HW_ => ?_)
                                              generalize wr.drew = w56 at HO_17 HO_380002 BK365 BK379 HB HR386 hx382_0 hx382_1 hx382_2 hx388_0 hx388_1 hx388_2 hx388_3 hx388_4 hHeld ⊢
                                              refine pure_ (i := 0) (N := some 104) (v := ?_) (a' := ?_) #[true, false, false, false, false, false, false, false, false, false, false, false, false, false, false, false, false] rfl rfl (any_of HT_.out (by kernel_rfl)) (fun _ _ _ h => h) (Or.inl ⟨by rfl, ?_⟩) ?_ ?_
                                              rotate_left
                                              · intro w'
                                                go_simp
                                                with_reducible rfl
                                              rotate_left
                                              · simp only [Act.put, List.setIfInBounds_toArray, List.set_cons_zero, List.set_cons_succ, i64_w, i32_w]
                                                rfl
                                              refine pure_ (i := 1) (N := some 105) (v := ?_) (a' := ?_) #[true, true, false, false, false, false, false, false, false, false, false, false, false, false, false, false, false] rfl rfl (any_of HT_.out (by kernel_rfl)) (fun _ _ _ h => h) (Or.inl ⟨by rfl, ?_⟩) ?_ ?_
                                              rotate_left
                                              · intro w'
                                                go_simp
                                                with_reducible rfl
                                              rotate_left
                                              · simp only [Act.put, List.setIfInBounds_toArray, List.set_cons_zero, List.set_cons_succ, i64_w, i32_w]
                                                rfl
                                              refine pure_ (i := 2) (N := some 106) (v := ?_) (a' := ?_) #[true, true, true, false, false, false, false, false, false, false, false, false, false, false, false, false, false] rfl rfl (any_of HT_.out (by kernel_rfl)) (fun _ _ _ h => h) (Or.inl ⟨by rfl, ?_⟩) ?_ ?_
                                              rotate_left
                                              · intro w'
                                                go_simp
                                                with_reducible rfl
                                              rotate_left
                                              · simp only [Act.put, List.setIfInBounds_toArray, List.set_cons_zero, List.set_cons_succ, i64_w, i32_w]
                                                rfl
                                              refine pure_ (i := 3) (N := some 107) (v := ?_) (a' := ?_) #[true, true, true, true, false, false, false, false, false, false, false, false, false, false, false, false, false] rfl rfl (any_of HT_.out (by kernel_rfl)) (fun _ _ _ h => h) (Or.inl ⟨by rfl, ?_⟩) ?_ ?_
                                              rotate_left
                                              · intro w'
                                                go_simp
                                                with_reducible rfl
                                              rotate_left
                                              · simp only [Act.put, List.setIfInBounds_toArray, List.set_cons_zero, List.set_cons_succ, i64_w, i32_w]
                                                rfl
                                              refine pure_ (i := 4) (N := some 108) (v := ?_) (a' := ?_) #[true, true, true, true, true, false, false, false, false, false, false, false, false, false, false, false, false] rfl rfl (any_of HT_.out (by kernel_rfl)) (fun _ _ _ h => h) (Or.inl ⟨by rfl, ?_⟩) ?_ ?_
                                              rotate_left
                                              · intro w'
                                                go_simp
                                                with_reducible rfl
                                              rotate_left
                                              · simp only [Act.put, List.setIfInBounds_toArray, List.set_cons_zero, List.set_cons_succ, i64_w, i32_w]
                                                rfl
                                              refine pure_ (i := 6) (N := some 110) (v := ?_) (a' := ?_) #[true, true, true, true, true, false, true, false, false, false, false, false, false, false, false, false, false] rfl rfl (any_of HT_.out (by kernel_rfl)) (fun _ _ _ h => h) (Or.inl ⟨by rfl, ?_⟩) ?_ ?_
                                              rotate_left
                                              · intro w'
                                                go_simp
                                                with_reducible rfl
                                              rotate_left
                                              · simp only [Act.put, List.setIfInBounds_toArray, List.set_cons_zero, List.set_cons_succ, i64_w, i32_w]
                                                rfl
                                              refine pure_ (i := 7) (N := some 111) (v := ?_) (a' := ?_) #[true, true, true, true, true, false, true, true, false, false, false, false, false, false, false, false, false] rfl rfl (any_of HT_.out (by kernel_rfl)) (fun _ _ _ h => h) (Or.inl ⟨by rfl, ?_⟩) ?_ ?_
                                              rotate_left
                                              · intro w'
                                                go_simp
                                                with_reducible rfl
                                              rotate_left
                                              · simp only [Act.put, List.setIfInBounds_toArray, List.set_cons_zero, List.set_cons_succ, i64_w, i32_w]
                                                rfl
                                              refine pure_ (i := 10) (N := some 114) (v := ?_) (a' := ?_) #[true, true, true, true, true, false, true, true, false, false, true, false, false, false, false, false, false] rfl rfl (any_of HT_.out (by kernel_rfl)) (fun _ _ _ h => h) (Or.inl ⟨by rfl, ?_⟩) ?_ ?_
                                              rotate_left
                                              · intro w'
                                                go_simp
                                                with_reducible rfl
                                              rotate_left
                                              · simp only [Act.put, List.setIfInBounds_toArray, List.set_cons_zero, List.set_cons_succ, i64_w, i32_w]
                                                rfl
                                              refine pure_ (i := 11) (N := some 115) (v := ?_) (a' := ?_) #[true, true, true, true, true, false, true, true, false, false, true, true, false, false, false, false, false] rfl rfl (any_of HT_.out (by kernel_rfl)) (fun _ _ _ h => h) (Or.inl ⟨by rfl, ?_⟩) ?_ ?_
                                              rotate_left
                                              · intro w'
                                                go_simp
                                                with_reducible rfl
                                              rotate_left
                                              · simp only [Act.put, List.setIfInBounds_toArray, List.set_cons_zero, List.set_cons_succ, i64_w, i32_w]
                                                rfl
                                              refine pure_ (i := 12) (N := some 116) (v := ?_) (a' := ?_) #[true, true, true, true, true, false, true, true, false, false, true, true, true, false, false, false, false] rfl rfl (any_of HT_.out (by kernel_rfl)) (fun _ _ _ h => h) (Or.inl ⟨by rfl, ?_⟩) ?_ ?_
                                              rotate_left
                                              · intro w'
                                                go_simp
                                                with_reducible rfl
                                              rotate_left
                                              · simp only [Act.put, List.setIfInBounds_toArray, List.set_cons_zero, List.set_cons_succ, i64_w, i32_w]
                                                rfl
                                              refine pure_ (i := 13) (N := some 117) (v := ?_) (a' := ?_) #[true, true, true, true, true, false, true, true, false, false, true, true, true, true, false, false, false] rfl rfl (any_of HT_.out (by kernel_rfl)) (fun _ _ _ h => h) (Or.inl ⟨by rfl, ?_⟩) ?_ ?_
                                              rotate_left
                                              · intro w'
                                                go_simp
                                                with_reducible rfl
                                              rotate_left
                                              · simp only [Act.put, List.setIfInBounds_toArray, List.set_cons_zero, List.set_cons_succ, i64_w, i32_w]
                                                rfl
                                              refine take_ (i := 5) (N := some 109) (v := ?_) (a' := ?_) #[true, true, true, true, true, true, true, true, false, false, true, true, true, true, false, false, false] rfl rfl (take_ofW HT_.out HW_.out (by kernel_rfl)) (fun _ _ _ h => h) (Or.inl ⟨by rfl, ?_⟩) hHeld ?_ ?_
                                              rotate_left
                                              · rintro w' ⟨s0, s1, s2, s3, s4, s5, s6, s7⟩
                                                go_simp
                                                with_reducible rfl
                                              rotate_left
                                              · simp only [Act.put, List.setIfInBounds_toArray, List.set_cons_zero, List.set_cons_succ, i64_w, i32_w]
                                                rfl
                                              refine pure_ (i := 8) (N := some 112) (v := ?_) (a' := ?_) #[true, true, true, true, true, true, true, true, true, false, true, true, true, true, false, false, false] rfl rfl (any_of HT_.out (by kernel_rfl)) (fun _ _ _ h => h) (Or.inl ⟨by rfl, ?_⟩) ?_ ?_
                                              rotate_left
                                              · intro w'
                                                go_simp
                                                with_reducible rfl
                                              rotate_left
                                              · simp only [Act.put, List.setIfInBounds_toArray, List.set_cons_zero, List.set_cons_succ, i64_w, i32_w]
                                                rfl
                                              refine take_ (i := 14) (N := some 118) (v := ?_) (a' := ?_) #[true, true, true, true, true, true, true, true, true, false, true, true, true, true, true, false, false] rfl rfl (take_ofW HT_.out HW_.out (by kernel_rfl)) (fun _ _ _ h => h) (Or.inl ⟨by rfl, ?_⟩) hHeld ?_ ?_
                                              rotate_left
                                              · rintro w' ⟨s0, s1, s2, s3, s4, s5, s6, s7⟩
                                                go_simp
                                                with_reducible rfl
                                              rotate_left
                                              · simp only [Act.put, List.setIfInBounds_toArray, List.set_cons_zero, List.set_cons_succ, i64_w, i32_w]
                                                rfl
                                              refine one_ (i := 9) (N := some 113) #[true, true, true, true, true, true, true, true, true, true, true, true, true, true, true, false, false] rfl rfl (one_of HT_.out (by kernel_rfl)) (by decide) (fun K hK => ?_)
                                              refine goes_ Tryd.func28 (by kernel_rfl) rfl #[.slice A57 y383.length c57] (by rfl) rfl rfl (by (try simp only [List.map_toArray, List.map_cons, List.map_nil]); first | done | rfl | (simp only [List.length_drop, List.length_take]; rfl)) ?_
                                              with_reducible refine (gutterref13_High.calls k5 _ _ y383 t387 _ ?side1 ?side2 A52.out).mono ?_
                                              (case side1 => repeat (first | exact (Kd.C_below HR386.out HB.out) | (with_reducible refine Kd.C_alloc ?_ _) | (with_reducible refine Kd.C_drewN ?_ _) | (with_reducible refine Kd.C_drew ?_)))
                                              (case side2 => exact HC386.out)
                                              rintro e w' ⟨rfl, ⟨nd, rfl⟩⟩
                                              refine ⟨_, rfl, ?_⟩
                                              refine hK.out _ _ ⟨hHeld.1, hHeld.2.1, hHeld.2.2.1, ((HB.out.cell (World.block_lt_of_cell? w _ hw388_0)).trans hw388_0), ((HB.out.cell (World.block_lt_of_cell? w _ hw388_1)).trans hw388_1), ((HB.out.cell (World.block_lt_of_cell? w _ hw388_2)).trans hw388_2), ((HB.out.cell (World.block_lt_of_cell? w _ hw388_3)).trans hw388_3), ((HB.out.cell (World.block_lt_of_cell? w _ hw388_4)).trans hw388_4)⟩ (fun hHeld => ?_)
                                              clear hK K
                                              refine norm_ (a' := ?_) ?_ ?_
                                              rotate_left
                                              · show Act.put _ (some 113) _ = _
                                                simp only [Act.put, List.setIfInBounds_toArray, List.set_cons_zero, List.set_cons_succ, i64_w, i32_w]
                                                rfl
                                              refine pure_ (i := 15) (N := some 119) (v := ?_) (a' := ?_) #[true, true, true, true, true, true, true, true, true, true, true, true, true, true, true, true, false] rfl rfl (any_of HT_.out (by kernel_rfl)) (fun _ _ _ h => h) (Or.inl ⟨by rfl, ?_⟩) ?_ ?_
                                              rotate_left
                                              · intro w'
                                                go_simp
                                                with_reducible rfl
                                              rotate_left
                                              · simp only [Act.put, List.setIfInBounds_toArray, List.set_cons_zero, List.set_cons_succ, i64_w, i32_w]
                                                rfl
                                              refine pure_ (i := 16) (N := some 22) (v := ?_) (a' := ?_) #[true, true, true, true, true, true, true, true, true, true, true, true, true, true, true, true, true] rfl rfl (any_of HT_.out (by kernel_rfl)) (fun _ _ _ h => h) (Or.inl ⟨by rfl, ?_⟩) ?_ ?_
                                              rotate_left
                                              · intro w'
                                                go_simp
                                                with_reducible rfl
                                              rotate_left
                                              · simp only [Act.put, List.setIfInBounds_toArray, List.set_cons_zero, List.set_cons_succ, i64_w, i32_w]
                                                rfl
                                              refine done_ (done_of HT_.out (by kernel_rfl)) ?_
                                              try go_wp2
                                              (try (rw [drewN_self w56]; generalize hq_ : World.drewN w56 _ = w56; have n0_ : Aside0 (Kd.R k73 73 w56 w.heap.size (fun _ => True) (.slice (some ad380) t375.length co40) t375) := ⟨by rw [← hq_]; exact (by (with_reducible repeat (first | apply Kd.R_alloc | apply Kd.R_drewN | apply Kd.R_drew)); exact HO_17.out)⟩; have n1_ : Aside0 (Kd.R k58 58 w56 w.heap.size (fun _ => True) u380002 x380002_5) := ⟨by rw [← hq_]; exact (by (with_reducible repeat (first | apply Kd.R_alloc | apply Kd.R_drewN | apply Kd.R_drew)); exact HO_380002.out)⟩; have n2_ : Aside0 (w56.heap[gb365]? = some (.cells #[.int .i64 0, .int .i64 0, .slice none 0 0] 50 (0, 0))) := ⟨by rw [← hq_]; exact (by (with_reducible repeat (first | refine blk_drewN ?_ _ | refine blk_drew ?_ | refine blk_alloc ?_ _)); exact BK365.out)⟩; have n3_ : Aside0 (w56.heap[gb379]? = some (.cells #[.int .i64 x14_30, .int .i64 (t375.length : Int), u380002] 50 (0, 0))) := ⟨by rw [← hq_]; exact (by (with_reducible repeat (first | refine blk_drewN ?_ _ | refine blk_drew ?_ | refine blk_alloc ?_ _)); exact BK379.out)⟩; have n4_ : Aside0 (Below w.heap.size w w56) := ⟨by rw [← hq_]; exact (by repeat (first | (with_reducible first | exact HB.out | apply below_alloc | apply pw_below_drewN | apply below_drew1 | refine below_set ?_ GE365.out | refine below_set ?_ GE379.out) | exact HB.out))⟩; clear HO_17 HO_380002 BK365 BK379 HB hq_; have HO_17 := n0_; have HO_380002 := n1_; have BK365 := n2_; have BK379 := n3_; have HB := n4_; clear n0_ n1_ n2_ n3_ n4_))
                                              have n0_ := Aside0.mk (Kd.R_drew HO_17.out)
                                              have n1_ := Aside0.mk (Kd.R_drew HO_380002.out)
                                              have n2_ := Aside0.mk (blk_drew BK365.out)
                                              have n3_ := Aside0.mk (blk_drew BK379.out)
                                              have n4_ := Aside0.mk (below_drew1 HB.out)
                                              clear HO_17
                                              clear HO_380002
                                              clear BK365
                                              clear BK379
                                              clear HB
                                              have HO_17 := n0_
                                              have HO_380002 := n1_
                                              have BK365 := n2_
                                              have BK379 := n3_
                                              have HB := n4_
                                              clear n0_ n1_ n2_ n3_ n4_
                                              have p389 : 0 ≤ (x21_5 : Int) := of_decide_eq_true (by first | (with_reducible assumption) | assumption)
                                              have q389 : x21_5 < (l0.length : Int) := of_decide_eq_true (by first | (with_reducible assumption) | assumption)
                                              obtain ⟨ad389, e389, hx389_0, hx389_1, hx389_2, hx389_3, hx389_4⟩ := at_T32 HR0.out x21_5 p389 q389
                                              have hw389_4 := hx389_4
                                              have hw389_3 := hx389_3
                                              have hw389_2 := hx389_2
                                              have hw389_1 := hx389_1
                                              have hw389_0 := hx389_0
                                              obtain rfl : ad388 = ad389 := (by injection e389)
                                              replace hx389_0 := (HB.out.cell (World.block_lt_of_cell? w _ hx389_0)).trans hx389_0
                                              replace hx389_1 := (HB.out.cell (World.block_lt_of_cell? w _ hx389_1)).trans hx389_1
                                              replace hx389_2 := (HB.out.cell (World.block_lt_of_cell? w _ hx389_2)).trans hx389_2
                                              replace hx389_3 := (HB.out.cell (World.block_lt_of_cell? w _ hx389_3)).trans hx389_3
                                              replace hx389_4 := (HB.out.cell (World.block_lt_of_cell? w _ hx389_4)).trans hx389_4
                                              replace p389 := eq_true p389
                                              replace q389 := eq_true q389
                                              have p390 : 0 ≤ (x21_5 : Int) := of_decide_eq_true (by first | (with_reducible assumption) | assumption)
                                              have q390 : x21_5 < (l0.length : Int) := of_decide_eq_true (by first | (with_reducible assumption) | assumption)
                                              obtain ⟨ad390, e390, hx390_0, hx390_1, hx390_2, hx390_3, hx390_4⟩ := at_T32 HR0.out x21_5 p390 q390
                                              have hw390_4 := hx390_4
                                              have hw390_3 := hx390_3
                                              have hw390_2 := hx390_2
                                              have hw390_1 := hx390_1
                                              have hw390_0 := hx390_0
                                              obtain rfl : ad388 = ad390 := (by injection e390)
                                              replace hx390_0 := (HB.out.cell (World.block_lt_of_cell? w _ hx390_0)).trans hx390_0
                                              replace hx390_1 := (HB.out.cell (World.block_lt_of_cell? w _ hx390_1)).trans hx390_1
                                              replace hx390_2 := (HB.out.cell (World.block_lt_of_cell? w _ hx390_2)).trans hx390_2
                                              replace hx390_3 := (HB.out.cell (World.block_lt_of_cell? w _ hx390_3)).trans hx390_3
                                              replace hx390_4 := (HB.out.cell (World.block_lt_of_cell? w _ hx390_4)).trans hx390_4
                                              replace p390 := eq_true p390
                                              replace q390 := eq_true q390
                                              have p391 : 0 ≤ (x21_5 : Int) := of_decide_eq_true (by first | (with_reducible assumption) | assumption)
                                              have q391 : x21_5 < (l0.length : Int) := of_decide_eq_true (by first | (with_reducible assumption) | assumption)
                                              obtain ⟨ad391, e391, hx391_0, hx391_1, hx391_2, hx391_3, hx391_4⟩ := at_T32 HR0.out x21_5 p391 q391
                                              have hw391_4 := hx391_4
                                              have hw391_3 := hx391_3
                                              have hw391_2 := hx391_2
                                              have hw391_1 := hx391_1
                                              have hw391_0 := hx391_0
                                              obtain rfl : ad388 = ad391 := (by injection e391)
                                              replace hx391_0 := (HB.out.cell (World.block_lt_of_cell? w _ hx391_0)).trans hx391_0
                                              replace hx391_1 := (HB.out.cell (World.block_lt_of_cell? w _ hx391_1)).trans hx391_1
                                              replace hx391_2 := (HB.out.cell (World.block_lt_of_cell? w _ hx391_2)).trans hx391_2
                                              replace hx391_3 := (HB.out.cell (World.block_lt_of_cell? w _ hx391_3)).trans hx391_3
                                              replace hx391_4 := (HB.out.cell (World.block_lt_of_cell? w _ hx391_4)).trans hx391_4
                                              replace p391 := eq_true p391
                                              replace q391 := eq_true q391
                                              refine start_ (n := 31) (S := fun w' => w'.cell? ⟨gb379, 0, none⟩ = some (.int .i64 x14_30) ∧ w'.cell? ⟨gb379, 1, none⟩ = some (.int .i64 (t375.length : Int)) ∧ w'.cell? ⟨gb379, 2, none⟩ = some (u380002) ∧ w'.cell? (ad388.add ((x21_5).toNat * 5)) = some (.int .i64 ((rd_T32 l0 x21_5).f0)) ∧ w'.cell? ⟨(ad388.add ((x21_5).toNat * 5)).block, (ad388.add ((x21_5).toNat * 5)).off + 1, none⟩ = some (.int .i64 ((rd_T32 l0 x21_5).f1)) ∧ w'.cell? ⟨(ad388.add ((x21_5).toNat * 5)).block, (ad388.add ((x21_5).toNat * 5)).off + 2, none⟩ = some (.int .i64 ((rd_T32 l0 x21_5).f2)) ∧ w'.cell? ⟨(ad388.add ((x21_5).toNat * 5)).block, (ad388.add ((x21_5).toNat * 5)).off + 3, none⟩ = some (.int .i64 ((rd_T32 l0 x21_5).f3)) ∧ w'.cell? ⟨(ad388.add ((x21_5).toNat * 5)).block, (ad388.add ((x21_5).toNat * 5)).off + 4, none⟩ = some (.int .i64 ((rd_T32 l0 x21_5).f4)) ∧ w'.cell? (ad388.add ((x21_5).toNat * 5)) = some (.int .i64 ((rd_T32 l0 x21_5).f0)) ∧ w'.cell? ⟨(ad388.add ((x21_5).toNat * 5)).block, (ad388.add ((x21_5).toNat * 5)).off + 1, none⟩ = some (.int .i64 ((rd_T32 l0 x21_5).f1)) ∧ w'.cell? ⟨(ad388.add ((x21_5).toNat * 5)).block, (ad388.add ((x21_5).toNat * 5)).off + 2, none⟩ = some (.int .i64 ((rd_T32 l0 x21_5).f2)) ∧ w'.cell? ⟨(ad388.add ((x21_5).toNat * 5)).block, (ad388.add ((x21_5).toNat * 5)).off + 3, none⟩ = some (.int .i64 ((rd_T32 l0 x21_5).f3)) ∧ w'.cell? ⟨(ad388.add ((x21_5).toNat * 5)).block, (ad388.add ((x21_5).toNat * 5)).off + 4, none⟩ = some (.int .i64 ((rd_T32 l0 x21_5).f4)) ∧ w'.cell? (ad388.add ((x21_5).toNat * 5)) = some (.int .i64 ((rd_T32 l0 x21_5).f0)) ∧ w'.cell? ⟨(ad388.add ((x21_5).toNat * 5)).block, (ad388.add ((x21_5).toNat * 5)).off + 1, none⟩ = some (.int .i64 ((rd_T32 l0 x21_5).f1)) ∧ w'.cell? ⟨(ad388.add ((x21_5).toNat * 5)).block, (ad388.add ((x21_5).toNat * 5)).off + 2, none⟩ = some (.int .i64 ((rd_T32 l0 x21_5).f2)) ∧ w'.cell? ⟨(ad388.add ((x21_5).toNat * 5)).block, (ad388.add ((x21_5).toNat * 5)).off + 3, none⟩ = some (.int .i64 ((rd_T32 l0 x21_5).f3)) ∧ w'.cell? ⟨(ad388.add ((x21_5).toNat * 5)).block, (ad388.add ((x21_5).toNat * 5)).off + 4, none⟩ = some (.int .i64 ((rd_T32 l0 x21_5).f4))) (ds := [30]) #[false, false, false, false, false, false, false, false, false, false, false, false, false, false, false, false, false, false, false, false, false, false, false, false, false, false, false, false, false, false, false] (by kernel_rfl) rfl rfl ⟨(blk_cell BK379.out 0).trans rfl, (blk_cell BK379.out 1).trans rfl, (blk_cell BK379.out 2).trans rfl, ((HB.out.cell (World.block_lt_of_cell? w _ hw389_0)).trans hw389_0), ((HB.out.cell (World.block_lt_of_cell? w _ hw389_1)).trans hw389_1), ((HB.out.cell (World.block_lt_of_cell? w _ hw389_2)).trans hw389_2), ((HB.out.cell (World.block_lt_of_cell? w _ hw389_3)).trans hw389_3), ((HB.out.cell (World.block_lt_of_cell? w _ hw389_4)).trans hw389_4), ((HB.out.cell (World.block_lt_of_cell? w _ hw390_0)).trans hw390_0), ((HB.out.cell (World.block_lt_of_cell? w _ hw390_1)).trans hw390_1), ((HB.out.cell (World.block_lt_of_cell? w _ hw390_2)).trans hw390_2), ((HB.out.cell (World.block_lt_of_cell? w _ hw390_3)).trans hw390_3), ((HB.out.cell (World.block_lt_of_cell? w _ hw390_4)).trans hw390_4), ((HB.out.cell (World.block_lt_of_cell? w _ hw391_0)).trans hw391_0), ((HB.out.cell (World.block_lt_of_cell? w _ hw391_1)).trans hw391_1), ((HB.out.cell (World.block_lt_of_cell? w _ hw391_2)).trans hw391_2), ((HB.out.cell (World.block_lt_of_cell? w _ hw391_3)).trans hw391_3), ((HB.out.cell (World.block_lt_of_cell? w _ hw391_4)).trans hw391_4)⟩ (fun hHeld => ?_); refine with_tabW gutterref17_Lay.tab16 gutterref17_Lay.bits16 (fun HT_ HW_ => ?_)
                                              generalize w56.drew = w58 at HO_17 HO_380002 BK365 BK379 HB hx389_0 hx389_1 hx389_2 hx389_3 hx389_4 hx390_0 hx390_1 hx390_2 hx390_3 hx390_4 hx391_0 hx391_1 hx391_2 hx391_3 hx391_4 hHeld ⊢
                                              refine pure_ (i := 0) (N := some 120) (v := ?_) (a' := ?_) #[true, false, false, false, false, false, false, false, false, false, false, false, false, false, false, false, false, false, false, false, false, false, false, false, false, false, false, false, false, false, false] rfl rfl (any_of HT_.out (by kernel_rfl)) (fun _ _ _ h => h) (Or.inl ⟨by rfl, ?_⟩) ?_ ?_
                                              rotate_left
                                              · intro w'
                                                go_simp
                                                with_reducible rfl
                                              rotate_left
                                              · simp only [Act.put, List.setIfInBounds_toArray, List.set_cons_zero, List.set_cons_succ, i64_w, i32_w]
                                                rfl
                                              refine pure_ (i := 2) (N := some 122) (v := ?_) (a' := ?_) #[true, false, true, false, false, false, false, false, false, false, false, false, false, false, false, false, false, false, false, false, false, false, false, false, false, false, false, false, false, false, false] rfl rfl (any_of HT_.out (by kernel_rfl)) (fun _ _ _ h => h) (Or.inl ⟨by rfl, ?_⟩) ?_ ?_
                                              rotate_left
                                              · intro w'
                                                go_simp
                                                with_reducible rfl
                                              rotate_left
                                              · simp only [Act.put, List.setIfInBounds_toArray, List.set_cons_zero, List.set_cons_succ, i64_w, i32_w]
                                                rfl
                                              refine pure_ (i := 3) (N := some 123) (v := ?_) (a' := ?_) #[true, false, true, true, false, false, false, false, false, false, false, false, false, false, false, false, false, false, false, false, false, false, false, false, false, false, false, false, false, false, false] rfl rfl (any_of HT_.out (by kernel_rfl)) (fun _ _ _ h => h) (Or.inl ⟨by rfl, ?_⟩) ?_ ?_
                                              rotate_left
                                              · intro w'
                                                go_simp
                                                with_reducible rfl
                                              rotate_left
                                              · simp only [Act.put, List.setIfInBounds_toArray, List.set_cons_zero, List.set_cons_succ, i64_w, i32_w]
                                                rfl
                                              refine pure_ (i := 4) (N := some 124) (v := ?_) (a' := ?_) #[true, false, true, true, true, false, false, false, false, false, false, false, false, false, false, false, false, false, false, false, false, false, false, false, false, false, false, false, false, false, false] rfl rfl (any_of HT_.out (by kernel_rfl)) (fun _ _ _ h => h) (Or.inl ⟨by rfl, ?_⟩) ?_ ?_
                                              rotate_left
                                              · intro w'
                                                go_simp
                                                with_reducible rfl
                                              rotate_left
                                              · simp only [Act.put, List.setIfInBounds_toArray, List.set_cons_zero, List.set_cons_succ, i64_w, i32_w]
                                                rfl
                                              refine pure_ (i := 5) (N := some 125) (v := ?_) (a' := ?_) #[true, false, true, true, true, true, false, false, false, false, false, false, false, false, false, false, false, false, false, false, false, false, false, false, false, false, false, false, false, false, false] rfl rfl (any_of HT_.out (by kernel_rfl)) (fun _ _ _ h => h) (Or.inl ⟨by rfl, ?_⟩) ?_ ?_
                                              rotate_left
                                              · intro w'
                                                go_simp
                                                with_reducible rfl
                                              rotate_left
                                              · simp only [Act.put, List.setIfInBounds_toArray, List.set_cons_zero, List.set_cons_succ, i64_w, i32_w]
                                                rfl
                                              refine pure_ (i := 7) (N := some 127) (v := ?_) (a' := ?_) #[true, false, true, true, true, true, false, true, false, false, false, false, false, false, false, false, false, false, false, false, false, false, false, false, false, false, false, false, false, false, false] rfl rfl (any_of HT_.out (by kernel_rfl)) (fun _ _ _ h => h) (Or.inl ⟨by rfl, ?_⟩) ?_ ?_
                                              rotate_left
                                              · intro w'
                                                go_simp
                                                with_reducible rfl
                                              rotate_left
                                              · simp only [Act.put, List.setIfInBounds_toArray, List.set_cons_zero, List.set_cons_succ, i64_w, i32_w]
                                                rfl
                                              refine pure_ (i := 8) (N := some 128) (v := ?_) (a' := ?_) #[true, false, true, true, true, true, false, true, true, false, false, false, false, false, false, false, false, false, false, false, false, false, false, false, false, false, false, false, false, false, false] rfl rfl (any_of HT_.out (by kernel_rfl)) (fun _ _ _ h => h) (Or.inl ⟨by rfl, ?_⟩) ?_ ?_
                                              rotate_left
                                              · intro w'
                                                go_simp
                                                with_reducible rfl
                                              rotate_left
                                              · simp only [Act.put, List.setIfInBounds_toArray, List.set_cons_zero, List.set_cons_succ, i64_w, i32_w]
                                                rfl
                                              refine pure_ (i := 9) (N := some 129) (v := ?_) (a' := ?_) #[true, false, true, true, true, true, false, true, true, true, false, false, false, false, false, false, false, false, false, false, false, false, false, false, false, false, false, false, false, false, false] rfl rfl (any_of HT_.out (by kernel_rfl)) (fun _ _ _ h => h) (Or.inl ⟨by rfl, ?_⟩) ?_ ?_
                                              rotate_left
                                              · intro w'
                                                go_simp
                                                with_reducible rfl
                                              rotate_left
                                              · simp only [Act.put, List.setIfInBounds_toArray, List.set_cons_zero, List.set_cons_succ, i64_w, i32_w]
                                                rfl
                                              refine pure_ (i := 10) (N := some 130) (v := ?_) (a' := ?_) #[true, false, true, true, true, true, false, true, true, true, true, false, false, false, false, false, false, false, false, false, false, false, false, false, false, false, false, false, false, false, false] rfl rfl (any_of HT_.out (by kernel_rfl)) (fun _ _ _ h => h) (Or.inl ⟨by rfl, ?_⟩) ?_ ?_
                                              rotate_left
                                              · intro w'
                                                go_simp
                                                with_reducible rfl
                                              rotate_left
                                              · simp only [Act.put, List.setIfInBounds_toArray, List.set_cons_zero, List.set_cons_succ, i64_w, i32_w]
                                                rfl
                                              refine pure_ (i := 12) (N := some 132) (v := ?_) (a' := ?_) #[true, false, true, true, true, true, false, true, true, true, true, false, true, false, false, false, false, false, false, false, false, false, false, false, false, false, false, false, false, false, false] rfl rfl (any_of HT_.out (by kernel_rfl)) (fun _ _ _ h => h) (Or.inl ⟨by rfl, ?_⟩) ?_ ?_
                                              rotate_left
                                              · intro w'
                                                go_simp
                                                with_reducible rfl
                                              rotate_left
                                              · simp only [Act.put, List.setIfInBounds_toArray, List.set_cons_zero, List.set_cons_succ, i64_w, i32_w]
                                                rfl
                                              refine pure_ (i := 13) (N := some 133) (v := ?_) (a' := ?_) #[true, false, true, true, true, true, false, true, true, true, true, false, true, true, false, false, false, false, false, false, false, false, false, false, false, false, false, false, false, false, false] rfl rfl (any_of HT_.out (by kernel_rfl)) (fun _ _ _ h => h) (Or.inl ⟨by rfl, ?_⟩) ?_ ?_
                                              rotate_left
                                              · intro w'
                                                go_simp
                                                with_reducible rfl
                                              rotate_left
                                              · simp only [Act.put, List.setIfInBounds_toArray, List.set_cons_zero, List.set_cons_succ, i64_w, i32_w]
                                                rfl
                                              refine pure_ (i := 14) (N := some 134) (v := ?_) (a' := ?_) #[true, false, true, true, true, true, false, true, true, true, true, false, true, true, true, false, false, false, false, false, false, false, false, false, false, false, false, false, false, false, false] rfl rfl (any_of HT_.out (by kernel_rfl)) (fun _ _ _ h => h) (Or.inl ⟨by rfl, ?_⟩) ?_ ?_
                                              rotate_left
                                              · intro w'
                                                go_simp
                                                with_reducible rfl
                                              rotate_left
                                              · simp only [Act.put, List.setIfInBounds_toArray, List.set_cons_zero, List.set_cons_succ, i64_w, i32_w]
                                                rfl
                                              refine pure_ (i := 15) (N := some 135) (v := ?_) (a' := ?_) #[true, false, true, true, true, true, false, true, true, true, true, false, true, true, true, true, false, false, false, false, false, false, false, false, false, false, false, false, false, false, false] rfl rfl (any_of HT_.out (by kernel_rfl)) (fun _ _ _ h => h) (Or.inl ⟨by rfl, ?_⟩) ?_ ?_
                                              rotate_left
                                              · intro w'
                                                go_simp
                                                with_reducible rfl
                                              rotate_left
                                              · simp only [Act.put, List.setIfInBounds_toArray, List.set_cons_zero, List.set_cons_succ, i64_w, i32_w]
                                                rfl
                                              refine pure_ (i := 16) (N := some 136) (v := ?_) (a' := ?_) #[true, false, true, true, true, true, false, true, true, true, true, false, true, true, true, true, true, false, false, false, false, false, false, false, false, false, false, false, false, false, false] rfl rfl (any_of HT_.out (by kernel_rfl)) (fun _ _ _ h => h) (Or.inl ⟨by rfl, ?_⟩) ?_ ?_
                                              rotate_left
                                              · intro w'
                                                go_simp
                                                with_reducible rfl
                                              rotate_left
                                              · simp only [Act.put, List.setIfInBounds_toArray, List.set_cons_zero, List.set_cons_succ, i64_w, i32_w]
                                                rfl
                                              refine pure_ (i := 17) (N := some 137) (v := ?_) (a' := ?_) #[true, false, true, true, true, true, false, true, true, true, true, false, true, true, true, true, true, true, false, false, false, false, false, false, false, false, false, false, false, false, false] rfl rfl (any_of HT_.out (by kernel_rfl)) (fun _ _ _ h => h) (Or.inl ⟨by rfl, ?_⟩) ?_ ?_
                                              rotate_left
                                              · intro w'
                                                go_simp
                                                with_reducible rfl
                                              rotate_left
                                              · simp only [Act.put, List.setIfInBounds_toArray, List.set_cons_zero, List.set_cons_succ, i64_w, i32_w]
                                                rfl
                                              refine pure_ (i := 18) (N := some 138) (v := ?_) (a' := ?_) #[true, false, true, true, true, true, false, true, true, true, true, false, true, true, true, true, true, true, true, false, false, false, false, false, false, false, false, false, false, false, false] rfl rfl (any_of HT_.out (by kernel_rfl)) (fun _ _ _ h => h) (Or.inl ⟨by rfl, ?_⟩) ?_ ?_
                                              rotate_left
                                              · intro w'
                                                go_simp
                                                with_reducible rfl
                                              rotate_left
                                              · simp only [Act.put, List.setIfInBounds_toArray, List.set_cons_zero, List.set_cons_succ, i64_w, i32_w]
                                                rfl
                                              refine pure_ (i := 19) (N := some 139) (v := ?_) (a' := ?_) #[true, false, true, true, true, true, false, true, true, true, true, false, true, true, true, true, true, true, true, true, false, false, false, false, false, false, false, false, false, false, false] rfl rfl (any_of HT_.out (by kernel_rfl)) (fun _ _ _ h => h) (Or.inl ⟨by rfl, ?_⟩) ?_ ?_
                                              rotate_left
                                              · intro w'
                                                go_simp
                                                with_reducible rfl
                                              rotate_left
                                              · simp only [Act.put, List.setIfInBounds_toArray, List.set_cons_zero, List.set_cons_succ, i64_w, i32_w]
                                                rfl
                                              refine pure_ (i := 20) (N := some 140) (v := ?_) (a' := ?_) #[true, false, true, true, true, true, false, true, true, true, true, false, true, true, true, true, true, true, true, true, true, false, false, false, false, false, false, false, false, false, false] rfl rfl (any_of HT_.out (by kernel_rfl)) (fun _ _ _ h => h) (Or.inl ⟨by rfl, ?_⟩) ?_ ?_
                                              rotate_left
                                              · intro w'
                                                go_simp
                                                with_reducible rfl
                                              rotate_left
                                              · simp only [Act.put, List.setIfInBounds_toArray, List.set_cons_zero, List.set_cons_succ, i64_w, i32_w]
                                                rfl
                                              refine pure_ (i := 21) (N := some 141) (v := ?_) (a' := ?_) #[true, false, true, true, true, true, false, true, true, true, true, false, true, true, true, true, true, true, true, true, true, true, false, false, false, false, false, false, false, false, false] rfl rfl (any_of HT_.out (by kernel_rfl)) (fun _ _ _ h => h) (Or.inl ⟨by rfl, ?_⟩) ?_ ?_
                                              rotate_left
                                              · intro w'
                                                go_simp
                                                with_reducible rfl
                                              rotate_left
                                              · simp only [Act.put, List.setIfInBounds_toArray, List.set_cons_zero, List.set_cons_succ, i64_w, i32_w]
                                                rfl
                                              refine pure_ (i := 22) (N := some 142) (v := ?_) (a' := ?_) #[true, false, true, true, true, true, false, true, true, true, true, false, true, true, true, true, true, true, true, true, true, true, true, false, false, false, false, false, false, false, false] rfl rfl (any_of HT_.out (by kernel_rfl)) (fun _ _ _ h => h) (Or.inl ⟨by rfl, ?_⟩) ?_ ?_
                                              rotate_left
                                              · intro w'
                                                go_simp
                                                with_reducible rfl
                                              rotate_left
                                              · simp only [Act.put, List.setIfInBounds_toArray, List.set_cons_zero, List.set_cons_succ, i64_w, i32_w]
                                                rfl
                                              refine pure_ (i := 23) (N := some 143) (v := ?_) (a' := ?_) #[true, false, true, true, true, true, false, true, true, true, true, false, true, true, true, true, true, true, true, true, true, true, true, true, false, false, false, false, false, false, false] rfl rfl (any_of HT_.out (by kernel_rfl)) (fun _ _ _ h => h) (Or.inl ⟨by rfl, ?_⟩) ?_ ?_
                                              rotate_left
                                              · intro w'
                                                go_simp
                                                with_reducible rfl
                                              rotate_left
                                              · simp only [Act.put, List.setIfInBounds_toArray, List.set_cons_zero, List.set_cons_succ, i64_w, i32_w]
                                                rfl
                                              refine take_ (i := 1) (N := some 121) (v := ?_) (a' := ?_) #[true, true, true, true, true, true, false, true, true, true, true, false, true, true, true, true, true, true, true, true, true, true, true, true, false, false, false, false, false, false, false] rfl rfl (take_ofW HT_.out HW_.out (by kernel_rfl)) (fun _ _ _ h => h) (Or.inl ⟨by rfl, ?_⟩) hHeld ?_ ?_
                                              rotate_left
                                              · rintro w' ⟨s0, s1, s2, s3, s4, s5, s6, s7, s8, s9, s10, s11, s12, s13, s14, s15, s16, s17⟩
                                                go_simp
                                                with_reducible rfl
                                              rotate_left
                                              · simp only [Act.put, List.setIfInBounds_toArray, List.set_cons_zero, List.set_cons_succ, i64_w, i32_w]
                                                rfl
                                              refine take_ (i := 6) (N := some 126) (v := ?_) (a' := ?_) #[true, true, true, true, true, true, true, true, true, true, true, false, true, true, true, true, true, true, true, true, true, true, true, true, false, false, false, false, false, false, false] rfl rfl (take_ofW HT_.out HW_.out (by kernel_rfl)) (fun _ _ _ h => h) (Or.inl ⟨by rfl, ?_⟩) hHeld ?_ ?_
                                              rotate_left
                                              · rintro w' ⟨s0, s1, s2, s3, s4, s5, s6, s7, s8, s9, s10, s11, s12, s13, s14, s15, s16, s17⟩
                                                go_simp
                                                with_reducible rfl
                                              rotate_left
                                              · simp only [Act.put, List.setIfInBounds_toArray, List.set_cons_zero, List.set_cons_succ, i64_w, i32_w]
                                                rfl
                                              refine take_ (i := 11) (N := some 131) (v := ?_) (a' := ?_) #[true, true, true, true, true, true, true, true, true, true, true, true, true, true, true, true, true, true, true, true, true, true, true, true, false, false, false, false, false, false, false] rfl rfl (take_ofW HT_.out HW_.out (by kernel_rfl)) (fun _ _ _ h => h) (Or.inl ⟨by rfl, ?_⟩) hHeld ?_ ?_
                                              rotate_left
                                              · rintro w' ⟨s0, s1, s2, s3, s4, s5, s6, s7, s8, s9, s10, s11, s12, s13, s14, s15, s16, s17⟩
                                                go_simp
                                                with_reducible rfl
                                              rotate_left
                                              · simp only [Act.put, List.setIfInBounds_toArray, List.set_cons_zero, List.set_cons_succ, i64_w, i32_w]
                                                rfl
                                              refine take_ (i := 24) (N := some 144) (v := ?_) (a' := ?_) #[true, true, true, true, true, true, true, true, true, true, true, true, true, true, true, true, true, true, true, true, true, true, true, true, true, false, false, false, false, false, false] rfl rfl (take_ofW HT_.out HW_.out (by kernel_rfl)) (fun _ _ _ h => h) (Or.inl ⟨by rfl, ?_⟩) hHeld ?_ ?_
                                              rotate_left
                                              · rintro w' ⟨s0, s1, s2, s3, s4, s5, s6, s7, s8, s9, s10, s11, s12, s13, s14, s15, s16, s17⟩
                                                go_simp
                                                with_reducible rfl
                                              rotate_left
                                              · simp only [Act.put, List.setIfInBounds_toArray, List.set_cons_zero, List.set_cons_succ, i64_w, i32_w]
                                                rfl
                                              refine pure_ (i := 25) (N := some 145) (v := ?_) (a' := ?_) #[true, true, true, true, true, true, true, true, true, true, true, true, true, true, true, true, true, true, true, true, true, true, true, true, true, true, false, false, false, false, false] rfl rfl (any_of HT_.out (by kernel_rfl)) (fun _ _ _ h => h) (Or.inl ⟨by rfl, ?_⟩) ?_ ?_
                                              rotate_left
                                              · intro w'
                                                go_simp
                                                with_reducible rfl
                                              rotate_left
                                              · simp only [Act.put, List.setIfInBounds_toArray, List.set_cons_zero, List.set_cons_succ, i64_w, i32_w]
                                                rfl
                                              refine pure_ (i := 26) (N := some 146) (v := ?_) (a' := ?_) #[true, true, true, true, true, true, true, true, true, true, true, true, true, true, true, true, true, true, true, true, true, true, true, true, true, true, true, false, false, false, false] rfl rfl (any_of HT_.out (by kernel_rfl)) (fun _ _ _ h => h) (Or.inl ⟨by rfl, ?_⟩) ?_ ?_
                                              rotate_left
                                              · intro w'
                                                go_simp
                                                with_reducible rfl
                                              rotate_left
                                              · simp only [Act.put, List.setIfInBounds_toArray, List.set_cons_zero, List.set_cons_succ, i64_w, i32_w]
                                                rfl
                                              refine one_ (i := 27) (N := some 147) #[true, true, true, true, true, true, true, true, true, true, true, true, true, true, true, true, true, true, true, true, true, true, true, true, true, true, true, true, false, false, false] rfl rfl (one_of HT_.out (by kernel_rfl)) (by decide) (fun K hK => ?_)
                                              refine value_ (w1 := ?_) (v := ?_) (by rfl) rfl ?_ ?_
                                              rotate_left 2
                                              · go_simp
                                                constructor
                                                · rfl
                                                · rfl
                                              refine hK.out _ _ ⟨(blk_cell (blk_alloc BK379.out _) 0).trans rfl, (blk_cell (blk_alloc BK379.out _) 1).trans rfl, (blk_cell (blk_alloc BK379.out _) 2).trans rfl, (World.cell?_alloc_lt _ _ _ (World.block_lt_of_cell? _ _ (((HB.out.cell (World.block_lt_of_cell? w _ hw389_0)).trans hw389_0)))).trans (((HB.out.cell (World.block_lt_of_cell? w _ hw389_0)).trans hw389_0)), (World.cell?_alloc_lt _ _ _ (World.block_lt_of_cell? _ _ (((HB.out.cell (World.block_lt_of_cell? w _ hw389_1)).trans hw389_1)))).trans (((HB.out.cell (World.block_lt_of_cell? w _ hw389_1)).trans hw389_1)), (World.cell?_alloc_lt _ _ _ (World.block_lt_of_cell? _ _ (((HB.out.cell (World.block_lt_of_cell? w _ hw389_2)).trans hw389_2)))).trans (((HB.out.cell (World.block_lt_of_cell? w _ hw389_2)).trans hw389_2)), (World.cell?_alloc_lt _ _ _ (World.block_lt_of_cell? _ _ (((HB.out.cell (World.block_lt_of_cell? w _ hw389_3)).trans hw389_3)))).trans (((HB.out.cell (World.block_lt_of_cell? w _ hw389_3)).trans hw389_3)), (World.cell?_alloc_lt _ _ _ (World.block_lt_of_cell? _ _ (((HB.out.cell (World.block_lt_of_cell? w _ hw389_4)).trans hw389_4)))).trans (((HB.out.cell (World.block_lt_of_cell? w _ hw389_4)).trans hw389_4)), (World.cell?_alloc_lt _ _ _ (World.block_lt_of_cell? _ _ (((HB.out.cell (World.block_lt_of_cell? w _ hw390_0)).trans hw390_0)))).trans (((HB.out.cell (World.block_lt_of_cell? w _ hw390_0)).trans hw390_0)), (World.cell?_alloc_lt _ _ _ (World.block_lt_of_cell? _ _ (((HB.out.cell (World.block_lt_of_cell? w _ hw390_1)).trans hw390_1)))).trans (((HB.out.cell (World.block_lt_of_cell? w _ hw390_1)).trans hw390_1)), (World.cell?_alloc_lt _ _ _ (World.block_lt_of_cell? _ _ (((HB.out.cell (World.block_lt_of_cell? w _ hw390_2)).trans hw390_2)))).trans (((HB.out.cell (World.block_lt_of_cell? w _ hw390_2)).trans hw390_2)), (World.cell?_alloc_lt _ _ _ (World.block_lt_of_cell? _ _ (((HB.out.cell (World.block_lt_of_cell? w _ hw390_3)).trans hw390_3)))).trans (((HB.out.cell (World.block_lt_of_cell? w _ hw390_3)).trans hw390_3)), (World.cell?_alloc_lt _ _ _ (World.block_lt_of_cell? _ _ (((HB.out.cell (World.block_lt_of_cell? w _ hw390_4)).trans hw390_4)))).trans (((HB.out.cell (World.block_lt_of_cell? w _ hw390_4)).trans hw390_4)), (World.cell?_alloc_lt _ _ _ (World.block_lt_of_cell? _ _ (((HB.out.cell (World.block_lt_of_cell? w _ hw391_0)).trans hw391_0)))).trans (((HB.out.cell (World.block_lt_of_cell? w _ hw391_0)).trans hw391_0)), (World.cell?_alloc_lt _ _ _ (World.block_lt_of_cell? _ _ (((HB.out.cell (World.block_lt_of_cell? w _ hw391_1)).trans hw391_1)))).trans (((HB.out.cell (World.block_lt_of_cell? w _ hw391_1)).trans hw391_1)), (World.cell?_alloc_lt _ _ _ (World.block_lt_of_cell? _ _ (((HB.out.cell (World.block_lt_of_cell? w _ hw391_2)).trans hw391_2)))).trans (((HB.out.cell (World.block_lt_of_cell? w _ hw391_2)).trans hw391_2)), (World.cell?_alloc_lt _ _ _ (World.block_lt_of_cell? _ _ (((HB.out.cell (World.block_lt_of_cell? w _ hw391_3)).trans hw391_3)))).trans (((HB.out.cell (World.block_lt_of_cell? w _ hw391_3)).trans hw391_3)), (World.cell?_alloc_lt _ _ _ (World.block_lt_of_cell? _ _ (((HB.out.cell (World.block_lt_of_cell? w _ hw391_4)).trans hw391_4)))).trans (((HB.out.cell (World.block_lt_of_cell? w _ hw391_4)).trans hw391_4))⟩ (fun hHeld => ?_)
                                              clear hK K
                                              refine norm_ (a' := ?_) ?_ ?_
                                              rotate_left
                                              · show Act.put _ (some 147) _ = _
                                                simp only [Act.put, List.setIfInBounds_toArray, List.set_cons_zero, List.set_cons_succ, i64_w, i32_w]
                                                rfl
                                              refine one_ (i := 28) (N := some 148) #[true, true, true, true, true, true, true, true, true, true, true, true, true, true, true, true, true, true, true, true, true, true, true, true, true, true, true, true, true, false, false] rfl rfl (one_of HT_.out (by kernel_rfl)) (by decide) (fun K hK => ?_)
                                              refine Kd.R_append_step k58 (w0 := w) w.heap.size (by rfl) (.tmp 121) (.tmp 147) 48 58 (.agg #[(.int .i64 0), (.int .i64 0), (.int .i64 0), (.int .i64 0), (.int .i64 0), (.int .i64 0), (.int .i64 0)]) 56 rfl Tryd.underlying48 info58 rfl (by decide) (by omega) u380002 x380002_5 (⟨(rd_T32 l0 x21_5).f0, (rd_T32 l0 x21_5).f1, x20_4, (⟨wrap64 (x20_4 * (wrap64 (a2 + a3))), wrap64 (t387 - ((rd_T32 l0 x21_5).f2)), a2, (rd_T32 l0 x21_5).f2⟩ : S56)⟩ : S58) [.int .i64 ((rd_T32 l0 x21_5).f0), .int .i64 ((rd_T32 l0 x21_5).f1), .int .i64 x20_4, .int .i64 (wrap64 (x20_4 * (wrap64 (a2 + a3)))), .int .i64 (wrap64 (t387 - ((rd_T32 l0 x21_5).f2))), .int .i64 a2, .int .i64 ((rd_T32 l0 x21_5).f2)] (fun _ => True) (fun _ => False) rfl rfl ?aP (fun _ hk => hk.elim) ?aF ?aO ?aB ?aS ?aL ?_
                                              (case aP => exact k58_mkM _ _ _ (⟨(rd_T32 l0 x21_5).f0, (rd_T32 l0 x21_5).f1, x20_4, (⟨wrap64 (x20_4 * (wrap64 (a2 + a3))), wrap64 (t387 - ((rd_T32 l0 x21_5).f2)), a2, (rd_T32 l0 x21_5).f2⟩ : S56)⟩ : S58))
                                              (case aB => exact (by repeat (first | (with_reducible first | exact HB.out | apply below_alloc | apply pw_below_drewN | apply below_drew1 | refine below_set ?_ GE365.out | refine below_set ?_ GE379.out) | exact HB.out)))
                                              (case aF => exact (fun _ _ => trivial))
                                              (case aO => exact (by (with_reducible repeat (first | apply Kd.R_alloc | apply Kd.R_drewN | apply Kd.R_drew)); exact HO_380002.out))
                                              (case aS => exact (below_size (by repeat (first | (with_reducible first | exact HB.out | apply below_alloc | apply pw_below_drewN | apply below_drew1 | refine below_set ?_ GE365.out | refine below_set ?_ GE379.out) | exact HB.out))))
                                              (case aL => have := LMc55.out; omega)
                                              intro v393 w59 ho hb hg hat
                                              rw [← Ny392.out] at ho
                                              have n0_ := Aside0.mk (Kd.R_over' (by (with_reducible repeat (first | apply Kd.R_alloc | apply Kd.R_drewN | apply Kd.R_drew)); exact HO_17.out) (Kd.R_typed (by (with_reducible repeat (first | apply Kd.R_alloc | apply Kd.R_drewN | apply Kd.R_drew)); exact HO_380002.out)) (by decide) hg)
                                              have n1_ := Aside0.mk (blk_grown (g := gb365) (o := .cells #[.int .i64 0, .int .i64 0, .slice none 0 0] 50 (0, 0)) (by (with_reducible repeat (first | refine blk_drewN ?_ _ | refine blk_drew ?_ | refine blk_alloc ?_ _)); exact BK365.out) hg (Kd.R_ne HO_380002.out BK365.out (by decide)))
                                              have n2_ := Aside0.mk (blk_grown (g := gb379) (o := .cells #[.int .i64 x14_30, .int .i64 (t375.length : Int), u380002] 50 (0, 0)) (by (with_reducible repeat (first | refine blk_drewN ?_ _ | refine blk_drew ?_ | refine blk_alloc ?_ _)); exact BK379.out) hg (Kd.R_ne HO_380002.out BK379.out (by decide)))
                                              have n3_ := Aside0.mk (hb)
                                              have n4_ := Aside0.mk (ho)
                                              clear HO_17
                                              clear BK365
                                              clear BK379
                                              clear HB
                                              clear HO_380002
                                              have HO_17 := n0_
                                              have BK365 := n1_
                                              have BK379 := n2_
                                              have HB := n3_
                                              have HO394 := n4_
                                              clear n0_ n1_ n2_ n3_ n4_
                                              clear ho hb hg hat
                                              obtain ⟨Ao60, co60, eo60⟩ := Kd.R_slice HO394.out
                                              (first | subst eo60 | (injection eo60 with f1_ f2_ f3_; have f4_ := f1_.symm; have f5_ := f3_.symm; clear f1_ f2_ f3_; subst f4_; subst f5_))
                                              refine hK.out _ _ ⟨(blk_cell BK379.out 0).trans rfl, (blk_cell BK379.out 1).trans rfl, (blk_cell BK379.out 2).trans rfl, ((HB.out.cell (World.block_lt_of_cell? w _ hw389_0)).trans hw389_0), ((HB.out.cell (World.block_lt_of_cell? w _ hw389_1)).trans hw389_1), ((HB.out.cell (World.block_lt_of_cell? w _ hw389_2)).trans hw389_2), ((HB.out.cell (World.block_lt_of_cell? w _ hw389_3)).trans hw389_3), ((HB.out.cell (World.block_lt_of_cell? w _ hw389_4)).trans hw389_4), ((HB.out.cell (World.block_lt_of_cell? w _ hw390_0)).trans hw390_0), ((HB.out.cell (World.block_lt_of_cell? w _ hw390_1)).trans hw390_1), ((HB.out.cell (World.block_lt_of_cell? w _ hw390_2)).trans hw390_2), ((HB.out.cell (World.block_lt_of_cell? w _ hw390_3)).trans hw390_3), ((HB.out.cell (World.block_lt_of_cell? w _ hw390_4)).trans hw390_4), ((HB.out.cell (World.block_lt_of_cell? w _ hw391_0)).trans hw391_0), ((HB.out.cell (World.block_lt_of_cell? w _ hw391_1)).trans hw391_1), ((HB.out.cell (World.block_lt_of_cell? w _ hw391_2)).trans hw391_2), ((HB.out.cell (World.block_lt_of_cell? w _ hw391_3)).trans hw391_3), ((HB.out.cell (World.block_lt_of_cell? w _ hw391_4)).trans hw391_4)⟩ (fun hHeld => ?_)
                                              clear hK K
                                              refine norm_ (a' := ?_) ?_ ?_
                                              rotate_left
                                              · show Act.put _ (some 148) _ = _
                                                simp only [Act.put, List.setIfInBounds_toArray, List.set_cons_zero, List.set_cons_succ, i64_w, i32_w]
                                                rfl
                                              refine pure_ (i := 29) (N := some 149) (v := ?_) (a' := ?_) #[true, true, true, true, true, true, true, true, true, true, true, true, true, true, true, true, true, true, true, true, true, true, true, true, true, true, true, true, true, true, false] rfl rfl (any_of HT_.out (by kernel_rfl)) (fun _ _ _ h => h) (Or.inl ⟨by rfl, ?_⟩) ?_ ?_
                                              rotate_left
                                              · intro w'
                                                go_simp
                                                with_reducible rfl
                                              rotate_left
                                              · simp only [Act.put, List.setIfInBounds_toArray, List.set_cons_zero, List.set_cons_succ, i64_w, i32_w]
                                                rfl
                                              refine last_ (i := 30) (N := none) #[true, true, true, true, true, true, true, true, true, true, true, true, true, true, true, true, true, true, true, true, true, true, true, true, true, true, true, true, true, true, true] rfl rfl (one_of HT_.out (by kernel_rfl)) (by decide) (fun K hK => ?_)
                                              have hs61 : w59.cell? ⟨gb379, 2, none⟩ = some (u380002) := (blk_cell BK379.out 2).trans rfl
                                              have hfs61 := blk_frozen BK379.out 2
                                              have hns61_0 := NB365_379.out
                                              have hms61_0 := NB379_365.out
                                              refine skip_ (w1 := ?_) (by rfl) rfl ?_ ?_
                                              rotate_left
                                              · go_simp
                                                rfl
                                              refine hK.out _ _ ?_
                                              clear hK K
                                              refine done_ (done_of HT_.out (by kernel_rfl)) ?_
                                              try go_wp2
                                              go_roundg k5
                                              case measure => have := HJ6.out; have := HJ28.out; have := HJ30.out; have := HK4.out; have := HK5.out; omega
                                              case rel => exact ⟨(wrap64 (x21_5 + 1)), (y392), (.slice Ao60 y392.length co60), (by first | rfl | (simp; done) | (simp [*]; done)), H', ⟨by have := HJ6.out; have := HJ28.out; have := HJ30.out; have := HK4.out; have := HK5.out; omega⟩, ⟨by (with_reducible repeat (first | apply Kd.R_alloc | apply Kd.R_drewN | apply Kd.R_drew)); exact Kd.R_mono (Kd.R_far (p := ⟨gb379, 2, none⟩) (Kd.R_types HO_17.out BK379.out (by decide)) (fun _ hk => hk.2) (.slice Ao60 y392.length co60)) (fun _ hk => trivial)⟩, ⟨by (with_reducible repeat (first | apply Kd.R_alloc | apply Kd.R_drewN | apply Kd.R_drew)); exact Kd.R_mono (Kd.R_far (p := ⟨gb379, 2, none⟩) (Kd.R_types HO394.out BK379.out (by decide)) (fun _ hk => hk.2) (.slice Ao60 y392.length co60)) (fun _ hk => trivial)⟩, ⟨by (with_reducible repeat (first | refine blk_drewN ?_ _ | refine blk_drew ?_ | refine blk_alloc ?_ _)); refine blk_far ?_ NB365_379.out _; (with_reducible repeat (first | refine blk_drewN ?_ _ | refine blk_drew ?_ | refine blk_alloc ?_ _)); exact BK365.out⟩, ⟨by (with_reducible repeat (first | refine blk_drewN ?_ _ | refine blk_drew ?_ | refine blk_alloc ?_ _)); refine blk_put (cs := #[.int .i64 x14_30, .int .i64 (t375.length : Int), u380002]) ?_ 2 _ rfl; (with_reducible repeat (first | refine blk_drewN ?_ _ | refine blk_drew ?_ | refine blk_alloc ?_ _)); exact BK379.out⟩, ⟨by repeat (first | (with_reducible first | exact HB.out | apply below_alloc | apply pw_below_drewN | apply below_drew1 | refine below_set ?_ GE365.out | refine below_set ?_ GE379.out) | exact HB.out)⟩⟩
                                            · rw [if_neg c55] at H
                                              exact absurd H (by simp)
                                          · rw [if_neg c54] at H
                                            exact absurd H (by simp)
                                        · rw [if_neg c53] at H
                                          exact absurd H (by simp)
                                      · rw [if_neg c51] at H
                                        exact absurd H (by simp)
                                    · rw [if_neg c50] at H
                                      exact absurd H (by simp)
                                  · rw [if_neg c49] at H
                                    exact absurd H (by simp)
                                · rw [if_neg c48] at H
                                  have c48b0 : decide (x21_5 < ((rd_T73 t375 x20_4).f1)) = false := decide_eq_false c48
                                  clear c48
                                  have H' := Aside0.mk H
                                  clear H
                                  have p381 : 0 ≤ (x20_4 : Int) := of_decide_eq_true (by first | (with_reducible assumption) | assumption)
                                  have q381 : x20_4 < (t375.length : Int) := of_decide_eq_true (by first | (with_reducible assumption) | assumption)
                                  obtain ⟨ad381, e381, hx381_0, hx381_1, hx381_2⟩ := at_T73 (Kd.R_reads' HO_17.out).2.2 x20_4 p381 q381
                                  obtain rfl : ad380 = ad381 := (by injection e381)
                                  replace p381 := eq_true p381
                                  replace q381 := eq_true q381
                                  go_wp2
                                  go_roundg k5
                                  case measure => have := HJ6.out; have := HJ28.out; have := HJ30.out; have := HK4.out; have := HK5.out; omega
                                  case rel => exact ⟨(wrap64 (x20_4 + 1)), (x380002_5), (u380002), (by first | rfl | (simp; done) | (simp [*]; done)), H', ⟨by have := HJ6.out; have := HJ28.out; have := HJ30.out; have := HK4.out; have := HK5.out; omega⟩, ⟨by (with_reducible repeat (first | apply Kd.R_alloc | apply Kd.R_drewN | apply Kd.R_drew)); exact HO_17.out⟩, ⟨by (with_reducible repeat (first | apply Kd.R_alloc | apply Kd.R_drewN | apply Kd.R_drew)); exact HO_380002.out⟩, ⟨by (with_reducible repeat (first | refine blk_drewN ?_ _ | refine blk_drew ?_ | refine blk_alloc ?_ _)); exact BK365.out⟩, ⟨by (with_reducible repeat (first | refine blk_drewN ?_ _ | refine blk_drew ?_ | refine blk_alloc ?_ _)); exact BK379.out⟩, ⟨by repeat (first | (with_reducible first | exact HB.out | apply below_alloc | apply pw_below_drewN | apply below_drew1 | refine below_set ?_ GE365.out | refine below_set ?_ GE379.out) | exact HB.out)⟩⟩
                              · rw [if_neg c47] at H
                                exact absurd H (by simp)
                            · rw [if_neg c46] at H
                              exact absurd H (by simp)
                      · rw [if_neg c45] at H
                        exact absurd H (by simp)
                    · rw [if_neg c44] at H
                      have c44b0 : decide (x20_4 < (t375.length : Int)) = false := decide_eq_false c44
                      clear c44
                      simp only [Option.some.injEq, Prod.mk.injEq] at H
                      obtain ⟨rfl, rfl, rfl, rfl⟩ := H
                      have hnb62 := NB379_365.out
                      have hnc62 := NB365_379.out
                      have hcz63_0 : wr.cell? ⟨gb379, 0, none⟩ = some (.int .i64 x14_30) := (blk_cell BK379.out 0).trans rfl
                      have hcz63_1 : wr.cell? ⟨gb379, 1, none⟩ = some (.int .i64 (t375.length : Int)) := (blk_cell BK379.out 1).trans rfl
                      have hcz63_2 : wr.cell? ⟨gb379, 2, none⟩ = some (u380002) := (blk_cell BK379.out 2).trans rfl
                      have hfz63_0 := blk_frozen BK379.out 0
                      have hfz63_1 := blk_frozen BK379.out 1
                      have hfz63_2 := blk_frozen BK379.out 2
                      have hcz64_0 : wr.cell? ⟨gb365, 0, none⟩ = some (.int .i64 0) := (blk_cell BK365.out 0).trans rfl
                      have hcz64_1 : wr.cell? ⟨gb365, 1, none⟩ = some (.int .i64 0) := (blk_cell BK365.out 1).trans rfl
                      have hcz64_2 : wr.cell? ⟨gb365, 2, none⟩ = some (.slice none 0 0) := (blk_cell BK365.out 2).trans rfl
                      have hfz64_0 := blk_frozen BK365.out 0
                      have hfz64_1 := blk_frozen BK365.out 1
                      have hfz64_2 := blk_frozen BK365.out 2
                      obtain ⟨Ao65, co65, eo65⟩ := Kd.R_slice HO_380002.out
                      subst eo65
                      go_wp2
                      refine bodyPost_ret (results_ct rfl _ _ gb365 50 #[.int .i64 x14_30, .int .i64 (t375.length : Int), .slice Ao65 x380002_4.length co65] (0, 0) _ rfl (by (with_reducible repeat (first | refine blk_drewN ?_ _ | refine blk_drew ?_ | refine blk_alloc ?_ _)); refine blk_put (cs := #[.int .i64 x14_30, .int .i64 (t375.length : Int), .slice none 0 0]) ?_ 2 _ rfl; (with_reducible repeat (first | refine blk_drewN ?_ _ | refine blk_drew ?_ | refine blk_alloc ?_ _)); refine blk_put (cs := #[.int .i64 x14_30, .int .i64 0, .slice none 0 0]) ?_ 1 _ rfl; (with_reducible repeat (first | refine blk_drewN ?_ _ | refine blk_drew ?_ | refine blk_alloc ?_ _)); refine blk_put (cs := #[.int .i64 0, .int .i64 0, .slice none 0 0]) ?_ 0 _ rfl; (with_reducible repeat (first | refine blk_drewN ?_ _ | refine blk_drew ?_ | refine blk_alloc ?_ _)); exact BK365.out) Tryd.underlying50 rfl (by kernel_rfl)) rfl ?_
                      exact ⟨_, by first | rfl | (simp [errW_none, errW_some] <;> rfl) | (simp [*, errW_none, errW_some] <;> rfl), by (with_reducible repeat (first | apply Kd.R_alloc | apply Kd.R_drewN | apply Kd.R_drew)); exact Kd.R_mono (Kd.R_far (p := ⟨gb365, 2, none⟩) (Kd.R_far (p := ⟨gb365, 1, none⟩) (Kd.R_far (p := ⟨gb365, 0, none⟩) (Kd.R_types HO_380002.out BK365.out (by decide)) (fun _ hk => hk.2) (.int .i64 x14_30)) (fun _ hk => hk.2) (.int .i64 (t375.length : Int))) (fun _ hk => hk.2) (.slice Ao65 x380002_4.length co65)) (fun _ hk => trivial), by repeat (first | (with_reducible first | exact HB.out | apply below_alloc | apply pw_below_drewN | apply below_drew1 | refine below_set ?_ GE365.out | refine below_set ?_ GE379.out) | exact HB.out)⟩

end Go.Proofs.YtjpifknencfipaaDoor.P
