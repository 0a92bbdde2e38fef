/- gutterlaw13.Few: the first 150 atoms, heights and spaces cut to -2^40 .. 2^40, in new memory. Conditions: the slice reads as the list. · row.moved: each piece, X and Y moved, in new memory. Conditions: the slice reads as the list; at most 1000 pieces. -/
import Derived.Test.YtjpifknencfipaaDoorFm
import Derived.Test.YtjpifknencfipaaDoorE99
set_option linter.unusedVariables false
set_option linter.unusedSimpArgs false
namespace Go.Proofs.YtjpifknencfipaaDoor.P
open Go.RowKit Go.Proofs.YtjpifknencfipaaDoorW.PrintWords Go.Proofs.YtjpifknencfipaaDoorW.PrintLast Go.Proofs.YtjpifknencfipaaDoorW.PrintMore
attribute [local go_sem] max2_int min2_int max_two min_two max_three min_three max_four min_four

theorem take_map_snoc {α β : Type} (g : α → β) (l : List α) (k : Nat) (z : α) (h : k < l.length) : (l.take (k + 1)).map g = (l.take k).map g ++ [g (l.getD k z)] := by
  rw [List.take_succ_eq_append_getElem h, List.map_append, List.getD_eq_getElem?_getD, List.getElem?_eq_getElem h]
  rfl

theorem clampA_if (a : Int) : clampA a = (if (-1099511627776 : Int) < (if (1099511627776 : Int) < a then (1099511627776 : Int) else a) then (if (1099511627776 : Int) < a then (1099511627776 : Int) else a) else (-1099511627776 : Int)) := by
  unfold clampA
  split <;> split <;> omega

set_option maxHeartbeats 2000000 in
set_option maxRecDepth 100000 in
theorem gutterlaw13_Few.calls (A0 : Option Addr) (c0 : Nat) (l0 : List (S32)) (r : List (S32)) (w : World) (hr0 : Kd.C k32 w A0 l0.length l0) (hc0 : l0.length ≤ c0) (h : gutterlaw13_Few.f l0 = some r) :
    Calls Tryd.prog 55 #[.slice A0 l0.length c0] w fun e w' => ∃ v0_ : Value, e = .returned (v0_) ∧ Kd.R k32 32 w' w.heap.size (fun _ => True) v0_ r ∧ Below w.heap.size w w' := by
  have hn : l0.length ≤ 9223372036854775807 := hr0.2.1
  have HR := Aside0.mk hr0
  have hr : (l0.take 150).map cutA = r := Option.some.inj h
  have HE := Lib.hid hr
  have hu32 := Tryd.underlying32
  clear hr0 hc0 h hr
  go_enter Tryd.func55, Tryd.ntmps55
  go_wp2
  go_loopw [4, 5] (fun v i wr => ∃ k : Nat, i = .int .i64 k ∧ k ≤ l0.length ∧ k ≤ 150 ∧ Aside0 (Kd.R k32 32 wr w.heap.size (fun _ => True) v ((l0.take k).map cutA)) ∧ Aside0 (Below w.heap.size w wr)) (fun _ i _ => l0.length - (intOf i).toNat)
  case atStart => exact ⟨0, rfl, Nat.zero_le _, Nat.zero_le _, ⟨by simpa using Kd.R_nil _ _ _ _ _⟩, ⟨Below.refl _ _⟩⟩
  case round =>
    obtain ⟨k, rfl, hk, hk2, HO, HB⟩ := hrel
    by_cases hlt : k < l0.length
    · by_cases hlt2 : k < 150
      · obtain ⟨ad, e, hx0, hx1, hx2, hx3, hx4⟩ := at_T32 HR.out (k : Int) (by omega) (by omega)
        cases e
        simp only [Int.toNat_natCast] at hx0 hx1 hx2 hx3 hx4
        replace hx0 := (HB.out.cell (World.block_lt_of_cell? w _ hx0)).trans hx0
        replace hx1 := (HB.out.cell (World.block_lt_of_cell? w _ hx1)).trans hx1
        replace hx2 := (HB.out.cell (World.block_lt_of_cell? w _ hx2)).trans hx2
        replace hx3 := (HB.out.cell (World.block_lt_of_cell? w _ hx3)).trans hx3
        replace hx4 := (HB.out.cell (World.block_lt_of_cell? w _ hx4)).trans hx4
        have HS := Lib.hid (take_map_snoc cutA l0 k z32 hlt)
        obtain ⟨x, hx⟩ : ∃ x, rd_T32 l0 (k : Int) = x := ⟨_, rfl⟩
        have hx' : l0.getD k z32 = x := by rw [← hx]; simp [rd_T32]
        rw [hx] at hx0 hx1 hx2 hx3 hx4
        rw [hx'] at HS
        clear hx hx'
        obtain ⟨m2, hm2⟩ : ∃ m : Int, (if (1099511627776 : Int) < x.f2 then (1099511627776 : Int) else x.f2) = m := ⟨_, rfl⟩
        obtain ⟨c2, hc2⟩ : ∃ m : Int, (if (-1099511627776 : Int) < m2 then m2 else (-1099511627776 : Int)) = m := ⟨_, rfl⟩
        obtain ⟨m3, hm3⟩ : ∃ m : Int, (if (1099511627776 : Int) < x.f3 then (1099511627776 : Int) else x.f3) = m := ⟨_, rfl⟩
        obtain ⟨c3, hc3⟩ : ∃ m : Int, (if (-1099511627776 : Int) < m3 then m3 else (-1099511627776 : Int)) = m := ⟨_, rfl⟩
        have e2 : clampA x.f2 = c2 := by rw [← hc2, ← hm2]; exact clampA_if _
        have e3 : clampA x.f3 = c3 := by rw [← hc3, ← hm3]; exact clampA_if _
        have HC : Hid (cutA x = (⟨x.f0, x.f1, c2, c3, x.f4⟩ : S32)) := Lib.hid (by rw [← e2, ← e3]; rfl)
        clear e2 e3
        go_wp2_with (at_builtin; refine Kd.R_append k32 (w0 := w) w.heap.size rfl (.tmp 37) (.tmp 39) 22 32 (.agg #[(.int .i64 0), (.int .i64 0), (.int .i64 0), (.int .i64 0), (.int .i64 0)]) 40 rfl Tryd.underlying22 info32 rfl (by decide) (by omega) u4 ((l0.take k).map cutA) (⟨x.f0, x.f1, c2, c3, x.f4⟩ : S32) [.int .i64 x.f0, .int .i64 x.f1, .int .i64 c2, .int .i64 c3, .int .i64 x.f4] (fun _ => True) (fun _ => False) rfl (by first | (go_simp; done) | (go_simp; rfl)) (k32_mkM _ _ _ _) (fun _ hk => hk.elim) (fun _ _ => trivial) (Kd.R_alloc HO.out _) (below_alloc HB.out _) (by have := HB.out.size; simp; omega) (by simp; omega) ?_; intro v1 w1 HO1 HB1 _ _; have HO2 := Aside0.mk HO1; have HB2 := Aside0.mk HB1; clear HO1 HB1 HO HB)
        go_roundw
        case rel => exact ⟨k + 1, by go_num, by omega, by omega, ⟨by rw [HS.out, HC.out]; exact HO2.out⟩, HB2⟩
        case measure => simp [intOf]; omega
      · have hk3 : k = 150 := by omega
        have HE2 : Hid ((l0.take k).map cutA = r) := Lib.hid (by rw [hk3]; exact HE.out)
        clear hk3 HE
        go_wp2
        go_ret
        exact ⟨_, rfl, by rw [← HE2.out]; exact HO.out, HB.out⟩
    · have hk3 : k = l0.length := by omega
      have HE2 : Hid ((l0.take k).map cutA = r) := Lib.hid (by rw [← HE.out, hk3, List.take_length, List.take_of_length_le (by omega)])
      clear hk3 HE
      go_wp2
      go_ret
      exact ⟨_, rfl, by rw [← HE2.out]; exact HO.out, HB.out⟩

end Go.Proofs.YtjpifknencfipaaDoor.P

namespace Go.Proofs.YtjpifknencfipaaDoor.P
open Go.RowKit Go.Proofs.YtjpifknencfipaaDoorW.PrintWords Go.Proofs.YtjpifknencfipaaDoorW.PrintLast Go.Proofs.YtjpifknencfipaaDoorW.PrintMore

set_option maxHeartbeats 2000000 in
set_option maxRecDepth 100000 in
theorem row_moved.calls (a0 : Int) (a1 : Int) (A2 : Option Addr) (c2 : Nat) (l2 : List (S58)) (r : List (S58)) (w : World) (hr2 : Kd.C k58 w A2 l2.length l2) (hc2 : l2.length ≤ c2) (h : row_moved.f a0 a1 l2 = some r) :
    Calls Tryd.prog 82 #[.int .i64 a0, .int .i64 a1, .slice A2 l2.length c2] w fun e w' => ∃ v0_ : Value, e = .returned (v0_) ∧ Kd.R k58 58 w' w.heap.size (fun _ => True) v0_ r ∧ Below w.heap.size w w' := by
  have hlen : l2.length ≤ 1000 := by
    unfold row_moved.f at h
    split at h
    · assumption
    · cases h
  have hr : l2.map (moveA a0 a1) = r := by
    unfold row_moved.f at h
    rw [if_pos hlen] at h
    exact Option.some.inj h
  have HR := Aside0.mk hr2
  have HE := Lib.hid hr
  have hu58 := Tryd.underlying58
  have hu56 := Tryd.underlying56
  clear hr2 hc2 h hr
  go_enter Tryd.func82, Tryd.ntmps82
  go_wp2
  go_loopw [7, 12] (fun v i wr => ∃ k : Nat, i = .int .i64 k ∧ k ≤ l2.length ∧ Aside0 (Kd.R k58 58 wr w.heap.size (fun _ => True) v ((l2.take k).map (moveA a0 a1))) ∧ Aside0 (Below w.heap.size w wr)) (fun _ i _ => l2.length - (intOf i).toNat)
  case atStart => exact ⟨0, rfl, Nat.zero_le _, ⟨by simpa using Kd.R_nil _ _ _ _ _⟩, ⟨Below.refl _ _⟩⟩
  case round =>
    obtain ⟨k, rfl, hk, HO, HB⟩ := hrel
    by_cases hlt : k < l2.length
    · obtain ⟨ad, e, hx0, hx1, hx2, hx3, hx4, hx5, hx6⟩ := at_T58 HR.out (k : Int) (by omega) (by omega)
      cases e
      simp only [Int.toNat_natCast] at hx0 hx1 hx2 hx3 hx4 hx5 hx6
      replace hx0 := (HB.out.cell (World.block_lt_of_cell? w _ hx0)).trans hx0
      replace hx1 := (HB.out.cell (World.block_lt_of_cell? w _ hx1)).trans hx1
      replace hx2 := (HB.out.cell (World.block_lt_of_cell? w _ hx2)).trans hx2
      replace hx3 := (HB.out.cell (World.block_lt_of_cell? w _ hx3)).trans hx3
      replace hx4 := (HB.out.cell (World.block_lt_of_cell? w _ hx4)).trans hx4
      replace hx5 := (HB.out.cell (World.block_lt_of_cell? w _ hx5)).trans hx5
      replace hx6 := (HB.out.cell (World.block_lt_of_cell? w _ hx6)).trans hx6
      have HS := Lib.hid (take_map_snoc (moveA a0 a1) l2 k z58 hlt)
      obtain ⟨x, hx⟩ : ∃ x, rd_T58 l2 (k : Int) = x := ⟨_, rfl⟩
      have hx' : l2.getD k z58 = x := by rw [← hx]; simp [rd_T58]
      rw [hx] at hx0 hx1 hx2 hx3 hx4 hx5 hx6
      rw [hx'] at HS
      clear hx hx'
      go_wp2_with (at_builtin; refine Kd.R_append k58 (w0 := w) w.heap.size rfl (.tmp 30) (.tmp 32) 48 58 (.agg #[(.int .i64 0), (.int .i64 0), (.int .i64 0), (.int .i64 0), (.int .i64 0), (.int .i64 0), (.int .i64 0)]) 56 rfl Tryd.underlying48 info58 rfl (by decide) (by omega) u7 ((l2.take k).map (moveA a0 a1)) (moveA a0 a1 x) [.int .i64 x.f0, .int .i64 x.f1, .int .i64 x.f2, .int .i64 (wrap64 (x.f3.f0 + a0)), .int .i64 (wrap64 (x.f3.f1 + a1)), .int .i64 x.f3.f2, .int .i64 x.f3.f3] (fun _ => True) (fun _ => False) rfl (by first | (go_simp; done) | (go_simp; rfl)) (k58_mkM _ _ _ _) (fun _ hk => hk.elim) (fun _ _ => trivial) (Kd.R_alloc HO.out _) (below_alloc HB.out _) (by have := HB.out.size; simp; omega) (by simp; omega) ?_; intro v1 w1 HO1 HB1 _ _; have HO2 := Aside0.mk HO1; have HB2 := Aside0.mk HB1; clear HO1 HB1 HO HB)
      go_roundw
      case rel => exact ⟨k + 1, by go_num, by omega, ⟨by rw [HS.out]; exact HO2.out⟩, HB2⟩
      case measure => simp [intOf]; omega
    · have hk3 : k = l2.length := by omega
      have HE2 : Hid ((l2.take k).map (moveA a0 a1) = r) := Lib.hid (by rw [← HE.out, hk3, List.take_length])
      clear hk3 HE
      go_wp2
      go_ret
      exact ⟨_, rfl, by rw [← HE2.out]; exact HO.out, HB.out⟩

end Go.Proofs.YtjpifknencfipaaDoor.P
