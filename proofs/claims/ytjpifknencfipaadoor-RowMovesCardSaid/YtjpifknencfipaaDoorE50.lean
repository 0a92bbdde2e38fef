/- gutterref17.Move: each piece, X and Y moved, in new memory. Conditions: the slice reads as the list; at most 1000 pieces. -/
import Derived.Test.YtjpifknencfipaaDoorE82
set_option linter.unusedVariables false
set_option linter.unusedSimpArgs false
namespace Go.Proofs.YtjpifknencfipaaDoor.P
open Go.RowKit Go.Proofs.YtjpifknencfipaaDoorW.PrintWords Go.Proofs.YtjpifknencfipaaDoorW.PrintLast Go.Proofs.YtjpifknencfipaaDoorW.PrintMore

set_option maxHeartbeats 2000000 in
set_option maxRecDepth 100000 in
theorem gutterref17_Move.calls (A0 : Option Addr) (c0 : Nat) (l0 : List (S58)) (a1 : Int) (a2 : Int) (r : List (S58)) (w : World) (hr0 : Kd.C k58 w A0 l0.length l0) (hc0 : l0.length ≤ c0) (h : gutterref17_Move.f l0 a1 a2 = some r) :
    Calls Tryd.prog 50 #[.slice A0 l0.length c0, .int .i64 a1, .int .i64 a2] w fun e w' => ∃ v0_ : Value, e = .returned (v0_) ∧ Kd.R k58 58 w' w.heap.size (fun _ => True) v0_ r ∧ Below w.heap.size w w' := by
  have hlen : l0.length ≤ 1000 := by
    unfold gutterref17_Move.f at h
    split at h
    · assumption
    · cases h
  have hr : l0.map (moveA a1 a2) = r := by
    unfold gutterref17_Move.f at h
    rw [if_pos hlen] at h
    exact Option.some.inj h
  have HR := Aside0.mk hr0
  have HE := Lib.hid hr
  have hu58 := Tryd.underlying58
  have hu56 := Tryd.underlying56
  clear hr0 hc0 h hr
  go_enter Tryd.func50, Tryd.ntmps50
  go_wp2
  go_loopw [7, 8] (fun v i wr => ∃ k : Nat, i = .int .i64 k ∧ k ≤ l0.length ∧ Aside0 (Kd.R k58 58 wr w.heap.size (fun _ => True) v ((l0.take k).map (moveA a1 a2))) ∧ Aside0 (Below w.heap.size w wr)) (fun _ i _ => l0.length - (intOf i).toNat)
  case atStart => exact ⟨0, rfl, Nat.zero_le _, ⟨by simpa using Kd.R_nil _ _ _ _ _⟩, ⟨Below.refl _ _⟩⟩
  case round =>
    obtain ⟨k, rfl, hk, HO, HB⟩ := hrel
    by_cases hlt : k < l0.length
    · obtain ⟨ad, e, hx0, hx1, hx2, hx3, hx4, hx5, hx6⟩ := at_T58 HR.out (k : Int) (by omega) (by omega)
      cases e
      simp only [Int.toNat_natCast] at hx0 hx1 hx2 hx3 hx4 hx5 hx6
      replace hx0 := (HB.out.cell (World.block_lt_of_cell? w _ hx0)).trans hx0
      replace hx1 := (HB.out.cell (World.block_lt_of_cell? w _ hx1)).trans hx1
      replace hx2 := (HB.out.cell (World.block_lt_of_cell? w _ hx2)).trans hx2
      replace hx3 := (HB.out.cell (World.block_lt_of_cell? w _ hx3)).trans hx3
      replace hx4 := (HB.out.cell (World.block_lt_of_cell? w _ hx4)).trans hx4
      replace hx5 := (HB.out.cell (World.block_lt_of_cell? w _ hx5)).trans hx5
      replace hx6 := (HB.out.cell (World.block_lt_of_cell? w _ hx6)).trans hx6
      have HS := Lib.hid (take_map_snoc (moveA a1 a2) l0 k z58 hlt)
      obtain ⟨x, hx⟩ : ∃ x, rd_T58 l0 (k : Int) = x := ⟨_, rfl⟩
      have hx' : l0.getD k z58 = x := by rw [← hx]; simp [rd_T58]
      rw [hx] at hx0 hx1 hx2 hx3 hx4 hx5 hx6
      rw [hx'] at HS
      clear hx hx'
      go_wp2_with (at_builtin; refine Kd.R_append k58 (w0 := w) w.heap.size rfl (.tmp 34) (.tmp 36) 48 58 (.agg #[(.int .i64 0), (.int .i64 0), (.int .i64 0), (.int .i64 0), (.int .i64 0), (.int .i64 0), (.int .i64 0)]) 56 rfl Tryd.underlying48 info58 rfl (by decide) (by omega) u7 ((l0.take k).map (moveA a1 a2)) (moveA a1 a2 x) [.int .i64 x.f0, .int .i64 x.f1, .int .i64 x.f2, .int .i64 (wrap64 (x.f3.f0 + a1)), .int .i64 (wrap64 (x.f3.f1 + a2)), .int .i64 x.f3.f2, .int .i64 x.f3.f3] (fun _ => True) (fun _ => False) rfl (by first | (go_simp; done) | (go_simp; rfl)) (k58_mkM _ _ _ _) (fun _ hk => hk.elim) (fun _ _ => trivial) (Kd.R_alloc HO.out _) (below_alloc HB.out _) (by have := HB.out.size; simp; omega) (by simp; omega) ?_; intro v1 w1 HO1 HB1 _ _; have HO2 := Aside0.mk HO1; have HB2 := Aside0.mk HB1; clear HO1 HB1 HO HB)
      go_roundw
      case rel => exact ⟨k + 1, by go_num, by omega, ⟨by rw [HS.out]; exact HO2.out⟩, HB2⟩
      case measure => simp [intOf]; omega
    · have hk3 : k = l0.length := by omega
      have HE2 : Hid ((l0.take k).map (moveA a1 a2) = r) := Lib.hid (by rw [← HE.out, hk3, List.take_length])
      clear hk3 HE
      go_wp2
      go_ret
      exact ⟨_, rfl, by rw [← HE2.out]; exact HO.out, HB.out⟩

end Go.Proofs.YtjpifknencfipaaDoor.P
