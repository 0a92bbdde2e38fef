/- band.First. Conditions: the slice reads as the list. -/
import Derived.Test.YtomgpbhkoellpaaDoorSp
import Derived.Test.YtomgpbhkoellpaaDoorTo
set_option linter.unusedVariables false
set_option linter.unusedSimpArgs false
namespace Go.Proofs.YtomgpbhkoellpaaDoor.P
open Go.RowKit Go.Proofs.YtomgpbhkoellpaaDoorW.PrintWords Go.Proofs.YtomgpbhkoellpaaDoorW.PrintLast Go.Proofs.YtomgpbhkoellpaaDoorW.PrintMore

def fitB (need : Int) (x : S24) : Bool := decide (need ≤ wrap64 (x.f1 - x.f0))
def idxB (p : S24 → Bool) : List S24 → Nat → Int
  | [], _ => -1
  | x :: xs, i => if p x = true then i else idxB p xs (i + 1)

set_option maxHeartbeats 1000000 in
set_option maxRecDepth 100000 in
/-- First's function. -/
theorem fits_calls (s : Nat) (need : Int) (x : S24) (w : World) (hs : w.cell? ⟨s, 0, none⟩ = some (.int .i64 need)) :
    Calls Tryd.prog 39 #[S24.enc x, .pointer (some ⟨s, 0, none⟩)] w fun e w' => e = .returned (.bool (fitB need x)) ∧ Below w.heap.size w w' := by
  have hs1 := cell_alloc' hs (.cells #[.int .i64 x.f0, .int .i64 x.f1] 24)
  have HB := Aside0.mk (below_alloc (Below.refl _ w) (.cells #[.int .i64 x.f0, .int .i64 x.f1] 24))
  clear hs
  dsimp only [S24.enc]
  unfold fitB
  go_enter Tryd.func39, Tryd.ntmps39
  go_wp2
  all_goals
    go_ret
    exact ⟨ret_bool (by simp [*]), HB.out⟩

set_option maxHeartbeats 1000000 in
set_option maxRecDepth 100000 in
theorem index_calls (s : Nat) (need : Int) (A : Option Addr) (c : Nat) (l : List S24) (w : World) (hr : Kd.C k24 w A l.length l) (hc : l.length ≤ c) (hlen : l.length ≤ 1000) (hs : w.cell? ⟨s, 0, none⟩ = some (.int .i64 need)) :
    Calls Tryd.prog 40 #[.slice A l.length c, .func (.func 39) #[] #[.pointer (some ⟨s, 0, none⟩)]] w fun e w' => e = .returned (.int .i64 (idxB (fitB need) l 0)) ∧ Below w.heap.size w w' := by
  have HR := Aside0.mk hr
  have HS := Aside0.mk hs
  clear hr hs
  go_enter Tryd.func40, Tryd.ntmps40
  go_wp2
  go_loopw [5, 8] (fun u i wr => ∃ k : Nat, i = .int .i64 k ∧ k ≤ l.length ∧ Hid (idxB (fitB need) l 0 = idxB (fitB need) (l.drop k) k) ∧ Aside0 (Below w.heap.size w wr)) (fun _ i _ => l.length - (intOf i).toNat)
  case atStart => exact ⟨0, rfl, Nat.zero_le _, Lib.hid (by simp), ⟨Below.refl _ _⟩⟩
  case round =>
    obtain ⟨k, rfl, hk, HI, HB⟩ := hrel
    by_cases hlt : k < l.length
    · have hCr := Kd.C_below HR.out HB.out
      obtain ⟨ad, rfl, x0, x1⟩ := at_T24 hCr (k : Int) (by omega) (by omega)
      simp only [Int.toNat_natCast] at x0 x1
      have hx : rd_T24 l (k : Int) = l.getD k z24 := by simp [rd_T24]
      rw [hx] at x0 x1
      have HI2 : Hid (idxB (fitB need) l 0 = if fitB need (l.getD k z24) = true then (k : Int) else idxB (fitB need) (l.drop (k + 1)) (k + 1)) := Lib.hid (by rw [HI.out, drop_24 l k hlt]; rfl)
      obtain ⟨y, hy⟩ : ∃ y, l.getD k z24 = y := ⟨_, rfl⟩
      rw [hy] at x0 x1 HI2
      have HF := Aside0.mk (fits_calls s need y wr ((HB.out.cell (p := ⟨s, 0, none⟩) (World.block_lt_of_cell? w _ HS.out)).trans HS.out))
      dsimp only [S24.enc] at HF
      have hlt2 : (k : Int) < (l.length : Int) := by omega
      clear hx hy hCr HI
      cases hp : fitB need y with
      | true =>
        rw [hp] at HF
        have HI3 : Hid (idxB (fitB need) l 0 = k) := Lib.hid (by rw [HI2.out, if_pos hp])
        clear HI2 hp
        go_wp2_with ((with_reducible refine HF.out.mono ?_); rintro e w1 ⟨rfl, hb⟩; have HB1 := Aside0.mk hb; clear hb)
        go_ret
        exact ⟨ret_int HI3.out.symm, HB.out.trans (HB1.out.mono HB.out.size)⟩
      | false =>
        rw [hp] at HF
        have HI3 : Hid (idxB (fitB need) l 0 = idxB (fitB need) (l.drop (k + 1)) (k + 1)) := Lib.hid (by rw [HI2.out, if_neg (by simp [hp])])
        clear HI2 hp
        go_wp2_with ((with_reducible refine HF.out.mono ?_); rintro e w1 ⟨rfl, hb⟩; have HB1 := Aside0.mk hb; clear hb)
        go_roundw
        case rel => exact ⟨k + 1, by go_num, by omega, HI3, ⟨HB.out.trans (HB1.out.mono HB.out.size)⟩⟩
        case measure => simp [intOf]; omega
    · have HI3 : Hid (idxB (fitB need) l 0 = -1) := Lib.hid (by rw [HI.out, List.drop_eq_nil_of_le (by omega)]; rfl)
      clear HI
      go_wp2
      go_ret
      exact ⟨ret_int HI3.out.symm, HB.out⟩

theorem idx_range (p : S24 → Bool) : ∀ (l : List S24) (i : Nat), idxB p l i = -1 ∨ ∃ k : Nat, idxB p l i = ((i + k : Nat) : Int) ∧ k < l.length ∧ l.find? p = some (l.getD k z24)
  | [], i => .inl rfl
  | x :: xs, i => by
    unfold idxB
    by_cases h : p x = true
    · rw [if_pos h]
      exact .inr ⟨0, by simp, by simp, by simp [h]⟩
    · rw [if_neg h]
      rcases idx_range p xs (i + 1) with e | ⟨k, e, hk, hf⟩
      · exact .inl e
      · exact .inr ⟨k + 1, by rw [e]; push_cast; omega, by simp; omega, by rw [List.find?_cons_of_neg (by simpa using h), hf]; simp⟩
theorem idx_none (p : S24 → Bool) : ∀ (l : List S24) (i : Nat), idxB p l i = -1 → l.find? p = none
  | [], i, _ => rfl
  | x :: xs, i, h => by
    unfold idxB at h
    by_cases hp : p x = true
    · rw [if_pos hp] at h
      omega
    · rw [if_neg hp] at h
      rw [List.find?_cons_of_neg (by simpa using hp)]
      exact idx_none p xs (i + 1) h
theorem find_fit (l : List S24) (need : Int) (h : rightD l = true) : l.find? (fun x => decide (need ≤ x.f1 - x.f0)) = l.find? (fitB need) := by
  have hm := right_mem ((rightD_iff l).1 h)
  have : ∀ m : List S24, (∀ x ∈ m, spanB x) → m.find? (fun x => decide (need ≤ x.f1 - x.f0)) = m.find? (fitB need) := by
    intro m
    induction m with
    | nil => intro _; rfl
    | cons x xs ih =>
      intro hx
      have h1 := hx x (by simp)
      unfold spanB at h1
      have e : fitB need x = decide (need ≤ x.f1 - x.f0) := by
        unfold fitB
        rw [w64 (by omega)]
      simp only [List.find?_cons, e]
      rw [ih (fun y hy => hx y (by simp [hy]))]
  exact this l hm

set_option maxHeartbeats 2000000 in
set_option maxRecDepth 100000 in
theorem band_First.calls (A0 : Option Addr) (c0 : Nat) (l0 : List (S24)) (a1 : Int) (r1 : Int) (r2 : Bool) (w : World) (hr0 : Kd.C k24 w A0 l0.length l0) (hc0 : l0.length ≤ c0) (h : band_First.f l0 a1 = some (r1, r2)) :
    Calls Tryd.prog 20 #[.slice A0 l0.length c0, .int .i64 a1] w fun e w' => e = .returned (.tuple #[.int .i64 r1, .bool r2]) ∧ Below w.heap.size w w' := by
  unfold band_First.f at h
  split at h
  case isFalse => cases h
  case isTrue hlen =>
  have hfb : firstB l0 a1 = (r1, r2) := Option.some.inj h
  clear h
  have hnew := World.alloc_heap_new w (.cells #[.int .i64 a1] 2)
  have HX := Aside0.mk (index_calls w.heap.size a1 A0 c0 l0 (w.alloc (.cells #[.int .i64 a1] 2)) (Kd.C_alloc hr0 _) hc0 hlen ((blk_cell hnew 0).trans rfl))
  have HN := Aside0.mk hnew
  have HRD := Aside0.mk hr0
  clear hr0 hnew
  rcases idx_range (fitB a1) l0 0 with e | ⟨k, e, hk, hf⟩
  · rw [e] at HX
    have hr : (r1, r2) = ((0 : Int), false) := by
      rw [← hfb]
      unfold firstB
      split
      · next hc => rw [find_fit l0 a1 hc.2, idx_none _ l0 0 e]
      · rfl
    cases hr
    clear hfb e
    go_enter Tryd.func20, Tryd.ntmps20
    go_wp2_with (go_at_call 40; refine HX.out.mono ?_; rintro e w1 ⟨rfl, hb⟩; have HB1 := Aside0.mk hb; clear hb)
    go_ret2
    exact ⟨rfl, (below_alloc (Below.refl _ w) _).trans (HB1.out.mono (by simp))⟩
  · rw [e, Nat.zero_add] at HX
    by_cases hneg : a1 < 0
    · have hr : (r1, r2) = ((0 : Int), false) := by
        rw [← hfb]
        unfold firstB
        rw [if_neg (by omega)]
      cases hr
      clear hfb e
      go_enter Tryd.func20, Tryd.ntmps20
      go_wp2_with (go_at_call 40; refine HX.out.mono ?_; rintro e w1 ⟨rfl, hb⟩; have HB1 := Aside0.mk hb; have x0 : w1.cell? ⟨w.heap.size, 0, none⟩ = some (.int .i64 a1) := (blk_cell ((hb.block w.heap.size (by simp)).trans HN.out) 0).trans rfl; clear hb)
      go_ret2
      exact ⟨rfl, (below_alloc (Below.refl _ w) _).trans (HB1.out.mono (by simp))⟩
    · have R1 := Lib.hid (right_f l0 (by omega) (k := 1001) (by omega))
      cases h1 : rightD l0 with
      | false =>
        rw [h1] at R1
        have hr : (r1, r2) = ((0 : Int), false) := by
          rw [← hfb]
          unfold firstB
          rw [if_neg (by simp [h1])]
        cases hr
        clear hfb e h1
        go_enter Tryd.func20, Tryd.ntmps20
        go_wp2_with (first | (go_at_call 40; refine HX.out.mono ?_; rintro e w1 ⟨rfl, hb⟩; have HB1 := Aside0.mk hb; have x0 : w1.cell? ⟨w.heap.size, 0, none⟩ = some (.int .i64 a1) := (blk_cell ((hb.block w.heap.size (by simp)).trans HN.out) 0).trans rfl; clear hb) | (go_at_call 21; refine (band_Right.calls 1001 A0 c0 l0 false w1 (Kd.C_below (Kd.C_alloc HRD.out (.cells #[.int .i64 a1] 2)) HB1.out) hc0 R1.out).mono ?_; rintro e w2 ⟨rfl, hb⟩; have HB2 := Aside0.mk hb; clear hb))
        go_ret2
        have hbw1 : Below w.heap.size w w1 := (below_alloc (Below.refl _ w) _).trans (HB1.out.mono (by simp))
        exact ⟨rfl, hbw1.trans (HB2.out.mono hbw1.size)⟩
      | true =>
        rw [h1] at R1
        have hr : (r1, r2) = ((l0.getD k z24).f0, true) := by
          rw [← hfb]
          unfold firstB
          rw [if_pos ⟨by omega, h1⟩, find_fit l0 a1 h1, hf]
        cases hr
        have hlt2 : (k : Int) < (l0.length : Int) := by omega
        have hnn : ¬ (k : Int) < 0 := by omega
        obtain ⟨y, hy⟩ : ∃ y, l0.getD k z24 = y := ⟨_, rfl⟩
        have HY := Lib.hid hy
        rw [hy]
        clear hfb e h1 hf hy
        go_enter Tryd.func20, Tryd.ntmps20
        go_wp2_with (first | (go_at_call 40; refine HX.out.mono ?_; rintro e w1 ⟨rfl, hb⟩; have HB1 := Aside0.mk hb; have x0 : w1.cell? ⟨w.heap.size, 0, none⟩ = some (.int .i64 a1) := (blk_cell ((hb.block w.heap.size (by simp)).trans HN.out) 0).trans rfl; clear hb) | (go_at_call 21; refine (band_Right.calls 1001 A0 c0 l0 true w1 (Kd.C_below (Kd.C_alloc HRD.out (.cells #[.int .i64 a1] 2)) HB1.out) hc0 R1.out).mono ?_; rintro e w2 ⟨rfl, hb⟩; have HB2 := Aside0.mk hb; have hCx := Kd.C_below (Kd.C_below (Kd.C_alloc HRD.out (.cells #[.int .i64 a1] 2)) HB1.out) hb; obtain ⟨ad, rfl, y0, y1⟩ := at_T24 hCx (k : Int) (by omega) (by omega); simp only [Int.toNat_natCast] at y0 y1; rw [show rd_T24 l0 (k : Int) = y by rw [← HY.out]; simp [rd_T24]] at y0 y1; clear hb hCx))
        go_ret2
        have hbw1 : Below w.heap.size w w1 := (below_alloc (Below.refl _ w) _).trans (HB1.out.mono (by simp))
        exact ⟨rfl, hbw1.trans (HB2.out.mono hbw1.size)⟩

end Go.Proofs.YtomgpbhkoellpaaDoor.P
