/- band.Both. Conditions: the slices read as the lists; the sentinel. -/
import Derived.Test.YtomgpbhkoellpaaDoorE15
set_option linter.unusedVariables false
set_option linter.unusedSimpArgs false
namespace Go.Proofs.YtomgpbhkoellpaaDoor.P
open Go.RowKit Go.Shelf Go.Proofs.YtomgpbhkoellpaaDoorW.PrintWords Go.Proofs.YtomgpbhkoellpaaDoorW.PrintLast Go.Proofs.YtomgpbhkoellpaaDoorW.PrintMore

theorem met_fold (y : S24) : ∀ (b : List S24) (o : List S24), foldP (metP b y) o = b.foldl (metS1 y) o
  | [], o => rfl
  | x :: xs, o => by
    show foldP (metP xs y) (addB o (max x.f0 y.f0) (min x.f1 y.f1)) = _
    rw [met_fold y xs]
    rfl
theorem both_fold (a b : List S24) : a.foldl (metS b) [] = bothB a b := (foldP_flat (metP b) (metS b) (fun o y => met_fold y b o) a []).symm

set_option maxHeartbeats 2000000 in
set_option maxRecDepth 100000 in
theorem both_yes (A0 : Option Addr) (c0 : Nat) (l0 : List S24) (A1 : Option Addr) (c1 : Nat) (l1 : List S24) (w : World) (hr0 : Kd.C k24 w A0 l0.length l0) (hc0 : l0.length ≤ c0) (hr1 : Kd.C k24 w A1 l1.length l1) (hc1 : l1.length ≤ c1) (hlen0 : l0.length ≤ 1000) (hlen1 : l1.length ≤ 1000) (h0 : rightD l0 = true) (h1 : rightD l1 = true) :
    Calls Tryd.prog 17 #[.slice A0 l0.length c0, .slice A1 l1.length c1] w fun e w' => ∃ v, e = .returned (.tuple #[v, .int .i64 0]) ∧ Kd.R k24 24 w' w.heap.size (fun _ => True) v (bothB l0 l1) ∧ Below w.heap.size w w' := by
  have HR0 := Aside0.mk hr0
  have HR1 := Aside0.mk hr1
  have R0 := Lib.hid (right_f l0 (by omega) (k := 1001) (by omega))
  have R1 := Lib.hid (right_f l1 (by omega) (k := 1001) (by omega))
  rw [h0] at R0
  rw [h1] at R1
  have HN := Aside0.mk (World.alloc_heap_new w (.cells #[.slice A1 l1.length c1] 22))
  clear hr0 hr1 h0 h1
  go_enter Tryd.func17, Tryd.ntmps17
  go_wp2_with (first | (go_at_call 21; refine (band_Right.calls 1001 A0 c0 l0 true _ (Kd.C_alloc HR0.out _) hc0 R0.out).mono ?_; rintro e w1 ⟨rfl, hb⟩; have HB1 := Aside0.mk hb; have hx := (hb.block w.heap.size (by simp)).trans HN.out; have x0 : w1.cell? ⟨w.heap.size, 0, none⟩ = some (.slice A1 l1.length c1) := (blk_cell hx 0).trans rfl; clear hb R0) | (go_at_call 21; refine (band_Right.calls 1001 A1 c1 l1 true w1 (Kd.C_below (Kd.C_alloc HR1.out (.cells #[.slice A1 l1.length c1] 22)) HB1.out) hc1 R1.out).mono ?_; rintro e w2 ⟨rfl, hb⟩; have HB2 := Aside0.mk hb; have y0 := pw_cell_below hb x0; clear hb))
  have hbw1 : Below w.heap.size w w1 := (below_alloc (Below.refl _ w) _).trans (HB1.out.mono (by simp))
  have hbw2 : Below w.heap.size w w2 := hbw1.trans (HB2.out.mono hbw1.size)
  have hs2 : w.heap.size + 1 ≤ w2.heap.size := by
    have q1 := HB1.out.size
    have q2 := HB2.out.size
    rw [World.size_alloc] at q1
    omega
  have HT := Aside0.mk (through_calls 38 #[.pointer (some ⟨w.heap.size, 0, none⟩)] (metS l1) l1.length (fun o y => metS_len y l1 o) A0 c0 l0 w2 (Kd.C_below HR0.out hbw2) hc0 (by omega)
    (fun g lv => met_does w2.heap.size g w.heap.size A1 c1 l1 lv w2 (l0.length * l1.length) (by
      have : l0.length * l1.length ≤ 1000 * 1000 := Nat.mul_le_mul hlen0 hlen1
      omega) (by omega) rfl y0 hc1 (Kd.C_below HR1.out hbw2)) (enters_of Tryd.func38 (by kernel_rfl) rfl))
  have HBW := Aside0.mk hbw2
  clear hbw1 hbw2
  refine HT.out.mono ?_
  rintro e w3 ⟨v, rfl, hR, hb⟩
  have HR := Aside0.mk hR
  have HB3 := Aside0.mk hb
  clear hR hb
  go_wp2
  go_ret2
  have h1 := HR.out
  rw [both_fold] at h1
  exact ⟨v, rfl, Kd.R_lower h1 HBW.out.size, HBW.out.trans (HB3.out.mono HBW.out.size)⟩

set_option maxHeartbeats 2000000 in
set_option maxRecDepth 100000 in
theorem both_no1 (A0 : Option Addr) (c0 : Nat) (l0 : List S24) (A1 : Option Addr) (c1 : Nat) (l1 : List S24) (w : World) (hr0 : Kd.C k24 w A0 l0.length l0) (hc0 : l0.length ≤ c0) (hlen0 : l0.length ≤ 1000) (hG : Gl 1 w) (h0 : rightD l0 = false) :
    Calls Tryd.prog 17 #[.slice A0 l0.length c0, .slice A1 l1.length c1] w fun e w' => e = .returned (.tuple #[.slice none 0 0, .int .i64 30]) ∧ Below w.heap.size w w' := by
  obtain ⟨a, ha⟩ := hG
  have HR0 := Aside0.mk hr0
  have R0 := Lib.hid (right_f l0 (by omega) (k := 1001) (by omega))
  rw [h0] at R0
  have HA := Aside0.mk ha
  clear hr0 h0 ha
  go_enter Tryd.func17, Tryd.ntmps17
  go_wp2_with (first | (go_at_call 21; refine (band_Right.calls 1001 A0 c0 l0 false _ (Kd.C_alloc HR0.out _) hc0 R0.out).mono ?_; rintro e w1 ⟨rfl, hb⟩; have HB1 := Aside0.mk hb; have g0 := pw_cell_below hb (cell_alloc' HA.out _); clear hb) | (go_at_call 35; refine (told_band a _ g0).mono ?_; rintro e w2 ⟨rfl, rfl⟩))
  go_ret2
  exact ⟨rfl, (below_alloc (Below.refl _ w) _).trans (HB1.out.mono (by simp))⟩

set_option maxHeartbeats 2000000 in
set_option maxRecDepth 100000 in
theorem both_no2 (A0 : Option Addr) (c0 : Nat) (l0 : List S24) (A1 : Option Addr) (c1 : Nat) (l1 : List S24) (w : World) (hr0 : Kd.C k24 w A0 l0.length l0) (hc0 : l0.length ≤ c0) (hr1 : Kd.C k24 w A1 l1.length l1) (hc1 : l1.length ≤ c1) (hlen0 : l0.length ≤ 1000) (hlen1 : l1.length ≤ 1000) (hG : Gl 1 w) (h0 : rightD l0 = true) (h1 : rightD l1 = false) :
    Calls Tryd.prog 17 #[.slice A0 l0.length c0, .slice A1 l1.length c1] w fun e w' => e = .returned (.tuple #[.slice none 0 0, .int .i64 30]) ∧ Below w.heap.size w w' := by
  obtain ⟨a, ha⟩ := hG
  have HR0 := Aside0.mk hr0
  have HR1 := Aside0.mk hr1
  have R0 := Lib.hid (right_f l0 (by omega) (k := 1001) (by omega))
  have R1 := Lib.hid (right_f l1 (by omega) (k := 1001) (by omega))
  rw [h0] at R0
  rw [h1] at R1
  have HA := Aside0.mk ha
  have HN := Aside0.mk (World.alloc_heap_new w (.cells #[.slice A1 l1.length c1] 22))
  clear hr0 hr1 h0 h1 ha
  go_enter Tryd.func17, Tryd.ntmps17
  go_wp2_with (first | (go_at_call 21; refine (band_Right.calls 1001 A0 c0 l0 true _ (Kd.C_alloc HR0.out _) hc0 R0.out).mono ?_; rintro e w1 ⟨rfl, hb⟩; have HB1 := Aside0.mk hb; have hx := (hb.block w.heap.size (by simp)).trans HN.out; have x0 : w1.cell? ⟨w.heap.size, 0, none⟩ = some (.slice A1 l1.length c1) := (blk_cell hx 0).trans rfl; have HG1 := Aside0.mk (pw_cell_below hb (cell_alloc' HA.out _)); clear hb R0) | (go_at_call 21; refine (band_Right.calls 1001 A1 c1 l1 false w1 (Kd.C_below (Kd.C_alloc HR1.out (.cells #[.slice A1 l1.length c1] 22)) HB1.out) hc1 R1.out).mono ?_; rintro e w2 ⟨rfl, hb⟩; have HB2 := Aside0.mk hb; have g0 := pw_cell_below hb HG1.out; clear hb) | (go_at_call 35; refine (told_band a _ g0).mono ?_; rintro e w2 ⟨rfl, rfl⟩))
  go_ret2
  have hbw1 : Below w.heap.size w w1 := (below_alloc (Below.refl _ w) _).trans (HB1.out.mono (by simp))
  exact ⟨rfl, hbw1.trans (HB2.out.mono hbw1.size)⟩

theorem band_Both.calls (A0 : Option Addr) (c0 : Nat) (l0 : List (S24)) (A1 : Option Addr) (c1 : Nat) (l1 : List (S24)) (r1 : List (S24)) (r2 : Int) (w : World) (hr0 : Kd.C k24 w A0 l0.length l0) (hc0 : l0.length ≤ c0) (hr1 : Kd.C k24 w A1 l1.length l1) (hc1 : l1.length ≤ c1) (hG : Gl 1 w) (h : band_Both.f l0 l1 = some (r1, r2)) :
    Calls Tryd.prog 17 #[.slice A0 l0.length c0, .slice A1 l1.length c1] w fun e w' => ∃ v0_ : Value, e = .returned (.tuple #[v0_, .int .i64 r2]) ∧ Kd.R k24 24 w' w.heap.size (fun _ => True) v0_ r1 ∧ Below w.heap.size w w' := by
  unfold band_Both.f at h
  split at h
  · next hlen =>
    split at h
    · next hf =>
      cases h
      simp only [Bool.and_eq_true] at hf
      exact both_yes A0 c0 l0 A1 c1 l1 w hr0 hc0 hr1 hc1 hlen.1 hlen.2 hf.1 hf.2
    · next hf =>
      cases h
      simp only [Bool.and_eq_true, Bool.not_eq_true] at hf
      by_cases h1 : rightD l0 = true
      · exact (both_no2 A0 c0 l0 A1 c1 l1 w hr0 hc0 hr1 hc1 hlen.1 hlen.2 hG h1 (by rw [Bool.eq_false_iff]; exact fun e => hf ⟨h1, e⟩)).mono fun e w' ⟨he, hb⟩ => ⟨_, he, Kd.R_nil _ _ _ _ _, hb⟩
      · exact (both_no1 A0 c0 l0 A1 c1 l1 w hr0 hc0 hlen.1 hG (by simpa using h1)).mono fun e w' ⟨he, hb⟩ => ⟨_, he, Kd.R_nil _ _ _ _ _, hb⟩
  · cases h

end Go.Proofs.YtomgpbhkoellpaaDoor.P
