/- band.Less. Conditions: the slice reads as the list; the sentinel. -/
import Derived.Test.YtomgpbhkoellpaaDoorDo
import Derived.Test.YtomgpbhkoellpaaDoorTo
set_option linter.unusedVariables false
set_option linter.unusedSimpArgs false
namespace Go.Proofs.YtomgpbhkoellpaaDoor.P
open Go.RowKit Go.Shelf Go.Proofs.YtomgpbhkoellpaaDoorW.PrintWords Go.Proofs.YtomgpbhkoellpaaDoorW.PrintLast Go.Proofs.YtomgpbhkoellpaaDoorW.PrintMore

theorem foldP_append (ps qs : List (Int × Int)) (o : List S24) : foldP (ps ++ qs) o = foldP qs (foldP ps o) := List.foldl_append
theorem foldP_flat (f : S24 → List (Int × Int)) (stp : List S24 → S24 → List S24) (h : ∀ o y, foldP (f y) o = stp o y) : ∀ (l : List S24) (o : List S24), foldP (l.flatMap f) o = l.foldl stp o
  | [], o => rfl
  | y :: ys, o => by
    rw [List.flatMap_cons, foldP_append, h, foldP_flat f stp h ys]
    rfl
theorem less_fold (l : List S24) (x : S24) : l.foldl (cutS x) [] = lessB l x := by
  refine (foldP_flat (cutP x) (cutS x) (fun o y => ?_) l []).symm
  unfold cutP cutS
  split <;> rfl
theorem cutS_len (x : S24) (out : List S24) (y : S24) : (cutS x out y).length ≤ out.length + 2 := by
  unfold cutS
  split
  · omega
  · have h1 := addB_len out y.f0 (min y.f1 x.f0)
    have h2 := addB_len (addB out y.f0 (min y.f1 x.f0)) (max y.f0 x.f1) y.f1
    omega
theorem C_one (w : World) (x : S24) : Kd.C k24 (w.alloc (.cells #[.int .i64 x.f0, .int .i64 x.f1] 24)) (some ⟨w.heap.size, 0, none⟩) ([x] : List S24).length [x] :=
  ⟨rfl, by simp, fun _ => ⟨_, rfl, fun j p hj => by
    have hj0 : j = 0 := by
      have := (List.getElem?_eq_some_iff.1 hj).1
      simp at this
      exact this
    subst hj0
    obtain rfl : x = p := by simpa using hj
    exact ⟨_, rfl, k24_mk _ x, fun i u hu => by
      have := cell_two_new w (.int .i64 x.f0) (.int .i64 x.f1) 24 i u hu
      rwa [show 0 * k24.sz + i = i by omega]⟩⟩⟩

set_option maxHeartbeats 1000000 in
set_option maxRecDepth 100000 in
/-- less. -/
theorem less_calls (A : Option Addr) (c : Nat) (l : List S24) (x : S24) (w : World) (hr : Kd.C k24 w A l.length l) (hc : l.length ≤ c) (hlen : l.length ≤ 1000) :
    Calls Tryd.prog 37 #[.slice A l.length c, S24.enc x] w fun e w' => ∃ v, e = .returned v ∧ Kd.R k24 24 w' w.heap.size (fun _ => True) v (lessB l x) ∧ Below w.heap.size w w' := by
  have hnew := World.alloc_heap_new w (.cells #[.int .i64 x.f0, .int .i64 x.f1] 24)
  have HT := Aside0.mk (through_calls 50 #[.pointer (some ⟨w.heap.size, 0, none⟩)] (cutS x) 2 (cutS_len x) A c l (w.alloc (.cells #[.int .i64 x.f0, .int .i64 x.f1] 24)) (Kd.C_alloc hr _) hc (by omega)
    (fun g lv => cut_does _ g w.heap.size x lv _ _ (by omega) (by simp) ((blk_cell hnew 0).trans rfl) ((blk_cell hnew 1).trans rfl)) (enters_of Tryd.func50 (by kernel_rfl) rfl))
  clear hr hnew
  dsimp only [S24.enc]
  go_enter Tryd.func37, Tryd.ntmps37
  go_wp2_with (go_at_call 32; refine HT.out.mono ?_; rintro e w1 ⟨v, rfl, hR, hb⟩; have HR := Aside0.mk hR; have HB := Aside0.mk hb; clear hR hb)
  go_ret
  have h1 := HR.out
  rw [less_fold, World.size_alloc] at h1
  exact ⟨v, rfl, Kd.R_lower h1 (by omega), (below_alloc (Below.refl _ w) _).trans (HB.out.mono (by simp))⟩

set_option maxHeartbeats 2000000 in
set_option maxRecDepth 100000 in
theorem less_yes (A : Option Addr) (c : Nat) (l : List S24) (x : S24) (w : World) (hr : Kd.C k24 w A l.length l) (hc : l.length ≤ c) (hlen : l.length ≤ 1000) (h1 : rightD l = true) (h2 : rightD [x] = true) :
    Calls Tryd.prog 15 #[.slice A l.length c, S24.enc x] w fun e w' => ∃ v, e = .returned (.tuple #[v, .int .i64 0]) ∧ Kd.R k24 24 w' w.heap.size (fun _ => True) v (lessB l x) ∧ Below w.heap.size w w' := by
  have HRD := Aside0.mk hr
  have R1 := Lib.hid (right_f l (by omega) (k := 1001) (by omega))
  have R2 := Lib.hid (are_f [x] (by simp) (k := 2) (by simp))
  rw [h1] at R1
  rw [h2] at R2
  have HN := Aside0.mk (World.alloc_heap_new w (.cells #[.int .i64 x.f0, .int .i64 x.f1] 24))
  clear hr h1 h2
  dsimp only [S24.enc]
  go_enter Tryd.func15, Tryd.ntmps15
  go_wp2_with (first | (go_at_call 21; refine (band_Right.calls 1001 A c l true _ (Kd.C_alloc HRD.out _) hc R1.out).mono ?_; rintro e w1 ⟨rfl, hb⟩; have HB1 := Aside0.mk hb; have hx := (hb.block w.heap.size (by simp)).trans HN.out; have x0 : w1.cell? ⟨w.heap.size, 0, none⟩ = some (.int .i64 x.f0) := (blk_cell hx 0).trans rfl; have x1 : w1.cell? ⟨w.heap.size, 1, none⟩ = some (.int .i64 x.f1) := (blk_cell hx 1).trans rfl; have hs1 := hb.size; clear hb) | (go_at_call 29; refine (band_areRight.calls 2 _ 1 [x] true _ (C_one w1 x) (Nat.le_refl _) R2.out).mono ?_; rintro e w2 ⟨rfl, hb⟩; have HB2 := Aside0.mk hb; have y0 := pw_cell_below hb (cell_alloc' x0 _); have y1 := pw_cell_below hb (cell_alloc' x1 _); clear hb))
  have hbw1 : Below w.heap.size w w1 := (below_alloc (Below.refl _ w) _).trans (HB1.out.mono (by simp))
  have hbw2 : Below w.heap.size w w2 := hbw1.trans (((Below.refl _ w1).alloc (Nat.le_refl _) _ |>.trans (HB2.out.mono (by simp))).mono hbw1.size)
  have HBW := Aside0.mk hbw2
  have HL := Aside0.mk (less_calls A c l x w2 (Kd.C_below HRD.out hbw2) hc hlen)
  dsimp only [S24.enc] at HL
  clear hbw1 hbw2
  refine HL.out.mono ?_
  rintro e w3 ⟨v, rfl, hR, hb⟩
  have HR := Aside0.mk hR
  have HB3 := Aside0.mk hb
  clear hR hb
  go_wp2
  go_ret2
  exact ⟨v, rfl, Kd.R_lower HR.out HBW.out.size, HBW.out.trans (HB3.out.mono HBW.out.size)⟩

set_option maxHeartbeats 2000000 in
set_option maxRecDepth 100000 in
theorem less_no1 (A : Option Addr) (c : Nat) (l : List S24) (x : S24) (w : World) (hr : Kd.C k24 w A l.length l) (hc : l.length ≤ c) (hlen : l.length ≤ 1000) (hG : Gl 1 w) (h1 : rightD l = false) :
    Calls Tryd.prog 15 #[.slice A l.length c, S24.enc x] w fun e w' => e = .returned (.tuple #[.slice none 0 0, .int .i64 30]) ∧ Below w.heap.size w w' := by
  obtain ⟨a, ha⟩ := hG
  have HRD := Aside0.mk hr
  have R1 := Lib.hid (right_f l (by omega) (k := 1001) (by omega))
  rw [h1] at R1
  have HA := Aside0.mk ha
  clear hr h1 ha
  dsimp only [S24.enc]
  go_enter Tryd.func15, Tryd.ntmps15
  go_wp2_with (first | (go_at_call 21; refine (band_Right.calls 1001 A c l false _ (Kd.C_alloc HRD.out _) hc R1.out).mono ?_; rintro e w1 ⟨rfl, hb⟩; have HB1 := Aside0.mk hb; have g0 := pw_cell_below hb (cell_alloc' HA.out _); clear hb) | (go_at_call 35; refine (told_band a _ g0).mono ?_; rintro e w2 ⟨rfl, rfl⟩))
  go_ret2
  exact ⟨rfl, (below_alloc (Below.refl _ w) _).trans (HB1.out.mono (by simp))⟩

set_option maxHeartbeats 2000000 in
set_option maxRecDepth 100000 in
theorem less_no2 (A : Option Addr) (c : Nat) (l : List S24) (x : S24) (w : World) (hr : Kd.C k24 w A l.length l) (hc : l.length ≤ c) (hlen : l.length ≤ 1000) (hG : Gl 1 w) (h1 : rightD l = true) (h2 : rightD [x] = false) :
    Calls Tryd.prog 15 #[.slice A l.length c, S24.enc x] w fun e w' => e = .returned (.tuple #[.slice none 0 0, .int .i64 30]) ∧ Below w.heap.size w w' := by
  obtain ⟨a, ha⟩ := hG
  have HRD := Aside0.mk hr
  have R1 := Lib.hid (right_f l (by omega) (k := 1001) (by omega))
  have R2 := Lib.hid (are_f [x] (by simp) (k := 2) (by simp))
  rw [h1] at R1
  rw [h2] at R2
  have HN := Aside0.mk (World.alloc_heap_new w (.cells #[.int .i64 x.f0, .int .i64 x.f1] 24))
  have HA := Aside0.mk ha
  clear hr h1 h2 ha
  dsimp only [S24.enc]
  go_enter Tryd.func15, Tryd.ntmps15
  go_wp2_with (first | (go_at_call 21; refine (band_Right.calls 1001 A c l true _ (Kd.C_alloc HRD.out _) hc R1.out).mono ?_; rintro e w1 ⟨rfl, hb⟩; have HB1 := Aside0.mk hb; have hx := (hb.block w.heap.size (by simp)).trans HN.out; have x0 : w1.cell? ⟨w.heap.size, 0, none⟩ = some (.int .i64 x.f0) := (blk_cell hx 0).trans rfl; have x1 : w1.cell? ⟨w.heap.size, 1, none⟩ = some (.int .i64 x.f1) := (blk_cell hx 1).trans rfl; have HG1 := Aside0.mk (pw_cell_below hb (cell_alloc' HA.out _)); clear hb) | (go_at_call 29; refine (band_areRight.calls 2 _ 1 [x] false _ (C_one w1 x) (Nat.le_refl _) R2.out).mono ?_; rintro e w2 ⟨rfl, hb⟩; have HB2 := Aside0.mk hb; have g0 := pw_cell_below hb (cell_alloc' HG1.out _); clear hb) | (go_at_call 35; refine (told_band a _ g0).mono ?_; rintro e w2 ⟨rfl, rfl⟩))
  go_ret2
  have hbw1 : Below w.heap.size w w1 := (below_alloc (Below.refl _ w) _).trans (HB1.out.mono (by simp))
  exact ⟨rfl, hbw1.trans (((Below.refl _ w1).alloc (Nat.le_refl _) _ |>.trans (HB2.out.mono (by simp))).mono hbw1.size)⟩

theorem band_Less.calls (A0 : Option Addr) (c0 : Nat) (l0 : List (S24)) (a1_0 : Int) (a1_1 : Int) (r1 : List (S24)) (r2 : Int) (w : World) (hr0 : Kd.C k24 w A0 l0.length l0) (hc0 : l0.length ≤ c0) (hG : Gl 1 w) (h : band_Less.f l0 a1_0 a1_1 = some (r1, r2)) :
    Calls Tryd.prog 15 #[.slice A0 l0.length c0, .agg #[.int .i64 a1_0, .int .i64 a1_1]] w fun e w' => ∃ v0_ : Value, e = .returned (.tuple #[v0_, .int .i64 r2]) ∧ Kd.R k24 24 w' w.heap.size (fun _ => True) v0_ r1 ∧ Below w.heap.size w w' := by
  unfold band_Less.f at h
  split at h
  · next hlen =>
    split at h
    · next hf =>
      cases h
      simp only [Bool.and_eq_true] at hf
      exact less_yes A0 c0 l0 ⟨a1_0, a1_1⟩ w hr0 hc0 hlen hf.1 hf.2
    · next hf =>
      cases h
      simp only [Bool.and_eq_true, Bool.not_eq_true] at hf
      by_cases h1 : rightD l0 = true
      · exact (less_no2 A0 c0 l0 ⟨a1_0, a1_1⟩ w hr0 hc0 hlen hG h1 (by rw [Bool.eq_false_iff]; exact fun e => hf ⟨h1, e⟩)).mono fun e w' ⟨he, hb⟩ => ⟨_, he, Kd.R_nil _ _ _ _ _, hb⟩
      · exact (less_no1 A0 c0 l0 ⟨a1_0, a1_1⟩ w hr0 hc0 hlen hG (by simpa using h1)).mono fun e w' ⟨he, hb⟩ => ⟨_, he, Kd.R_nil _ _ _ _ _, hb⟩
  · cases h

end Go.Proofs.YtomgpbhkoellpaaDoor.P
