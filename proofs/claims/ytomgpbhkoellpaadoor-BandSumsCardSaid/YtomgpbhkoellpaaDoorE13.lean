/- band.Plus. Conditions: the slice reads as the list; the sentinel. -/
import Derived.Test.YtomgpbhkoellpaaDoorE15
import Derived.Test.YtomgpbhkoellpaaDoorSo
set_option linter.unusedVariables false
set_option linter.unusedSimpArgs false
namespace Go.Proofs.YtomgpbhkoellpaaDoor.P
open Go.RowKit Go.Proofs.YtomgpbhkoellpaaDoorW.PrintWords Go.Proofs.YtomgpbhkoellpaaDoorW.PrintLast Go.Proofs.YtomgpbhkoellpaaDoorW.PrintMore

set_option maxHeartbeats 2000000 in
set_option maxRecDepth 100000 in
theorem plus_no1 (A : Option Addr) (c : Nat) (l : List S24) (x : S24) (w : World) (hr : Kd.C k24 w A l.length l) (hc : l.length ≤ c) (hlen : l.length ≤ 1000) (hG : Gl 1 w) (h1 : rightD l = false) :
    Calls Tryd.prog 13 #[.slice A l.length c, S24.enc x] w fun e w' => e = .returned (.tuple #[.slice none 0 0, .int .i64 30]) ∧ Below w.heap.size w w' := by
  obtain ⟨a, ha⟩ := hG
  have HCL := Aside0.mk (clone_calls A c l (w.alloc (.cells #[.int .i64 x.f0, .int .i64 x.f1] 24)) (Kd.C_alloc hr _) hc hlen)
  have HRD := Aside0.mk hr
  have R1 := Lib.hid (right_f l (by omega) (k := 1001) (by omega))
  rw [h1] at R1
  have HA := Aside0.mk ha
  clear hr h1 ha
  dsimp only [S24.enc]
  go_enter Tryd.func13, Tryd.ntmps13
  go_wp2
  refine wp_scope_follow 1 ?_
  go_wp2_with (first | (go_at_call 28; refine HCL.out.mono ?_; rintro e w1 ⟨v1, rfl, _, hb⟩; have HB1 := Aside0.mk hb; have HG1 := Aside0.mk (pw_cell_below hb (cell_alloc' HA.out _)); clear hb) | (go_at_call 21; refine (band_Right.calls 1001 A c l false w1 (Kd.C_below (Kd.C_alloc HRD.out (.cells #[.int .i64 x.f0, .int .i64 x.f1] 24)) HB1.out) hc R1.out).mono ?_; rintro e w2 ⟨rfl, hb⟩; have HB2 := Aside0.mk hb; have g0 := pw_cell_below hb HG1.out; clear hb))
  go_step3
  refine Follow.goto 0 rfl ?_
  go_wp2_with (go_at_call 35; refine (told_band a _ g0).mono ?_; rintro e w3 ⟨rfl, rfl⟩)
  refine Follow.ret 0 ?_
  go_ret2
  have hbw1 : Below w.heap.size w w1 := (below_alloc (Below.refl _ w) _).trans (HB1.out.mono (by simp))
  exact ⟨rfl, hbw1.trans (HB2.out.mono hbw1.size)⟩

set_option maxHeartbeats 2000000 in
set_option maxRecDepth 100000 in
theorem plus_no2 (A : Option Addr) (c : Nat) (l : List S24) (x : S24) (w : World) (hr : Kd.C k24 w A l.length l) (hc : l.length ≤ c) (hlen : l.length ≤ 1000) (hG : Gl 1 w) (h1 : rightD l = true) (h2 : rightD [x] = false) :
    Calls Tryd.prog 13 #[.slice A l.length c, S24.enc x] w fun e w' => e = .returned (.tuple #[.slice none 0 0, .int .i64 30]) ∧ Below w.heap.size w w' := by
  obtain ⟨a, ha⟩ := hG
  have HCL := Aside0.mk (clone_calls A c l (w.alloc (.cells #[.int .i64 x.f0, .int .i64 x.f1] 24)) (Kd.C_alloc hr _) hc hlen)
  have HRD := Aside0.mk hr
  have R1 := Lib.hid (right_f l (by omega) (k := 1001) (by omega))
  have R2 := Lib.hid (are_f [x] (by simp) (k := 2) (by simp))
  rw [h1] at R1
  rw [h2] at R2
  have HN := Aside0.mk (World.alloc_heap_new w (.cells #[.int .i64 x.f0, .int .i64 x.f1] 24))
  have HA := Aside0.mk ha
  clear hr h1 h2 ha
  dsimp only [S24.enc]
  go_enter Tryd.func13, Tryd.ntmps13
  go_wp2
  refine wp_scope_follow 1 ?_
  go_wp2_with (first | (go_at_call 28; refine HCL.out.mono ?_; rintro e w1 ⟨v1, rfl, _, hb⟩; have HB1 := Aside0.mk hb; have HX1 := Aside0.mk ((hb.block w.heap.size (by simp)).trans HN.out); have HG1 := Aside0.mk (pw_cell_below hb (cell_alloc' HA.out _)); clear hb) | (go_at_call 21; refine (band_Right.calls 1001 A c l true w1 (Kd.C_below (Kd.C_alloc HRD.out (.cells #[.int .i64 x.f0, .int .i64 x.f1] 24)) HB1.out) hc R1.out).mono ?_; rintro e w2 ⟨rfl, hb⟩; have HB2 := Aside0.mk hb; have hx := (hb.block w.heap.size (blk_lt HX1.out)).trans HX1.out; have x0 : w2.cell? ⟨w.heap.size, 0, none⟩ = some (.int .i64 x.f0) := (blk_cell hx 0).trans rfl; have x1 : w2.cell? ⟨w.heap.size, 1, none⟩ = some (.int .i64 x.f1) := (blk_cell hx 1).trans rfl; have HG2 := Aside0.mk (pw_cell_below hb HG1.out); clear hb) | (go_at_call 29; refine (band_areRight.calls 2 _ 1 [x] false _ (C_one w2 x) (Nat.le_refl _) R2.out).mono ?_; rintro e w3 ⟨rfl, hb⟩; have HB3 := Aside0.mk hb; have g0 := pw_cell_below hb (cell_alloc' HG2.out _); clear hb))
  go_step3
  refine Follow.goto 0 rfl ?_
  go_wp2_with (go_at_call 35; refine (told_band a _ g0).mono ?_; rintro e w4 ⟨rfl, rfl⟩)
  refine Follow.ret 0 ?_
  go_ret2
  have hbw1 : Below w.heap.size w w1 := (below_alloc (Below.refl _ w) _).trans (HB1.out.mono (by simp))
  have hbw2 : Below w.heap.size w w2 := hbw1.trans (HB2.out.mono hbw1.size)
  exact ⟨rfl, hbw2.trans (((Below.refl _ w2).alloc (Nat.le_refl _) _ |>.trans (HB3.out.mono (by simp))).mono hbw2.size)⟩

theorem own_below {W W' : World} {n e s k : Nat} {v : Value} {xs : List Value} (h : W.ownsRow n e s v k xs) (hb : Below W.heap.size W W') : W'.ownsRow n e s v k xs := own_move h fun j hj => hb.block j (own_lt h j hj)
theorem put_fold : ∀ (d o : List S24), d.foldl (fun out x => addB out x.f0 x.f1) o = foldP (putP d) o
  | [], o => rfl
  | x :: xs, o => put_fold xs (addB o x.f0 x.f1)

set_option maxHeartbeats 2000000 in
set_option maxRecDepth 100000 in
theorem plus_yes (A : Option Addr) (c : Nat) (l : List S24) (x : S24) (w : World) (hr : Kd.C k24 w A l.length l) (hc : l.length ≤ c) (hlen : l.length ≤ 1000) (h1 : rightD l = true) (h2 : rightD [x] = true) :
    Calls Tryd.prog 13 #[.slice A l.length c, S24.enc x] w fun e w' => ∃ v, e = .returned (.tuple #[v, .int .i64 0]) ∧ Kd.R k24 24 w' w.heap.size (fun _ => True) v (plusB l x) ∧ Below w.heap.size w w' := by
  obtain ⟨i0, hi, hz0, hz1, hz2⟩ := info24'
  have hlR := (rightD_iff l).1 h1
  have hxR := (rightD_one x).1 h2
  have HLX := Aside0.mk (And.intro hlR hxR)
  have HCL := Aside0.mk (clone_calls A c l (w.alloc (.cells #[.int .i64 x.f0, .int .i64 x.f1] 24)) (Kd.C_alloc hr _) hc hlen)
  have HRD := Aside0.mk hr
  have R1 := Lib.hid (right_f l (by omega) (k := 1001) (by omega))
  have R2 := Lib.hid (are_f [x] (by simp) (k := 2) (by simp))
  rw [h1] at R1
  rw [h2] at R2
  have HN := Aside0.mk (World.alloc_heap_new w (.cells #[.int .i64 x.f0, .int .i64 x.f1] 24))
  have hb1 : l.length + 1 ≤ maxLen := by unfold maxLen; omega
  have hb2 : (l.length + 1) * 16 ≤ 140737488355328 := by omega
  clear hr h1 h2 hlR hxR
  dsimp only [S24.enc]
  go_enter Tryd.func13, Tryd.ntmps13
  go_wp2
  refine wp_scope_follow 1 ?_
  go_wp2_with (first | (go_at_call 28; refine HCL.out.mono ?_; rintro e w1 ⟨v1, rfl, hown, hb⟩; have HO1 := Aside0.mk hown; have HB1 := Aside0.mk hb; have HX1 := Aside0.mk ((hb.block w.heap.size (by simp)).trans HN.out); clear hb hown) | (go_at_call 21; refine (band_Right.calls 1001 A c l true w1 (Kd.C_below (Kd.C_alloc HRD.out (.cells #[.int .i64 x.f0, .int .i64 x.f1] 24)) HB1.out) hc R1.out).mono ?_; rintro e w2 ⟨rfl, hb⟩; have HB2 := Aside0.mk hb; have hx := (hb.block w.heap.size (blk_lt HX1.out)).trans HX1.out; have HX2 := Aside0.mk hx; have x0 : w2.cell? ⟨w.heap.size, 0, none⟩ = some (.int .i64 x.f0) := (blk_cell hx 0).trans rfl; have x1 : w2.cell? ⟨w.heap.size, 1, none⟩ = some (.int .i64 x.f1) := (blk_cell hx 1).trans rfl; clear hb hx) | (go_at_call 29; refine (band_areRight.calls 2 _ 1 [x] true _ (C_one w2 x) (Nat.le_refl _) R2.out).mono ?_; rintro e w3 ⟨rfl, hb⟩; have HB3 := Aside0.mk hb; have y0 := pw_cell_below hb (cell_alloc' x0 _); have y1 := pw_cell_below hb (cell_alloc' x1 _); have hs3 : (w.alloc (.cells #[.int .i64 x.f0, .int .i64 x.f1] 24)).heap.size ≤ w3.heap.size := Nat.le_trans HB1.out.size (Nat.le_trans HB2.out.size (Nat.le_trans (by simp) hb.size)); have HO3 := Aside0.mk (own_below (own_below (own_below HO1.out HB2.out) (below_alloc (Below.refl _ w2) (.cells #[.int .i64 x.f0, .int .i64 x.f1] 24))) hb); clear hb) | (at_builtin; refine wpList_append_own _ rfl _ _ 22 rfl (w.alloc (.cells #[.int .i64 x.f0, .int .i64 x.f1] 24)).heap.size 24 i0 (.agg #[.int .i64 0, .int .i64 0]) 2 16 Tryd.underlying22 hi hz0 hz1 hz2 rfl (by decide) _ _ _ rfl (own_below HO3.out (below_alloc (Below.refl _ w3) _)) ⟨w3.heap.size, 0, none⟩ 1 1 [.int .i64 x.f0, .int .i64 x.f1] rfl rfl (cell_two_new _ _ _ _) (two_one _ _) hb1 hb2 (Nat.le_trans hs3 (by simp)) ?_; intro v2 w4 hown4 hgrow4 _; have HO4 := Aside0.mk hown4; have HG4 := Aside0.mk hgrow4; clear hown4 hgrow4))
  have hbw1 : Below w.heap.size w w1 := (below_alloc (Below.refl _ w) _).trans (HB1.out.mono (by simp))
  have hbw2 : Below w.heap.size w w2 := hbw1.trans (HB2.out.mono hbw1.size)
  have hbw3 : Below w.heap.size w w3 := hbw2.trans (((Below.refl _ w2).alloc (Nat.le_refl _) _ |>.trans (HB3.out.mono (by simp))).mono hbw2.size)
  have hn4 : (w.alloc (.cells #[.int .i64 x.f0, .int .i64 x.f1] 24)).heap.size ≤ w4.heap.size := Nat.le_trans hs3 (by have := HG4.out.size; simp at this; omega)
  have hb34 : Below (w.alloc (.cells #[.int .i64 x.f0, .int .i64 x.f1] 24)).heap.size w3 w4 := ((Below.refl _ w3).alloc hs3 _).grown HG4.out (Nat.le_trans hs3 (by simp)) (fun k hk => own_base HO3.out k hk)
  have hbw4 : Below w.heap.size w w4 := hbw3.trans (hb34.mono (by simp))
  have hR4 : Kd.R k24 24 w4 (w.alloc (.cells #[.int .i64 x.f0, .int .i64 x.f1] 24)).heap.size (fun _ => True) v2 (l ++ [x]) := out_R (by rw [List.length_append, cellsB_append]; exact HO4.out)
  have HSO := Aside0.mk (sort_calls _ v2 (l ++ [x]) w4 hn4 hR4 (fun z hz => by
    rcases List.mem_append.1 hz with h | h
    · exact right_mem HLX.out.1 z h
    · rw [List.mem_singleton.1 h]
      exact HLX.out.2) (by simp) (by simp; omega))
  have HBW := Aside0.mk hbw4
  clear hbw1 hbw2 hbw3 hb34 hbw4 hR4 HG4 HO4
  refine HSO.out.mono ?_
  rintro e w5 ⟨rfl, A5, c5, d, rfl, hc5, hup, hmem, hlen5, hC5, hb5⟩
  have hbw5 := HBW.out.trans (hb5.mono (by simp))
  have hld : d.length ≤ 2000 := by rw [hlen5, List.length_append]; simp; omega
  have HT := Aside0.mk (through_calls 33 #[] (fun out x => addB out x.f0 x.f1) 1 (fun out x => (addB_len out x.f0 x.f1).2) A5 c5 d w5 hC5 hc5 (by omega) (fun g lv => put_does _ g lv w5 _ (by omega)) (enters_of Tryd.func33 (by kernel_rfl) rfl))
  have HP := Lib.hid (plus_sorted HLX.out.1 HLX.out.2 hup (fun z => by rw [hmem z]; simp [or_comm]))
  have HB5 := Aside0.mk hbw5
  clear hbw5 hup hmem hC5 hb5 HSO hlen5 hld hc5
  go_wp2_with (go_at_call 32; refine HT.out.mono ?_; rintro e w6 ⟨v6, rfl, hR, hb⟩; have HR6 := Aside0.mk hR; have HB6 := Aside0.mk hb; clear hR hb)
  refine Follow.ret 1 ?_
  go_ret2
  have h6 := HR6.out
  rw [put_fold, HP.out] at h6
  exact ⟨v6, rfl, Kd.R_lower h6 HB5.out.size, HB5.out.trans (HB6.out.mono HB5.out.size)⟩

theorem band_Plus.calls (A0 : Option Addr) (c0 : Nat) (l0 : List (S24)) (a1_0 : Int) (a1_1 : Int) (r1 : List (S24)) (r2 : Int) (w : World) (hr0 : Kd.C k24 w A0 l0.length l0) (hc0 : l0.length ≤ c0) (hG : Gl 1 w) (h : band_Plus.f l0 a1_0 a1_1 = some (r1, r2)) :
    Calls Tryd.prog 13 #[.slice A0 l0.length c0, .agg #[.int .i64 a1_0, .int .i64 a1_1]] w fun e w' => ∃ v0_ : Value, e = .returned (.tuple #[v0_, .int .i64 r2]) ∧ Kd.R k24 24 w' w.heap.size (fun _ => True) v0_ r1 ∧ Below w.heap.size w w' := by
  unfold band_Plus.f at h
  split at h
  · next hlen =>
    split at h
    · next hf =>
      cases h
      simp only [Bool.and_eq_true] at hf
      exact plus_yes A0 c0 l0 ⟨a1_0, a1_1⟩ w hr0 hc0 hlen hf.1 hf.2
    · next hf =>
      cases h
      simp only [Bool.and_eq_true, Bool.not_eq_true] at hf
      by_cases h1 : rightD l0 = true
      · exact (plus_no2 A0 c0 l0 ⟨a1_0, a1_1⟩ w hr0 hc0 hlen hG h1 (by rw [Bool.eq_false_iff]; exact fun e => hf ⟨h1, e⟩)).mono fun e w' ⟨he, hb⟩ => ⟨_, he, Kd.R_nil _ _ _ _ _, hb⟩
      · exact (plus_no1 A0 c0 l0 ⟨a1_0, a1_1⟩ w hr0 hc0 hlen hG (by simpa using h1)).mono fun e w' ⟨he, hb⟩ => ⟨_, he, Kd.R_nil _ _ _ _ _, hb⟩
  · cases h

end Go.Proofs.YtomgpbhkoellpaaDoor.P
