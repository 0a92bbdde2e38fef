/- What the functions do that Plus, Less and Both hand to through. Conditions: the cutter lies in the call's own memory; what is captured lies as it lay. -/
import Derived.Test.YtomgpbhkoellpaaDoorTh
import Derived.Test.YtomgpbhkoellpaaDoorPq1
set_option linter.unusedVariables false
set_option linter.unusedSimpArgs false
namespace Go.Proofs.YtomgpbhkoellpaaDoor.P
open Go.RowKit Go.Shelf Go.Proofs.YtomgpbhkoellpaaDoorW.PrintWords Go.Proofs.YtomgpbhkoellpaaDoorW.PrintLast Go.Proofs.YtomgpbhkoellpaaDoorW.PrintMore
attribute [local go_sem high] eqA24
attribute [local go_sem] max2_int min2_int max_two min_two max_three min_three max_four min_four

theorem Cut.drewN {n₀ g : Nat} {lv v : Value} {out : List S24} {W : World} (hC : Cut n₀ g lv v out W) (n : Nat) : Cut n₀ g lv v out (W.drewN n) := ⟨hC.le, hC.cell, hC.row⟩
theorem Fr.of_drewN {g n : Nat} {v : Value} {W W' : World} (h : Fr g v (W.drewN n) W') : Fr g v W W' := ⟨h.os, h.tape, h.output, h.size, h.block⟩
theorem Fr.of_alloc {g : Nat} {v : Value} {W W' : World} {o : Obj} (h : Fr g v (W.alloc o) W') : Fr g v W W' :=
  ⟨h.os, h.tape, h.output, by have := h.size; simp at this; omega, fun k hk hg hv => (h.block k (by simp; omega) hg hv).trans (Below.heap_alloc _ _ _ hk)⟩
theorem Fr.alloc (g : Nat) (v : Value) (W : World) (o : Obj) : Fr g v W (W.alloc o) := ⟨rfl, rfl, rfl, by simp, fun k hk _ _ => Below.heap_alloc _ _ _ hk⟩
/-- Two steps: the second one's own block is the first one's, or new. -/
theorem Fr.trans {g : Nat} {v v' : Value} {A B C : World} (h : Fr g v A B) (hv : v'.ownBlock = v.ownBlock ∨ ∀ k, v'.ownBlock = some k → A.heap.size ≤ k) (k : Fr g v' B C) : Fr g v A C :=
  ⟨k.os.trans h.os, k.tape.trans h.tape, k.output.trans h.output, Nat.le_trans h.size k.size, fun i hi hg ho =>
    (k.block i (by have := h.size; omega) hg (fun e => by
      rcases hv with q | q
      · exact ho (by rw [e, q])
      · have := q i e.symm
        omega)).trans (h.block i hi hg ho)⟩

set_option maxHeartbeats 1000000 in
set_option maxRecDepth 100000 in
/-- Plus's. -/
theorem put_does (n₀ g : Nat) (lv : Value) (w0 : World) (M : Nat) (hM : M ≤ 2000000) : DoesC 33 #[] (fun out x => addB out x.f0 x.f1) n₀ g lv w0 M := by
  intro W v out x hb hn hC hlen
  have HA := Aside0.mk (fun m => add_calls n₀ g lv v out x.f0 x.f1 ((W.alloc (.cells #[.int .i64 x.f0, .int .i64 x.f1] 24)).drewN m) (by simp; omega) ((hC.alloc _).drewN m) (by omega))
  clear hC hb
  dsimp only [S24.enc]
  simp only [List.append_toArray, List.append_nil]
  go_enter Tryd.func33, Tryd.ntmps33
  go_wp2
  refine wp_region_quiet_tail_lit 7 (by kernel_rfl) (by kernel_rfl) ?_
  simp only [List.take_succ_cons, List.take_zero, List.drop_succ_cons, List.drop_zero]
  repeat (quiet_step (fail))
  refine wpQuiet_nil ?_
  intro _ hw'
  obtain ⟨nq, hw''⟩ := hw'
  subst hw''
  go_wp2_with (go_at_call 34; refine (HA.out nq).mono ?_; rintro e w' ⟨rfl, v', hcut, hfr, _⟩; have HC := Aside0.mk hcut; have HF := Aside0.mk hfr; clear hcut hfr)
  go_end0
  exact ⟨rfl, v', HC.out, HF.out.of_drewN.of_alloc⟩

/-- What less does with a span. -/
def cutS (x : S24) (out : List S24) (y : S24) : List S24 := if y = x then out else addB (addB out y.f0 (min y.f1 x.f0)) (max y.f0 x.f1) y.f1

set_option maxHeartbeats 1000000 in
set_option maxRecDepth 100000 in
/-- Less's. -/
theorem cut_does (n₀ g Bx : Nat) (x : S24) (lv : Value) (w0 : World) (M : Nat) (hM : M ≤ 1000000) (hBx : Bx < n₀) (h0 : w0.cell? ⟨Bx, 0, none⟩ = some (.int .i64 x.f0)) (h1 : w0.cell? ⟨Bx, 1, none⟩ = some (.int .i64 x.f1)) :
    DoesC 50 #[.pointer (some ⟨Bx, 0, none⟩)] (cutS x) n₀ g lv w0 M := by
  intro W v out y hb hn hC hlen
  have c0 := (hb.cell (p := ⟨Bx, 0, none⟩) hBx).trans h0
  have c1 := (hb.cell (p := ⟨Bx, 1, none⟩) hBx).trans h1
  have HCB := Aside0.mk hC
  have d0 := cell_alloc' c0 (.cells #[.int .i64 y.f0, .int .i64 y.f1] 24)
  have d1 := cell_alloc' c1 (.cells #[.int .i64 y.f0, .int .i64 y.f1] 24)
  clear h0 h1 hb hC c0 c1
  dsimp only [S24.enc]
  simp only [List.append_toArray, List.cons_append, List.nil_append]
  by_cases hyx : y = x
  · subst hyx
    have e : cutS y out y = out := if_pos rfl
    rw [e]
    have hb : (y.f0 == y.f0 && (y.f1 == y.f1)) = true := by simp
    go_enter Tryd.func50, Tryd.ntmps50
    go_wp2
    refine bodyPost_ret (results_none rfl _ _ _) rfl ?_
    exact ⟨rfl, v, HCB.out.alloc _, Fr.alloc _ _ _ _⟩
  · have e : cutS x out y = addB (addB out y.f0 (min y.f1 x.f0)) (max y.f0 x.f1) y.f1 := if_neg hyx
    rw [e]
    have hne : ¬ (y.f0 = x.f0 ∧ y.f1 = x.f1) := fun h => hyx (S24.ext2 h.1 h.2)
    have hb : (y.f0 == x.f0 && (y.f1 == x.f1)) = false := by simpa using hne
    go_enter Tryd.func50, Tryd.ntmps50
    go_wp2
    refine wp_region_quiet_tail_lit 10 (by kernel_rfl) (by kernel_rfl) ?_
    simp only [List.take_succ_cons, List.take_zero, List.drop_succ_cons, List.drop_zero]
    repeat (quiet_step (fail))
    refine wpQuiet_nil ?_
    intro _ hw'
    obtain ⟨nq, hw''⟩ := hw'
    subst hw''
    have emin : (if x.f0 < y.f1 then x.f0 else y.f1) = min y.f1 x.f0 := by split <;> omega
    rw [emin]
    obtain ⟨m, hm⟩ : ∃ m, min y.f1 x.f0 = m := ⟨_, rfl⟩
    rw [hm]
    have HM := Lib.hid hm
    clear emin hm
    have HA := Aside0.mk (add_calls n₀ g lv v out y.f0 m ((W.alloc (.cells #[.int .i64 y.f0, .int .i64 y.f1] 24)).drewN nq) (by simp; omega) ((HCB.out.alloc _).drewN nq) (by omega))
    have hgl : g < W.heap.size := blk_lt HCB.out.cell
    have hvl : ∀ k, v.ownBlock = some k → n₀ ≤ k ∧ k < W.heap.size := fun k hk => ⟨own_base HCB.out.row k hk, own_lt HCB.out.row k hk⟩
    have hng : n₀ ≤ g := HCB.out.le
    have hBl : Bx < W.heap.size := by omega
    have y0 : (W.alloc (.cells #[.int .i64 y.f0, .int .i64 y.f1] 24)).heap[W.heap.size]? = some (.cells #[.int .i64 y.f0, .int .i64 y.f1] 24 (0, 0)) := World.alloc_heap_new W _
    have HHY := Aside0.mk y0
    have HDD := Aside0.mk (And.intro d0 d1)
    clear d0 d1 y0
    go_wp2_with (go_at_call 34; refine HA.out.mono ?_; rintro e w1 ⟨rfl, v1, hcut1, hfr1, hown1⟩; rw [← HM.out] at hcut1; have HC1 := Aside0.mk hcut1; have HF1 := Aside0.mk hfr1; have HO1 := Aside0.mk hown1; clear hcut1 hfr1 hown1)
    have hbox : w1.heap[W.heap.size]? = some (.cells #[.int .i64 y.f0, .int .i64 y.f1] 24 (0, 0)) := (HF1.out.block W.heap.size (by simp) (by omega) (fun e => by have := hvl _ e.symm; omega)).trans HHY.out
    have hBb : w1.heap[Bx]? = (W.alloc (.cells #[.int .i64 y.f0, .int .i64 y.f1] 24)).heap[Bx]? := HF1.out.block Bx (by simp; omega) (by omega) (fun e => by have := hvl _ e.symm; omega)
    have x0 : w1.cell? ⟨Bx, 0, none⟩ = some (.int .i64 x.f0) := (World.cell?_of_block hBb).trans HDD.out.1
    have x1 : w1.cell? ⟨Bx, 1, none⟩ = some (.int .i64 x.f1) := (World.cell?_of_block hBb).trans HDD.out.2
    have z0 : w1.cell? ⟨W.heap.size, 0, none⟩ = some (.int .i64 y.f0) := (blk_cell hbox 0).trans rfl
    have z1 : w1.cell? ⟨W.heap.size, 1, none⟩ = some (.int .i64 y.f1) := (blk_cell hbox 1).trans rfl
    have hs1 := HF1.out.size
    rw [World.heap_drewN, World.size_alloc] at hs1
    have hlen1 := addB_len out y.f0 (min y.f1 x.f0)
    clear hbox hBb
    refine wp_region_quiet_tail_lit 10 (by kernel_rfl) (by kernel_rfl) ?_
    simp only [List.take_succ_cons, List.take_zero, List.drop_succ_cons, List.drop_zero]
    repeat (quiet_step (fail))
    refine wpQuiet_nil ?_
    intro _ hw'
    obtain ⟨nr, hw''⟩ := hw'
    subst hw''
    have emax : (if y.f0 < x.f1 then x.f1 else y.f0) = max y.f0 x.f1 := by split <;> omega
    rw [emax]
    obtain ⟨m2, hm2⟩ : ∃ m, max y.f0 x.f1 = m := ⟨_, rfl⟩
    rw [hm2]
    have HM2 := Lib.hid hm2
    clear emax hm2
    have HA2 := Aside0.mk (add_calls n₀ g lv v1 (addB out y.f0 (min y.f1 x.f0)) m2 y.f1 (w1.drewN nr) (by rw [World.heap_drewN]; omega) (HC1.out.drewN nr) (by omega))
    go_wp2_with (go_at_call 34; refine HA2.out.mono ?_; rintro e w2 ⟨rfl, v2, hcut2, hfr2, _⟩; rw [← HM2.out] at hcut2; have HC2 := Aside0.mk hcut2; have HF2 := Aside0.mk hfr2; clear hcut2 hfr2)
    go_end0
    refine ⟨rfl, v2, HC2.out, ?_⟩
    have hf1 : Fr g v W w1 := HF1.out.of_drewN.of_alloc
    exact hf1.trans (by
      rcases HO1.out with q | q
      · exact .inl q
      · exact .inr fun k hk => by have := q k hk; rw [World.heap_drewN, World.size_alloc] at this; omega) HF2.out.of_drewN

/-- What Both does with a span. -/
def metS1 (y : S24) (out : List S24) (x : S24) : List S24 := addB out (max x.f0 y.f0) (min x.f1 y.f1)
def metS (b out : List S24) (y : S24) : List S24 := b.foldl (metS1 y) out
theorem metS_len (y : S24) : ∀ (b out : List S24), (b.foldl (metS1 y) out).length ≤ out.length + b.length
  | [], out => by simp
  | x :: xs, out => by
    have h1 := metS_len y xs (metS1 y out x)
    have h2 := addB_len out (max x.f0 y.f0) (min x.f1 y.f1)
    have h3 : (metS1 y out x).length ≤ out.length + 1 := h2.2
    simp only [List.foldl_cons, List.length_cons]
    omega

set_option maxHeartbeats 2000000 in
set_option maxRecDepth 100000 in
/-- Both's. -/
theorem met_does (n₀ g Bx : Nat) (A : Option Addr) (c : Nat) (b : List S24) (lv : Value) (w0 : World) (M : Nat) (hM : M + b.length ≤ 2000000) (hBx : Bx < n₀) (hw0 : w0.heap.size = n₀) (h0 : w0.cell? ⟨Bx, 0, none⟩ = some (.slice A b.length c)) (hcb : b.length ≤ c) (hb : Kd.C k24 w0 A b.length b) :
    DoesC 38 #[.pointer (some ⟨Bx, 0, none⟩)] (metS b) n₀ g lv w0 M := by
  intro W v out y hbl hn hC hlen
  have c0 := cell_alloc' ((hbl.cell (p := ⟨Bx, 0, none⟩) hBx).trans h0) (.cells #[.int .i64 y.f0, .int .i64 y.f1] 24)
  have hgl : g < W.heap.size := blk_lt hC.cell
  have hvl : ∀ k, v.ownBlock = some k → n₀ ≤ k ∧ k < W.heap.size := fun k hk => ⟨own_base hC.row k hk, own_lt hC.row k hk⟩
  have hng : n₀ ≤ g := hC.le
  obtain ⟨W1, hW1⟩ : ∃ W1, W.alloc (.cells #[.int .i64 y.f0, .int .i64 y.f1] 24) = W1 := ⟨_, rfl⟩
  have hs1 : W1.heap.size = W.heap.size + 1 := by rw [← hW1]; simp
  have hbox1 : W1.heap[W.heap.size]? = some (.cells #[.int .i64 y.f0, .int .i64 y.f1] 24 (0, 0)) := by rw [← hW1]; exact World.alloc_heap_new W _
  have hb1 : Below n₀ w0 W1 := hW1 ▸ hbl.alloc hn _
  have hF1 : Fr g v W W1 := hW1 ▸ Fr.alloc _ _ _ _
  have HCut1 := Aside0.mk (hW1 ▸ hC.alloc (.cells #[.int .i64 y.f0, .int .i64 y.f1] 24) : Cut n₀ g lv v out W1)
  have HBB := Aside0.mk hb
  have HHY := Aside0.mk hbox1
  rw [hW1] at c0
  clear hC h0 hb hbox1
  dsimp only [S24.enc]
  simp only [List.append_toArray, List.cons_append, List.nil_append]
  go_enter Tryd.func38, Tryd.ntmps38
  go_wp2
  go_loopw [9] (fun p wr => ∃ (k : Nat) (vk : Value), p = .int .i64 k ∧ k ≤ b.length ∧ Aside0 (Cut n₀ g lv vk ((b.take k).foldl (metS1 y) out) wr) ∧ Aside0 (Fr g v W1 wr) ∧ Aside0 (vk.ownBlock = v.ownBlock ∨ ∀ j, vk.ownBlock = some j → W1.heap.size ≤ j)) (fun p _ => b.length - (intOf p).toNat)
  case atStart => exact ⟨0, v, rfl, Nat.zero_le _, HCut1, ⟨Fr.refl _ _ _⟩, ⟨.inl rfl⟩⟩
  case round =>
    obtain ⟨k, vk, rfl, hk, HC, HF, HO⟩ := hrel
    by_cases hlt : k < b.length
    · have hbw : Below n₀ w0 wr := hb1.trans (HF.out.below (by omega) hng fun j hj => (hvl j hj).1)
      have hCr := C_from HBB.out hw0 hbw
      obtain ⟨ad, rfl, x0, x1⟩ := at_T24 hCr (k : Int) (by omega) (by omega)
      simp only [Int.toNat_natCast] at x0 x1
      have hx : rd_T24 b (k : Int) = b.getD k z24 := by simp [rd_T24]
      rw [hx] at x0 x1
      have HTK := Lib.hid (take_next b k hlt)
      obtain ⟨x, hxx⟩ : ∃ x, b.getD k z24 = x := ⟨_, rfl⟩
      rw [hxx] at x0 x1 HTK
      have hbox : wr.heap[W.heap.size]? = some (.cells #[.int .i64 y.f0, .int .i64 y.f1] 24 (0, 0)) := (HF.out.block W.heap.size (by omega) (by omega) (fun e => by have := hvl _ e.symm; omega)).trans HHY.out
      have hsr := HF.out.size
      have y0 := cell_alloc' ((blk_cell hbox 0).trans rfl : wr.cell? ⟨W.heap.size, 0, none⟩ = some (.int .i64 y.f0)) (.cells #[.int .i64 x.f0, .int .i64 x.f1] 24)
      have y1 := cell_alloc' ((blk_cell hbox 1).trans rfl : wr.cell? ⟨W.heap.size, 1, none⟩ = some (.int .i64 y.f1)) (.cells #[.int .i64 x.f0, .int .i64 x.f1] 24)
      have hlt2 : (k : Int) < (b.length : Int) := by omega
      have hl1 : ((b.take k).foldl (metS1 y) out).length ≤ 2000000 := by
        have h1 := metS_len y (b.take k) out
        rw [List.length_take] at h1
        omega
      clear hx hxx hCr hbox hbw
      go_wp2
      refine wp_region_quiet_tail_lit 13 (by kernel_rfl) (by kernel_rfl) ?_
      simp only [List.take_succ_cons, List.take_zero, List.drop_succ_cons, List.drop_zero]
      repeat (quiet_step (fail))
      refine wpQuiet_nil ?_
      intro _ hw'
      obtain ⟨nr, hw''⟩ := hw'
      subst hw''
      have emax : (if x.f0 < y.f0 then y.f0 else x.f0) = max x.f0 y.f0 := by split <;> omega
      have emin : (if y.f1 < x.f1 then y.f1 else x.f1) = min x.f1 y.f1 := by split <;> omega
      rw [emax, emin]
      obtain ⟨m1, hm1⟩ : ∃ m, max x.f0 y.f0 = m := ⟨_, rfl⟩
      obtain ⟨m2, hm2⟩ : ∃ m, min x.f1 y.f1 = m := ⟨_, rfl⟩
      rw [hm1, hm2]
      have HM := Lib.hid (And.intro hm1 hm2)
      clear emax emin hm1 hm2
      have HA := Aside0.mk (add_calls n₀ g lv vk ((b.take k).foldl (metS1 y) out) m1 m2 ((wr.alloc (.cells #[.int .i64 x.f0, .int .i64 x.f1] 24)).drewN nr) (by rw [World.heap_drewN, World.size_alloc]; omega) ((HC.out.alloc _).drewN nr) hl1)
      go_wp2_with (go_at_call 34; refine HA.out.mono ?_; rintro e w2 ⟨rfl, v2, hcut2, hfr2, ho2⟩; rw [← HM.out.1, ← HM.out.2] at hcut2; have HC2 := Aside0.mk hcut2; have HF2 := Aside0.mk hfr2; have HO2 := Aside0.mk ho2; clear hcut2 hfr2 ho2)
      go_roundw
      case rel =>
        refine ⟨k + 1, v2, by go_num, by omega, ?_, ?_, ?_⟩
        · rw [HTK.out, List.foldl_append]
          exact HC2
        · exact ⟨HF.out.trans HO.out HF2.out.of_drewN.of_alloc⟩
        · refine ⟨?_⟩
          rcases HO2.out with q | q
          · rcases HO.out with q2 | q2
            · exact .inl (q.trans q2)
            · exact .inr fun j hj => q2 j (by rw [← q]; exact hj)
          · exact .inr fun j hj => by have := q j hj; rw [World.heap_drewN, World.size_alloc] at this; omega
      case measure => simp [intOf]; omega
    · have HD : Hid (b.take k = b) := Lib.hid (List.take_of_length_le (by omega))
      go_wp2
      go_end0
      refine ⟨rfl, vk, ?_, hF1.trans (.inl rfl) HF.out⟩
      have := HC.out
      rw [HD.out] at this
      exact this

end Go.Proofs.YtomgpbhkoellpaaDoor.P
