/- band.Total. Conditions: the slice reads as the list. -/
import Derived.Test.YtomgpbhkoellpaaDoorSp
import Derived.Test.YtomgpbhkoellpaaDoorTo
set_option linter.unusedVariables false
set_option linter.unusedSimpArgs false
namespace Go.Proofs.YtomgpbhkoellpaaDoor.P
open Go.RowKit Go.Shelf Go.Proofs.YtomgpbhkoellpaaDoorW.PrintWords Go.Proofs.YtomgpbhkoellpaaDoorW.PrintLast Go.Proofs.YtomgpbhkoellpaaDoorW.PrintMore

def totW (n : Int) (x : S24) : Int := wrap64 (n + wrap64 (x.f1 - x.f0))
theorem tot_fold : ∀ (l : List S24) (a n : Int), Ch a l → (∀ x ∈ l, x.f1 ≤ 1073741824) → -1073741825 ≤ a → 0 ≤ n → n ≤ a + 1073741825 → l.foldl totW n = n + lenB l
  | [], a, n, _, _, _, _, _ => by simp [lenB]
  | x :: xs, a, n, h, hm, ha, h0, h1 => by
    obtain ⟨c1, c2, c3⟩ := h
    have hx := hm x (by simp)
    have e : totW n x = n + (x.f1 - x.f0) := by
      unfold totW
      unfold wrap64
      omega
    show xs.foldl totW (totW n x) = _
    rw [e, tot_fold xs x.f1 _ c3 (fun y hy => hm y (by simp [hy])) (by omega) (by omega) (by omega), lenB_cons]
    omega

set_option maxHeartbeats 1000000 in
set_option maxRecDepth 100000 in
theorem total_no (A : Option Addr) (c : Nat) (l : List S24) (w : World) (hr : Kd.C k24 w A l.length l) (hc : l.length ≤ c) (hlen : l.length ≤ 1000) (h1 : rightD l = false) :
    Calls Tryd.prog 23 #[.slice A l.length c] w fun e w' => e = .returned (.int .i64 0) ∧ Below w.heap.size w w' := by
  have HRD := Aside0.mk hr
  have R1 := Lib.hid (right_f l (by omega) (k := 1001) (by omega))
  rw [h1] at R1
  have HN := Aside0.mk (World.alloc_heap_new w (.cells #[.int .i64 0] 2))
  clear hr h1
  go_enter Tryd.func23, Tryd.ntmps23
  go_wp2_with (go_at_call 21; refine (band_Right.calls 1001 A c l false _ (Kd.C_alloc HRD.out _) hc R1.out).mono ?_; rintro e w1 ⟨rfl, hb⟩; have HB1 := Aside0.mk hb; have x0 : w1.cell? ⟨w.heap.size, 0, none⟩ = some (.int .i64 0) := (blk_cell ((hb.block w.heap.size (by simp)).trans HN.out) 0).trans rfl; clear hb)
  go_ret
  exact ⟨rfl, (below_alloc (Below.refl _ w) _).trans (HB1.out.mono (by simp))⟩

attribute [local go_sem] Oper.semAt_some
set_option maxHeartbeats 4000000 in
set_option maxRecDepth 100000 in
theorem total_yes (A : Option Addr) (c : Nat) (l : List S24) (w : World) (hr : Kd.C k24 w A l.length l) (hc : l.length ≤ c) (hlen : l.length ≤ 1000) (h1 : rightD l = true) :
    Calls Tryd.prog 23 #[.slice A l.length c] w fun e w' => e = .returned (.int .i64 (lenB l)) ∧ Below w.heap.size w w' := by
  have hlR := (rightD_iff l).1 h1
  have HTF := Lib.hid (tot_fold l _ 0 hlR.1 hlR.2 (by omega) (by omega) (by omega))
  have HRD := Aside0.mk hr
  have R1 := Lib.hid (right_f l (by omega) (k := 1001) (by omega))
  rw [h1] at R1
  have HN := Aside0.mk (World.alloc_heap_new w (.cells #[.int .i64 0] 2))
  clear hr h1 hlR
  refine (callsIn_wide (n := 3)).1 ?_
  refine callsIn_of_wp_marks Tryd.func23 rfl trivial ?_ rfl
  simp only [Tryd.ntmps23, List.size_toArray, List.length_cons, List.length_nil, Nat.reduceAdd, Nat.reduceSub, Array.replicate_succ, Array.replicate_zero, List.push_toArray, List.append_toArray, List.nil_append, List.cons_append]
  gi_wp2_with (first | (refine ⟨trivial, ?_⟩; gi_at_call 21; refine (callsIn_wide.2 (band_Right.calls 1001 A c l true _ (Kd.C_alloc HRD.out _) hc R1.out)).mono ?_; rintro e w1 ⟨rfl, hb⟩; have HB1 := Aside0.mk hb; have k0 := (hb.block w.heap.size (by simp)).trans HN.out; clear hb) | (refine ⟨trivial, ?_⟩; gi_at_call 41; refine (callsIn_wide.2 (spans_calls _ _ _)).mono ?_; rintro e w2 ⟨rfl, rfl⟩))
  have hB1 := HB1.out
  have hs1 : w.heap.size + 1 ≤ w1.heap.size := by have := hB1.size; rw [World.size_alloc] at this; exact this
  have hbw1 : Below w.heap.size w w1 := (below_alloc (Below.refl _ w) _).trans (hB1.mono (by simp))
  obtain ⟨W0, hW0⟩ : ∃ W0, (w1.alloc (Obj.cells #[Value.slice A l.length c] 47)).alloc (Obj.cells #[Value.pointer (some { block := w1.heap.size, off := 0 })] 61) = W0 := ⟨_, rfl⟩
  have hsz : W0.heap.size = w1.heap.size + 2 := by rw [← hW0]; simp
  have h47 : W0.heap[w1.heap.size]? = some (.cells #[Value.slice A l.length c] 47 (0, 0)) := by
    rw [← hW0]
    exact (Below.heap_alloc _ _ _ (by simp)).trans (World.alloc_heap_new w1 _)
  have h61 : W0.heap[w1.heap.size + 1]? = some (.cells #[Value.pointer (some { block := w1.heap.size, off := 0 })] 61 (0, 0)) := by
    rw [← hW0]
    have := World.alloc_heap_new (w1.alloc (Obj.cells #[Value.slice A l.length c] 47)) (Obj.cells #[Value.pointer (some { block := w1.heap.size, off := 0 })] 61)
    rw [World.size_alloc] at this
    exact this
  have hb0 : Below w1.heap.size w1 W0 := hW0 ▸ below_alloc (below_alloc (Below.refl _ w1) _) _
  have kB : Boxed W0 w.heap.size 2 (.int .i64 0) := (hb0.block _ (by omega)).trans k0
  have hbw0 : Below w.heap.size w W0 := hbw1.trans (hb0.mono (by omega))
  rw [hW0]
  clear hW0 k0
  refine wpIn_rangeFunc_ownH rfl (by omega) (gf := 51) (lb := #[.pointer (some ⟨w1.heap.size + 1, 0, none⟩)]) rfl trivial (enters_of Tryd.func51 (by kernel_rfl) rfl)
    (encs := fun x : S24 => #[S24.enc x]) (Kp := Below w.heap.size) (S := fun ys => ys = l) (Sp := fun pre => pre <+: l) (N := l.length)
    (w0 := W0) (spans_stops 2 (by omega) (w1.heap.size + 1) w.heap.size w1.heap.size 0 A c l hc (by omega) W0 (by omega) ((blk_cell h61 0).trans rfl) ((blk_cell h47 0).trans rfl) w rfl hbw0 HRD.out) belowK_t (belowK_b (by omega)) (Below.refl _ _) (fun _ => rfl)
    (fun pre W => Boxed W w.heap.size 2 (.int .i64 (pre.foldl totW 0)) ∧ Below w.heap.size W0 W)
    (fun _ _ _ => False)
    (OwnFrom.and (Own.from (I := fun (s : List S24) W => Boxed W w.heap.size 2 (.int .i64 (s.foldl totW 0))) (fun s X Y row hs hg hr => (grownBy_keeps_cells hg hr hs rfl).trans hs) _) (ownFrom_below (by omega) (by omega)))
    (fun _ _ _ _ _ hs _ _ => hs)
    ⟨kB, Below.refl _ _⟩
    (fun x a' W => ∃ Bx, w.heap.size < Bx ∧ W.heap[Bx]? = some (.cells #[.int .i64 x.f0, .int .i64 x.f1] 24 (0, 0)) ∧ a' = Act.mk #[Value.slice A l.length c, undef, Value.int IntKind.i64 0,
          Value.pointer (some { block := w.heap.size, off := 0 }), Value.pointer (some { block := Bx, off := 0 }), Value.slice A l.length c, Value.bool true,
          Value.bool false, undef, Value.slice A l.length c, Value.agg #[Value.slice A l.length c],
          Value.pointer (some { block := w1.heap.size, off := 0 }),
          Value.func (Fn.func 51) #[] #[Value.pointer (some { block := w1.heap.size + 1, off := 0 })], S24.enc x, undef,
          undef, undef, undef, undef, undef, undef, undef] [])
    (fun x a' _ X Y row hs hg hr => by
      obtain ⟨Bx, h1, h2, h3⟩ := hs
      exact ⟨Bx, h1, (grownBy_keeps_cells hg (fun r e => (hr r e).2) h2 rfl).trans h2, h3⟩)
    ?assign ?body ?done ?stop
  case assign =>
    rintro l1 pre x W K ⟨bx, hB2⟩ hK
    have hsW := hB2.size
    dsimp only [S24.enc] at hK ⊢
    gi_wp2
    refine hK _ _ ((KeepsOthers.alloc _ _).from _) ((Below.refl _ W).alloc (by omega) _) ⟨bx.alloc _, hB2.alloc (by omega) _⟩ ⟨W.heap.size, by omega, World.alloc_heap_new _ _, rfl⟩
  case body =>
    rintro l1 pre x a' W hl1 ⟨r, hr⟩ ⟨bx, hB2⟩ ⟨Bx, hBx, bX, rfl⟩ hlt
    have x0 : W.cell? ⟨Bx, 0, none⟩ = some (.int .i64 x.f0) := (blk_cell bX 0).trans rfl
    have x1 : W.cell? ⟨Bx, 1, none⟩ = some (.int .i64 x.f1) := (blk_cell bX 1).trans rfl
    have c0 := bx.cell
    have f0 := bx.frozen
    have hsW := hB2.size
    have hset : Boxed (W.setCell ⟨w.heap.size, 0, none⟩ (.int .i64 ((pre ++ [x]).foldl totW 0))) w.heap.size 2 (.int .i64 ((pre ++ [x]).foldl totW 0)) := heap_setCell_same W w.heap.size 0 _ 2 _ bx
    have hfin : ownPostG W0.heap.size (Below w.heap.size) (fun pre W => Boxed W w.heap.size 2 (.int .i64 (pre.foldl totW 0)) ∧ Below w.heap.size W0 W) (fun _ _ _ => False) (pre ++ [x]) W .normal (Act.mk #[] []) (W.setCell ⟨w.heap.size, 0, none⟩ (.int .i64 ((pre ++ [x]).foldl totW 0))) :=
      ⟨(KeepsOthers.setCell _ _ _).from _, (Below.refl _ W).setCell (p := ⟨w.heap.size, 0, none⟩) (Nat.le_refl _) _, hset, hB2.setCell (p := ⟨w.heap.size, 0, none⟩) (Nat.le_refl _) _⟩
    have hsn : (pre ++ [x]).foldl totW 0 = wrap64 (pre.foldl totW 0 + wrap64 (x.f1 - x.f0)) := by rw [List.foldl_append]; rfl
    rw [hsn] at hfin
    have HF := Aside0.mk hfin
    clear hset hfin hsn
    gi_wp2
    exact HF.out
  case done =>
    rintro D xs W hD rfl ⟨bx, hB2⟩ hKD
    have c0 := bx.cell
    have hp := belowK_b (n₀ := w.heap.size) (w := W0) (by omega) W D _ (.deferred none) (by omega) hKD rfl rfl
    have HB := Aside0.mk (hbw0.trans (hB2.trans hp))
    rw [HTF.out, Int.zero_add] at c0
    clear hp bx
    gi_wp2
    refine ⟨by simp, .inl ⟨_, _, rfl, run_takeDeferred hKD, ?_⟩⟩
    refine ⟨_, results_tmp rfl _ _ _, ?_, HB.out⟩
    rfl
  case stop =>
    rintro D c' pre W _ _ h _
    exact h.elim

theorem band_Total.calls (A0 : Option Addr) (c0 : Nat) (l0 : List (S24)) (r : Int) (w : World) (hr0 : Kd.C k24 w A0 l0.length l0) (hc0 : l0.length ≤ c0) (h : band_Total.f l0 = some r) :
    Calls Tryd.prog 23 #[.slice A0 l0.length c0] w fun e w' => e = .returned (.int .i64 r) ∧ Below w.heap.size w w' := by
  unfold band_Total.f at h
  split at h
  · next hlen =>
    cases h
    by_cases h1 : rightD l0 = true
    · rw [if_pos h1]
      exact total_yes A0 c0 l0 w hr0 hc0 hlen h1
    · rw [if_neg h1]
      exact total_no A0 c0 l0 w hr0 hc0 hlen (by simpa using h1)
  · cases h

end Go.Proofs.YtomgpbhkoellpaaDoor.P
