/- fill's filler: its next column (the method next). Conditions: as for step and last; the column begins at an atom. -/
import Derived.Test.YtjpifknencfipaaDoorNx
import Derived.Test.YtjpifknencfipaaDoorQt
set_option linter.unusedVariables false
set_option linter.unusedSimpArgs false
namespace Go.Proofs.YtjpifknencfipaaDoor.P
open Go.RowKit Go.Proofs.YtjpifknencfipaaDoorW.PrintWords Go.Proofs.YtjpifknencfipaaDoorW.PrintLast Go.Proofs.YtjpifknencfipaaDoorW.PrintMore

theorem Atoms.drewN {l : List S32} {g : Nat} {w : World} (h : Atoms l g w) (n : Nat) : Atoms l g (w.drewN n) := by
  obtain ⟨A, c, h1, h2, h3⟩ := h
  exact ⟨A, c, h1, h2, Kd.C_drewN h3 n⟩
theorem hi_succ (l : List S32) (a i : Nat) : hiA l a (i + 1) = hiA l a i + stA l i := by
  unfold hiA
  rw [show preA l (i + 1) = preA l i + stA l i from rfl]
  omega
theorem hi_one (l : List S32) (a : Nat) : hiA l a (a + 1) = hhA l a := by
  rw [hi_succ]
  unfold hiA stA
  omega
theorem hi_bounds {l : List S32} (hl : rightA l = true) (a : Nat) : ∀ d, a + 1 + d ≤ l.length → 1 ≤ hiA l a (a + 1 + d) ∧ hiA l a (a + 1 + d) ≤ (d + 1) * 1074790400
  | 0, h => by
    have := hh_of hl a (by omega)
    rw [Nat.add_zero, hi_one]
    omega
  | d + 1, h => by
    have ih := hi_bounds hl a d (by omega)
    have hs := hh_of hl (a + 1 + d) (by omega)
    rw [show a + 1 + (d + 1) = (a + 1 + d) + 1 from rfl, hi_succ]
    unfold stA
    omega
theorem hi_range {l : List S32} (hl : rightA l = true) (a i : Nat) (ha : a < i) (hi : i ≤ l.length) : 1 ≤ hiA l a i ∧ hiA l a i ≤ 2149580800000 := by
  have h := hi_bounds hl a (i - (a + 1)) (by omega)
  rw [show a + 1 + (i - (a + 1)) = i by omega] at h
  have := len_of hl
  omega

/-- The world while next runs: the result's block, the column's block. -/
structure NxW (w : World) (a i H o : Int) (wr : World) : Prop where
  res : wr.heap[w.heap.size]? = some (.cells #[.int .i64 0, .int .i64 0, .int .i64 0, .int .i64 0] 120 (0, 0))
  col : wr.heap[w.heap.size + 1]? = some (.cells #[.int .i64 a, .int .i64 i, .int .i64 H, .int .i64 o] 120 (0, 0))
  bel : Below w.heap.size w wr
theorem NxW.start (w : World) (a i H o : Int) : NxW w a i H o ((w.alloc (.cells #[.int .i64 0, .int .i64 0, .int .i64 0, .int .i64 0] 120)).alloc (.cells #[.int .i64 a, .int .i64 i, .int .i64 H, .int .i64 o] 120)) := by
  refine ⟨?_, ?_, below_alloc (below_alloc (Below.refl _ _) _) _⟩
  · exact (Below.heap_alloc _ _ _ (by simp)).trans (heap_alloc_new _ _)
  · have := heap_alloc_new (w.alloc (.cells #[.int .i64 0, .int .i64 0, .int .i64 0, .int .i64 0] 120)) (.cells #[.int .i64 a, .int .i64 i, .int .i64 H, .int .i64 o] 120)
    rwa [World.size_alloc] at this
theorem NxW.cells {w wr : World} {a i H o : Int} (h : NxW w a i H o wr) :
    wr.cell? ⟨w.heap.size + 1, 0, none⟩ = some (.int .i64 a) ∧ wr.cell? ⟨w.heap.size + 1, 1, none⟩ = some (.int .i64 i) ∧ wr.cell? ⟨w.heap.size + 1, 2, none⟩ = some (.int .i64 H) ∧ wr.cell? ⟨w.heap.size + 1, 3, none⟩ = some (.int .i64 o) :=
  ⟨(blk_cell h.col 0).trans rfl, (blk_cell h.col 1).trans rfl, (blk_cell h.col 2).trans rfl, (blk_cell h.col 3).trans rfl⟩
theorem NxW.cells0 {w wr : World} {a i H o : Int} (h : NxW w a i H o wr) :
    wr.cell? ⟨w.heap.size, 0, none⟩ = some (.int .i64 0) ∧ wr.cell? ⟨w.heap.size, 1, none⟩ = some (.int .i64 0) ∧ wr.cell? ⟨w.heap.size, 2, none⟩ = some (.int .i64 0) ∧ wr.cell? ⟨w.heap.size, 3, none⟩ = some (.int .i64 0) :=
  ⟨(blk_cell h.res 0).trans rfl, (blk_cell h.res 1).trans rfl, (blk_cell h.res 2).trans rfl, (blk_cell h.res 3).trans rfl⟩
theorem NxW.frozen {w wr : World} {a i H o : Int} (h : NxW w a i H o wr) (j : Nat) : wr.frozen? ⟨w.heap.size + 1, j, none⟩ = false := blk_frozen h.col j
theorem NxW.frozen0 {w wr : World} {a i H o : Int} (h : NxW w a i H o wr) (j : Nat) : wr.frozen? ⟨w.heap.size, j, none⟩ = false := blk_frozen h.res j
theorem NxW.drewN {w wr : World} {a i H o : Int} (h : NxW w a i H o wr) (n : Nat) : NxW w a i H o (wr.drewN n) := ⟨h.res, h.col, pw_below_drewN h.bel n⟩
theorem NxW.put1 {w wr : World} {a i H o : Int} (h : NxW w a i H o wr) (x : Int) : NxW w a x H o (wr.setCell ⟨w.heap.size + 1, 1, none⟩ (.int .i64 x)) :=
  ⟨(Below.heap_setCell _ _ _ _ (by simp)).trans h.res, blk_put h.col 1 _ rfl, below_set h.bel (by simp)⟩
theorem NxW.put2 {w wr : World} {a i H o : Int} (h : NxW w a i H o wr) (x : Int) : NxW w a i x o (wr.setCell ⟨w.heap.size + 1, 2, none⟩ (.int .i64 x)) :=
  ⟨(Below.heap_setCell _ _ _ _ (by simp)).trans h.res, blk_put h.col 2 _ rfl, below_set h.bel (by simp)⟩
theorem NxW.put3 {w wr : World} {a i H o : Int} (h : NxW w a i H o wr) (x : Int) : NxW w a i H x (wr.setCell ⟨w.heap.size + 1, 3, none⟩ (.int .i64 x)) :=
  ⟨(Below.heap_setCell _ _ _ _ (by simp)).trans h.res, blk_put h.col 3 _ rfl, below_set h.bel (by simp)⟩

theorem back_bounds (l : List S32) (a d : Nat) : ∀ k, a < d → a ≤ k → k ≤ d → a < backA l a d k ∧ backA l a d k ≤ d
  | 0, h1, h2, h3 => by
    unfold backA
    omega
  | k + 1, h1, h2, h3 => by
    unfold backA
    split
    · omega
    · split
      · omega
      · exact back_bounds l a d k h1 (by omega) (by omega)
theorem col_no {l : List S32} {h : Int} {a i : Nat} (hs : scanA l h a (l.length - (a + 1)) (a + 1) = (i, false)) : colA l h a = ⟨a, i, 0⟩ := by
  unfold colA endA
  rw [hs]
  rfl
theorem col_over {l : List S32} {h : Int} {a i : Nat} (hs : scanA l h a (l.length - (a + 1)) (a + 1) = (i, true)) : colA l h a = ⟨a, backA l a i i, i⟩ := by
  unfold colA endA
  rw [hs]
  rfl
theorem ret_col_no {l : List S32} {h : Int} {a i : Nat} (hs : scanA l h a (l.length - (a + 1)) (a + 1) = (i, false)) :
    Ending.returned (.agg #[.int .i64 a, .int .i64 i, .int .i64 (hiA l a i), .int .i64 0]) = .returned (.agg #[.int .i64 a, .int .i64 (colA l h a).b, .int .i64 (hiA l a (colA l h a).b), .int .i64 ((colA l h a).over l)]) := by
  rw [col_no hs]
  rfl
theorem ret_col_over {l : List S32} {h : Int} {a i : Nat} (hi : 0 < i) (hs : scanA l h a (l.length - (a + 1)) (a + 1) = (i, true)) :
    Ending.returned (.agg #[.int .i64 a, .int .i64 (backA l a i i), .int .i64 (hiA l a (backA l a i i)), .int .i64 (hiA l a (i + 1))]) = .returned (.agg #[.int .i64 a, .int .i64 (colA l h a).b, .int .i64 (hiA l a (colA l h a).b), .int .i64 ((colA l h a).over l)]) := by
  rw [col_over hs]
  have : (⟨a, backA l a i i, i⟩ : ColA).over l = hiA l a (i + 1) := by
    unfold ColA.over
    exact if_neg (show ¬ i = 0 by omega)
  rw [this]

set_option maxHeartbeats 4000000 in
set_option maxRecDepth 100000 in
/-- (*filler).next. -/
theorem next_calls (l : List S32) (hl : rightA l = true) (h : Int) (h0 : 0 ≤ h) (h1 : h ≤ 2199023255552) (g : Nat) (a : Nat) (w : World) (hA : Atoms l g w) (hh : w.cell? ⟨g, 1, none⟩ = some (.int .i64 h)) (ha : a < l.length) :
    Calls Tryd.prog 104 #[.pointer (some ⟨g, 0, none⟩), .int .i64 a] w fun e w' => e = .returned (.agg #[.int .i64 a, .int .i64 (colA l h a).b, .int .i64 (hiA l a (colA l h a).b), .int .i64 ((colA l h a).over l)]) ∧ Below w.heap.size w w' := by
  have hlen := len_of hl
  obtain ⟨A, c, hc, hcl, hC⟩ := hA
  have HC := Aside0.mk hC
  obtain ⟨ad, rfl, hx0, hx1, hx2, hx3, hx4⟩ := atom_cells hC a ha
  obtain ⟨b1, b2, b3, b4⟩ := hh_of hl a ha
  have i0 : (0 : Int) ≤ a := by omega
  have i1 : (a : Int) < l.length := by omega
  have hgl : g < w.heap.size := World.block_lt_of_cell? w _ hc
  have hal : (ad.add (a * 5)).block < w.heap.size := World.block_lt_of_cell? w _ hx0
  clear hC hx0 hx1 hx3 hx4
  go_enter Tryd.func104, Tryd.ntmps104
  go_wp2
  refine wp_scope_follow 3 ?_
  go_wp2
  have ebr : ∀ o, (colA l h a).o = o → True := fun _ _ => trivial
  clear ebr
  go_loopg [21] (l.length - (a + 1)) (fun kq v21 wr => ∃ i : Nat, Aside0 (a < i) ∧ Aside0 (kq + i = l.length) ∧ Hid (scanA l h a (l.length - (a + 1)) (a + 1) = scanA l h a kq i) ∧ NxW w a i (hiA l a i) 0 wr)
  case atStart =>
    refine ⟨a + 1, ⟨by omega⟩, ⟨by omega⟩, Lib.hid rfl, ?_⟩
    rw [show ((a + 1 : Nat) : Int) = (a : Int) + 1 from by omega, hi_one]
    exact NxW.start _ _ _ _ _
  case round =>
    obtain ⟨i, hai, hki, HS, hW⟩ := hrel
    obtain ⟨d0, d1, d2, d3⟩ := hW.cells
    have z0 := hW.frozen
    obtain ⟨q0, q1, q2, q3⟩ := hW.cells0
    have z1 := hW.frozen0
    have hAw : Atoms l g w := ⟨some ad, c, hc, hcl, HC.out⟩
    have hAr := Lib.hid (hAw.below hW.bel)
    have hcr := (hW.bel.cell (p := ⟨g, 0, none⟩) hgl).trans hc
    have hhr := (hW.bel.cell (p := ⟨g, 1, none⟩) hgl).trans hh
    have hil := hai.out
    have hiL : i ≤ l.length := by have := hki.out; omega
    obtain ⟨r1, r2⟩ := hi_range hl a i hil hiL
    have hi0 : (0 : Int) ≤ i := by omega
    clear hAw
    by_cases hlt : i < l.length
    · obtain ⟨ad', e', y0, y1, y2, y3, y4⟩ := atom_cells HC.out i hlt
      obtain rfl : ad = ad' := Option.some.inj e'
      clear e' y1 y2 y3
      have hgl2 : (ad.add (i * 5)).block < w.heap.size := World.block_lt_of_cell? w _ y0
      have y4r := (hW.bel.cell (p := ⟨(ad.add (i * 5)).block, (ad.add (i * 5)).off + 4, none⟩) hgl2).trans y4
      have hi1 : (i : Int) < l.length := by omega
      obtain ⟨k1, rfl⟩ : ∃ k1, gk = k1 + 1 := ⟨gk - 1, by have := hki.out; omega⟩
      clear y0 y4
      by_cases hb : bkA l i = 2
      · have HS2 : Hid (scanA l h a (l.length - (a + 1)) (a + 1) = (i, false)) := Lib.hid (by rw [HS.out]; unfold scanA; rw [if_pos hb])
        rw [hb] at y4r
        clear hb
        go_wp2
        go_quiet (fail)
        go_wp2
        go_quiet (fail)
        go_wp2
        go_step3
        refine Follow.goto 2 rfl ?_
        go_wp2
        refine Follow.ret 2 ?_
        refine bodyPost_ret (v := .agg #[.int .i64 a, .int .i64 i, .int .i64 (hiA l a i), .int .i64 0]) (by simp [results, Tryd.results104, go_sem, q0, q1, q2, q3]) rfl ⟨ret_col_no HS2.out, ?_⟩
        have hb := hW.bel
        repeat (first | exact hb | apply pw_below_drewN | refine below_set ?_ (Nat.le_refl _))
      · have hb2 : (bkA l i == 2) = false := by simpa using hb
        obtain ⟨b, hb3⟩ : ∃ b, bkA l i = b := ⟨_, rfl⟩
        have HSt := Lib.hid (hi_succ l a i)
        have s0 := hh_of hl i hlt
        have hst : stA l i = spA l i + hhA l i := rfl
        have s1 : 1 ≤ stA l i := by omega
        have s2 : stA l i ≤ 1074790400 := by omega
        have hstep := Lib.hid (fun m => step_calls l hl g i (wr.drewN m) (hAr.out.drewN m) hlt)
        rw [hb3] at y4r hb2
        obtain ⟨H, hH⟩ : ∃ H, hiA l a i = H := ⟨_, rfl⟩
        have hHH := Lib.hid hH
        obtain ⟨s, hs⟩ : ∃ s, stA l i = s := ⟨_, rfl⟩
        rw [hH] at HSt hW d2 r1 r2
        rw [hs] at HSt hstep s1 s2
        have e1 : IntKind.i64.wrap (H + s) = H + s := by rw [IntKind.wrap_i64]; omega
        clear hb3 hst s0 hH hs
        by_cases hgt : hiA l a (i + 1) > h
        · have hgt2 : decide (h < H + s) = true := by rw [← HSt.out]; exact decide_eq_true hgt
          go_wp2
          go_quiet (fail)
          go_wp2
          go_quiet (fail)
          go_wp2
          go_quiet ((go_at_call 89; first | exact Calls.quiet_of (hstep.out _) | exact quiet_add (hstep.out _)))
          go_wp2
          refine wp_region_quiet_tail_lit 12 (by kernel_rfl) (by kernel_rfl) ?_
          simp only [List.take_succ_cons, List.take_zero, List.drop_succ_cons, List.drop_zero]
          repeat (quiet_step ((go_at_call 89; first | exact Calls.quiet_of (hstep.out _) | exact quiet_add (hstep.out _))))
          refine wpQuiet_nil ?_
          intro _ hw'
          obtain ⟨nq, hw''⟩ := hw'
          subst hw''
          go_wp2
          go_step3
          refine Follow.goto 2 rfl ?_
          refine wp_world (R := NxW w a i H (H + s)) ?_ ?_
          · repeat (first | exact hW | apply NxW.put3 | apply NxW.drewN)
          intro W1 hW1
          clear hW d0 d1 d2 d3 z0 q0 q1 q2 q3 z1 hcr hhr y4r hgt2 hb2
          obtain ⟨d0, d1, d2, d3⟩ := hW1.cells
          have z0 := hW1.frozen
          have hAw : Atoms l g w := ⟨some ad, c, hc, hcl, HC.out⟩
          have hAr1 := Lib.hid (hAw.below hW1.bel)
          have hcr := (hW1.bel.cell (p := ⟨g, 0, none⟩) hgl).trans hc
          have hlast := Lib.hid (fun m => last_calls l hlen g a i (W1.drewN m) (hAr1.out.drewN m) hlt (by omega))
          clear hAw
          go_wp2
          go_quiet ((go_at_call 114; first | exact quiet_left (hlast.out _) | exact quiet_add_left (hlast.out _)))
          go_wp2
          obtain ⟨B1, B2⟩ := back_bounds l a i i hil (by omega) (Nat.le_refl _)
          have HS3 : Hid (scanA l h a (l.length - (a + 1)) (a + 1) = (i, true)) := Lib.hid (by rw [HS.out]; unfold scanA; rw [if_neg hb, if_pos hgt])
          have HO : Hid (hiA l a (i + 1) = H + s) := HSt
          have HH : Hid (hiA l a i = H) := Lib.hid hHH.out
          obtain ⟨B, hB⟩ : ∃ B, backA l a i i = B := ⟨_, rfl⟩
          rw [hB] at B1 B2
          have HB := Lib.hid hB
          have B3 : (0 : Int) ≤ B := by omega
          rw [hB]
          clear hB hb hgt hlast hstep hAr hAr1 hcr d0 d1 d2 d3 z0 HS HSt e1
          go_loopg [98] i (fun kq v98 wr => Aside0 (B ≤ kq) ∧ Aside0 (kq ≤ i) ∧ NxW w a kq (hiA l a kq) (H + s) wr)
          case atStart => exact ⟨⟨B2⟩, ⟨Nat.le_refl _⟩, by rw [HH.out]; repeat (first | exact hW1 | apply NxW.drewN)⟩
          case round =>
            obtain ⟨hjB, hji, hW⟩ := hrel
            obtain ⟨d0, d1, d2, d3⟩ := hW.cells
            have z0 := hW.frozen
            obtain ⟨q0, q1, q2, q3⟩ := hW.cells0
            have z1 := hW.frozen0
            have hAw : Atoms l g w := ⟨some ad, c, hc, hcl, HC.out⟩
            have hAr := Lib.hid (hAw.below hW.bel)
            have hBj := hjB.out
            clear hAw
            by_cases hgt : B < gk
            · obtain ⟨k1, rfl⟩ : ∃ k1, gk = k1 + 1 := ⟨gk - 1, by omega⟩
              have hk1 : k1 < l.length := by have := hji.out; omega
              have s0 := hh_of hl k1 hk1
              have hst : stA l k1 = spA l k1 + hhA l k1 := rfl
              have s1' : 1 ≤ stA l k1 := by omega
              have s2' : stA l k1 ≤ 1074790400 := by omega
              obtain ⟨r1', r2'⟩ := hi_range hl a (k1 + 1) (by omega) (by omega)
              have HSt := Lib.hid (hi_succ l a k1)
              obtain ⟨H2, hH2⟩ : ∃ H, hiA l a (k1 + 1) = H := ⟨_, rfl⟩
              rw [hH2] at HSt hW d2 r1' r2'
              clear hH2 hst s0
              have hk0 : (0 : Int) ≤ k1 := by omega
              go_wp2
              refine wp_world (R := NxW w a k1 H2 (H + s)) ?_ ?_
              · repeat (first | exact hW | apply NxW.put1)
              intro W2 hW2
              clear hW d0 d1 d2 d3 z0 q0 q1 q2 q3 z1
              obtain ⟨d0, d1, d2, d3⟩ := hW2.cells
              have z0 := hW2.frozen
              have hAw : Atoms l g w := ⟨some ad, c, hc, hcl, HC.out⟩
              have hAr2 := Lib.hid (hAw.below hW2.bel)
              have hstep := Lib.hid (fun m => step_calls l hl g k1 (W2.drewN m) (hAr2.out.drewN m) hk1)
              obtain ⟨s', hs'⟩ : ∃ s, stA l k1 = s := ⟨_, rfl⟩
              rw [hs'] at HSt hstep s1' s2'
              have e1 : IntKind.i64.wrap (H2 - s') = H2 - s' := by rw [IntKind.wrap_i64]; omega
              have HSt2 : Hid (hiA l a k1 = H2 - s') := Lib.hid (by have := HSt.out; omega)
              clear hAw hs' HSt
              refine wp_region_quiet_tail_lit 13 (by kernel_rfl) (by kernel_rfl) ?_
              simp only [List.take_succ_cons, List.take_zero, List.drop_succ_cons, List.drop_zero]
              repeat (quiet_step ((go_at_call 89; first | exact Calls.quiet_of (hstep.out _) | exact quiet_add (hstep.out _))))
              refine wpQuiet_nil ?_
              intro _ hw'
              obtain ⟨nq, hw''⟩ := hw'
              subst hw''
              go_wp2
              go_roundg k1
              case rel =>
                refine ⟨⟨by omega⟩, ⟨by have := hji.out; omega⟩, ?_⟩
                rw [HSt2.out]
                repeat (first | exact hW2 | apply NxW.put2 | apply NxW.drewN)
              case measure => omega
            · obtain rfl : gk = B := by omega
              have HR : Hid (Ending.returned (.agg #[.int .i64 a, .int .i64 (gk : Nat), .int .i64 (hiA l a gk), .int .i64 (H + s)]) = .returned (.agg #[.int .i64 a, .int .i64 (colA l h a).b, .int .i64 (hiA l a (colA l h a).b), .int .i64 ((colA l h a).over l)])) := Lib.hid (by
                rw [← ret_col_over (by omega) HS3.out, HB.out, HO.out])
              clear HS3 HB HO HH hHH
              obtain ⟨H3, hH3⟩ : ∃ H, hiA l a gk = H := ⟨_, rfl⟩
              rw [hH3] at HR hW d2
              clear hH3
              go_wp2
              go_step3
              go_wp2
              refine Follow.ret 2 ?_
              refine bodyPost_ret (v := .agg #[.int .i64 a, .int .i64 gk, .int .i64 H3, .int .i64 (H + s)]) (by simp [results, Tryd.results104, go_sem, q0, q1, q2, q3]) rfl ⟨HR.out, ?_⟩
              have hb := hW.bel
              repeat (first | exact hb | apply pw_below_drewN | refine below_set ?_ (Nat.le_refl _))
        · have HS2 : Hid (scanA l h a (l.length - (a + 1)) (a + 1) = scanA l h a k1 (i + 1)) := Lib.hid (by rw [HS.out]; conv => lhs; unfold scanA; rw [if_neg hb, if_neg hgt])
          have hgt2 : decide (h < H + s) = false := by rw [← HSt.out]; exact decide_eq_false hgt
          go_wp2
          go_quiet (fail)
          go_wp2
          go_quiet (fail)
          go_wp2
          go_quiet ((go_at_call 89; first | exact Calls.quiet_of (hstep.out _) | exact quiet_add (hstep.out _)))
          go_wp2
          refine wp_region_quiet_tail_lit 13 (by kernel_rfl) (by kernel_rfl) ?_
          simp only [List.take_succ_cons, List.take_zero, List.drop_succ_cons, List.drop_zero]
          repeat (quiet_step ((go_at_call 89; first | exact Calls.quiet_of (hstep.out _) | exact quiet_add (hstep.out _))))
          refine wpQuiet_nil ?_
          intro _ hw'
          obtain ⟨nq, hw''⟩ := hw'
          subst hw''
          go_wp2
          go_roundg k1
          case rel =>
            refine ⟨i + 1, ⟨by omega⟩, ⟨by have := hki.out; omega⟩, HS2, ?_⟩
            rw [show ((i + 1 : Nat) : Int) = (i : Int) + 1 from by omega, HSt.out]
            repeat (first | exact hW | apply NxW.put1 | apply NxW.put2 | apply NxW.drewN)
          case measure => omega
    · have hi2 : i = l.length := by omega
      have HS2 : Hid (scanA l h a (l.length - (a + 1)) (a + 1) = (i, false)) := Lib.hid (by rw [HS.out, show gk = 0 by have := hki.out; omega]; rfl)
      clear hi2
      go_wp2
      go_quiet (fail)
      go_wp2
      go_step3
      refine Follow.goto 2 rfl ?_
      go_wp2
      refine Follow.ret 2 ?_
      refine bodyPost_ret (v := .agg #[.int .i64 a, .int .i64 i, .int .i64 (hiA l a i), .int .i64 0]) (by simp [results, Tryd.results104, go_sem, q0, q1, q2, q3]) rfl ⟨ret_col_no HS2.out, ?_⟩
      have hb := hW.bel
      repeat (first | exact hb | apply pw_below_drewN | refine below_set ?_ (Nat.le_refl _))

end Go.Proofs.YtjpifknencfipaaDoor.P
