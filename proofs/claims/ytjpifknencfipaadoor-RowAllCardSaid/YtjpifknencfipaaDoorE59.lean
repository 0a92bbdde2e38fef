/- fill.Fill. Conditions: the slice reads as the list; the sentinel. · fill.Short. Conditions: the slice reads as the list; the sentinel. -/
import Derived.Test.YtjpifknencfipaaDoorLo
set_option linter.unusedVariables false
set_option linter.unusedSimpArgs false
namespace Go.Proofs.YtjpifknencfipaaDoor.P
open Go.RowKit Go.Shelf Go.Proofs.YtjpifknencfipaaDoorW.PrintWords Go.Proofs.YtjpifknencfipaaDoorW.PrintLast Go.Proofs.YtjpifknencfipaaDoorW.PrintMore
attribute [local go_sem] Oper.semAt_some

set_option maxHeartbeats 2000000 in
set_option maxRecDepth 100000 in
theorem fill_no (A : Option Addr) (c : Nat) (l : List S32) (h : Int) (w : World) (hr : Kd.C k32 w A l.length l) (hc : l.length ≤ c) (hG : Gl 1 w) (hf : fineA l h = false) :
    Calls Tryd.prog 56 #[.slice A l.length c, .int .i64 h] w fun e w' => e = .returned (.tuple #[.slice none 0 0, .int .i64 130]) ∧ Below w.heap.size w w' := by
  obtain ⟨a, ha⟩ := hG.1
  have HO := Lib.hid (open_no A c l h w a hr hc hf ha)
  clear hr hc hG hf
  go_enter Tryd.func56, Tryd.ntmps56
  go_wp2_with (first | (go_at_call 83; refine HO.out.mono ?_; rintro e w1 ⟨rfl, hb⟩; have HB := Aside0.mk hb; have ha1 := pw_cell_below hb ha; clear hb) | (go_at_call 84; refine (told_fill a _ ha1).mono ?_; rintro e w2 ⟨rfl, rfl⟩))
  go_ret2
  exact ⟨rfl, HB.out⟩

theorem cell_three_new (w : World) (x y z : Value) (t : TypeId) : ∀ j u, [x, y, z][j]? = some u → (w.alloc (.cells #[x, y, z] t)).cell? ((⟨w.heap.size, 0, none⟩ : Addr).add j) = some u := by
  intro j u hj
  have hb := World.alloc_heap_new w (.cells #[x, y, z] t)
  match j, hj with
  | 0, hj => exact (blk_cell hb 0).trans hj
  | 1, hj => exact (blk_cell hb 1).trans hj
  | 2, hj => exact (blk_cell hb 2).trans hj
theorem three_one (x y z : Int) : ∀ u ∈ [Value.int .i64 x, Value.int .i64 y, Value.int .i64 z], u.oneCell' = true := by
  intro u hu
  simp only [List.mem_cons, List.not_mem_nil, or_false] at hu
  rcases hu with rfl | rfl | rfl <;> rfl

set_option maxHeartbeats 4000000 in
set_option maxRecDepth 100000 in
theorem fill_yes (A : Option Addr) (c : Nat) (l : List S32) (h : Int) (w : World) (hr : Kd.C k32 w A l.length l) (hc : l.length ≤ c) (hf : fineA l h = true) :
    Calls Tryd.prog 56 #[.slice A l.length c, .int .i64 h] w fun e w' => ∃ v : Value, e = .returned (.tuple #[v, .int .i64 0]) ∧ Kd.R k73 73 w' w.heap.size (fun _ => True) v ((fillA l h).map (ColA.out l)) ∧ Below w.heap.size w w' := by
  have hf' := hf
  unfold fineA at hf'
  simp only [Bool.and_eq_true, decide_eq_true_eq] at hf'
  obtain ⟨⟨hl, h0⟩, h1⟩ := hf'
  have hln := len_of hl
  have HO := Lib.hid (open_yes A c l h w hr hc hf)
  clear hr hc hf
  refine (callsIn_wide (n := 3)).1 ?_
  refine callsIn_of_wp_marks Tryd.func56 rfl trivial ?_ rfl
  simp only [Tryd.ntmps56, List.size_toArray, List.length_cons, List.length_nil, Nat.reduceAdd, Nat.reduceSub, Array.replicate_succ, Array.replicate_zero, List.push_toArray, List.append_toArray, List.nil_append, List.cons_append]
  gi_wp2_with (first | (refine ⟨trivial, ?_⟩; gi_at_call 83; refine (callsIn_wide.2 HO.out).mono ?_; rintro e w1 ⟨g, rfl, hF, hg, hb⟩; have HF := Aside0.mk hF; have HB := Aside0.mk hb; clear hb hF) | (refine ⟨trivial, ?_⟩; gi_at_call 85; refine (callsIn_wide.2 (cols_calls _ _)).mono ?_; rintro e w2 ⟨rfl, rfl⟩))
  have hF := HF.out
  have hB := HB.out
  obtain ⟨W0, hW0⟩ : ∃ W0, (w1.alloc (.cells #[.slice none 0 0] 69)).alloc (.cells #[.pointer (some ⟨g, 0, none⟩)] 113) = W0 := ⟨_, rfl⟩
  have bO : Boxed W0 w1.heap.size 69 (.slice none 0 0) := hW0 ▸ (Boxed.new w1 69 _).alloc _
  have bN : Boxed W0 (w1.heap.size + 1) 113 (.pointer (some ⟨g, 0, none⟩)) := by
    have := Boxed.new (w1.alloc (.cells #[.slice none 0 0] 69)) 113 (.pointer (some ⟨g, 0, none⟩))
    rw [World.size_alloc] at this
    exact hW0 ▸ this
  have hsz : W0.heap.size = w1.heap.size + 2 := by rw [← hW0]; simp
  have hb0 : Below w1.heap.size w1 W0 := hW0 ▸ below_alloc (below_alloc (Below.refl _ w1) _) _
  rw [hW0]
  clear hW0
  have hi73 := info73
  obtain ⟨i0, hi, hz0, hz1, hz2⟩ : ∃ i0, Tryd.prog.info? 73 = some i0 ∧ i0.zero = some (.agg #[.int .i64 0, .int .i64 0, .int .i64 0]) ∧ i0.size = 3 ∧ i0.bytes = 24 := by
    cases hx : Tryd.prog.info? 73 with
    | none => rw [hx] at hi73; cases hi73
    | some i0 =>
      rw [hx] at hi73
      simp only [Option.map_some, Option.some.injEq, Prod.mk.injEq] at hi73
      exact ⟨i0, rfl, hi73.1, hi73.2.1, hi73.2.2⟩
  clear hi73
  refine wpIn_rangeFunc_ownH rfl (by omega) (gf := 103) (lb := #[.pointer (some ⟨w1.heap.size + 1, 0, none⟩)]) rfl trivial (enters_of Tryd.func103 (by kernel_rfl) rfl)
    (encs := fun x : Cv => #[Cv.enc x]) (Kp := KpC w1.heap.size) (S := fun ys => ys = cvsA l h) (Sp := fun pre => pre <+: cvsA l h) (N := (cvsA l h).length)
    (w0 := W0) (cols_stops 2 (by omega) (w1.heap.size + 1) w1.heap.size g l hl h h0 h1 W0 (by omega) bN w1 rfl hb0 hF) KpC.t (KpC.b (n₀ := w1.heap.size) (w := W0) (by omega)) (Below.refl _ _) (fun _ => rfl)
    (fun pre W => (∃ v, Boxed W w1.heap.size 69 v ∧ W.ownsRow w1.heap.size 73 3 v pre.length (outC pre) ∧ True) ∧ Below w1.heap.size W0 W)
    (fun _ _ _ => False)
    (OwnFrom.and (Own.from (holdsRow_own w1.heap.size w1.heap.size 69 73 3 (fun s : List Cv => s.length) outC (fun _ _ => True)) _) (ownFrom_below (by omega) (by omega)))
    (fun _ _ _ _ _ hs _ _ => hs)
    ⟨⟨_, bO, own_nil _ _ _ _, trivial⟩, Below.refl _ _⟩
    (fun x a' W => ∃ Bx, w1.heap.size < Bx ∧ W.heap[Bx]? = some (.cells #[.int .i64 x.f, .int .i64 x.t, .int .i64 x.H, .int .i64 x.o] 120 (0, 0)) ∧ a' = Act.mk #[Value.slice A l.length c, Value.int IntKind.i64 h, undef, undef, Value.slice none 0 0,
          Value.int IntKind.i64 0, Value.pointer (some { block := g, off := 0 }), Value.nilIface,
          Value.pointer (some { block := w1.heap.size, off := 0 }), Value.pointer (some { block := Bx, off := 0 }),
          Value.tuple #[Value.pointer (some { block := g, off := 0 }), Value.nilIface], Value.slice A l.length c,
          Value.int IntKind.i64 h, Value.tuple #[Value.pointer (some { block := g, off := 0 }), Value.nilIface],
          Value.pointer (some { block := g, off := 0 }), Value.nilIface, Value.nilIface, Value.bool false, undef, undef,
          Value.pointer (some { block := g, off := 0 }),
          Value.func (Fn.func 103) #[] #[Value.pointer (some { block := w1.heap.size + 1, off := 0 })], Cv.enc x, undef,
          undef, undef, undef, undef, undef] [])
    (fun x a' _ X Y row hs hg hr => by
      obtain ⟨Bx, h1, h2, h3⟩ := hs
      exact ⟨Bx, h1, (grownBy_keeps_cells hg (fun r e => (hr r e).2) h2 rfl).trans h2, h3⟩)
    ?assign ?body ?done ?stop
  case assign =>
    rintro l1 pre x W K ⟨⟨v, bv, hrow, _⟩, hB1⟩ hK
    have hsW := hB1.size
    dsimp only [Cv.enc] at hK ⊢
    gi_wp2
    refine hK _ _ ((KeepsOthers.alloc _ _).from _) (KpC.alloc W (by omega) _) ⟨⟨v, bv.alloc _, hrow.alloc _, trivial⟩, hB1.alloc (by omega) _⟩ ⟨W.heap.size, by omega, World.alloc_heap_new _ _, rfl⟩
  case body =>
    rintro l1 pre x a' W hl1 ⟨r, hr⟩ ⟨⟨v, bv, hrow, _⟩, hB1⟩ ⟨Bx, hBx, bX, rfl⟩ hlt
    have c0 := bv.cell
    have x0 : W.cell? ⟨Bx, 0, none⟩ = some (.int .i64 x.f) := (blk_cell bX 0).trans rfl
    have x1 : W.cell? ⟨Bx, 1, none⟩ = some (.int .i64 x.t) := (blk_cell bX 1).trans rfl
    have x2 : W.cell? ⟨Bx, 2, none⟩ = some (.int .i64 x.H) := (blk_cell bX 2).trans rfl
    have hsW := hB1.size
    have hcl := cvs_len l h
    have hm1 : pre.length + 1 ≤ maxLen := by unfold maxLen; omega
    have hm2 : (pre.length + 1) * 24 ≤ 140737488355328 := by omega
    have hm3 : ∀ o, w1.heap.size ≤ (W.alloc o).heap.size := fun o => by simp; omega
    gi_wp2_with (gi_at_builtin; refine wpListIn_append_own _ rfl _ _ 69 rfl w1.heap.size 73 i0 (.agg #[.int .i64 0, .int .i64 0, .int .i64 0]) 3 24 Tryd.underlying69 hi hz0 hz1 hz2 rfl (by decide) _ _ _ rfl (hrow.alloc _) ⟨W.heap.size, 0, none⟩ 1 1 [.int .i64 x.f, .int .i64 x.t, .int .i64 x.H] rfl rfl (cell_three_new _ _ _ _ _) (three_one _ _ _) hm1 hm2 (hm3 _) ?_; intro v' w2 hown' hgrow _; obtain ⟨g', cap', rfl⟩ := ownsRow_succ hown'; obtain ⟨hv1, hv2, hr2, hk2, hb2⟩ := bv.appended (by decide) hrow (by omega) (Nat.le_refl _) hown' hgrow; have hcol := appended_col (v' := .slice (some ⟨g', 0, none⟩) (pre.length + 1) cap') bv hrow hgrow; have hc1 := hv1.cell; have hf1 := hv1.frozen)
    refine ⟨hk2.from _, ⟨hb2, fun k cs q hq hk => hcol k cs q (by rcases hq with rfl | rfl <;> decide) (by rcases hq with rfl | rfl <;> decide) hk⟩, ⟨_, hv2, ?_, trivial⟩, hB1.trans hb2⟩
    rw [outC_snoc, List.length_append]
    exact hr2
  case done =>
    rintro D xs W hD rfl ⟨⟨v, bv, hrow, _⟩, hB1⟩ hKD
    have c0 := bv.cell
    have hR := out_R (ownsRow_putObj hrow (.deferred none) hKD rfl)
    rw [cvs_out] at hR
    have hB3 := Aside0.mk (hB1.mono (Nat.le_refl _))
    have hR1 := Aside0.mk hR
    clear hR hrow
    gi_wp2
    refine ⟨by simp, .inl ⟨_, _, rfl, run_takeDeferred hKD, ?_⟩⟩
    have hp := belowK_b (n₀ := w1.heap.size) (w := W0) (by omega) W D _ (.deferred none) (by omega) hKD rfl rfl
    refine ⟨_, results_tmp2 rfl _ _ _, v, rfl, Kd.R_lower hR1.out hB.size, hB.trans ((hb0.trans (hB3.out.trans hp)).mono hB.size)⟩
  case stop =>
    rintro D c' pre W _ _ h _
    exact h.elim

theorem fill_Fill.calls (A0 : Option Addr) (c0 : Nat) (l0 : List (S32)) (a1 : Int) (r1 : List (S73)) (r2 : Int) (w : World) (hr0 : Kd.C k32 w A0 l0.length l0) (hc0 : l0.length ≤ c0) (hG : Gl 1 w) (h : fill_Fill.f l0 a1 = some (r1, r2)) :
    Calls Tryd.prog 56 #[.slice A0 l0.length c0, .int .i64 a1] w fun e w' => ∃ v0_ : Value, e = .returned (.tuple #[v0_, .int .i64 r2]) ∧ Kd.R k73 73 w' w.heap.size (fun _ => True) v0_ r1 ∧ Below w.heap.size w w' := by
  unfold fill_Fill.f at h
  split at h
  · next hf =>
    cases h
    exact fill_yes A0 c0 l0 a1 w hr0 hc0 hf
  · next hf =>
    cases h
    refine (fill_no A0 c0 l0 a1 w hr0 hc0 hG (by simpa using hf)).mono ?_
    rintro e w' ⟨rfl, hb⟩
    exact ⟨_, rfl, Kd.R_nil _ _ _ _ _, hb⟩

end Go.Proofs.YtjpifknencfipaaDoor.P

namespace Go.Proofs.YtjpifknencfipaaDoor.P
open Go.RowKit Go.Shelf Go.Proofs.YtjpifknencfipaaDoorW.PrintWords Go.Proofs.YtjpifknencfipaaDoorW.PrintLast Go.Proofs.YtjpifknencfipaaDoorW.PrintMore
attribute [local go_sem] Oper.semAt_some

set_option maxHeartbeats 2000000 in
set_option maxRecDepth 100000 in
theorem short_no (A : Option Addr) (c : Nat) (l : List S32) (h : Int) (w : World) (hr : Kd.C k32 w A l.length l) (hc : l.length ≤ c) (hG : Gl 1 w) (hf : fineA l h = false) :
    Calls Tryd.prog 59 #[.slice A l.length c, .int .i64 h] w fun e w' => e = .returned (.tuple #[.int .i64 0, .bool false, .int .i64 130]) ∧ Below w.heap.size w w' := by
  obtain ⟨a, ha⟩ := hG.1
  have HO := Lib.hid (open_no A c l h w a hr hc hf ha)
  clear hr hc hG hf
  go_enter Tryd.func59, Tryd.ntmps59
  go_wp2_with (first | (go_at_call 83; refine HO.out.mono ?_; rintro e w1 ⟨rfl, hb⟩; have HB := Aside0.mk hb; have ha1 := pw_cell_below hb ha; clear hb) | (go_at_call 84; refine (told_fill a _ ha1).mono ?_; rintro e w2 ⟨rfl, rfl⟩))
  refine bodyPost_ret (results_tmp3 rfl _ _ _) rfl ?_
  exact ⟨rfl, HB.out⟩

/-- The round's step. -/
def leastC (n : Int) (c : Cv) : Int := if c.o ≠ 0 ∧ (n = 0 ∨ c.o < n) then c.o else n
def leastCs (pre : List Cv) : Int := pre.foldl leastC 0
theorem leastCs_snoc (pre : List Cv) (x : Cv) : leastCs (pre ++ [x]) = leastC (leastCs pre) x := by simp [leastCs]
theorem leastA_eq (l : List S32) : ∀ (cs : List ColA) (n : Int), leastA l n cs = (cs.map (ColA.cv l)).foldl leastC n
  | [], _ => rfl
  | c :: cs, n => by
    unfold leastA
    rw [leastA_eq l cs]
    rfl
theorem short_eq (l : List S32) (h : Int) : leastCs (cvsA l h) = shortA l h := (leastA_eq l (fillA l h) 0).symm

set_option maxHeartbeats 4000000 in
set_option maxRecDepth 100000 in
theorem short_yes (A : Option Addr) (c : Nat) (l : List S32) (h : Int) (w : World) (hr : Kd.C k32 w A l.length l) (hc : l.length ≤ c) (hf : fineA l h = true) :
    Calls Tryd.prog 59 #[.slice A l.length c, .int .i64 h] w fun e w' => e = .returned (.tuple #[.int .i64 (shortA l h), .bool (decide (0 < shortA l h)), .int .i64 0]) ∧ Below w.heap.size w w' := by
  have hf' := hf
  unfold fineA at hf'
  simp only [Bool.and_eq_true, decide_eq_true_eq] at hf'
  obtain ⟨⟨hl, h0⟩, h1⟩ := hf'
  have hln := len_of hl
  have HO := Lib.hid (open_yes A c l h w hr hc hf)
  clear hr hc hf
  refine (callsIn_wide (n := 3)).1 ?_
  refine callsIn_of_wp_marks Tryd.func59 rfl trivial ?_ rfl
  simp only [Tryd.ntmps59, List.size_toArray, List.length_cons, List.length_nil, Nat.reduceAdd, Nat.reduceSub, Array.replicate_succ, Array.replicate_zero, List.push_toArray, List.append_toArray, List.nil_append, List.cons_append]
  gi_wp2_with (first | (refine ⟨trivial, ?_⟩; gi_at_call 83; refine (callsIn_wide.2 HO.out).mono ?_; rintro e w1 ⟨g, rfl, hF, hg, hb⟩; have HF := Aside0.mk hF; have HB := Aside0.mk hb; clear hb hF) | (refine ⟨trivial, ?_⟩; gi_at_call 85; refine (callsIn_wide.2 (cols_calls _ _)).mono ?_; rintro e w2 ⟨rfl, rfl⟩))
  have hF := HF.out
  have hB := HB.out
  obtain ⟨W0, hW0⟩ : ∃ W0, (w1.alloc (.cells #[.int .i64 0] 2)).alloc (.cells #[.pointer (some ⟨g, 0, none⟩)] 113) = W0 := ⟨_, rfl⟩
  have bO : Boxed W0 w1.heap.size 2 (.int .i64 0) := hW0 ▸ (Boxed.new w1 2 _).alloc _
  have bN : Boxed W0 (w1.heap.size + 1) 113 (.pointer (some ⟨g, 0, none⟩)) := by
    have := Boxed.new (w1.alloc (.cells #[.int .i64 0] 2)) 113 (.pointer (some ⟨g, 0, none⟩))
    rw [World.size_alloc] at this
    exact hW0 ▸ this
  have hsz : W0.heap.size = w1.heap.size + 2 := by rw [← hW0]; simp
  have hb0 : Below w1.heap.size w1 W0 := hW0 ▸ below_alloc (below_alloc (Below.refl _ w1) _) _
  rw [hW0]
  clear hW0
  refine wpIn_rangeFunc_ownH rfl (by omega) (gf := 103) (lb := #[.pointer (some ⟨w1.heap.size + 1, 0, none⟩)]) rfl trivial (enters_of Tryd.func103 (by kernel_rfl) rfl)
    (encs := fun x : Cv => #[Cv.enc x]) (Kp := KpC w1.heap.size) (S := fun ys => ys = cvsA l h) (Sp := fun pre => pre <+: cvsA l h) (N := (cvsA l h).length)
    (w0 := W0) (cols_stops 2 (by omega) (w1.heap.size + 1) w1.heap.size g l hl h h0 h1 W0 (by omega) bN w1 rfl hb0 hF) KpC.t (KpC.b (n₀ := w1.heap.size) (w := W0) (by omega)) (Below.refl _ _) (fun _ => rfl)
    (fun pre W => Boxed W w1.heap.size 2 (.int .i64 (leastCs pre)) ∧ Below w1.heap.size W0 W)
    (fun _ _ _ => False)
    (OwnFrom.and (Own.from (boxed_own w1.heap.size 2 (fun s => .int .i64 (leastCs s))) _) (ownFrom_below (by omega) (by omega)))
    (fun _ _ _ _ _ hs _ _ => hs)
    ⟨bO, Below.refl _ _⟩
    (fun x a' W => ∃ Bx, w1.heap.size < Bx ∧ W.heap[Bx]? = some (.cells #[.int .i64 x.f, .int .i64 x.t, .int .i64 x.H, .int .i64 x.o] 120 (0, 0)) ∧ a' = Act.mk #[Value.slice A l.length c, Value.int IntKind.i64 h, undef, undef, Value.int IntKind.i64 0, Value.bool false,
          Value.int IntKind.i64 0, Value.pointer (some { block := g, off := 0 }), Value.nilIface,
          Value.pointer (some { block := w1.heap.size, off := 0 }), Value.pointer (some { block := Bx, off := 0 }), undef,
          Value.tuple #[Value.pointer (some { block := g, off := 0 }), Value.nilIface], Value.slice A l.length c,
          Value.int IntKind.i64 h, Value.tuple #[Value.pointer (some { block := g, off := 0 }), Value.nilIface],
          Value.pointer (some { block := g, off := 0 }), Value.nilIface, Value.nilIface, Value.bool false, undef, undef,
          Value.pointer (some { block := g, off := 0 }),
          Value.func (Fn.func 103) #[] #[Value.pointer (some { block := w1.heap.size + 1, off := 0 })], Cv.enc x, undef, undef, undef, undef, undef, undef, undef, undef, undef, undef, undef, undef, undef, undef, undef, undef, undef, undef, undef, undef, undef] [])
    (fun x a' _ X Y row hs hg hr => by
      obtain ⟨Bx, h1, h2, h3⟩ := hs
      exact ⟨Bx, h1, (grownBy_keeps_cells hg (fun r e => (hr r e).2) h2 rfl).trans h2, h3⟩)
    ?assign ?body ?done ?stop
  case assign =>
    rintro l1 pre x W K ⟨bv, hB1⟩ hK
    have hsW := hB1.size
    dsimp only [Cv.enc] at hK ⊢
    gi_wp2
    refine hK _ _ ((KeepsOthers.alloc _ _).from _) (KpC.alloc W (by omega) _) ⟨bv.alloc _, hB1.alloc (by omega) _⟩ ⟨W.heap.size, by omega, World.alloc_heap_new _ _, rfl⟩
  case body =>
    rintro l1 pre x a' W hl1 ⟨r, hr⟩ ⟨bv, hB1⟩ ⟨Bx, hBx, bX, rfl⟩ hlt
    have c0 := bv.cell
    have f0 := bv.frozen
    have x0 : W.cell? ⟨Bx, 0, none⟩ = some (.int .i64 x.f) := (blk_cell bX 0).trans rfl
    have x1 : W.cell? ⟨Bx, 1, none⟩ = some (.int .i64 x.t) := (blk_cell bX 1).trans rfl
    have x2 : W.cell? ⟨Bx, 2, none⟩ = some (.int .i64 x.H) := (blk_cell bX 2).trans rfl
    have x3 : W.cell? ⟨Bx, 3, none⟩ = some (.int .i64 x.o) := (blk_cell bX 3).trans rfl
    have hlB := blk_lt bX
    have hlO := bv.lt
    have hsW := hB1.size
    have hkeep : ∀ (a' : Act) (tmp : Obj), leastC (leastCs pre) x = leastCs pre → ownPostG W0.heap.size (KpC w1.heap.size) (fun pre W => Boxed W w1.heap.size 2 (Value.int IntKind.i64 (leastCs pre)) ∧ Below w1.heap.size W0 W) (fun x x_1 x_2 => False) (pre ++ [x]) W Exit.normal a' (W.alloc tmp) := fun a' tmp e =>
      ⟨(KeepsOthers.alloc _ _).from _, KpC.alloc W (by omega) _, by rw [leastCs_snoc, e]; exact bv.alloc _, hB1.alloc (by omega) _⟩
    have hset : ∀ (a' : Act) (tmp : Obj), leastC (leastCs pre) x = x.o → ownPostG W0.heap.size (KpC w1.heap.size) (fun pre W => Boxed W w1.heap.size 2 (Value.int IntKind.i64 (leastCs pre)) ∧ Below w1.heap.size W0 W) (fun x x_1 x_2 => False) (pre ++ [x]) W Exit.normal a' ((W.setCell ⟨w1.heap.size, 0, none⟩ (.int .i64 x.o)).alloc tmp) := fun a' tmp e =>
      ⟨((KeepsOthers.setCell _ _ _).trans (KeepsOthers.alloc _ _)).from _, (KpC.set (Nat.le_refl _) bv (by decide) (by decide) 0 _).t (KpC.alloc _ (by simp; omega) _), by rw [leastCs_snoc, e]; exact (bv.set _).alloc _, (hB1.setCell (p := ⟨w1.heap.size, 0, none⟩) (Nat.le_refl _) _).alloc (by simp; omega) _⟩
    have HK := Lib.hid hkeep
    have HS := Lib.hid hset
    clear hkeep hset
    gi_wp2
    · rename_i q1
      exact HK.out _ _ (by unfold leastC; rw [if_neg (by omega)])
    · rename_i q1 q2
      exact HS.out _ _ (by unfold leastC; rw [if_pos (by omega)])
    · rename_i q1 q2 q3
      simp only [beq_iff_eq] at q3
      exact HS.out _ _ (by unfold leastC; rw [if_pos (by omega)])
    · rename_i q1 q2 q3
      try simp only [beq_iff_eq] at q3
      exact HK.out _ _ (by unfold leastC; rw [if_neg (by omega)])
  case done =>
    rintro D xs W hD rfl ⟨bv, hB1⟩ hKD
    have c0 := bv.cell
    rw [short_eq] at c0
    rename_i K1 hK1
    refine hK1 _ _ (wpIn_wide.2 ?_)
    go_wp2
    go_quiet (fail)
    go_wp2
    rename_i nq
    have hKD' : (W.drewN nq).heap[D]? = some (.deferred (some [])) := hKD
    refine ⟨by simp, .inl ⟨_, _, rfl, run_takeDeferred hKD', ?_⟩⟩
    have hp := belowK_b (n₀ := w1.heap.size) (w := W0) (by omega) (W.drewN nq) D _ (.deferred none) (by omega) hKD' rfl rfl
    exact ⟨_, results_tmp3 rfl _ _ _, rfl, hB.trans ((hb0.trans ((pw_below_drewN hB1 nq).trans hp)).mono hB.size)⟩
  case stop =>
    rintro D c' pre W _ _ h _
    exact h.elim

theorem fill_Short.calls (A0 : Option Addr) (c0 : Nat) (l0 : List (S32)) (a1 : Int) (r1 : Int) (r2 : Bool) (r3 : Int) (w : World) (hr0 : Kd.C k32 w A0 l0.length l0) (hc0 : l0.length ≤ c0) (hG : Gl 1 w) (h : fill_Short.f l0 a1 = some (r1, r2, r3)) :
    Calls Tryd.prog 59 #[.slice A0 l0.length c0, .int .i64 a1] w fun e w' => e = .returned (.tuple #[.int .i64 r1, .bool r2, .int .i64 r3]) ∧ Below w.heap.size w w' := by
  unfold fill_Short.f at h
  split at h
  · next hf =>
    cases h
    exact short_yes A0 c0 l0 a1 w hr0 hc0 hf
  · next hf =>
    cases h
    exact short_no A0 c0 l0 a1 w hr0 hc0 hG (by simpa using hf)

end Go.Proofs.YtjpifknencfipaaDoor.P
