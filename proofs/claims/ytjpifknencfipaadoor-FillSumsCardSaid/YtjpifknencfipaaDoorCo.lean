/- fill's columns as an iterator: its contract for every loop body that leaves alone what lay below the loop and each column's block. Conditions: a filler in memory. -/
import Derived.RangeFuncNested
import Derived.RangeFuncBound
import Derived.RangeFuncCalls
import Derived.RangeFuncLeaves
import Derived.RangeFuncBox
import Derived.Shelf.Abstract
import Derived.Shelf.RegionOpen
import Derived.WalkKit
import Derived.OwnWalkIn
import Derived.TacticsInMore
import Derived.LoopNIn
import Derived.LoopIn
import Derived.Maps.AppendAt
import Derived.Test.YtjpifknencfipaaDoorOp
set_option linter.unusedVariables false
set_option linter.unusedSimpArgs false
namespace Go.Proofs.YtjpifknencfipaaDoor.P
open Go.RowKit Go.Shelf Go.Proofs.YtjpifknencfipaaDoorW.PrintWords Go.Proofs.YtjpifknencfipaaDoorW.PrintLast Go.Proofs.YtjpifknencfipaaDoorW.PrintMore
attribute [local go_sem] Oper.semAt_some

theorem wpIn_scope_wide {n : Nat} {P : Program} {c : Code} {Q : Exit → Act → World → Prop} {a : Act} {w : World} (h : c.wpIn Fence.wide n P (Exit.noGoto Q) a w) : (Code.scope c).wpIn Fence.wide n P Q a w :=
  wpIn_wide.2 (wp_scope_straight (wpIn_wide.1 h))

/-- A column's value. -/
structure Cv where
  f : Int
  t : Int
  H : Int
  o : Int
def Cv.enc (x : Cv) : Value := .agg #[.int .i64 x.f, .int .i64 x.t, .int .i64 x.H, .int .i64 x.o]
def ColA.cv (l : List S32) (c : ColA) : Cv := ⟨c.a, c.b, hiA l c.a c.b, c.over l⟩
def cvsA (l : List S32) (h : Int) : List Cv := (fillA l h).map (ColA.cv l)

/-- What a round keeps: what lay below the loop, and blocks of columns. -/
structure KpC (n₀ : Nat) (W W' : World) : Prop where
  bel : Below n₀ W W'
  col : ∀ (k : Nat) (cs : Array Value) (q : TypeId), (q = 120 ∨ q = 113) → W.heap[k]? = some (Obj.cells cs q (0, 0)) → W'.heap[k]? = some (Obj.cells cs q (0, 0))
theorem KpC.t {n₀ : Nat} {A B C : World} (h : KpC n₀ A B) (k : KpC n₀ B C) : KpC n₀ A C := ⟨h.bel.trans k.bel, fun i cs q hq hi => k.col i cs q hq (h.col i cs q hq hi)⟩
theorem KpC.b {n₀ : Nat} {w : World} (hn : n₀ ≤ w.heap.size) (W : World) (l : Nat) (o o' : Obj) (hl : w.heap.size ≤ l) (h : W.heap[l]? = some o) (hc : o.isCells = false) (hw : o.isWalk = false) : KpC n₀ W (W.putObj l o') :=
  ⟨belowK_b hn W l o o' hl h hc hw, fun k cs q hq hk => (World.putObj_heap_other (fun e => by
    subst e
    rw [h] at hk
    cases hk
    cases hc)).trans hk⟩

theorem Filler.below' {l : List S32} {h : Int} {g n₀ : Nat} {w w1 : World} (H : Filler l h g w) (hg : g < n₀) (hA : ∀ A c, w.cell? ⟨g, 0, none⟩ = some (.slice A l.length c) → Kd.C k32 w A l.length l → Kd.C k32 w1 A l.length l) (hb : Below n₀ w w1) : Filler l h g w1 := by
  obtain ⟨⟨A, c, h1, h2, h3⟩, h4⟩ := H
  exact ⟨⟨A, c, (hb.cell (p := ⟨g, 0, none⟩) hg).trans h1, h2, hA A c h1 h3⟩, (hb.cell (p := ⟨g, 1, none⟩) hg).trans h4⟩

theorem cols_len (l : List S32) (h : Int) : ∀ n a, (colsA l h n a).length ≤ n
  | 0, _ => by simp [colsA]
  | n + 1, a => by
    unfold colsA
    split
    · have := cols_len l h n (endA l h a).1
      simp
      exact this
    · simp
theorem cvs_len (l : List S32) (h : Int) : (cvsA l h).length ≤ l.length := by
  unfold cvsA fillA
  rw [List.length_map]
  exact cols_len l h l.length 0

theorem scan_bounds (l : List S32) (h : Int) (a : Nat) : ∀ n i, i ≤ (scanA l h a n i).1 ∧ (scanA l h a n i).1 ≤ i + n
  | 0, i => by simp [scanA]
  | n + 1, i => by
    unfold scanA
    split
    · simp
    · split
      · simp
      · have := scan_bounds l h a n (i + 1)
        omega
theorem end_bounds (l : List S32) (h : Int) (a : Nat) (ha : a < l.length) : a < (endA l h a).1 ∧ (endA l h a).1 ≤ l.length := by
  have hs := scan_bounds l h a (l.length - (a + 1)) (a + 1)
  unfold endA
  simp only []
  split
  · have := back_bounds l a (scanA l h a (l.length - (a + 1)) (a + 1)).1 (scanA l h a (l.length - (a + 1)) (a + 1)).1 (by omega) (by omega) (Nat.le_refl _)
    simp only []
    omega
  · simp only []
    omega

/-- How far the columns have come. -/
def Come (l : List S32) (h : Int) (pre : List Cv) (a : Nat) : Prop := ∃ n, cvsA l h = pre ++ (colsA l h n a).map (ColA.cv l) ∧ l.length - a ≤ n ∧ a ≤ l.length
theorem Come.start (l : List S32) (h : Int) : Come l h [] 0 := ⟨l.length, rfl, by omega, by omega⟩
theorem Come.next {l : List S32} {h : Int} {pre : List Cv} {a : Nat} (H : Come l h pre a) (ha : a < l.length) : Come l h (pre ++ [(colA l h a).cv l]) (colA l h a).b ∧ pre.length < (cvsA l h).length ∧ pre ++ [(colA l h a).cv l] <+: cvsA l h := by
  obtain ⟨n, h1, h2, h3⟩ := H
  obtain ⟨n, rfl⟩ : ∃ m, n = m + 1 := ⟨n - 1, by omega⟩
  unfold colsA at h1
  rw [if_pos ha] at h1
  have hb := end_bounds l h a ha
  refine ⟨⟨n, ?_, ?_, ?_⟩, ?_, ?_⟩
  · rw [h1]
    simp [colA]
  · simp only [colA]
    omega
  · exact hb.2
  · rw [h1]
    simp
  · rw [h1]
    exact ⟨(colsA l h n (endA l h a).1).map (ColA.cv l), by simp⟩
theorem Come.done {l : List S32} {h : Int} {pre : List Cv} {a : Nat} (H : Come l h pre a) (ha : ¬ a < l.length) : pre = cvsA l h := by
  obtain ⟨n, h1, h2, h3⟩ := H
  rw [h1]
  cases n with
  | zero => simp [colsA]
  | succ n => simp [colsA, ha]

set_option maxRecDepth 100000 in
set_option maxHeartbeats 2000000 in
theorem cols1_in (n : Nat) (hn : 1 ≤ n) (lp Bn n₀ g : Nat) (l : List S32) (hl : rightA l = true) (h : Int) (h0 : 0 ≤ h) (h1 : h ≤ 2199023255552) (J Jx : List Cv → World → Prop) (W : World) (hJ : AbidesFrom W.heap.size J)
    (hY : ∀ pre x W, J pre W → pre.length < (cvsA l h).length → YieldAt Fence.wide (n - 1) Tryd.prog lp #[Cv.enc x] W fun e W' =>
      (e = .returned (.bool true) ∧ J (pre ++ [x]) W' ∧ KpC n₀ W W') ∨ (e = .returned (.bool false) ∧ Jx (pre ++ [x]) W'))
    (hBn : W.heap[Bn]? = some (.cells #[.pointer (some ⟨g, 0, none⟩)] 113 (0, 0))) (w0 : World) (hw0 : w0.heap.size = n₀) (hWb : Below n₀ w0 W) (hF : Filler l h g w0) (hj : J [] W) :
    CallsIn Fence.wide n Tryd.prog 103 #[.func (.yield lp) #[] #[], .pointer (some ⟨Bn, 0, none⟩)] W fun e W' => (∃ v, e = .returned v) ∧
      ((∃ ys, ys = cvsA l h ∧ J ys W') ∨ (∃ pre, pre <+: cvsA l h ∧ Jx pre W')) := by
  refine callsIn_of_wp Tryd.func103 rfl trivial ?_ rfl
  simp only [Tryd.ntmps103, List.size_toArray, List.length_cons, List.length_nil, Nat.reduceAdd, Nat.reduceSub, Array.replicate_succ, Array.replicate_zero, List.push_toArray, List.append_toArray, List.nil_append, List.cons_append]
  gi_wp2
  refine wpIn_scope_wide ?_
  gi_wp2
  refine wpIn_label ?_
  gi_wp2
  gi_loopw [3] (fun p wr => ∃ (a : Nat) (pre : List Cv), p = .int .i64 a ∧ Aside0 (Come l h pre a) ∧ Aside0 (J pre wr) ∧ Below n₀ W wr ∧ wr.heap[Bn]? = some (.cells #[.pointer (some ⟨g, 0, none⟩)] 113 (0, 0))) (fun p _ => l.length - (intOf p).toNat)
  case atStart => exact ⟨0, [], rfl, ⟨Come.start l h⟩, ⟨hj⟩, Below.refl _ _, hBn⟩
  case round =>
    obtain ⟨a, pre, rfl, HC, HJ, hWr, hBr0⟩ := hrel
    have hFr : Filler l h g wr := hF.below (by rw [hw0]; exact hWb.trans hWr)
    have hBr : wr.cell? ⟨Bn, 0, none⟩ = some (.pointer (some ⟨g, 0, none⟩)) := (blk_cell hBr0 0).trans rfl
    have HBr := Aside0.mk hBr0
    clear hBr0
    have hlen := len_of hl
    have haL : a ≤ l.length := HC.out.choose_spec.2.2
    by_cases hlt : a < l.length
    · have hnext := Lib.hid (next_calls l hl h h0 h1 g a wr hFr.1 hFr.2 hlt)
      obtain ⟨⟨A, c, hc, hcl, hK⟩, hh⟩ := hFr
      have hgl : g < wr.heap.size := World.block_lt_of_cell? wr _ hc
      have hBl : Bn < wr.heap.size := World.block_lt_of_cell? wr _ hBr
      clear hK
      obtain ⟨hcome, hplen, hpre⟩ := HC.out.next hlt
      have hcb := end_bounds l h a hlt
      have hcb1 : (colA l h a).b = (endA l h a).1 := rfl
      rw [← hcb1] at hcb
      obtain ⟨B, hBe⟩ : ∃ B, (colA l h a).b = B := ⟨_, rfl⟩
      obtain ⟨H, hHe⟩ : ∃ H, hiA l a (colA l h a).b = H := ⟨_, rfl⟩
      obtain ⟨o, hoe⟩ : ∃ o, (colA l h a).over l = o := ⟨_, rfl⟩
      have hx : (colA l h a).cv l = (⟨a, B, H, o⟩ : Cv) := by
        unfold ColA.cv
        rw [← hBe, ← hHe, ← hoe]
        rfl
      rw [hx] at hcome hpre
      rw [hBe] at hcome hcb
      rw [hHe, hoe, hBe] at hnext
      have HC2 := Lib.hid hcome
      have HP := Lib.hid hpre
      have HL := Lib.hid hplen
      have hB0 : (0 : Int) ≤ B := by omega
      have hcbl := hcb.1
      clear hcome hplen hpre HC hx hBe hHe hoe hcb1
      gi_wp2_with (refine ⟨trivial, ?_⟩; gi_at_call 104; refine (callsIn_wide.2 hnext.out).mono ?_; rintro e w1 ⟨rfl, hb⟩; have hJ2 := hJ pre wr (w1.alloc (.cells #[.int .i64 a, .int .i64 B, .int .i64 H, .int .i64 o] 120)) none HJ.out (grown_of_below (below_alloc hb _) none) (fun r e => by cases e); obtain ⟨fn, tmps, assign, body, hy, hR⟩ := hY pre (⟨a, B, H, o⟩ : Cv) _ hJ2 HL.out; dsimp only [Cv.enc] at hy; have HB := Aside0.mk hb; clear hb hJ2)
      refine hR.mono ?_
      rintro e W3 (⟨rfl, hJ3, hk3⟩ | ⟨rfl, hJx3⟩)
      · have hcol := hk3.col w1.heap.size #[.int .i64 a, .int .i64 B, .int .i64 H, .int .i64 o] 120 (.inl rfl) (heap_alloc_new w1 _)
        have hcp := Aside0.mk (hk3.col Bn _ 113 (.inr rfl) ((below_alloc HB.out (.cells #[.int .i64 a, .int .i64 B, .int .i64 H, .int .i64 o] 120)).block Bn (blk_lt HBr.out) |>.trans HBr.out))
        have hc1 : W3.cell? ⟨w1.heap.size, 1, none⟩ = some (.int .i64 B) := (blk_cell hcol 1).trans rfl
        have HWW := Aside0.mk (hWr.trans ((below_alloc HB.out (.cells #[.int .i64 a, .int .i64 B, .int .i64 H, .int .i64 o] 120)).mono (by have := hWb.size; have := hWr.size; omega)))
        have HJ3 := Aside0.mk hJ3
        have hb3 := hk3.bel
        clear hcol hJ3 hy hR
        gi_wp2
        go_roundw
        case rel => exact ⟨B, _, rfl, ⟨HC2.out⟩, HJ3, HWW.out.trans hb3, hcp.out⟩
        case measure => simp [intOf]; omega
      · have HJx := Aside0.mk hJx3
        clear hJx3 hy hR
        gi_wp2
        rw [Exit.noGoto_normal]
        go_end0
        exact ⟨⟨_, rfl⟩, .inr ⟨_, HP.out, HJx.out⟩⟩
    · have HD := Lib.hid (HC.out.done hlt)
      obtain ⟨⟨A, c, hc, hcl, hK⟩, hh⟩ := hFr
      clear hK
      gi_wp2
      rw [Exit.noGoto_normal]
      go_end0
      exact ⟨⟨_, rfl⟩, .inl ⟨pre, HD.out, HJ.out⟩⟩

/-- (*filler).columns: the receiver is boxed, the closure captures the box. -/
theorem cols_calls (g : Nat) (w : World) :
    Calls Tryd.prog 85 #[.pointer (some ⟨g, 0, none⟩)] w fun e w' => e = .returned (.func (.func 103) #[] #[.pointer (some ⟨w.heap.size, 0, none⟩)]) ∧ w.alloc (.cells #[.pointer (some ⟨g, 0, none⟩)] 113) = w' := by
  go_enter Tryd.func85, Tryd.ntmps85
  go_wp2
  go_ret
  exact ⟨rfl, rfl⟩

/-- The iterator's contract. -/
theorem cols_stops (n : Nat) (hn : 1 ≤ n) (Bn n₀ g : Nat) (l : List S32) (hl : rightA l = true) (h : Int) (h0 : 0 ≤ h) (h1 : h ≤ 2199023255552) (w : World) (hn0 : n₀ ≤ w.heap.size)
    (hBn : w.heap[Bn]? = some (.cells #[.pointer (some ⟨g, 0, none⟩)] 113 (0, 0))) (w0 : World) (hw0 : w0.heap.size = n₀) (hwb : Below n₀ w0 w) (hF : Filler l h g w0) :
    SeqStopsK Fence.wide n Tryd.prog 103 #[.pointer (some ⟨Bn, 0, none⟩)] (fun x : Cv => #[Cv.enc x]) (KpC n₀) (fun ys => ys = cvsA l h) (fun pre => pre <+: cvsA l h) (cvsA l h).length w := fun lp J Jx W hW hJ _ hY hj =>
  cols1_in n hn lp Bn n₀ g l hl h h0 h1 J Jx W hJ hY ((hW.block Bn (blk_lt hBn)).trans hBn) w0 hw0 (hwb.trans (hW.mono hn0)) hF hj

end Go.Proofs.YtjpifknencfipaaDoor.P
