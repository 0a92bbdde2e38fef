/- A loop over the columns that appends to a boxed row, or writes boxes: what a round keeps. Conditions: none. -/
import Derived.Test.YtjpifknencfipaaDoorCo
set_option linter.unusedVariables false
set_option linter.unusedSimpArgs false
namespace Go.Proofs.YtjpifknencfipaaDoor.P
open Go.RowKit Go.Shelf Go.Proofs.YtjpifknencfipaaDoorW.PrintWords Go.Proofs.YtjpifknencfipaaDoorW.PrintLast Go.Proofs.YtjpifknencfipaaDoorW.PrintMore

/-- An append to a boxed row, stored back: blocks of other types lie as they lay. -/
theorem appended_col {W w1 : World} {n₀ B : Nat} {t e : TypeId} {size : Nat} {v v' : Value} {k : Nat} {xs : List Value} {tmp : Obj}
    (hv : Boxed W B t v) (hrow : W.ownsRow n₀ e size v k xs) (hgrow : (W.alloc tmp).grownBy w1 v.ownBlock) (j : Nat) (cs : Array Value) (q : TypeId) (h1 : q ≠ t) (h2 : q ≠ e) (h : W.heap[j]? = some (Obj.cells cs q (0, 0))) :
    (w1.setCell ⟨B, 0, none⟩ v').heap[j]? = some (Obj.cells cs q (0, 0)) := by
  have hjB : j ≠ B := by
    rintro rfl
    rw [show W.heap[j]? = _ from hv] at h
    cases h
    exact h1 rfl
  have hjo : some j ≠ v.ownBlock := by
    intro e'
    rcases hrow.2 with ⟨rfl, _⟩ | ⟨g, cap, cur, rfl, hb, hgb, _⟩
    · simp [Value.ownBlock] at e'
    · obtain rfl : j = g := by simpa [Value.ownBlock] using e'
      rw [hgb] at h
      cases h
      exact h2 rfl
  have ha : (W.alloc tmp).heap[j]? = some (Obj.cells cs q (0, 0)) := (Below.heap_alloc W tmp j (blk_lt h)).trans h
  exact (Below.heap_setCell w1 ⟨B, 0, none⟩ v' j hjB).trans ((hgrow.block j (blk_lt ha) hjo).trans ha)
theorem KpC.alloc {n₀ : Nat} (W : World) (h : n₀ ≤ W.heap.size) (o : Obj) : KpC n₀ W (W.alloc o) := ⟨(Below.refl _ W).alloc h _, fun k cs q _ hk => (Below.heap_alloc W o k (blk_lt hk)).trans hk⟩
theorem KpC.set {n₀ B : Nat} {W : World} {t : TypeId} {cs : Array Value} (hB : n₀ ≤ B) (h : W.heap[B]? = some (.cells cs t (0, 0))) (h1 : t ≠ 120) (h2 : t ≠ 113) (j : Nat) (u : Value) : KpC n₀ W (W.setCell ⟨B, j, none⟩ u) :=
  ⟨(Below.refl _ W).setCell (p := ⟨B, j, none⟩) hB u, fun k cs' q hq hk => (Below.heap_setCell W ⟨B, j, none⟩ u k (by
    rintro rfl
    rw [h] at hk
    cases hk
    rcases hq with e | e
    · exact h1 e
    · exact h2 e)).trans hk⟩

/-- The cells of columns, as Fill writes them. -/
def outC : List Cv → List Value
  | [] => []
  | x :: xs => .int .i64 x.f :: .int .i64 x.t :: .int .i64 x.H :: outC xs
theorem outC_snoc : ∀ (pre : List Cv) (x : Cv), outC (pre ++ [x]) = outC pre ++ [.int .i64 x.f, .int .i64 x.t, .int .i64 x.H]
  | [], x => rfl
  | y :: ys, x => by
    show _ :: _ :: _ :: outC (ys ++ [x]) = _ :: _ :: _ :: (outC ys ++ _)
    rw [outC_snoc ys x]
def Cv.s (x : Cv) : S73 := ⟨x.f, x.t, x.H⟩
theorem outC_reps (w : World) (base : Nat) (ok : Nat → Prop) : ∀ pre : List Cv, Reps (k73.M w base ok) 3 (pre.map Cv.s) (outC pre)
  | [] => Reps.none _ _
  | x :: xs => Reps.c3 (k73_mkM w base ok x.s) (outC_reps w base ok xs)
theorem out_R {w : World} {n₀ : Nat} {v : Value} {pre : List Cv} (h : w.ownsRow n₀ 73 3 v pre.length (outC pre)) : Kd.R k73 73 w n₀ (fun _ => True) v (pre.map Cv.s) :=
  ⟨fun _ _ => trivial, outC pre, by rw [List.length_map]; exact h, outC_reps _ _ _ _⟩
theorem cvs_out (l : List S32) (h : Int) : (cvsA l h).map Cv.s = (fillA l h).map (ColA.out l) := by
  unfold cvsA
  rw [List.map_map]
  rfl

end Go.Proofs.YtjpifknencfipaaDoor.P
