/- slices.Clone at spans. Conditions: the slice reads as the list. -/
import Derived.Test.YtomgpbhkoellpaaDoorDo
import Derived.Lib.SliceRun
set_option linter.unusedVariables false
set_option linter.unusedSimpArgs false
namespace Go.Proofs.YtomgpbhkoellpaaDoor.P
open Go.RowKit Go.Proofs.YtomgpbhkoellpaaDoorW.PrintWords Go.Proofs.YtomgpbhkoellpaaDoorW.PrintLast Go.Proofs.YtomgpbhkoellpaaDoorW.PrintMore

theorem cellsB_get : ∀ (l : List S24) (i : Nat), i < l.length → (cellsB l)[i * 2]? = some (.int .i64 (l.getD i z24).f0) ∧ (cellsB l)[i * 2 + 1]? = some (.int .i64 (l.getD i z24).f1)
  | [], i, h => by simp at h
  | x :: xs, 0, h => ⟨rfl, rfl⟩
  | x :: xs, i + 1, h => by
    have ih := cellsB_get xs i (by simpa using h)
    rw [show (i + 1) * 2 = i * 2 + 1 + 1 by omega]
    exact ⟨by simpa [cellsB] using ih.1, by simpa [cellsB] using ih.2⟩
theorem cells_of_C {w : World} {ad : Addr} {l : List S24} (h : Kd.C k24 w (some ad) l.length l) : ∀ j u, (cellsB l)[j]? = some u → w.cell? (ad.add j) = some u := by
  intro j u hj
  have hjl := (List.getElem?_eq_some_iff.1 hj).1
  rw [cellsB_len] at hjl
  obtain ⟨q, hq⟩ : ∃ q, j / 2 = q := ⟨_, rfl⟩
  obtain ⟨ad', e, x0, x1⟩ := at_T24 h (q : Int) (by omega) (by omega)
  cases e
  simp only [Int.toNat_natCast] at x0 x1
  have hg := cellsB_get l q (by omega)
  have hx : rd_T24 l (q : Int) = l.getD q z24 := by simp [rd_T24]
  rw [hx] at x0 x1
  rcases (by omega : j = q * 2 ∨ j = q * 2 + 1) with e2 | e2
  · subst e2
    rw [hg.1] at hj
    cases hj
    exact x0
  · subst e2
    rw [hg.2] at hj
    cases hj
    rw [← add_field _ _ 1 (by omega)] at x1
    exact x1
theorem cellsB_one : ∀ (l : List S24), ∀ u ∈ cellsB l, u.oneCell' = true
  | [], u, h => by cases h
  | x :: xs, u, h => by
    have h' : u = .int .i64 x.f0 ∨ u = .int .i64 x.f1 ∨ u ∈ cellsB xs := by simpa [cellsB] using h
    rcases h' with rfl | rfl | h'
    · rfl
    · rfl
    · exact cellsB_one xs u h'
theorem info24' : ∃ i0, Tryd.prog.info? 24 = some i0 ∧ i0.zero = some (.agg #[.int .i64 0, .int .i64 0]) ∧ i0.size = 2 ∧ i0.bytes = 16 := by
  have hi24 := info24
  cases hx : Tryd.prog.info? 24 with
  | none => rw [hx] at hi24; cases hi24
  | some i0 =>
    rw [hx] at hi24
    simp only [Option.map_some, Option.some.injEq, Prod.mk.injEq] at hi24
    exact ⟨i0, rfl, hi24.1, hi24.2.1, hi24.2.2⟩

set_option maxHeartbeats 2000000 in
set_option maxRecDepth 100000 in
theorem clone_calls (A : Option Addr) (c : Nat) (l : List S24) (w : World) (hr : Kd.C k24 w A l.length l) (hc : l.length ≤ c) (hlen : l.length ≤ 1000) :
    Calls Tryd.prog 28 #[.slice A l.length c] w fun e w' => ∃ v, e = .returned v ∧ w'.ownsRow w.heap.size 24 2 v l.length (cellsB l) ∧ Below w.heap.size w w' := by
  obtain ⟨i0, hi, hz0, hz1, hz2⟩ := info24'
  have q22 : ∀ (w : World) (a : Option Addr) (n c n' c' : Nat), (binOp .eql 22 (.slice a n c) (.slice none n' c')).run Tryd.prog w = .ok (.bool a.isNone) w := fun w a n c n' c' => Lib.run_eql_slice_nil w _ _ a n c n' c' Tryd.underlying22
  cases A with
  | none =>
    have h0 : l = [] := by
      rcases Nat.eq_zero_or_pos l.length with h | h
      · exact List.eq_nil_of_length_eq_zero h
      · obtain ⟨ad, e, _⟩ := hr.2.2 h
        cases e
    subst h0
    clear hr
    go_enter Tryd.func28, Tryd.ntmps28
    go_wp2
    go_ret
    exact ⟨_, rfl, World.ownsRow_nil _ _ _ _, Below.refl _ _⟩
  | some ad =>
    have HC := Aside0.mk (cells_of_C hr)
    have hb1 : 0 + l.length ≤ maxLen := by unfold maxLen; omega
    have hb2 : (0 + l.length) * 16 ≤ 140737488355328 := by omega
    clear hr
    go_enter Tryd.func28, Tryd.ntmps28
    go_wp2_with (at_builtin; refine wpList_append_own _ rfl _ _ 22 rfl w.heap.size 24 i0 (.agg #[.int .i64 0, .int .i64 0]) 2 16 Tryd.underlying22 hi hz0 hz1 hz2 rfl (by decide) _ _ _ rfl (World.ownsRow_made w #[] 0 (Nat.le_refl _) (Nat.zero_le _) rfl) ad l.length c (cellsB l) rfl (cellsB_len l) (fun j u hj => cell_alloc' (HC.out j u hj) _) (cellsB_one l) hb1 hb2 (by simp) ?_; intro v' w1 hown hgrow _)
    go_ret
    refine ⟨v', rfl, ?_, ?_⟩
    · rw [Nat.zero_add] at hown
      simpa using hown
    · exact ((Below.refl _ w).alloc (Nat.le_refl _) _).grown hgrow (by simp) (fun k hk => by
        have hk' : (Value.slice (some ⟨w.heap.size, 0, none⟩) 0 0).ownBlock = some k := hk
        have : w.heap.size = k := by simpa [Value.ownBlock] using hk'
        omega)

end Go.Proofs.YtomgpbhkoellpaaDoor.P
