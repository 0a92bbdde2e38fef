/- band.through: a band made of another one, by what each span makes of it; for whatever function that steps a cutter. Conditions: the slice reads as a list; the function steps a cutter in the call's own memory. -/
import Derived.Test.YtomgpbhkoellpaaDoorSp
set_option linter.unusedVariables false
set_option linter.unusedSimpArgs false
namespace Go.Proofs.YtomgpbhkoellpaaDoor.P
open Go.RowKit Go.Shelf Go.Proofs.YtomgpbhkoellpaaDoorW.PrintWords Go.Proofs.YtomgpbhkoellpaaDoorW.PrintLast Go.Proofs.YtomgpbhkoellpaaDoorW.PrintMore
attribute [local go_sem] Oper.semAt_some

theorem Fr.keeps {g : Nat} {v lv u : Value} {out : List S24} {n₀ : Nat} {W W' : World} (h : Fr g v W W') (hC : Cut n₀ g lv v out W) : KeepsOthers W W' :=
  ⟨h.size, fun k o hk ho => by
    refine (h.block k (Array.getElem?_eq_some_iff.1 hk).1 (fun e => ?_) (fun e => ?_)).trans hk
    · subst e
      rw [hC.cell] at hk
      cases hk
      cases ho
    · obtain ⟨cells, hc⟩ := own_typed hC.row k e.symm
      rw [hc] at hk
      cases hk
      cases ho⟩
/-- A cutter's cells abide what turns no cells. -/
theorem Cut.grown {n₀ g : Nat} {lv v : Value} {out : List S24} {W W' : World} {row : Option Nat} (hC : Cut n₀ g lv v out W) (hg : W.grownBy W' row) (hr : ∀ r, row = some r → ∃ o : Obj, W.heap[r]? = some o ∧ o.isCells = false) : Cut n₀ g lv v out W' :=
  ⟨hC.le, (grownBy_keeps_cells hg hr hC.cell rfl).trans hC.cell, own_move hC.row fun k hk => by
    obtain ⟨cells, hc⟩ := own_typed hC.row k hk
    exact grownBy_keeps_cells hg hr hc rfl⟩
theorem Cut.alloc {n₀ g : Nat} {lv v : Value} {out : List S24} {W : World} (hC : Cut n₀ g lv v out W) (o : Obj) : Cut n₀ g lv v out (W.alloc o) :=
  hC.grown (World.grownBy_alloc W o none) (fun r e => by cases e)
theorem Cut.putObj {n₀ g D : Nat} {lv v : Value} {out : List S24} {W : World} {o o' : Obj} (hC : Cut n₀ g lv v out W) (h : W.heap[D]? = some o) (hc : o.isCells = false) : Cut n₀ g lv v out (W.putObj D o') :=
  hC.grown (grownBy_putObj' W D o') (fun r e => by cases e; exact ⟨o, h, hc⟩)

/-- What a function handed to through does: it steps the cutter. -/
def DoesC (fd : Nat) (lb : Array Value) (stp : List S24 → S24 → List S24) (n₀ g : Nat) (lv : Value) (w0 : World) (M : Nat) : Prop :=
  ∀ (W : World) (v : Value) (out : List S24) (x : S24), Below n₀ w0 W → n₀ ≤ W.heap.size → Cut n₀ g lv v out W → out.length ≤ M →
    Calls Tryd.prog fd (#[.pointer (some ⟨g, 0, none⟩), S24.enc x] ++ lb) W fun e W' => e = .returned (.tuple #[]) ∧ ∃ v', Cut n₀ g lv v' (stp out x) W' ∧ Fr g v W W'

theorem foldl_len (stp : List S24 → S24 → List S24) (d : Nat) (hd : ∀ out x, (stp out x).length ≤ out.length + d) : ∀ (l : List S24) (out : List S24), (l.foldl stp out).length ≤ out.length + l.length * d
  | [], out => by simp
  | x :: xs, out => by
    have h1 := foldl_len stp d hd xs (stp out x)
    have h2 := hd out x
    simp only [List.foldl_cons, List.length_cons]
    have : (xs.length + 1) * d = xs.length * d + d := by rw [Nat.add_mul, Nat.one_mul]
    omega
theorem out_R {w : World} {n₀ : Nat} {v : Value} {out : List S24} (h : w.ownsRow n₀ 24 2 v out.length (cellsB out)) : Kd.R k24 24 w n₀ (fun _ => True) v out :=
  ⟨fun _ _ => trivial, cellsB out, h, by
    have : ∀ (l : List S24) (ok : Nat → Prop), Reps (k24.M w n₀ ok) 2 l (cellsB l) := by
      intro l ok
      induction l with
      | nil => exact Reps.none _ _
      | cons x xs ih => exact Reps.c2 (k24_mkM w n₀ ok x) ih
    exact this _ _⟩

set_option maxHeartbeats 4000000 in
set_option maxRecDepth 100000 in
theorem through_calls (fd : Nat) (lb : Array Value) (stp : List S24 → S24 → List S24) (d : Nat) (hd : ∀ out x, (stp out x).length ≤ out.length + d) (A : Option Addr) (c : Nat) (l : List S24) (w : World) (hr : Kd.C k24 w A l.length l) (hc : l.length ≤ c) (hlen : l.length ≤ 2000000)
    (hdo : ∀ g lv, DoesC fd lb stp w.heap.size g lv w (l.length * d)) (heg : ∀ args w, (callFunc fd args).run Tryd.prog w = .ok (.enter fd args) w) :
    Calls Tryd.prog 32 #[.slice A l.length c, .func (.func fd) #[] lb] w fun e w' => ∃ v, e = .returned v ∧ Kd.R k24 24 w' w.heap.size (fun _ => True) v (l.foldl stp []) ∧ Below w.heap.size w w' := by
  refine (callsIn_wide (n := 3)).1 ?_
  refine callsIn_of_wp_marks Tryd.func32 rfl trivial ?_ rfl
  simp only [Tryd.ntmps32, List.size_toArray, List.length_cons, List.length_nil, Nat.reduceAdd, Nat.reduceSub, Array.replicate_succ, Array.replicate_zero, List.push_toArray, List.append_toArray, List.nil_append, List.cons_append]
  have HRD := Aside0.mk hr
  clear hr
  gi_wp2_with (refine ⟨trivial, ?_⟩; gi_at_call 41; refine (callsIn_wide.2 (spans_calls _ _ _)).mono ?_; rintro e w2 ⟨rfl, rfl⟩)
  obtain ⟨W0, hW0⟩ : ∃ W0, ((((w.alloc (Obj.cells #[Value.func (Fn.func fd) #[] lb] 51)).alloc (Obj.cells #[Value.slice A l.length c, Value.slice none 0 0] 49)).alloc (Obj.cells #[Value.pointer (some { block := w.heap.size + 1, off := 0 })] 45)).alloc (Obj.cells #[Value.pointer (some { block := w.heap.size + 1, off := 0 })] 61)) = W0 := ⟨_, rfl⟩
  have hsz : W0.heap.size = w.heap.size + 4 := by rw [← hW0]; simp
  have h51 : W0.heap[w.heap.size]? = some (.cells #[Value.func (Fn.func fd) #[] lb] 51 (0, 0)) := by
    rw [← hW0]
    exact (Below.heap_alloc _ _ _ (by simp <;> omega)).trans ((Below.heap_alloc _ _ _ (by simp <;> omega)).trans ((Below.heap_alloc _ _ _ (by simp)).trans (World.alloc_heap_new w _)))
  have h49 : W0.heap[w.heap.size + 1]? = some (.cells #[Value.slice A l.length c, Value.slice none 0 0] 49 (0, 0)) := by
    rw [← hW0]
    have := World.alloc_heap_new (w.alloc (Obj.cells #[Value.func (Fn.func fd) #[] lb] 51)) (Obj.cells #[Value.slice A l.length c, Value.slice none 0 0] 49)
    rw [World.size_alloc] at this
    exact (Below.heap_alloc _ _ _ (by simp <;> omega)).trans ((Below.heap_alloc _ _ _ (by simp)).trans this)
  have h45 : W0.heap[w.heap.size + 1 + 1]? = some (.cells #[Value.pointer (some { block := w.heap.size + 1, off := 0 })] 45 (0, 0)) := by
    rw [← hW0]
    have := World.alloc_heap_new ((w.alloc (Obj.cells #[Value.func (Fn.func fd) #[] lb] 51)).alloc (Obj.cells #[Value.slice A l.length c, Value.slice none 0 0] 49)) (Obj.cells #[Value.pointer (some { block := w.heap.size + 1, off := 0 })] 45)
    rw [World.size_alloc, World.size_alloc] at this
    exact (Below.heap_alloc _ _ _ (by simp)).trans this
  have h61 : W0.heap[w.heap.size + 1 + 1 + 1]? = some (.cells #[Value.pointer (some { block := w.heap.size + 1, off := 0 })] 61 (0, 0)) := by
    rw [← hW0]
    have := World.alloc_heap_new (((w.alloc (Obj.cells #[Value.func (Fn.func fd) #[] lb] 51)).alloc (Obj.cells #[Value.slice A l.length c, Value.slice none 0 0] 49)).alloc (Obj.cells #[Value.pointer (some { block := w.heap.size + 1, off := 0 })] 45)) (Obj.cells #[Value.pointer (some { block := w.heap.size + 1, off := 0 })] 61)
    rw [World.size_alloc, World.size_alloc, World.size_alloc] at this
    exact this
  have hb0 : Below w.heap.size w W0 := hW0 ▸ below_alloc (below_alloc (below_alloc (below_alloc (Below.refl _ w) _) _) _) _
  rw [hW0]
  clear hW0
  have hcut0 : Cut w.heap.size (w.heap.size + 1) (.slice A l.length c) (.slice none 0 0) [] W0 := ⟨by omega, h49, World.ownsRow_nil _ _ _ _⟩
  refine wpIn_rangeFunc_ownH rfl (by omega) (gf := 51) (lb := #[.pointer (some ⟨w.heap.size + 1 + 1 + 1, 0, none⟩)]) rfl trivial (enters_of Tryd.func51 (by kernel_rfl) rfl)
    (encs := fun x : S24 => #[S24.enc x]) (Kp := Below w.heap.size) (S := fun ys => ys = l) (Sp := fun pre => pre <+: l) (N := l.length)
    (w0 := W0) (spans_stops 2 (by omega) (w.heap.size + 1 + 1 + 1) w.heap.size (w.heap.size + 1) 0 A c l hc hlen W0 (by omega) ((blk_cell h61 0).trans rfl) ((blk_cell h49 0).trans rfl) w rfl hb0 HRD.out) belowK_t (belowK_b (by omega)) (Below.refl _ _) (fun _ => rfl)
    (fun pre W => ((∃ v, Cut w.heap.size (w.heap.size + 1) (.slice A l.length c) v (pre.foldl stp []) W) ∧ W.heap[w.heap.size]? = some (.cells #[Value.func (Fn.func fd) #[] lb] 51 (0, 0)) ∧ W.heap[w.heap.size + 1 + 1]? = some (.cells #[Value.pointer (some { block := w.heap.size + 1, off := 0 })] 45 (0, 0))) ∧ Below w.heap.size W0 W)
    (fun _ _ _ => False)
    (OwnFrom.and (Own.from (fun s X Y row hs hg hr => ⟨⟨hs.1.choose, hs.1.choose_spec.grown hg hr⟩, (grownBy_keeps_cells hg hr hs.2.1 rfl).trans hs.2.1, (grownBy_keeps_cells hg hr hs.2.2 rfl).trans hs.2.2⟩) _) (ownFrom_below (by omega) (by omega)))
    (fun _ _ _ _ _ hs _ _ => hs)
    ⟨⟨⟨_, hcut0⟩, h51, h45⟩, Below.refl _ _⟩
    (fun x a' W => ∃ Bx, w.heap.size + 4 ≤ Bx ∧ W.heap[Bx]? = some (.cells #[.int .i64 x.f0, .int .i64 x.f1] 24 (0, 0)) ∧ a' = Act.mk #[Value.slice A l.length c, Value.func (Fn.func fd) #[] lb, undef,
          Value.pointer (some { block := w.heap.size, off := 0 }), Value.slice none 0 0,
          Value.pointer (some { block := w.heap.size + 1 + 1, off := 0 }),
          Value.pointer (some { block := Bx, off := 0 }), Value.slice A l.length c,
          Value.agg #[Value.slice A l.length c], Value.agg #[Value.slice A l.length c, Value.slice none 0 0],
          Value.pointer (some { block := w.heap.size + 1, off := 0 }),
          Value.pointer (some { block := w.heap.size + 1, off := 0 }),
          Value.pointer (some { block := w.heap.size + 1, off := 0 }),
          Value.pointer (some { block := w.heap.size + 1, off := 0 }),
          Value.func (Fn.func 51) #[] #[Value.pointer (some { block := w.heap.size + 1 + 1 + 1, off := 0 })],
          S24.enc x, undef, undef, undef, undef, undef, undef,
          undef, undef, undef] [])
    (fun x a' _ X Y row hs hg hr => by
      obtain ⟨Bx, h1, h2, h3⟩ := hs
      exact ⟨Bx, h1, (grownBy_keeps_cells hg (fun r e => (hr r e).2) h2 rfl).trans h2, h3⟩)
    ?assign ?body ?done ?stop
  case assign =>
    rintro l1 pre x W K ⟨⟨⟨v, hcut⟩, k51, k45⟩, hB1⟩ hK
    have hsW := hB1.size
    dsimp only [S24.enc] at hK ⊢
    gi_wp2
    refine hK _ _ ((KeepsOthers.alloc _ _).from _) ((Below.refl _ W).alloc (by omega) _) ⟨⟨⟨v, hcut.alloc _⟩, (Below.heap_alloc _ _ _ (by omega)).trans k51, (Below.heap_alloc _ _ _ (by omega)).trans k45⟩, hB1.alloc (by omega) _⟩ ⟨W.heap.size, by omega, World.alloc_heap_new _ _, rfl⟩
  case body =>
    rintro l1 pre x a' W hl1 ⟨r, hr⟩ ⟨⟨⟨v, hcut⟩, k51, k45⟩, hB1⟩ ⟨Bx, hBx, bX, rfl⟩ hlt
    have x0 : W.cell? ⟨Bx, 0, none⟩ = some (.int .i64 x.f0) := (blk_cell bX 0).trans rfl
    have x1 : W.cell? ⟨Bx, 1, none⟩ = some (.int .i64 x.f1) := (blk_cell bX 1).trans rfl
    have q51 : W.cell? ⟨w.heap.size, 0, none⟩ = some (Value.func (Fn.func fd) #[] lb) := (blk_cell k51 0).trans rfl
    have q45 : W.cell? ⟨w.heap.size + 1 + 1, 0, none⟩ = some (Value.pointer (some { block := w.heap.size + 1, off := 0 })) := (blk_cell k45 0).trans rfl
    have hsW := hB1.size
    have hlo : (pre.foldl stp []).length ≤ l.length * d := by
      have h1 := foldl_len stp d hd pre []
      have h2 : pre.length * d ≤ l.length * d := Nat.mul_le_mul_right d (by omega)
      simp only [List.length_nil] at h1
      omega
    have HDO := Aside0.mk (hdo (w.heap.size + 1) (.slice A l.length c) W v (pre.foldl stp []) x (hb0.trans hB1) (by omega) hcut hlo)
    dsimp only [S24.enc] at HDO
    gi_wp2
    refine ⟨trivial, (CallsIn.inRound l1 (callsIn_wide.2 HDO.out)).mono ?_⟩
    rintro e W' ⟨rfl, v', hcut', hfr⟩
    have hle : ∀ k, v.ownBlock = some k → w.heap.size ≤ k := own_base hcut.row
    have hlt : ∀ k, v.ownBlock = some k → ∃ cells, W.heap[k]? = some (.cells cells 24 (0, 0)) := own_typed hcut.row
    have hbw : Below w.heap.size W W' := hfr.below (by omega) (by omega) hle
    have hkp := hfr.keeps (u := v) hcut
    have m51 : W'.heap[w.heap.size]? = some (.cells #[Value.func (Fn.func fd) #[] lb] 51 (0, 0)) := (hfr.block _ (blk_lt k51) (by omega) (fun e => by
      obtain ⟨cells, hc⟩ := hlt _ e.symm
      rw [hc] at k51
      cases k51)).trans k51
    have m45 : W'.heap[w.heap.size + 1 + 1]? = some (.cells #[Value.pointer (some { block := w.heap.size + 1, off := 0 })] 45 (0, 0)) := (hfr.block _ (blk_lt k45) (by omega) (fun e => by
      obtain ⟨cells, hc⟩ := hlt _ e.symm
      rw [hc] at k45
      cases k45)).trans k45
    have hfin : ownPostG W0.heap.size (Below w.heap.size)
      (fun pre W => ((∃ v, Cut w.heap.size (w.heap.size + 1) (Value.slice A l.length c) v (List.foldl stp [] pre) W) ∧ W.heap[w.heap.size]? = some (Obj.cells #[Value.func (Fn.func fd) #[] lb] 51 (0, 0)) ∧
            W.heap[w.heap.size + 1 + 1]? = some (Obj.cells #[Value.pointer (some { block := w.heap.size + 1, off := 0 })] 45 (0, 0))) ∧ Below w.heap.size W0 W)
      (fun _ _ _ => False) (pre ++ [x]) W .normal (Act.mk #[] []) W' := ⟨hkp.from _, hbw, ⟨⟨v', by rw [List.foldl_append]; exact hcut'⟩, m51, m45⟩, hB1.trans hbw⟩
    have HF := Aside0.mk hfin
    clear hfin hkp hbw hcut' hfr
    gi_wp2
    exact HF.out
  case done =>
    rintro D xs W hD rfl ⟨⟨⟨v, hcut⟩, k51, k45⟩, hB1⟩ hKD
    have q45 : W.cell? ⟨w.heap.size + 1 + 1, 0, none⟩ = some (Value.pointer (some { block := w.heap.size + 1, off := 0 })) := (blk_cell k45 0).trans rfl
    have q49 : W.cell? ⟨w.heap.size + 1, 1, none⟩ = some v := (blk_cell hcut.cell 1).trans rfl
    have hR := out_R (hcut.putObj (o' := .deferred none) hKD rfl).row
    have hp := belowK_b (n₀ := w.heap.size) (w := W0) (by omega) W D _ (.deferred none) (by omega) hKD rfl rfl
    have HF := Aside0.mk (And.intro hR (hb0.trans (hB1.trans hp)))
    clear hR hp
    rcases hcut.row.2 with ⟨rfl, _⟩ | ⟨b, cap, cur, rfl, _⟩
    · gi_wp2
      refine ⟨by simp, .inl ⟨_, _, rfl, run_takeDeferred hKD, ?_⟩⟩
      refine ⟨_, results_tmp rfl _ _ _, _, rfl, ?_, HF.out.2⟩
      exact HF.out.1
    · gi_wp2
      refine ⟨by simp, .inl ⟨_, _, rfl, run_takeDeferred hKD, ?_⟩⟩
      refine ⟨_, results_tmp rfl _ _ _, _, rfl, ?_, HF.out.2⟩
      exact HF.out.1
  case stop =>
    rintro D c' pre W _ _ h _
    exact h.elim

end Go.Proofs.YtomgpbhkoellpaaDoor.P
