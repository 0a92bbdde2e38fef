/- RowAll (function 10): its walk for the answer true alone. Conditions: the slice reads as the list; the sentinels. -/
-- by a program (wip/tools: a turned copy of the kit's print): not trusted: Lean checks it
import Derived.Test.YtjpifknencfipaaDoorP
import Derived.Test.YtjpifknencfipaaDoorE41
import Derived.Test.YtjpifknencfipaaDoorP39
import Derived.Test.YtjpifknencfipaaDoorP40
import Derived.Test.YtjpifknencfipaaDoorD10
namespace Go.Proofs.YtjpifknencfipaaDoor.P
open Go.RowKit Go.Proofs.YtjpifknencfipaaDoorW.PrintWords Go.Proofs.YtjpifknencfipaaDoorW.PrintLast Go.Proofs.YtjpifknencfipaaDoorW.PrintMore
attribute [local go_sem] max2_int min2_int max_two min_two max_three min_three max_four min_four   -- for this text's walks alone
set_option linter.unusedVariables false
set_option linter.unusedSimpArgs false

theorem far7 {w : World} {g : Nat} {a : Addr} {x : Value} (h : w.cell? a = some x) (hn : a.block ≠ g) (v0 v1 v2 v3 v4 v5 v6 : Value) :
    (((((((w.setCell ⟨g, 0, none⟩ v0).setCell ⟨g, 1, none⟩ v1).setCell ⟨g, 2, none⟩ v2).setCell ⟨g, 3, none⟩ v3).setCell ⟨g, 4, none⟩ v4).setCell ⟨g, 5, none⟩ v5).setCell ⟨g, 6, none⟩ v6).cell? a = some x := by
  rw [cell_far hn, cell_far hn, cell_far hn, cell_far hn, cell_far hn, cell_far hn, cell_far hn]
  exact h
theorem oth7 {w : World} {g i j : Nat} {x v : Value} (h : j ≠ i) (hc : w.cell? ⟨g, i, none⟩ = some v) : (w.setCell ⟨g, j, none⟩ x).cell? ⟨g, i, none⟩ = some v :=
  (World.cell?_setCell_other _ _ _ _ (fun e => h (by injection e))).trans hc
theorem sam7 {w : World} {g i : Nat} {x u : Value} (hc : w.cell? ⟨g, i, none⟩ = some u) : (w.setCell ⟨g, i, none⟩ x).cell? ⟨g, i, none⟩ = some x := World.cell?_setCell_same _ _ _ hc
theorem far7_own {w W : World} {g : Nat} {u0 u1 u2 u3 u4 u5 u6 : Value} (h0 : w.cell? ⟨g, 0, none⟩ = some u0) (h1 : w.cell? ⟨g, 1, none⟩ = some u1) (h2 : w.cell? ⟨g, 2, none⟩ = some u2) (h3 : w.cell? ⟨g, 3, none⟩ = some u3) (h4 : w.cell? ⟨g, 4, none⟩ = some u4) (h5 : w.cell? ⟨g, 5, none⟩ = some u5) (h6 : w.cell? ⟨g, 6, none⟩ = some u6) (v0 v1 v2 v3 v4 v5 v6 : Value) (hW : W = (((((((w.setCell ⟨g, 0, none⟩ v0).setCell ⟨g, 1, none⟩ v1).setCell ⟨g, 2, none⟩ v2).setCell ⟨g, 3, none⟩ v3).setCell ⟨g, 4, none⟩ v4).setCell ⟨g, 5, none⟩ v5).setCell ⟨g, 6, none⟩ v6)) :
    W.cell? ⟨g, 0, none⟩ = some v0 ∧ W.cell? ⟨g, 1, none⟩ = some v1 ∧ W.cell? ⟨g, 2, none⟩ = some v2 ∧ W.cell? ⟨g, 3, none⟩ = some v3 ∧ W.cell? ⟨g, 4, none⟩ = some v4 ∧ W.cell? ⟨g, 5, none⟩ = some v5 ∧ W.cell? ⟨g, 6, none⟩ = some v6 := by
  subst hW
  exact  ⟨(oth7 (j := 6) (by decide) (oth7 (j := 5) (by decide) (oth7 (j := 4) (by decide) (oth7 (j := 3) (by decide) (oth7 (j := 2) (by decide) (oth7 (j := 1) (by decide) (sam7 h0))))))),
   (oth7 (j := 6) (by decide) (oth7 (j := 5) (by decide) (oth7 (j := 4) (by decide) (oth7 (j := 3) (by decide) (oth7 (j := 2) (by decide) (sam7 (oth7 (j := 0) (by decide) h1))))))),
   (oth7 (j := 6) (by decide) (oth7 (j := 5) (by decide) (oth7 (j := 4) (by decide) (oth7 (j := 3) (by decide) (sam7 (oth7 (j := 1) (by decide) (oth7 (j := 0) (by decide) h2))))))),
   (oth7 (j := 6) (by decide) (oth7 (j := 5) (by decide) (oth7 (j := 4) (by decide) (sam7 (oth7 (j := 2) (by decide) (oth7 (j := 1) (by decide) (oth7 (j := 0) (by decide) h3))))))),
   (oth7 (j := 6) (by decide) (oth7 (j := 5) (by decide) (sam7 (oth7 (j := 3) (by decide) (oth7 (j := 2) (by decide) (oth7 (j := 1) (by decide) (oth7 (j := 0) (by decide) h4))))))),
   (oth7 (j := 6) (by decide) (sam7 (oth7 (j := 4) (by decide) (oth7 (j := 3) (by decide) (oth7 (j := 2) (by decide) (oth7 (j := 1) (by decide) (oth7 (j := 0) (by decide) h5))))))),
   (sam7 (oth7 (j := 5) (by decide) (oth7 (j := 4) (by decide) (oth7 (j := 3) (by decide) (oth7 (j := 2) (by decide) (oth7 (j := 1) (by decide) (oth7 (j := 0) (by decide) h6)))))))⟩

theorem far7_draw {w : World} {n : Nat} {g : Nat} {a : Addr} {x : Value} (h : w.cell? a = some x) (hn : a.block ≠ g) (v0 v1 v2 v3 v4 v5 v6 : Value) :
    ((((((((w.drewN n).setCell ⟨g, 0, none⟩ v0).setCell ⟨g, 1, none⟩ v1).setCell ⟨g, 2, none⟩ v2).setCell ⟨g, 3, none⟩ v3).setCell ⟨g, 4, none⟩ v4).setCell ⟨g, 5, none⟩ v5).setCell ⟨g, 6, none⟩ v6).cell? a = some x :=
  far7 (w := w.drewN n) h hn v0 v1 v2 v3 v4 v5 v6

theorem all_j1_dead {k : Nat} {x0 : List S32} {x2 x3 : Int} {x13 : Bool} {x16 x428000 x428001 : Int} {x428002 : List S58} {x430000 x430001 x430002 x430003 x430004 x430005 x430006 : Int} {r : Bool} (h : gutterlaw17_RowAll.j1 k x0 x2 x3 x13 x16 true x428000 x428001 x428002 x430000 x430001 x430002 x430003 x430004 x430005 x430006 = some r) (ht : r = true) : False := by
  subst ht
  cases k with
  | zero => simp [gutterlaw17_RowAll.j1] at h
  | succ k => simp [gutterlaw17_RowAll.j1] at h

theorem all_j2_dead {k : Nat} {x0 : List S32} {x2 x3 : Int} {x13 : Bool} {x16 x428000 x428001 : Int} {x428002 : List S58} {x430000 x430001 x430002 x430003 x430004 x430005 x430006 : Int} {r : Bool} (h : gutterlaw17_RowAll.j2 k x0 x2 x3 x13 x16 true x428000 x428001 x428002 x430000 x430001 x430002 x430003 x430004 x430005 x430006 = some r) (ht : r = true) : False := by
  subst ht
  cases k with
  | zero => simp [gutterlaw17_RowAll.j2] at h
  | succ k => simp [gutterlaw17_RowAll.j2] at h

set_option maxHeartbeats 100000000 in
set_option maxRecDepth 100000 in
theorem gutterlaw17_RowAll.callsT (k : Nat) (A0 : Option Addr) (c0 : Nat) (l0 : List (S32)) (a1 : Int) (a2 : Int) (a3 : Int) (a4 : Int) (a5 : Bool) (r : Bool) (w : World) (hr0 : Kd.C k32 w A0 l0.length l0) (hc0 : l0.length ≤ c0) (hG : Gl 3 w) (h : gutterlaw17_RowAll.f k l0 a1 a2 a3 a4 a5 = some r) (ht : r = true) :
    Calls Tryd.prog 10 #[.slice A0 l0.length c0, .int .i64 a1, .int .i64 a2, .int .i64 a3, .int .i64 a4, .bool a5] w fun e w' => e = .returned (.bool r) ∧ Below w.heap.size w w' := by
  have HTR := Lib.hid ht
  clear ht
  have hu50 := Tryd.underlying50
  have hu58 := Tryd.underlying58
  have HR0 := Aside0.mk hr0
  have HC0 := Aside0.mk hc0
  clear hr0 hc0
  have HG := Aside0.mk hG
  clear hG
  have HB := Aside0.mk (Below.refl w.heap.size w)
  have H : ((gutterlaw17_shown.f k).bind fun t417 => ((gutterlaw17_few.f l0).bind fun t418 => ((row_Lay.f t418 a1 a2 a3 a4 a5).bind fun bt421 => (if bt421.2.2.2 = 0 then (if (bt421.2.2.1.length : Int) = (t418.length : Int) then (gutterlaw17_RowAll.l0 k t418 a2 a3 t417 0 bt421.1 bt421.2.1 bt421.2.2.1) else (some false)) else (if t417 = true then (if (bt421.2.2.1.length : Int) = 0 then (some (bt421.1 == 0)) else (some false)) else (some false)))))) = some r := h
  clear h
  replace H := Option.bind_eq_some_iff.mp H
  obtain ⟨t417, A70, H⟩ := H
  replace H : ((gutterlaw17_few.f l0).bind fun t418 => ((row_Lay.f t418 a1 a2 a3 a4 a5).bind fun bt421 => (if bt421.2.2.2 = 0 then (if (bt421.2.2.1.length : Int) = (t418.length : Int) then (gutterlaw17_RowAll.l0 k t418 a2 a3 t417 0 bt421.1 bt421.2.1 bt421.2.2.1) else (some false)) else (if t417 = true then (if (bt421.2.2.1.length : Int) = 0 then (some (bt421.1 == 0)) else (some false)) else (some false))))) = some r := H
  have A7 := Aside0.mk A70
  clear A70
  replace H := Option.bind_eq_some_iff.mp H
  obtain ⟨t418, A80, H⟩ := H
  replace H : ((row_Lay.f t418 a1 a2 a3 a4 a5).bind fun bt421 => (if bt421.2.2.2 = 0 then (if (bt421.2.2.1.length : Int) = (t418.length : Int) then (gutterlaw17_RowAll.l0 k t418 a2 a3 t417 0 bt421.1 bt421.2.1 bt421.2.2.1) else (some false)) else (if t417 = true then (if (bt421.2.2.1.length : Int) = 0 then (some (bt421.1 == 0)) else (some false)) else (some false)))) = some r := H
  have A8 := Aside0.mk A80
  clear A80
  replace H := Option.bind_eq_some_iff.mp H
  obtain ⟨⟨t421, t422, t423, t426⟩, A90, H⟩ := H
  replace H : (if t426 = 0 then (if (t423.length : Int) = (t418.length : Int) then (gutterlaw17_RowAll.l0 k t418 a2 a3 t417 0 t421 t422 t423) else (some false)) else (if t417 = true then (if (t423.length : Int) = 0 then (some (t421 == 0)) else (some false)) else (some false))) = some r := H
  have A9 := Aside0.mk A90
  clear A90
  by_cases c10 : t426 = 0
  · rw [if_pos c10] at H
    have c10b0 : (t426 == 0) = true := beq_iff_eq.mpr c10
    have c10b1 : (t426 != 0) = false := bne_eq_false_iff_eq.mpr c10
    clear c10
    by_cases c11 : (t423.length : Int) = (t418.length : Int)
    · rw [if_pos c11] at H
      have c11b0 : ((t423.length : Int) == (t418.length : Int)) = true := beq_iff_eq.mpr c11
      have c11b1 : ((t423.length : Int) != (t418.length : Int)) = false := bne_eq_false_iff_eq.mpr c11
      have c11b2 : (t423.length == t418.length) = true := by first | simpa using c11 | (simp at c11 ⊢; omega)
      clear c11
      have H' := Aside0.mk H
      clear H
      go_enter Tryd.func10, Tryd.ntmps10
      go_wp2_with (first | (go_at_call 39; (with_reducible refine (gutterlaw17_shown.calls k  t417 _ ?side1 A7.out).mono ?_); (case side1 => exact (Gl.of_below HG.out (by repeat (first | (with_reducible first | exact HB.out | apply below_alloc | apply pw_below_drewN | apply below_drew1) | exact HB.out))).le (by decide)); rintro e w12 ⟨rfl, hb⟩; have n0_ := Aside0.mk (below_step (by repeat (first | (with_reducible first | exact HB.out | apply below_alloc | apply pw_below_drewN | apply below_drew1) | exact HB.out)) hb); clear HB; have HB := n0_; clear n0_; (try clear hb); (try clear hb2); (try clear hk); (try clear hi)) | (go_at_call 40; (with_reducible refine (gutterlaw17_few.calls _ _ l0 t418 _ ?side1 ?side2 A8.out).mono ?_); (case side1 => repeat (first | exact (Kd.C_below HR0.out HB.out) | (with_reducible refine Kd.C_alloc ?_ _) | (with_reducible refine Kd.C_drewN ?_ _) | (with_reducible refine Kd.C_drew ?_))); (case side2 => exact HC0.out); rintro e w13 ⟨v419, rfl, ho0, hb⟩; have n0_ := Aside0.mk (Kd.R_lower ho0 (below_size (by repeat (first | (with_reducible first | exact HB.out | apply below_alloc | apply pw_below_drewN | apply below_drew1) | exact HB.out)))); have n1_ := Aside0.mk (below_step (by repeat (first | (with_reducible first | exact HB.out | apply below_alloc | apply pw_below_drewN | apply below_drew1) | exact HB.out)) hb); clear HB; have HO420 := n0_; have HB := n1_; clear n0_ n1_; (try clear hb); (try clear hb2); (try clear hk); (try clear hi); (try clear ho0); obtain ⟨Ao14, co14, eo14⟩ := Kd.R_slice HO420.out; subst eo14) | (go_at_call 41; (with_reducible refine (row_Lay.calls _ _ t418 a1 a2 a3 a4 a5 t421 t422 t423 t426 _ ?side1 ?side2 ?side3 A9.out).mono ?_); (case side1 => repeat (first | exact (Kd.R_reads' HO420.out).2.2 | (with_reducible refine Kd.C_alloc ?_ _) | (with_reducible refine Kd.C_drewN ?_ _) | (with_reducible refine Kd.C_drew ?_))); (case side2 => exact (Kd.R_reads' HO420.out).2.1); (case side3 => exact (Gl.of_below HG.out (by repeat (first | (with_reducible first | exact HB.out | apply below_alloc | apply pw_below_drewN | apply below_drew1) | exact HB.out))).le (by decide)); rintro e w15 ⟨v424, rfl, ho0, hb⟩; have n0_ := Aside0.mk (Kd.R_below (by (with_reducible repeat (first | apply Kd.R_alloc | apply Kd.R_drewN | apply Kd.R_drew)); exact HO420.out) hb); have n1_ := Aside0.mk (Kd.R_lower ho0 (below_size (by repeat (first | (with_reducible first | exact HB.out | apply below_alloc | apply pw_below_drewN | apply below_drew1) | exact HB.out)))); have n2_ := Aside0.mk (below_step (by repeat (first | (with_reducible first | exact HB.out | apply below_alloc | apply pw_below_drewN | apply below_drew1) | exact HB.out)) hb); clear HO420; clear HB; have HO420 := n0_; have HO425 := n1_; have HB := n2_; clear n0_ n1_ n2_; (try clear hb); (try clear hb2); (try clear hk); (try clear hi); (try clear ho0)) | ((with_reducible refine gate_dst (N := 14) rfl ?_); (try (refine gate_guard (by rfl) ?_; dsimp only)); refine box_event ?hg (N := 14) ?hd (cs := #[.int .i64 0, .int .i64 0, .slice none 0 0]) (t := 50) ?hr ?_; (case hd => rfl); (case hg => rfl); (case hr => first | (go_simp; done) | (go_simp; rfl)); intro gb427 hg w16 hbox hb; have n0_ := Aside0.mk (Kd.R_below (by (with_reducible repeat (first | apply Kd.R_alloc | apply Kd.R_drewN | apply Kd.R_drew)); exact HO420.out) hb); have n1_ := Aside0.mk (Kd.R_below (by (with_reducible repeat (first | apply Kd.R_alloc | apply Kd.R_drewN | apply Kd.R_drew)); exact HO425.out) hb); have n2_ := Aside0.mk (below_step (by repeat (first | (with_reducible first | exact HB.out | apply below_alloc | apply pw_below_drewN | apply below_drew1) | exact HB.out)) hb); have n3_ := Aside0.mk (hbox); have n4_ := Aside0.mk ((by rw [hg]; exact (below_size (by repeat (first | (with_reducible first | exact HB.out | apply below_alloc | apply pw_below_drewN | apply below_drew1) | exact HB.out))) : w.heap.size ≤ gb427)); have n5_ := Aside0.mk ((by rw [hg]; exact (below_size (by repeat (first | (with_reducible first | exact HB.out | apply below_alloc | apply pw_below_drewN | apply below_drew1) | exact HB.out))) : w.heap.size ≤ gb427)); clear HO420; clear HO425; clear HB; have HO420 := n0_; have HO425 := n1_; have HB := n2_; have BK427 := n3_; have GW427 := n4_; have GE427 := n5_; clear n0_ n1_ n2_ n3_ n4_ n5_; clear hb hbox hg; have hcz17_0 : w16.cell? ⟨gb427, 0, none⟩ = some (.int .i64 0) := (blk_cell BK427.out 0).trans rfl; have hcz17_1 : w16.cell? ⟨gb427, 1, none⟩ = some (.int .i64 0) := (blk_cell BK427.out 1).trans rfl; have hcz17_2 : w16.cell? ⟨gb427, 2, none⟩ = some (.slice none 0 0) := (blk_cell BK427.out 2).trans rfl; have hfz17_0 := blk_frozen BK427.out 0; have hfz17_1 := blk_frozen BK427.out 1; have hfz17_2 := blk_frozen BK427.out 2; obtain ⟨Ao18, co18, eo18⟩ := Kd.R_slice HO425.out; subst eo18))
      repeat (go_quiet (first | (go_at_call 39; (with_reducible refine (gutterlaw17_shown.calls k  t417 _ ?side1 A7.out).mono ?_); (case side1 => exact (Gl.of_below HG.out (by repeat (first | (with_reducible first | exact HB.out | apply below_alloc | apply pw_below_drewN | apply below_drew1) | exact HB.out))).le (by decide)); rintro e w12 ⟨rfl, hb⟩; have n0_ := Aside0.mk (below_step (by repeat (first | (with_reducible first | exact HB.out | apply below_alloc | apply pw_below_drewN | apply below_drew1) | exact HB.out)) hb); clear HB; have HB := n0_; clear n0_; (try clear hb); (try clear hb2); (try clear hk); (try clear hi)) | (go_at_call 40; (with_reducible refine (gutterlaw17_few.calls _ _ l0 t418 _ ?side1 ?side2 A8.out).mono ?_); (case side1 => repeat (first | exact (Kd.C_below HR0.out HB.out) | (with_reducible refine Kd.C_alloc ?_ _) | (with_reducible refine Kd.C_drewN ?_ _) | (with_reducible refine Kd.C_drew ?_))); (case side2 => exact HC0.out); rintro e w13 ⟨v419, rfl, ho0, hb⟩; have n0_ := Aside0.mk (Kd.R_lower ho0 (below_size (by repeat (first | (with_reducible first | exact HB.out | apply below_alloc | apply pw_below_drewN | apply below_drew1) | exact HB.out)))); have n1_ := Aside0.mk (below_step (by repeat (first | (with_reducible first | exact HB.out | apply below_alloc | apply pw_below_drewN | apply below_drew1) | exact HB.out)) hb); clear HB; have HO420 := n0_; have HB := n1_; clear n0_ n1_; (try clear hb); (try clear hb2); (try clear hk); (try clear hi); (try clear ho0); obtain ⟨Ao14, co14, eo14⟩ := Kd.R_slice HO420.out; subst eo14) | (go_at_call 41; (with_reducible refine (row_Lay.calls _ _ t418 a1 a2 a3 a4 a5 t421 t422 t423 t426 _ ?side1 ?side2 ?side3 A9.out).mono ?_); (case side1 => repeat (first | exact (Kd.R_reads' HO420.out).2.2 | (with_reducible refine Kd.C_alloc ?_ _) | (with_reducible refine Kd.C_drewN ?_ _) | (with_reducible refine Kd.C_drew ?_))); (case side2 => exact (Kd.R_reads' HO420.out).2.1); (case side3 => exact (Gl.of_below HG.out (by repeat (first | (with_reducible first | exact HB.out | apply below_alloc | apply pw_below_drewN | apply below_drew1) | exact HB.out))).le (by decide)); rintro e w15 ⟨v424, rfl, ho0, hb⟩; have n0_ := Aside0.mk (Kd.R_below (by (with_reducible repeat (first | apply Kd.R_alloc | apply Kd.R_drewN | apply Kd.R_drew)); exact HO420.out) hb); have n1_ := Aside0.mk (Kd.R_lower ho0 (below_size (by repeat (first | (with_reducible first | exact HB.out | apply below_alloc | apply pw_below_drewN | apply below_drew1) | exact HB.out)))); have n2_ := Aside0.mk (below_step (by repeat (first | (with_reducible first | exact HB.out | apply below_alloc | apply pw_below_drewN | apply below_drew1) | exact HB.out)) hb); clear HO420; clear HB; have HO420 := n0_; have HO425 := n1_; have HB := n2_; clear n0_ n1_ n2_; (try clear hb); (try clear hb2); (try clear hk); (try clear hi); (try clear ho0)) | ((with_reducible refine gate_dst (N := 14) rfl ?_); (try (refine gate_guard (by rfl) ?_; dsimp only)); refine box_event ?hg (N := 14) ?hd (cs := #[.int .i64 0, .int .i64 0, .slice none 0 0]) (t := 50) ?hr ?_; (case hd => rfl); (case hg => rfl); (case hr => first | (go_simp; done) | (go_simp; rfl)); intro gb427 hg w16 hbox hb; have n0_ := Aside0.mk (Kd.R_below (by (with_reducible repeat (first | apply Kd.R_alloc | apply Kd.R_drewN | apply Kd.R_drew)); exact HO420.out) hb); have n1_ := Aside0.mk (Kd.R_below (by (with_reducible repeat (first | apply Kd.R_alloc | apply Kd.R_drewN | apply Kd.R_drew)); exact HO425.out) hb); have n2_ := Aside0.mk (below_step (by repeat (first | (with_reducible first | exact HB.out | apply below_alloc | apply pw_below_drewN | apply below_drew1) | exact HB.out)) hb); have n3_ := Aside0.mk (hbox); have n4_ := Aside0.mk ((by rw [hg]; exact (below_size (by repeat (first | (with_reducible first | exact HB.out | apply below_alloc | apply pw_below_drewN | apply below_drew1) | exact HB.out))) : w.heap.size ≤ gb427)); have n5_ := Aside0.mk ((by rw [hg]; exact (below_size (by repeat (first | (with_reducible first | exact HB.out | apply below_alloc | apply pw_below_drewN | apply below_drew1) | exact HB.out))) : w.heap.size ≤ gb427)); clear HO420; clear HO425; clear HB; have HO420 := n0_; have HO425 := n1_; have HB := n2_; have BK427 := n3_; have GW427 := n4_; have GE427 := n5_; clear n0_ n1_ n2_ n3_ n4_ n5_; clear hb hbox hg; have hcz17_0 : w16.cell? ⟨gb427, 0, none⟩ = some (.int .i64 0) := (blk_cell BK427.out 0).trans rfl; have hcz17_1 : w16.cell? ⟨gb427, 1, none⟩ = some (.int .i64 0) := (blk_cell BK427.out 1).trans rfl; have hcz17_2 : w16.cell? ⟨gb427, 2, none⟩ = some (.slice none 0 0) := (blk_cell BK427.out 2).trans rfl; have hfz17_0 := blk_frozen BK427.out 0; have hfz17_1 := blk_frozen BK427.out 1; have hfz17_2 := blk_frozen BK427.out 2; obtain ⟨Ao18, co18, eo18⟩ := Kd.R_slice HO425.out; subst eo18)); try go_wp2_with (first | (go_at_call 39; (with_reducible refine (gutterlaw17_shown.calls k  t417 _ ?side1 A7.out).mono ?_); (case side1 => exact (Gl.of_below HG.out (by repeat (first | (with_reducible first | exact HB.out | apply below_alloc | apply pw_below_drewN | apply below_drew1) | exact HB.out))).le (by decide)); rintro e w12 ⟨rfl, hb⟩; have n0_ := Aside0.mk (below_step (by repeat (first | (with_reducible first | exact HB.out | apply below_alloc | apply pw_below_drewN | apply below_drew1) | exact HB.out)) hb); clear HB; have HB := n0_; clear n0_; (try clear hb); (try clear hb2); (try clear hk); (try clear hi)) | (go_at_call 40; (with_reducible refine (gutterlaw17_few.calls _ _ l0 t418 _ ?side1 ?side2 A8.out).mono ?_); (case side1 => repeat (first | exact (Kd.C_below HR0.out HB.out) | (with_reducible refine Kd.C_alloc ?_ _) | (with_reducible refine Kd.C_drewN ?_ _) | (with_reducible refine Kd.C_drew ?_))); (case side2 => exact HC0.out); rintro e w13 ⟨v419, rfl, ho0, hb⟩; have n0_ := Aside0.mk (Kd.R_lower ho0 (below_size (by repeat (first | (with_reducible first | exact HB.out | apply below_alloc | apply pw_below_drewN | apply below_drew1) | exact HB.out)))); have n1_ := Aside0.mk (below_step (by repeat (first | (with_reducible first | exact HB.out | apply below_alloc | apply pw_below_drewN | apply below_drew1) | exact HB.out)) hb); clear HB; have HO420 := n0_; have HB := n1_; clear n0_ n1_; (try clear hb); (try clear hb2); (try clear hk); (try clear hi); (try clear ho0); obtain ⟨Ao14, co14, eo14⟩ := Kd.R_slice HO420.out; subst eo14) | (go_at_call 41; (with_reducible refine (row_Lay.calls _ _ t418 a1 a2 a3 a4 a5 t421 t422 t423 t426 _ ?side1 ?side2 ?side3 A9.out).mono ?_); (case side1 => repeat (first | exact (Kd.R_reads' HO420.out).2.2 | (with_reducible refine Kd.C_alloc ?_ _) | (with_reducible refine Kd.C_drewN ?_ _) | (with_reducible refine Kd.C_drew ?_))); (case side2 => exact (Kd.R_reads' HO420.out).2.1); (case side3 => exact (Gl.of_below HG.out (by repeat (first | (with_reducible first | exact HB.out | apply below_alloc | apply pw_below_drewN | apply below_drew1) | exact HB.out))).le (by decide)); rintro e w15 ⟨v424, rfl, ho0, hb⟩; have n0_ := Aside0.mk (Kd.R_below (by (with_reducible repeat (first | apply Kd.R_alloc | apply Kd.R_drewN | apply Kd.R_drew)); exact HO420.out) hb); have n1_ := Aside0.mk (Kd.R_lower ho0 (below_size (by repeat (first | (with_reducible first | exact HB.out | apply below_alloc | apply pw_below_drewN | apply below_drew1) | exact HB.out)))); have n2_ := Aside0.mk (below_step (by repeat (first | (with_reducible first | exact HB.out | apply below_alloc | apply pw_below_drewN | apply below_drew1) | exact HB.out)) hb); clear HO420; clear HB; have HO420 := n0_; have HO425 := n1_; have HB := n2_; clear n0_ n1_ n2_; (try clear hb); (try clear hb2); (try clear hk); (try clear hi); (try clear ho0)) | ((with_reducible refine gate_dst (N := 14) rfl ?_); (try (refine gate_guard (by rfl) ?_; dsimp only)); refine box_event ?hg (N := 14) ?hd (cs := #[.int .i64 0, .int .i64 0, .slice none 0 0]) (t := 50) ?hr ?_; (case hd => rfl); (case hg => rfl); (case hr => first | (go_simp; done) | (go_simp; rfl)); intro gb427 hg w16 hbox hb; have n0_ := Aside0.mk (Kd.R_below (by (with_reducible repeat (first | apply Kd.R_alloc | apply Kd.R_drewN | apply Kd.R_drew)); exact HO420.out) hb); have n1_ := Aside0.mk (Kd.R_below (by (with_reducible repeat (first | apply Kd.R_alloc | apply Kd.R_drewN | apply Kd.R_drew)); exact HO425.out) hb); have n2_ := Aside0.mk (below_step (by repeat (first | (with_reducible first | exact HB.out | apply below_alloc | apply pw_below_drewN | apply below_drew1) | exact HB.out)) hb); have n3_ := Aside0.mk (hbox); have n4_ := Aside0.mk ((by rw [hg]; exact (below_size (by repeat (first | (with_reducible first | exact HB.out | apply below_alloc | apply pw_below_drewN | apply below_drew1) | exact HB.out))) : w.heap.size ≤ gb427)); have n5_ := Aside0.mk ((by rw [hg]; exact (below_size (by repeat (first | (with_reducible first | exact HB.out | apply below_alloc | apply pw_below_drewN | apply below_drew1) | exact HB.out))) : w.heap.size ≤ gb427)); clear HO420; clear HO425; clear HB; have HO420 := n0_; have HO425 := n1_; have HB := n2_; have BK427 := n3_; have GW427 := n4_; have GE427 := n5_; clear n0_ n1_ n2_ n3_ n4_ n5_; clear hb hbox hg; have hcz17_0 : w16.cell? ⟨gb427, 0, none⟩ = some (.int .i64 0) := (blk_cell BK427.out 0).trans rfl; have hcz17_1 : w16.cell? ⟨gb427, 1, none⟩ = some (.int .i64 0) := (blk_cell BK427.out 1).trans rfl; have hcz17_2 : w16.cell? ⟨gb427, 2, none⟩ = some (.slice none 0 0) := (blk_cell BK427.out 2).trans rfl; have hfz17_0 := blk_frozen BK427.out 0; have hfz17_1 := blk_frozen BK427.out 1; have hfz17_2 := blk_frozen BK427.out 2; obtain ⟨Ao18, co18, eo18⟩ := Kd.R_slice HO425.out; subst eo18)))
      go_loopg [16] k (fun kq v16 w' => ∃ (x16_1 : Int), v16 = .int .i64 x16_1 ∧ Aside0 (gutterlaw17_RowAll.l0 kq t418 a2 a3 t417 x16_1 t421 t422 t423 = some r) ∧ Aside0 (kq ≤ k) ∧ Aside0 (Kd.R k32 32 w' w.heap.size (fun _ => True) (.slice Ao14 t418.length co14) t418) ∧ Aside0 (Kd.R k58 58 w' w.heap.size (fun _ => True) (.slice Ao18 t423.length co18) t423) ∧ Aside0 (w'.heap[gb427]? = some (.cells #[.int .i64 t421, .int .i64 t422, (.slice Ao18 t423.length co18)] 50 (0, 0))) ∧ Aside0 (Below w.heap.size w w'))
      case atStart => exact ⟨(0), (by first | rfl | (simp; done) | (simp [*]; done)), H', ⟨Nat.le_refl _⟩, ⟨by (with_reducible repeat (first | apply Kd.R_alloc | apply Kd.R_drewN | apply Kd.R_drew)); exact Kd.R_mono (Kd.R_far (p := ⟨gb427, 2, none⟩) (Kd.R_far (p := ⟨gb427, 1, none⟩) (Kd.R_far (p := ⟨gb427, 0, none⟩) (Kd.R_types HO420.out BK427.out (by decide)) (fun _ hk => hk.2) (.int .i64 t421)) (fun _ hk => hk.2) (.int .i64 t422)) (fun _ hk => hk.2) (.slice Ao18 t423.length co18)) (fun _ hk => trivial)⟩, ⟨by (with_reducible repeat (first | apply Kd.R_alloc | apply Kd.R_drewN | apply Kd.R_drew)); exact Kd.R_mono (Kd.R_far (p := ⟨gb427, 2, none⟩) (Kd.R_far (p := ⟨gb427, 1, none⟩) (Kd.R_far (p := ⟨gb427, 0, none⟩) (Kd.R_types HO425.out BK427.out (by decide)) (fun _ hk => hk.2) (.int .i64 t421)) (fun _ hk => hk.2) (.int .i64 t422)) (fun _ hk => hk.2) (.slice Ao18 t423.length co18)) (fun _ hk => trivial)⟩, ⟨by (with_reducible repeat (first | refine blk_drewN ?_ _ | refine blk_drew ?_ | refine blk_alloc ?_ _)); refine blk_put (cs := #[.int .i64 t421, .int .i64 t422, .slice none 0 0]) ?_ 2 _ rfl; (with_reducible repeat (first | refine blk_drewN ?_ _ | refine blk_drew ?_ | refine blk_alloc ?_ _)); refine blk_put (cs := #[.int .i64 t421, .int .i64 0, .slice none 0 0]) ?_ 1 _ rfl; (with_reducible repeat (first | refine blk_drewN ?_ _ | refine blk_drew ?_ | refine blk_alloc ?_ _)); refine blk_put (cs := #[.int .i64 0, .int .i64 0, .slice none 0 0]) ?_ 0 _ rfl; (with_reducible repeat (first | refine blk_drewN ?_ _ | refine blk_drew ?_ | refine blk_alloc ?_ _)); exact BK427.out⟩, ⟨by repeat (first | (with_reducible first | exact HB.out | apply below_alloc | apply pw_below_drewN | apply below_drew1 | refine below_set ?_ GE427.out) | exact HB.out)⟩⟩
      case round =>
        clear H'
        try clear c1
        try clear p2
        try clear c10
        try clear c10b0
        try clear c10b1
        try clear c11
        try clear c11b0
        try clear c11b1
        try clear c11b2
        try clear hcz17_0
        try clear hcz17_1
        try clear hcz17_2
        try clear hfz17_0
        try clear hfz17_1
        try clear hfz17_2
        obtain ⟨x16_1, rfl, HA, HK1, HO_0, HO_428002, BK427, HB⟩ := hrel
        cases gk with
        | zero => exact absurd HA.out (by simp [gutterlaw17_RowAll.l0])
        | succ k1 =>
          have H := HA.out
          clear HA
          simp only [gutterlaw17_RowAll.l0] at H
          by_cases c19 : x16_1 < (t418.length : Int)
          · rw [if_pos c19] at H
            have c19b0 : decide (x16_1 < (t418.length : Int)) = true := decide_eq_true c19
            clear c19
            by_cases c20 : 0 ≤ x16_1
            · rw [if_pos c20] at H
              have c20b0 : decide (0 ≤ x16_1) = true := decide_eq_true c20
              clear c20
              by_cases c21 : x16_1 < (t423.length : Int)
              · rw [if_pos c21] at H
                have c21b0 : decide (x16_1 < (t423.length : Int)) = true := decide_eq_true c21
                clear c21
                have HC22 := Aside0.mk H
                clear H
                have hcz23_0 : wr.cell? ⟨gb427, 0, none⟩ = some (.int .i64 t421) := (blk_cell BK427.out 0).trans rfl
                have hcz23_1 : wr.cell? ⟨gb427, 1, none⟩ = some (.int .i64 t422) := (blk_cell BK427.out 1).trans rfl
                have hcz23_2 : wr.cell? ⟨gb427, 2, none⟩ = some (.slice Ao18 t423.length co18) := (blk_cell BK427.out 2).trans rfl
                have hfz23_0 := blk_frozen BK427.out 0
                have hfz23_1 := blk_frozen BK427.out 1
                have hfz23_2 := blk_frozen BK427.out 2
                have p428 : 0 ≤ (x16_1 : Int) := of_decide_eq_true (by first | (with_reducible assumption) | assumption)
                have q428 : x16_1 < (t423.length : Int) := of_decide_eq_true (by first | (with_reducible assumption) | assumption)
                obtain ⟨ad428, e428, hx428_0, hx428_1, hx428_2, hx428_3, hx428_4, hx428_5, hx428_6⟩ := at_T58 (Kd.R_reads' HO_428002.out).2.2 x16_1 p428 q428
                cases e428
                replace p428 := eq_true p428
                replace q428 := eq_true q428
                go_upto_region 12 with (first | ((with_reducible refine gate_dst (N := 17) rfl ?_); (try (refine gate_guard (by rfl) ?_; dsimp only)); refine box_event ?hg (N := 17) ?hd (cs := #[.int .i64 0, .int .i64 0, .int .i64 0, .int .i64 0, .int .i64 0, .int .i64 0, .int .i64 0]) (t := 58) ?hr ?_; (case hd => rfl); (case hg => rfl); (case hr => first | (go_simp; done) | (go_simp; rfl)); intro gb429 hg w24 hbox hb; have n0_ := Aside0.mk (Kd.R_below (by (with_reducible repeat (first | apply Kd.R_alloc | apply Kd.R_drewN | apply Kd.R_drew)); exact HO_0.out) hb); have n1_ := Aside0.mk (Kd.R_below (Kd.R_elderB (by (with_reducible repeat (first | apply Kd.R_alloc | apply Kd.R_drewN | apply Kd.R_drew)); exact HO_428002.out) gb429 (Nat.le_of_eq hg.symm)) hb); have n2_ := Aside0.mk (blk_below (g := gb427) (o := .cells #[.int .i64 t421, .int .i64 t422, .slice (some ad428) t423.length co18] 50 (0, 0)) (by (with_reducible repeat (first | refine blk_drewN ?_ _ | refine blk_drew ?_ | refine blk_alloc ?_ _)); exact BK427.out) hb); have n3_ := Aside0.mk (below_step (by repeat (first | (with_reducible first | exact HB.out | apply below_alloc | apply pw_below_drewN | apply below_drew1 | refine below_set ?_ GE427.out) | exact HB.out)) hb); have n4_ := Aside0.mk (hbox); have n5_ := Aside0.mk ((by rw [hg]; exact (below_size (by repeat (first | (with_reducible first | exact HB.out | apply below_alloc | apply pw_below_drewN | apply below_drew1 | refine below_set ?_ GE427.out) | exact HB.out))) : w.heap.size ≤ gb429)); have n6_ := Aside0.mk ((by rw [hg]; exact (below_size (by repeat (first | (with_reducible first | exact HB.out | apply below_alloc | apply pw_below_drewN | apply below_drew1 | refine below_set ?_ GE427.out) | exact HB.out))) : w.heap.size ≤ gb429)); have n7_ := Aside0.mk ((by rw [hg]; exact Nat.ne_of_lt (blk_lt (g := gb427) (o := .cells #[.int .i64 t421, .int .i64 t422, .slice (some ad428) t423.length co18] 50 (0, 0)) (by (with_reducible repeat (first | refine blk_drewN ?_ _ | refine blk_drew ?_ | refine blk_alloc ?_ _)); exact BK427.out)) : gb427 ≠ gb429)); have n8_ := Aside0.mk ((by rw [hg]; exact Nat.ne_of_gt (blk_lt (g := gb427) (o := .cells #[.int .i64 t421, .int .i64 t422, .slice (some ad428) t423.length co18] 50 (0, 0)) (by (with_reducible repeat (first | refine blk_drewN ?_ _ | refine blk_drew ?_ | refine blk_alloc ?_ _)); exact BK427.out)) : gb429 ≠ gb427)); clear HO_0; clear HO_428002; clear BK427; clear HB; have HO_0 := n0_; have HO_428002 := n1_; have BK427 := n2_; have HB := n3_; have BK429 := n4_; have GW429 := n5_; have GE429 := n6_; have NB427_429 := n7_; have NB429_427 := n8_; clear n0_ n1_ n2_ n3_ n4_ n5_ n6_ n7_ n8_; clear hb hbox hg; have hnb25 := NB429_427.out; have hnc25 := NB427_429.out; have hcz26_0 : w24.cell? ⟨gb429, 0, none⟩ = some (.int .i64 0) := (blk_cell BK429.out 0).trans rfl; have hcz26_1 : w24.cell? ⟨gb429, 1, none⟩ = some (.int .i64 0) := (blk_cell BK429.out 1).trans rfl; have hcz26_2 : w24.cell? ⟨gb429, 2, none⟩ = some (.int .i64 0) := (blk_cell BK429.out 2).trans rfl; have hcz26_3 : w24.cell? ⟨gb429, 3, none⟩ = some (.int .i64 0) := (blk_cell BK429.out 3).trans rfl; have hcz26_4 : w24.cell? ⟨gb429, 4, none⟩ = some (.int .i64 0) := (blk_cell BK429.out 4).trans rfl; have hcz26_5 : w24.cell? ⟨gb429, 5, none⟩ = some (.int .i64 0) := (blk_cell BK429.out 5).trans rfl; have hcz26_6 : w24.cell? ⟨gb429, 6, none⟩ = some (.int .i64 0) := (blk_cell BK429.out 6).trans rfl; have hfz26_0 := blk_frozen BK429.out 0; have hfz26_1 := blk_frozen BK429.out 1; have hfz26_2 := blk_frozen BK429.out 2; have hfz26_3 := blk_frozen BK429.out 3; have hfz26_4 := blk_frozen BK429.out 4; have hfz26_5 := blk_frozen BK429.out 5; have hfz26_6 := blk_frozen BK429.out 6))
                repeat (go_quiet (first | ((with_reducible refine gate_dst (N := 17) rfl ?_); (try (refine gate_guard (by rfl) ?_; dsimp only)); refine box_event ?hg (N := 17) ?hd (cs := #[.int .i64 0, .int .i64 0, .int .i64 0, .int .i64 0, .int .i64 0, .int .i64 0, .int .i64 0]) (t := 58) ?hr ?_; (case hd => rfl); (case hg => rfl); (case hr => first | (go_simp; done) | (go_simp; rfl)); intro gb429 hg w24 hbox hb; have n0_ := Aside0.mk (Kd.R_below (by (with_reducible repeat (first | apply Kd.R_alloc | apply Kd.R_drewN | apply Kd.R_drew)); exact HO_0.out) hb); have n1_ := Aside0.mk (Kd.R_below (Kd.R_elderB (by (with_reducible repeat (first | apply Kd.R_alloc | apply Kd.R_drewN | apply Kd.R_drew)); exact HO_428002.out) gb429 (Nat.le_of_eq hg.symm)) hb); have n2_ := Aside0.mk (blk_below (g := gb427) (o := .cells #[.int .i64 t421, .int .i64 t422, .slice (some ad428) t423.length co18] 50 (0, 0)) (by (with_reducible repeat (first | refine blk_drewN ?_ _ | refine blk_drew ?_ | refine blk_alloc ?_ _)); exact BK427.out) hb); have n3_ := Aside0.mk (below_step (by repeat (first | (with_reducible first | exact HB.out | apply below_alloc | apply pw_below_drewN | apply below_drew1 | refine below_set ?_ GE427.out) | exact HB.out)) hb); have n4_ := Aside0.mk (hbox); have n5_ := Aside0.mk ((by rw [hg]; exact (below_size (by repeat (first | (with_reducible first | exact HB.out | apply below_alloc | apply pw_below_drewN | apply below_drew1 | refine below_set ?_ GE427.out) | exact HB.out))) : w.heap.size ≤ gb429)); have n6_ := Aside0.mk ((by rw [hg]; exact (below_size (by repeat (first | (with_reducible first | exact HB.out | apply below_alloc | apply pw_below_drewN | apply below_drew1 | refine below_set ?_ GE427.out) | exact HB.out))) : w.heap.size ≤ gb429)); have n7_ := Aside0.mk ((by rw [hg]; exact Nat.ne_of_lt (blk_lt (g := gb427) (o := .cells #[.int .i64 t421, .int .i64 t422, .slice (some ad428) t423.length co18] 50 (0, 0)) (by (with_reducible repeat (first | refine blk_drewN ?_ _ | refine blk_drew ?_ | refine blk_alloc ?_ _)); exact BK427.out)) : gb427 ≠ gb429)); have n8_ := Aside0.mk ((by rw [hg]; exact Nat.ne_of_gt (blk_lt (g := gb427) (o := .cells #[.int .i64 t421, .int .i64 t422, .slice (some ad428) t423.length co18] 50 (0, 0)) (by (with_reducible repeat (first | refine blk_drewN ?_ _ | refine blk_drew ?_ | refine blk_alloc ?_ _)); exact BK427.out)) : gb429 ≠ gb427)); clear HO_0; clear HO_428002; clear BK427; clear HB; have HO_0 := n0_; have HO_428002 := n1_; have BK427 := n2_; have HB := n3_; have BK429 := n4_; have GW429 := n5_; have GE429 := n6_; have NB427_429 := n7_; have NB429_427 := n8_; clear n0_ n1_ n2_ n3_ n4_ n5_ n6_ n7_ n8_; clear hb hbox hg; have hnb25 := NB429_427.out; have hnc25 := NB427_429.out; have hcz26_0 : w24.cell? ⟨gb429, 0, none⟩ = some (.int .i64 0) := (blk_cell BK429.out 0).trans rfl; have hcz26_1 : w24.cell? ⟨gb429, 1, none⟩ = some (.int .i64 0) := (blk_cell BK429.out 1).trans rfl; have hcz26_2 : w24.cell? ⟨gb429, 2, none⟩ = some (.int .i64 0) := (blk_cell BK429.out 2).trans rfl; have hcz26_3 : w24.cell? ⟨gb429, 3, none⟩ = some (.int .i64 0) := (blk_cell BK429.out 3).trans rfl; have hcz26_4 : w24.cell? ⟨gb429, 4, none⟩ = some (.int .i64 0) := (blk_cell BK429.out 4).trans rfl; have hcz26_5 : w24.cell? ⟨gb429, 5, none⟩ = some (.int .i64 0) := (blk_cell BK429.out 5).trans rfl; have hcz26_6 : w24.cell? ⟨gb429, 6, none⟩ = some (.int .i64 0) := (blk_cell BK429.out 6).trans rfl; have hfz26_0 := blk_frozen BK429.out 0; have hfz26_1 := blk_frozen BK429.out 1; have hfz26_2 := blk_frozen BK429.out 2; have hfz26_3 := blk_frozen BK429.out 3; have hfz26_4 := blk_frozen BK429.out 4; have hfz26_5 := blk_frozen BK429.out 5; have hfz26_6 := blk_frozen BK429.out 6)); go_upto_region 12 with (first | ((with_reducible refine gate_dst (N := 17) rfl ?_); (try (refine gate_guard (by rfl) ?_; dsimp only)); refine box_event ?hg (N := 17) ?hd (cs := #[.int .i64 0, .int .i64 0, .int .i64 0, .int .i64 0, .int .i64 0, .int .i64 0, .int .i64 0]) (t := 58) ?hr ?_; (case hd => rfl); (case hg => rfl); (case hr => first | (go_simp; done) | (go_simp; rfl)); intro gb429 hg w24 hbox hb; have n0_ := Aside0.mk (Kd.R_below (by (with_reducible repeat (first | apply Kd.R_alloc | apply Kd.R_drewN | apply Kd.R_drew)); exact HO_0.out) hb); have n1_ := Aside0.mk (Kd.R_below (Kd.R_elderB (by (with_reducible repeat (first | apply Kd.R_alloc | apply Kd.R_drewN | apply Kd.R_drew)); exact HO_428002.out) gb429 (Nat.le_of_eq hg.symm)) hb); have n2_ := Aside0.mk (blk_below (g := gb427) (o := .cells #[.int .i64 t421, .int .i64 t422, .slice (some ad428) t423.length co18] 50 (0, 0)) (by (with_reducible repeat (first | refine blk_drewN ?_ _ | refine blk_drew ?_ | refine blk_alloc ?_ _)); exact BK427.out) hb); have n3_ := Aside0.mk (below_step (by repeat (first | (with_reducible first | exact HB.out | apply below_alloc | apply pw_below_drewN | apply below_drew1 | refine below_set ?_ GE427.out) | exact HB.out)) hb); have n4_ := Aside0.mk (hbox); have n5_ := Aside0.mk ((by rw [hg]; exact (below_size (by repeat (first | (with_reducible first | exact HB.out | apply below_alloc | apply pw_below_drewN | apply below_drew1 | refine below_set ?_ GE427.out) | exact HB.out))) : w.heap.size ≤ gb429)); have n6_ := Aside0.mk ((by rw [hg]; exact (below_size (by repeat (first | (with_reducible first | exact HB.out | apply below_alloc | apply pw_below_drewN | apply below_drew1 | refine below_set ?_ GE427.out) | exact HB.out))) : w.heap.size ≤ gb429)); have n7_ := Aside0.mk ((by rw [hg]; exact Nat.ne_of_lt (blk_lt (g := gb427) (o := .cells #[.int .i64 t421, .int .i64 t422, .slice (some ad428) t423.length co18] 50 (0, 0)) (by (with_reducible repeat (first | refine blk_drewN ?_ _ | refine blk_drew ?_ | refine blk_alloc ?_ _)); exact BK427.out)) : gb427 ≠ gb429)); have n8_ := Aside0.mk ((by rw [hg]; exact Nat.ne_of_gt (blk_lt (g := gb427) (o := .cells #[.int .i64 t421, .int .i64 t422, .slice (some ad428) t423.length co18] 50 (0, 0)) (by (with_reducible repeat (first | refine blk_drewN ?_ _ | refine blk_drew ?_ | refine blk_alloc ?_ _)); exact BK427.out)) : gb429 ≠ gb427)); clear HO_0; clear HO_428002; clear BK427; clear HB; have HO_0 := n0_; have HO_428002 := n1_; have BK427 := n2_; have HB := n3_; have BK429 := n4_; have GW429 := n5_; have GE429 := n6_; have NB427_429 := n7_; have NB429_427 := n8_; clear n0_ n1_ n2_ n3_ n4_ n5_ n6_ n7_ n8_; clear hb hbox hg; have hnb25 := NB429_427.out; have hnc25 := NB427_429.out; have hcz26_0 : w24.cell? ⟨gb429, 0, none⟩ = some (.int .i64 0) := (blk_cell BK429.out 0).trans rfl; have hcz26_1 : w24.cell? ⟨gb429, 1, none⟩ = some (.int .i64 0) := (blk_cell BK429.out 1).trans rfl; have hcz26_2 : w24.cell? ⟨gb429, 2, none⟩ = some (.int .i64 0) := (blk_cell BK429.out 2).trans rfl; have hcz26_3 : w24.cell? ⟨gb429, 3, none⟩ = some (.int .i64 0) := (blk_cell BK429.out 3).trans rfl; have hcz26_4 : w24.cell? ⟨gb429, 4, none⟩ = some (.int .i64 0) := (blk_cell BK429.out 4).trans rfl; have hcz26_5 : w24.cell? ⟨gb429, 5, none⟩ = some (.int .i64 0) := (blk_cell BK429.out 5).trans rfl; have hcz26_6 : w24.cell? ⟨gb429, 6, none⟩ = some (.int .i64 0) := (blk_cell BK429.out 6).trans rfl; have hfz26_0 := blk_frozen BK429.out 0; have hfz26_1 := blk_frozen BK429.out 1; have hfz26_2 := blk_frozen BK429.out 2; have hfz26_3 := blk_frozen BK429.out 3; have hfz26_4 := blk_frozen BK429.out 4; have hfz26_5 := blk_frozen BK429.out 5; have hfz26_6 := blk_frozen BK429.out 6)))
                (try simp only [Act.put, List.setIfInBounds_toArray, List.set_cons_zero, List.set_cons_succ])
                go_cut [122] (fun v122 wc => ∃ (kq : Nat) (x122_21 : Bool), v122 = .bool x122_21 ∧ Aside0 (gutterlaw17_RowAll.j1 kq t418 a2 a3 t417 x16_1 x122_21 t421 t422 t423 ((rd_T58 t423 x16_1).f0) ((rd_T58 t423 x16_1).f1) ((rd_T58 t423 x16_1).f2) ((rd_T58 t423 x16_1).f3.f0) ((rd_T58 t423 x16_1).f3.f1) ((rd_T58 t423 x16_1).f3.f2) ((rd_T58 t423 x16_1).f3.f3) = some r) ∧ Aside0 (kq ≤ k1) ∧ Aside0 (Kd.R k32 32 wc w.heap.size (fun _ => True) (.slice Ao14 t418.length co14) t418) ∧ Aside0 (Kd.R k58 58 wc w.heap.size (fun k_ => k_ ≠ gb429) (.slice (some ad428) t423.length co18) t423) ∧ Aside0 (wc.heap[gb427]? = some (.cells #[.int .i64 t421, .int .i64 t422, (.slice (some ad428) t423.length co18)] 50 (0, 0))) ∧ Aside0 (wc.heap[gb429]? = some (.cells #[.int .i64 ((rd_T58 t423 x16_1).f0), .int .i64 ((rd_T58 t423 x16_1).f1), .int .i64 ((rd_T58 t423 x16_1).f2), .int .i64 ((rd_T58 t423 x16_1).f3.f0), .int .i64 ((rd_T58 t423 x16_1).f3.f1), .int .i64 ((rd_T58 t423 x16_1).f3.f2), .int .i64 ((rd_T58 t423 x16_1).f3.f3)] 58 (0, 0))) ∧ Aside0 (Below w.heap.size w wc))
                case first =>
                  have H := HC22.out
                  clear HC22
                  by_cases c27 : ((rd_T58 t423 x16_1).f0) = ((rd_T32 t418 x16_1).f0)
                  · rw [if_pos c27] at H
                    have c27b0 : (((rd_T58 t423 x16_1).f0) == ((rd_T32 t418 x16_1).f0)) = true := beq_iff_eq.mpr c27
                    have c27b1 : (((rd_T58 t423 x16_1).f0) != ((rd_T32 t418 x16_1).f0)) = false := bne_eq_false_iff_eq.mpr c27
                    clear c27
                    (first | rw [c27b0] | (simp only [i64_w, i32_w]; rw [c27b0]) | skip)
                    by_cases c28 : ((rd_T58 t423 x16_1).f1) = ((rd_T32 t418 x16_1).f1)
                    · rw [if_pos c28] at H
                      have c28b0 : (((rd_T58 t423 x16_1).f1) == ((rd_T32 t418 x16_1).f1)) = true := beq_iff_eq.mpr c28
                      have c28b1 : (((rd_T58 t423 x16_1).f1) != ((rd_T32 t418 x16_1).f1)) = false := bne_eq_false_iff_eq.mpr c28
                      clear c28
                      by_cases c29 : ((rd_T58 t423 x16_1).f3.f3) = ((rd_T32 t418 x16_1).f2)
                      · rw [if_pos c29] at H
                        have c29b0 : (((rd_T58 t423 x16_1).f3.f3) == ((rd_T32 t418 x16_1).f2)) = true := beq_iff_eq.mpr c29
                        have c29b1 : (((rd_T58 t423 x16_1).f3.f3) != ((rd_T32 t418 x16_1).f2)) = false := bne_eq_false_iff_eq.mpr c29
                        clear c29
                        by_cases c30 : ((rd_T58 t423 x16_1).f3.f2) = a2
                        · rw [if_pos c30] at H
                          have c30b0 : (((rd_T58 t423 x16_1).f3.f2) == a2) = true := beq_iff_eq.mpr c30
                          have c30b1 : (((rd_T58 t423 x16_1).f3.f2) != a2) = false := bne_eq_false_iff_eq.mpr c30
                          clear c30
                          by_cases c31 : ((rd_T58 t423 x16_1).f3.f0) = (wrap64 (((rd_T58 t423 x16_1).f2) * (wrap64 (a2 + a3))))
                          · rw [if_pos c31] at H
                            have c31b0 : (((rd_T58 t423 x16_1).f3.f0) == (wrap64 (((rd_T58 t423 x16_1).f2) * (wrap64 (a2 + a3))))) = true := beq_iff_eq.mpr c31
                            have c31b1 : (((rd_T58 t423 x16_1).f3.f0) != (wrap64 (((rd_T58 t423 x16_1).f2) * (wrap64 (a2 + a3))))) = false := bne_eq_false_iff_eq.mpr c31
                            clear c31
                            by_cases c32 : ((rd_T58 t423 x16_1).f2) ≥ t422
                            · rw [if_pos c32] at H
                              have c32b0 : decide (t422 ≤ ((rd_T58 t423 x16_1).f2)) = true := decide_eq_true c32
                              clear c32
                              first | exact (all_j1_dead H HTR.out).elim | exact (all_j2_dead H HTR.out).elim
                            · rw [if_neg c32] at H
                              have c32b0 : decide (t422 ≤ ((rd_T58 t423 x16_1).f2)) = false := decide_eq_false c32
                              clear c32
                              have H' := Aside0.mk H
                              clear H
                              have hnb36 := NB429_427.out
                              have hnc36 := NB427_429.out
                              have hcz37_0 : w24.cell? ⟨gb429, 0, none⟩ = some (.int .i64 0) := (blk_cell BK429.out 0).trans rfl
                              have hcz37_1 : w24.cell? ⟨gb429, 1, none⟩ = some (.int .i64 0) := (blk_cell BK429.out 1).trans rfl
                              have hcz37_2 : w24.cell? ⟨gb429, 2, none⟩ = some (.int .i64 0) := (blk_cell BK429.out 2).trans rfl
                              have hcz37_3 : w24.cell? ⟨gb429, 3, none⟩ = some (.int .i64 0) := (blk_cell BK429.out 3).trans rfl
                              have hcz37_4 : w24.cell? ⟨gb429, 4, none⟩ = some (.int .i64 0) := (blk_cell BK429.out 4).trans rfl
                              have hcz37_5 : w24.cell? ⟨gb429, 5, none⟩ = some (.int .i64 0) := (blk_cell BK429.out 5).trans rfl
                              have hcz37_6 : w24.cell? ⟨gb429, 6, none⟩ = some (.int .i64 0) := (blk_cell BK429.out 6).trans rfl
                              have hfz37_0 := blk_frozen BK429.out 0
                              have hfz37_1 := blk_frozen BK429.out 1
                              have hfz37_2 := blk_frozen BK429.out 2
                              have hfz37_3 := blk_frozen BK429.out 3
                              have hfz37_4 := blk_frozen BK429.out 4
                              have hfz37_5 := blk_frozen BK429.out 5
                              have hfz37_6 := blk_frozen BK429.out 6
                              have p430 : 0 ≤ (x16_1 : Int) := of_decide_eq_true (by first | (with_reducible assumption) | assumption)
                              have q430 : x16_1 < (t418.length : Int) := of_decide_eq_true (by first | (with_reducible assumption) | assumption)
                              obtain ⟨ad430, e430, hx430_0, hx430_1, hx430_2, hx430_3, hx430_4⟩ := at_T32 (Kd.R_reads' HO_0.out).2.2 x16_1 p430 q430
                              cases e430
                              have hn430_0 : ad430.block ≠ gb429 := Kd.own_blk (Kd.R_ne HO_0.out BK429.out (by decide))
                              have hn430_1 : ad430.block ≠ gb429 := Kd.own_blk (Kd.R_ne HO_0.out BK429.out (by decide))
                              have hn430_2 : ad430.block ≠ gb429 := Kd.own_blk (Kd.R_ne HO_0.out BK429.out (by decide))
                              have hn430_3 : ad430.block ≠ gb429 := Kd.own_blk (Kd.R_ne HO_0.out BK429.out (by decide))
                              have hn430_4 : ad430.block ≠ gb429 := Kd.own_blk (Kd.R_ne HO_0.out BK429.out (by decide))
                              have hn430_5 : ad430.block ≠ gb429 := Kd.own_blk (Kd.R_ne HO_0.out BK429.out (by decide))
                              have hn430_6 : ad430.block ≠ gb429 := Kd.own_blk (Kd.R_ne HO_0.out BK429.out (by decide))
                              have hy430_0 := fun (n_ : Nat) => far7_draw (n := n_) hx430_0 (by first | (rw [add_block]; exact hn430_0) | (show (Addr.add _ _).block ≠ _; rw [add_block]; exact hn430_0) | exact hn430_0) (.int .i64 ((rd_T58 t423 x16_1).f0)) (.int .i64 ((rd_T58 t423 x16_1).f1)) (.int .i64 ((rd_T58 t423 x16_1).f2)) (.int .i64 ((rd_T58 t423 x16_1).f3.f0)) (.int .i64 ((rd_T58 t423 x16_1).f3.f1)) (.int .i64 ((rd_T58 t423 x16_1).f3.f2)) (.int .i64 ((rd_T58 t423 x16_1).f3.f3))
                              replace hx430_0 := far7 hx430_0 (by first | (rw [add_block]; exact hn430_0) | (show (Addr.add _ _).block ≠ _; rw [add_block]; exact hn430_0) | exact hn430_0) (.int .i64 ((rd_T58 t423 x16_1).f0)) (.int .i64 ((rd_T58 t423 x16_1).f1)) (.int .i64 ((rd_T58 t423 x16_1).f2)) (.int .i64 ((rd_T58 t423 x16_1).f3.f0)) (.int .i64 ((rd_T58 t423 x16_1).f3.f1)) (.int .i64 ((rd_T58 t423 x16_1).f3.f2)) (.int .i64 ((rd_T58 t423 x16_1).f3.f3))
                              have hy430_1 := fun (n_ : Nat) => far7_draw (n := n_) hx430_1 (by first | (rw [add_block]; exact hn430_0) | (show (Addr.add _ _).block ≠ _; rw [add_block]; exact hn430_0) | exact hn430_0) (.int .i64 ((rd_T58 t423 x16_1).f0)) (.int .i64 ((rd_T58 t423 x16_1).f1)) (.int .i64 ((rd_T58 t423 x16_1).f2)) (.int .i64 ((rd_T58 t423 x16_1).f3.f0)) (.int .i64 ((rd_T58 t423 x16_1).f3.f1)) (.int .i64 ((rd_T58 t423 x16_1).f3.f2)) (.int .i64 ((rd_T58 t423 x16_1).f3.f3))
                              replace hx430_1 := far7 hx430_1 (by first | (rw [add_block]; exact hn430_0) | (show (Addr.add _ _).block ≠ _; rw [add_block]; exact hn430_0) | exact hn430_0) (.int .i64 ((rd_T58 t423 x16_1).f0)) (.int .i64 ((rd_T58 t423 x16_1).f1)) (.int .i64 ((rd_T58 t423 x16_1).f2)) (.int .i64 ((rd_T58 t423 x16_1).f3.f0)) (.int .i64 ((rd_T58 t423 x16_1).f3.f1)) (.int .i64 ((rd_T58 t423 x16_1).f3.f2)) (.int .i64 ((rd_T58 t423 x16_1).f3.f3))
                              have hy430_2 := fun (n_ : Nat) => far7_draw (n := n_) hx430_2 (by first | (rw [add_block]; exact hn430_0) | (show (Addr.add _ _).block ≠ _; rw [add_block]; exact hn430_0) | exact hn430_0) (.int .i64 ((rd_T58 t423 x16_1).f0)) (.int .i64 ((rd_T58 t423 x16_1).f1)) (.int .i64 ((rd_T58 t423 x16_1).f2)) (.int .i64 ((rd_T58 t423 x16_1).f3.f0)) (.int .i64 ((rd_T58 t423 x16_1).f3.f1)) (.int .i64 ((rd_T58 t423 x16_1).f3.f2)) (.int .i64 ((rd_T58 t423 x16_1).f3.f3))
                              replace hx430_2 := far7 hx430_2 (by first | (rw [add_block]; exact hn430_0) | (show (Addr.add _ _).block ≠ _; rw [add_block]; exact hn430_0) | exact hn430_0) (.int .i64 ((rd_T58 t423 x16_1).f0)) (.int .i64 ((rd_T58 t423 x16_1).f1)) (.int .i64 ((rd_T58 t423 x16_1).f2)) (.int .i64 ((rd_T58 t423 x16_1).f3.f0)) (.int .i64 ((rd_T58 t423 x16_1).f3.f1)) (.int .i64 ((rd_T58 t423 x16_1).f3.f2)) (.int .i64 ((rd_T58 t423 x16_1).f3.f3))
                              have hy430_3 := fun (n_ : Nat) => far7_draw (n := n_) hx430_3 (by first | (rw [add_block]; exact hn430_0) | (show (Addr.add _ _).block ≠ _; rw [add_block]; exact hn430_0) | exact hn430_0) (.int .i64 ((rd_T58 t423 x16_1).f0)) (.int .i64 ((rd_T58 t423 x16_1).f1)) (.int .i64 ((rd_T58 t423 x16_1).f2)) (.int .i64 ((rd_T58 t423 x16_1).f3.f0)) (.int .i64 ((rd_T58 t423 x16_1).f3.f1)) (.int .i64 ((rd_T58 t423 x16_1).f3.f2)) (.int .i64 ((rd_T58 t423 x16_1).f3.f3))
                              replace hx430_3 := far7 hx430_3 (by first | (rw [add_block]; exact hn430_0) | (show (Addr.add _ _).block ≠ _; rw [add_block]; exact hn430_0) | exact hn430_0) (.int .i64 ((rd_T58 t423 x16_1).f0)) (.int .i64 ((rd_T58 t423 x16_1).f1)) (.int .i64 ((rd_T58 t423 x16_1).f2)) (.int .i64 ((rd_T58 t423 x16_1).f3.f0)) (.int .i64 ((rd_T58 t423 x16_1).f3.f1)) (.int .i64 ((rd_T58 t423 x16_1).f3.f2)) (.int .i64 ((rd_T58 t423 x16_1).f3.f3))
                              have hy430_4 := fun (n_ : Nat) => far7_draw (n := n_) hx430_4 (by first | (rw [add_block]; exact hn430_0) | (show (Addr.add _ _).block ≠ _; rw [add_block]; exact hn430_0) | exact hn430_0) (.int .i64 ((rd_T58 t423 x16_1).f0)) (.int .i64 ((rd_T58 t423 x16_1).f1)) (.int .i64 ((rd_T58 t423 x16_1).f2)) (.int .i64 ((rd_T58 t423 x16_1).f3.f0)) (.int .i64 ((rd_T58 t423 x16_1).f3.f1)) (.int .i64 ((rd_T58 t423 x16_1).f3.f2)) (.int .i64 ((rd_T58 t423 x16_1).f3.f3))
                              replace hx430_4 := far7 hx430_4 (by first | (rw [add_block]; exact hn430_0) | (show (Addr.add _ _).block ≠ _; rw [add_block]; exact hn430_0) | exact hn430_0) (.int .i64 ((rd_T58 t423 x16_1).f0)) (.int .i64 ((rd_T58 t423 x16_1).f1)) (.int .i64 ((rd_T58 t423 x16_1).f2)) (.int .i64 ((rd_T58 t423 x16_1).f3.f0)) (.int .i64 ((rd_T58 t423 x16_1).f3.f1)) (.int .i64 ((rd_T58 t423 x16_1).f3.f2)) (.int .i64 ((rd_T58 t423 x16_1).f3.f3))
                              clear hn430_0
                              clear hn430_1
                              clear hn430_2
                              clear hn430_3
                              clear hn430_4
                              clear hn430_5
                              clear hn430_6
                              replace p430 := eq_true p430
                              replace q430 := eq_true q430
                              have p431 : 0 ≤ (x16_1 : Int) := of_decide_eq_true (by first | (with_reducible assumption) | assumption)
                              have q431 : x16_1 < (t418.length : Int) := of_decide_eq_true (by first | (with_reducible assumption) | assumption)
                              obtain ⟨ad431, e431, hx431_0, hx431_1, hx431_2, hx431_3, hx431_4⟩ := at_T32 (Kd.R_reads' HO_0.out).2.2 x16_1 p431 q431
                              obtain rfl : ad430 = ad431 := (by injection e431)
                              have hn431_0 : ad430.block ≠ gb429 := Kd.own_blk (Kd.R_ne HO_0.out BK429.out (by decide))
                              have hn431_1 : ad430.block ≠ gb429 := Kd.own_blk (Kd.R_ne HO_0.out BK429.out (by decide))
                              have hn431_2 : ad430.block ≠ gb429 := Kd.own_blk (Kd.R_ne HO_0.out BK429.out (by decide))
                              have hn431_3 : ad430.block ≠ gb429 := Kd.own_blk (Kd.R_ne HO_0.out BK429.out (by decide))
                              have hn431_4 : ad430.block ≠ gb429 := Kd.own_blk (Kd.R_ne HO_0.out BK429.out (by decide))
                              have hn431_5 : ad430.block ≠ gb429 := Kd.own_blk (Kd.R_ne HO_0.out BK429.out (by decide))
                              have hn431_6 : ad430.block ≠ gb429 := Kd.own_blk (Kd.R_ne HO_0.out BK429.out (by decide))
                              have hy431_0 := fun (n_ : Nat) => far7_draw (n := n_) hx431_0 (by first | (rw [add_block]; exact hn431_0) | (show (Addr.add _ _).block ≠ _; rw [add_block]; exact hn431_0) | exact hn431_0) (.int .i64 ((rd_T58 t423 x16_1).f0)) (.int .i64 ((rd_T58 t423 x16_1).f1)) (.int .i64 ((rd_T58 t423 x16_1).f2)) (.int .i64 ((rd_T58 t423 x16_1).f3.f0)) (.int .i64 ((rd_T58 t423 x16_1).f3.f1)) (.int .i64 ((rd_T58 t423 x16_1).f3.f2)) (.int .i64 ((rd_T58 t423 x16_1).f3.f3))
                              replace hx431_0 := far7 hx431_0 (by first | (rw [add_block]; exact hn431_0) | (show (Addr.add _ _).block ≠ _; rw [add_block]; exact hn431_0) | exact hn431_0) (.int .i64 ((rd_T58 t423 x16_1).f0)) (.int .i64 ((rd_T58 t423 x16_1).f1)) (.int .i64 ((rd_T58 t423 x16_1).f2)) (.int .i64 ((rd_T58 t423 x16_1).f3.f0)) (.int .i64 ((rd_T58 t423 x16_1).f3.f1)) (.int .i64 ((rd_T58 t423 x16_1).f3.f2)) (.int .i64 ((rd_T58 t423 x16_1).f3.f3))
                              have hy431_1 := fun (n_ : Nat) => far7_draw (n := n_) hx431_1 (by first | (rw [add_block]; exact hn431_0) | (show (Addr.add _ _).block ≠ _; rw [add_block]; exact hn431_0) | exact hn431_0) (.int .i64 ((rd_T58 t423 x16_1).f0)) (.int .i64 ((rd_T58 t423 x16_1).f1)) (.int .i64 ((rd_T58 t423 x16_1).f2)) (.int .i64 ((rd_T58 t423 x16_1).f3.f0)) (.int .i64 ((rd_T58 t423 x16_1).f3.f1)) (.int .i64 ((rd_T58 t423 x16_1).f3.f2)) (.int .i64 ((rd_T58 t423 x16_1).f3.f3))
                              replace hx431_1 := far7 hx431_1 (by first | (rw [add_block]; exact hn431_0) | (show (Addr.add _ _).block ≠ _; rw [add_block]; exact hn431_0) | exact hn431_0) (.int .i64 ((rd_T58 t423 x16_1).f0)) (.int .i64 ((rd_T58 t423 x16_1).f1)) (.int .i64 ((rd_T58 t423 x16_1).f2)) (.int .i64 ((rd_T58 t423 x16_1).f3.f0)) (.int .i64 ((rd_T58 t423 x16_1).f3.f1)) (.int .i64 ((rd_T58 t423 x16_1).f3.f2)) (.int .i64 ((rd_T58 t423 x16_1).f3.f3))
                              have hy431_2 := fun (n_ : Nat) => far7_draw (n := n_) hx431_2 (by first | (rw [add_block]; exact hn431_0) | (show (Addr.add _ _).block ≠ _; rw [add_block]; exact hn431_0) | exact hn431_0) (.int .i64 ((rd_T58 t423 x16_1).f0)) (.int .i64 ((rd_T58 t423 x16_1).f1)) (.int .i64 ((rd_T58 t423 x16_1).f2)) (.int .i64 ((rd_T58 t423 x16_1).f3.f0)) (.int .i64 ((rd_T58 t423 x16_1).f3.f1)) (.int .i64 ((rd_T58 t423 x16_1).f3.f2)) (.int .i64 ((rd_T58 t423 x16_1).f3.f3))
                              replace hx431_2 := far7 hx431_2 (by first | (rw [add_block]; exact hn431_0) | (show (Addr.add _ _).block ≠ _; rw [add_block]; exact hn431_0) | exact hn431_0) (.int .i64 ((rd_T58 t423 x16_1).f0)) (.int .i64 ((rd_T58 t423 x16_1).f1)) (.int .i64 ((rd_T58 t423 x16_1).f2)) (.int .i64 ((rd_T58 t423 x16_1).f3.f0)) (.int .i64 ((rd_T58 t423 x16_1).f3.f1)) (.int .i64 ((rd_T58 t423 x16_1).f3.f2)) (.int .i64 ((rd_T58 t423 x16_1).f3.f3))
                              have hy431_3 := fun (n_ : Nat) => far7_draw (n := n_) hx431_3 (by first | (rw [add_block]; exact hn431_0) | (show (Addr.add _ _).block ≠ _; rw [add_block]; exact hn431_0) | exact hn431_0) (.int .i64 ((rd_T58 t423 x16_1).f0)) (.int .i64 ((rd_T58 t423 x16_1).f1)) (.int .i64 ((rd_T58 t423 x16_1).f2)) (.int .i64 ((rd_T58 t423 x16_1).f3.f0)) (.int .i64 ((rd_T58 t423 x16_1).f3.f1)) (.int .i64 ((rd_T58 t423 x16_1).f3.f2)) (.int .i64 ((rd_T58 t423 x16_1).f3.f3))
                              replace hx431_3 := far7 hx431_3 (by first | (rw [add_block]; exact hn431_0) | (show (Addr.add _ _).block ≠ _; rw [add_block]; exact hn431_0) | exact hn431_0) (.int .i64 ((rd_T58 t423 x16_1).f0)) (.int .i64 ((rd_T58 t423 x16_1).f1)) (.int .i64 ((rd_T58 t423 x16_1).f2)) (.int .i64 ((rd_T58 t423 x16_1).f3.f0)) (.int .i64 ((rd_T58 t423 x16_1).f3.f1)) (.int .i64 ((rd_T58 t423 x16_1).f3.f2)) (.int .i64 ((rd_T58 t423 x16_1).f3.f3))
                              have hy431_4 := fun (n_ : Nat) => far7_draw (n := n_) hx431_4 (by first | (rw [add_block]; exact hn431_0) | (show (Addr.add _ _).block ≠ _; rw [add_block]; exact hn431_0) | exact hn431_0) (.int .i64 ((rd_T58 t423 x16_1).f0)) (.int .i64 ((rd_T58 t423 x16_1).f1)) (.int .i64 ((rd_T58 t423 x16_1).f2)) (.int .i64 ((rd_T58 t423 x16_1).f3.f0)) (.int .i64 ((rd_T58 t423 x16_1).f3.f1)) (.int .i64 ((rd_T58 t423 x16_1).f3.f2)) (.int .i64 ((rd_T58 t423 x16_1).f3.f3))
                              replace hx431_4 := far7 hx431_4 (by first | (rw [add_block]; exact hn431_0) | (show (Addr.add _ _).block ≠ _; rw [add_block]; exact hn431_0) | exact hn431_0) (.int .i64 ((rd_T58 t423 x16_1).f0)) (.int .i64 ((rd_T58 t423 x16_1).f1)) (.int .i64 ((rd_T58 t423 x16_1).f2)) (.int .i64 ((rd_T58 t423 x16_1).f3.f0)) (.int .i64 ((rd_T58 t423 x16_1).f3.f1)) (.int .i64 ((rd_T58 t423 x16_1).f3.f2)) (.int .i64 ((rd_T58 t423 x16_1).f3.f3))
                              clear hn431_0
                              clear hn431_1
                              clear hn431_2
                              clear hn431_3
                              clear hn431_4
                              clear hn431_5
                              clear hn431_6
                              replace p431 := eq_true p431
                              replace q431 := eq_true q431
                              have p432 : 0 ≤ (x16_1 : Int) := of_decide_eq_true (by first | (with_reducible assumption) | assumption)
                              have q432 : x16_1 < (t418.length : Int) := of_decide_eq_true (by first | (with_reducible assumption) | assumption)
                              obtain ⟨ad432, e432, hx432_0, hx432_1, hx432_2, hx432_3, hx432_4⟩ := at_T32 (Kd.R_reads' HO_0.out).2.2 x16_1 p432 q432
                              obtain rfl : ad430 = ad432 := (by injection e432)
                              have hn432_0 : ad430.block ≠ gb429 := Kd.own_blk (Kd.R_ne HO_0.out BK429.out (by decide))
                              have hn432_1 : ad430.block ≠ gb429 := Kd.own_blk (Kd.R_ne HO_0.out BK429.out (by decide))
                              have hn432_2 : ad430.block ≠ gb429 := Kd.own_blk (Kd.R_ne HO_0.out BK429.out (by decide))
                              have hn432_3 : ad430.block ≠ gb429 := Kd.own_blk (Kd.R_ne HO_0.out BK429.out (by decide))
                              have hn432_4 : ad430.block ≠ gb429 := Kd.own_blk (Kd.R_ne HO_0.out BK429.out (by decide))
                              have hn432_5 : ad430.block ≠ gb429 := Kd.own_blk (Kd.R_ne HO_0.out BK429.out (by decide))
                              have hn432_6 : ad430.block ≠ gb429 := Kd.own_blk (Kd.R_ne HO_0.out BK429.out (by decide))
                              have hy432_0 := fun (n_ : Nat) => far7_draw (n := n_) hx432_0 (by first | (rw [add_block]; exact hn432_0) | (show (Addr.add _ _).block ≠ _; rw [add_block]; exact hn432_0) | exact hn432_0) (.int .i64 ((rd_T58 t423 x16_1).f0)) (.int .i64 ((rd_T58 t423 x16_1).f1)) (.int .i64 ((rd_T58 t423 x16_1).f2)) (.int .i64 ((rd_T58 t423 x16_1).f3.f0)) (.int .i64 ((rd_T58 t423 x16_1).f3.f1)) (.int .i64 ((rd_T58 t423 x16_1).f3.f2)) (.int .i64 ((rd_T58 t423 x16_1).f3.f3))
                              replace hx432_0 := far7 hx432_0 (by first | (rw [add_block]; exact hn432_0) | (show (Addr.add _ _).block ≠ _; rw [add_block]; exact hn432_0) | exact hn432_0) (.int .i64 ((rd_T58 t423 x16_1).f0)) (.int .i64 ((rd_T58 t423 x16_1).f1)) (.int .i64 ((rd_T58 t423 x16_1).f2)) (.int .i64 ((rd_T58 t423 x16_1).f3.f0)) (.int .i64 ((rd_T58 t423 x16_1).f3.f1)) (.int .i64 ((rd_T58 t423 x16_1).f3.f2)) (.int .i64 ((rd_T58 t423 x16_1).f3.f3))
                              have hy432_1 := fun (n_ : Nat) => far7_draw (n := n_) hx432_1 (by first | (rw [add_block]; exact hn432_0) | (show (Addr.add _ _).block ≠ _; rw [add_block]; exact hn432_0) | exact hn432_0) (.int .i64 ((rd_T58 t423 x16_1).f0)) (.int .i64 ((rd_T58 t423 x16_1).f1)) (.int .i64 ((rd_T58 t423 x16_1).f2)) (.int .i64 ((rd_T58 t423 x16_1).f3.f0)) (.int .i64 ((rd_T58 t423 x16_1).f3.f1)) (.int .i64 ((rd_T58 t423 x16_1).f3.f2)) (.int .i64 ((rd_T58 t423 x16_1).f3.f3))
                              replace hx432_1 := far7 hx432_1 (by first | (rw [add_block]; exact hn432_0) | (show (Addr.add _ _).block ≠ _; rw [add_block]; exact hn432_0) | exact hn432_0) (.int .i64 ((rd_T58 t423 x16_1).f0)) (.int .i64 ((rd_T58 t423 x16_1).f1)) (.int .i64 ((rd_T58 t423 x16_1).f2)) (.int .i64 ((rd_T58 t423 x16_1).f3.f0)) (.int .i64 ((rd_T58 t423 x16_1).f3.f1)) (.int .i64 ((rd_T58 t423 x16_1).f3.f2)) (.int .i64 ((rd_T58 t423 x16_1).f3.f3))
                              have hy432_2 := fun (n_ : Nat) => far7_draw (n := n_) hx432_2 (by first | (rw [add_block]; exact hn432_0) | (show (Addr.add _ _).block ≠ _; rw [add_block]; exact hn432_0) | exact hn432_0) (.int .i64 ((rd_T58 t423 x16_1).f0)) (.int .i64 ((rd_T58 t423 x16_1).f1)) (.int .i64 ((rd_T58 t423 x16_1).f2)) (.int .i64 ((rd_T58 t423 x16_1).f3.f0)) (.int .i64 ((rd_T58 t423 x16_1).f3.f1)) (.int .i64 ((rd_T58 t423 x16_1).f3.f2)) (.int .i64 ((rd_T58 t423 x16_1).f3.f3))
                              replace hx432_2 := far7 hx432_2 (by first | (rw [add_block]; exact hn432_0) | (show (Addr.add _ _).block ≠ _; rw [add_block]; exact hn432_0) | exact hn432_0) (.int .i64 ((rd_T58 t423 x16_1).f0)) (.int .i64 ((rd_T58 t423 x16_1).f1)) (.int .i64 ((rd_T58 t423 x16_1).f2)) (.int .i64 ((rd_T58 t423 x16_1).f3.f0)) (.int .i64 ((rd_T58 t423 x16_1).f3.f1)) (.int .i64 ((rd_T58 t423 x16_1).f3.f2)) (.int .i64 ((rd_T58 t423 x16_1).f3.f3))
                              have hy432_3 := fun (n_ : Nat) => far7_draw (n := n_) hx432_3 (by first | (rw [add_block]; exact hn432_0) | (show (Addr.add _ _).block ≠ _; rw [add_block]; exact hn432_0) | exact hn432_0) (.int .i64 ((rd_T58 t423 x16_1).f0)) (.int .i64 ((rd_T58 t423 x16_1).f1)) (.int .i64 ((rd_T58 t423 x16_1).f2)) (.int .i64 ((rd_T58 t423 x16_1).f3.f0)) (.int .i64 ((rd_T58 t423 x16_1).f3.f1)) (.int .i64 ((rd_T58 t423 x16_1).f3.f2)) (.int .i64 ((rd_T58 t423 x16_1).f3.f3))
                              replace hx432_3 := far7 hx432_3 (by first | (rw [add_block]; exact hn432_0) | (show (Addr.add _ _).block ≠ _; rw [add_block]; exact hn432_0) | exact hn432_0) (.int .i64 ((rd_T58 t423 x16_1).f0)) (.int .i64 ((rd_T58 t423 x16_1).f1)) (.int .i64 ((rd_T58 t423 x16_1).f2)) (.int .i64 ((rd_T58 t423 x16_1).f3.f0)) (.int .i64 ((rd_T58 t423 x16_1).f3.f1)) (.int .i64 ((rd_T58 t423 x16_1).f3.f2)) (.int .i64 ((rd_T58 t423 x16_1).f3.f3))
                              have hy432_4 := fun (n_ : Nat) => far7_draw (n := n_) hx432_4 (by first | (rw [add_block]; exact hn432_0) | (show (Addr.add _ _).block ≠ _; rw [add_block]; exact hn432_0) | exact hn432_0) (.int .i64 ((rd_T58 t423 x16_1).f0)) (.int .i64 ((rd_T58 t423 x16_1).f1)) (.int .i64 ((rd_T58 t423 x16_1).f2)) (.int .i64 ((rd_T58 t423 x16_1).f3.f0)) (.int .i64 ((rd_T58 t423 x16_1).f3.f1)) (.int .i64 ((rd_T58 t423 x16_1).f3.f2)) (.int .i64 ((rd_T58 t423 x16_1).f3.f3))
                              replace hx432_4 := far7 hx432_4 (by first | (rw [add_block]; exact hn432_0) | (show (Addr.add _ _).block ≠ _; rw [add_block]; exact hn432_0) | exact hn432_0) (.int .i64 ((rd_T58 t423 x16_1).f0)) (.int .i64 ((rd_T58 t423 x16_1).f1)) (.int .i64 ((rd_T58 t423 x16_1).f2)) (.int .i64 ((rd_T58 t423 x16_1).f3.f0)) (.int .i64 ((rd_T58 t423 x16_1).f3.f1)) (.int .i64 ((rd_T58 t423 x16_1).f3.f2)) (.int .i64 ((rd_T58 t423 x16_1).f3.f3))
                              clear hn432_0
                              clear hn432_1
                              clear hn432_2
                              clear hn432_3
                              clear hn432_4
                              clear hn432_5
                              clear hn432_6
                              replace p432 := eq_true p432
                              replace q432 := eq_true q432
                              have hcz38_0 : w24.cell? ⟨gb427, 0, none⟩ = some (.int .i64 t421) := (blk_cell BK427.out 0).trans rfl
                              have hcz38_1 : w24.cell? ⟨gb427, 1, none⟩ = some (.int .i64 t422) := (blk_cell BK427.out 1).trans rfl
                              have hcz38_2 : w24.cell? ⟨gb427, 2, none⟩ = some (.slice (some ad428) t423.length co18) := (blk_cell BK427.out 2).trans rfl
                              have hfz38_0 := blk_frozen BK427.out 0
                              have hfz38_1 := blk_frozen BK427.out 1
                              have hfz38_2 := blk_frozen BK427.out 2
                              go_wp2
                              obtain ⟨w7, hW7⟩ : ∃ W : World, W = (((((((w24.setCell ⟨gb429, 0, none⟩ (.int .i64 ((rd_T58 t423 x16_1).f0))).setCell ⟨gb429, 1, none⟩ (.int .i64 ((rd_T58 t423 x16_1).f1))).setCell ⟨gb429, 2, none⟩ (.int .i64 ((rd_T58 t423 x16_1).f2))).setCell ⟨gb429, 3, none⟩ (.int .i64 ((rd_T58 t423 x16_1).f3.f0))).setCell ⟨gb429, 4, none⟩ (.int .i64 ((rd_T58 t423 x16_1).f3.f1))).setCell ⟨gb429, 5, none⟩ (.int .i64 ((rd_T58 t423 x16_1).f3.f2))).setCell ⟨gb429, 6, none⟩ (.int .i64 ((rd_T58 t423 x16_1).f3.f3))) := ⟨_, rfl⟩
                              rw [← hW7] at hx430_0 hx430_1 hx430_2 hx430_3 hx430_4
                              have G7 := far7_own (W := w7) hcz37_0 hcz37_1 hcz37_2 hcz37_3 hcz37_4 hcz37_5 hcz37_6 (.int .i64 ((rd_T58 t423 x16_1).f0)) (.int .i64 ((rd_T58 t423 x16_1).f1)) (.int .i64 ((rd_T58 t423 x16_1).f2)) (.int .i64 ((rd_T58 t423 x16_1).f3.f0)) (.int .i64 ((rd_T58 t423 x16_1).f3.f1)) (.int .i64 ((rd_T58 t423 x16_1).f3.f2)) (.int .i64 ((rd_T58 t423 x16_1).f3.f3)) hW7
                              rw [← hW7]
                              have k0 := far7 hcz38_0 hnc36 (.int .i64 ((rd_T58 t423 x16_1).f0)) (.int .i64 ((rd_T58 t423 x16_1).f1)) (.int .i64 ((rd_T58 t423 x16_1).f2)) (.int .i64 ((rd_T58 t423 x16_1).f3.f0)) (.int .i64 ((rd_T58 t423 x16_1).f3.f1)) (.int .i64 ((rd_T58 t423 x16_1).f3.f2)) (.int .i64 ((rd_T58 t423 x16_1).f3.f3))
                              have k1 := far7 hcz38_1 hnc36 (.int .i64 ((rd_T58 t423 x16_1).f0)) (.int .i64 ((rd_T58 t423 x16_1).f1)) (.int .i64 ((rd_T58 t423 x16_1).f2)) (.int .i64 ((rd_T58 t423 x16_1).f3.f0)) (.int .i64 ((rd_T58 t423 x16_1).f3.f1)) (.int .i64 ((rd_T58 t423 x16_1).f3.f2)) (.int .i64 ((rd_T58 t423 x16_1).f3.f3))
                              have k2 := far7 hcz38_2 hnc36 (.int .i64 ((rd_T58 t423 x16_1).f0)) (.int .i64 ((rd_T58 t423 x16_1).f1)) (.int .i64 ((rd_T58 t423 x16_1).f2)) (.int .i64 ((rd_T58 t423 x16_1).f3.f0)) (.int .i64 ((rd_T58 t423 x16_1).f3.f1)) (.int .i64 ((rd_T58 t423 x16_1).f3.f2)) (.int .i64 ((rd_T58 t423 x16_1).f3.f3))
                              rw [← hW7] at k0 k1 k2
                              obtain ⟨g0, g1, g2, g3, g4, g5, g6⟩ := G7
                              clear hx431_0 hx431_1 hx431_2 hx431_3 hx431_4 hx432_0 hx432_1 hx432_2 hx432_3 hx432_4
                              clear hy430_0 hy430_1 hy430_2 hy430_3 hy430_4 hy431_0 hy431_1 hy431_2 hy431_3 hy431_4 hy432_0 hy432_1 hy432_2 hy432_3 hy432_4
                              have HW7 := Lib.hid hW7
                              clear hW7
                              repeat (go_quiet (fail); try go_wp2)
                              obtain rfl := HW7.out
                              go_meet
                              case rel => exact ⟨_, (decide (((rd_T58 t423 x16_1).f3.f1) < 0)), (by first | rfl | (simp; done) | (simp [*]; done)), H', ⟨by have := HK1.out; first | omega | exact Nat.le_refl _⟩, ⟨by (with_reducible repeat (first | apply Kd.R_alloc | apply Kd.R_drewN | apply Kd.R_drew)); exact Kd.R_mono (Kd.R_far (p := ⟨gb429, 6, none⟩) (Kd.R_far (p := ⟨gb429, 5, none⟩) (Kd.R_far (p := ⟨gb429, 4, none⟩) (Kd.R_far (p := ⟨gb429, 3, none⟩) (Kd.R_far (p := ⟨gb429, 2, none⟩) (Kd.R_far (p := ⟨gb429, 1, none⟩) (Kd.R_far (p := ⟨gb429, 0, none⟩) (Kd.R_types HO_0.out BK429.out (by decide)) (fun _ hk => hk.2) (.int .i64 ((rd_T58 t423 x16_1).f0))) (fun _ hk => hk.2) (.int .i64 ((rd_T58 t423 x16_1).f1))) (fun _ hk => hk.2) (.int .i64 ((rd_T58 t423 x16_1).f2))) (fun _ hk => hk.2) (.int .i64 ((rd_T58 t423 x16_1).f3.f0))) (fun _ hk => hk.2) (.int .i64 ((rd_T58 t423 x16_1).f3.f1))) (fun _ hk => hk.2) (.int .i64 ((rd_T58 t423 x16_1).f3.f2))) (fun _ hk => hk.2) (.int .i64 ((rd_T58 t423 x16_1).f3.f3))) (fun _ hk => trivial)⟩, ⟨by (with_reducible repeat (first | apply Kd.R_alloc | apply Kd.R_drewN | apply Kd.R_drew)); exact Kd.R_mono (Kd.R_far (p := ⟨gb429, 6, none⟩) (Kd.R_far (p := ⟨gb429, 5, none⟩) (Kd.R_far (p := ⟨gb429, 4, none⟩) (Kd.R_far (p := ⟨gb429, 3, none⟩) (Kd.R_far (p := ⟨gb429, 2, none⟩) (Kd.R_far (p := ⟨gb429, 1, none⟩) (Kd.R_far (p := ⟨gb429, 0, none⟩) (Kd.R_mono HO_428002.out (fun k_ hk => (⟨hk, hk.2⟩ : _ ∧ k_ ≠ gb429))) (fun _ hk => hk.2) (.int .i64 ((rd_T58 t423 x16_1).f0))) (fun _ hk => hk.2) (.int .i64 ((rd_T58 t423 x16_1).f1))) (fun _ hk => hk.2) (.int .i64 ((rd_T58 t423 x16_1).f2))) (fun _ hk => hk.2) (.int .i64 ((rd_T58 t423 x16_1).f3.f0))) (fun _ hk => hk.2) (.int .i64 ((rd_T58 t423 x16_1).f3.f1))) (fun _ hk => hk.2) (.int .i64 ((rd_T58 t423 x16_1).f3.f2))) (fun _ hk => hk.2) (.int .i64 ((rd_T58 t423 x16_1).f3.f3))) (fun _ hk => hk.1.2)⟩, ⟨by (with_reducible repeat (first | refine blk_drewN ?_ _ | refine blk_drew ?_ | refine blk_alloc ?_ _)); refine blk_far ?_ NB427_429.out _; (with_reducible repeat (first | refine blk_drewN ?_ _ | refine blk_drew ?_ | refine blk_alloc ?_ _)); refine blk_far ?_ NB427_429.out _; (with_reducible repeat (first | refine blk_drewN ?_ _ | refine blk_drew ?_ | refine blk_alloc ?_ _)); refine blk_far ?_ NB427_429.out _; (with_reducible repeat (first | refine blk_drewN ?_ _ | refine blk_drew ?_ | refine blk_alloc ?_ _)); refine blk_far ?_ NB427_429.out _; (with_reducible repeat (first | refine blk_drewN ?_ _ | refine blk_drew ?_ | refine blk_alloc ?_ _)); refine blk_far ?_ NB427_429.out _; (with_reducible repeat (first | refine blk_drewN ?_ _ | refine blk_drew ?_ | refine blk_alloc ?_ _)); refine blk_far ?_ NB427_429.out _; (with_reducible repeat (first | refine blk_drewN ?_ _ | refine blk_drew ?_ | refine blk_alloc ?_ _)); refine blk_far ?_ NB427_429.out _; (with_reducible repeat (first | refine blk_drewN ?_ _ | refine blk_drew ?_ | refine blk_alloc ?_ _)); exact BK427.out⟩, ⟨by (with_reducible repeat (first | refine blk_drewN ?_ _ | refine blk_drew ?_ | refine blk_alloc ?_ _)); refine blk_put (cs := #[.int .i64 ((rd_T58 t423 x16_1).f0), .int .i64 ((rd_T58 t423 x16_1).f1), .int .i64 ((rd_T58 t423 x16_1).f2), .int .i64 ((rd_T58 t423 x16_1).f3.f0), .int .i64 ((rd_T58 t423 x16_1).f3.f1), .int .i64 ((rd_T58 t423 x16_1).f3.f2), .int .i64 0]) ?_ 6 _ rfl; (with_reducible repeat (first | refine blk_drewN ?_ _ | refine blk_drew ?_ | refine blk_alloc ?_ _)); refine blk_put (cs := #[.int .i64 ((rd_T58 t423 x16_1).f0), .int .i64 ((rd_T58 t423 x16_1).f1), .int .i64 ((rd_T58 t423 x16_1).f2), .int .i64 ((rd_T58 t423 x16_1).f3.f0), .int .i64 ((rd_T58 t423 x16_1).f3.f1), .int .i64 0, .int .i64 0]) ?_ 5 _ rfl; (with_reducible repeat (first | refine blk_drewN ?_ _ | refine blk_drew ?_ | refine blk_alloc ?_ _)); refine blk_put (cs := #[.int .i64 ((rd_T58 t423 x16_1).f0), .int .i64 ((rd_T58 t423 x16_1).f1), .int .i64 ((rd_T58 t423 x16_1).f2), .int .i64 ((rd_T58 t423 x16_1).f3.f0), .int .i64 0, .int .i64 0, .int .i64 0]) ?_ 4 _ rfl; (with_reducible repeat (first | refine blk_drewN ?_ _ | refine blk_drew ?_ | refine blk_alloc ?_ _)); refine blk_put (cs := #[.int .i64 ((rd_T58 t423 x16_1).f0), .int .i64 ((rd_T58 t423 x16_1).f1), .int .i64 ((rd_T58 t423 x16_1).f2), .int .i64 0, .int .i64 0, .int .i64 0, .int .i64 0]) ?_ 3 _ rfl; (with_reducible repeat (first | refine blk_drewN ?_ _ | refine blk_drew ?_ | refine blk_alloc ?_ _)); refine blk_put (cs := #[.int .i64 ((rd_T58 t423 x16_1).f0), .int .i64 ((rd_T58 t423 x16_1).f1), .int .i64 0, .int .i64 0, .int .i64 0, .int .i64 0, .int .i64 0]) ?_ 2 _ rfl; (with_reducible repeat (first | refine blk_drewN ?_ _ | refine blk_drew ?_ | refine blk_alloc ?_ _)); refine blk_put (cs := #[.int .i64 ((rd_T58 t423 x16_1).f0), .int .i64 0, .int .i64 0, .int .i64 0, .int .i64 0, .int .i64 0, .int .i64 0]) ?_ 1 _ rfl; (with_reducible repeat (first | refine blk_drewN ?_ _ | refine blk_drew ?_ | refine blk_alloc ?_ _)); refine blk_put (cs := #[.int .i64 0, .int .i64 0, .int .i64 0, .int .i64 0, .int .i64 0, .int .i64 0, .int .i64 0]) ?_ 0 _ rfl; (with_reducible repeat (first | refine blk_drewN ?_ _ | refine blk_drew ?_ | refine blk_alloc ?_ _)); exact BK429.out⟩, ⟨by repeat (first | (with_reducible first | exact HB.out | apply below_alloc | apply pw_below_drewN | apply below_drew1 | refine below_set ?_ GE427.out | refine below_set ?_ GE429.out) | exact HB.out)⟩⟩
                          · rw [if_neg c31] at H
                            have c31b0 : (((rd_T58 t423 x16_1).f3.f0) == (wrap64 (((rd_T58 t423 x16_1).f2) * (wrap64 (a2 + a3))))) = false := beq_eq_false_iff_ne.mpr c31
                            have c31b1 : (((rd_T58 t423 x16_1).f3.f0) != (wrap64 (((rd_T58 t423 x16_1).f2) * (wrap64 (a2 + a3))))) = true := bne_iff_ne.mpr c31
                            first | exact (all_j1_dead H HTR.out).elim | exact (all_j2_dead H HTR.out).elim
                        · rw [if_neg c30] at H
                          have c30b0 : (((rd_T58 t423 x16_1).f3.f2) == a2) = false := beq_eq_false_iff_ne.mpr c30
                          have c30b1 : (((rd_T58 t423 x16_1).f3.f2) != a2) = true := bne_iff_ne.mpr c30
                          first | exact (all_j1_dead H HTR.out).elim | exact (all_j2_dead H HTR.out).elim
                      · rw [if_neg c29] at H
                        have c29b0 : (((rd_T58 t423 x16_1).f3.f3) == ((rd_T32 t418 x16_1).f2)) = false := beq_eq_false_iff_ne.mpr c29
                        have c29b1 : (((rd_T58 t423 x16_1).f3.f3) != ((rd_T32 t418 x16_1).f2)) = true := bne_iff_ne.mpr c29
                        first | exact (all_j1_dead H HTR.out).elim | exact (all_j2_dead H HTR.out).elim
                    · rw [if_neg c28] at H
                      have c28b0 : (((rd_T58 t423 x16_1).f1) == ((rd_T32 t418 x16_1).f1)) = false := beq_eq_false_iff_ne.mpr c28
                      have c28b1 : (((rd_T58 t423 x16_1).f1) != ((rd_T32 t418 x16_1).f1)) = true := bne_iff_ne.mpr c28
                      first | exact (all_j1_dead H HTR.out).elim | exact (all_j2_dead H HTR.out).elim
                  · rw [if_neg c27] at H
                    have c27b0 : (((rd_T58 t423 x16_1).f0) == ((rd_T32 t418 x16_1).f0)) = false := beq_eq_false_iff_ne.mpr c27
                    have c27b1 : (((rd_T58 t423 x16_1).f0) != ((rd_T32 t418 x16_1).f0)) = true := bne_iff_ne.mpr c27
                    (first | rw [c27b0] | (simp only [i64_w, i32_w]; rw [c27b0]) | skip)
                    first | exact (all_j1_dead H HTR.out).elim | exact (all_j2_dead H HTR.out).elim
                case rest =>
                  clear HC22
                  try clear c2
                  try clear p2
                  try clear c4
                  try clear p4
                  try clear q4
                  try clear hx4
                  try clear c27
                  try clear c27b0
                  try clear c27b1
                  try clear c28
                  try clear c28b0
                  try clear c28b1
                  try clear c29
                  try clear c29b0
                  try clear c29b1
                  try clear c43
                  try clear p43
                  try clear q43
                  try clear hx43
                  try clear c45
                  try clear c47
                  try clear hcz44_0
                  try clear hcz44_1
                  try clear hcz44_2
                  try clear hcz44_3
                  try clear hcz44_4
                  try clear hcz44_5
                  try clear hcz44_6
                  try clear hcz46_0
                  try clear hcz46_1
                  try clear hcz46_2
                  try clear hcz46_3
                  try clear hcz46_4
                  try clear hcz46_5
                  try clear hcz46_6
                  try clear hcz48_0
                  try clear hcz48_1
                  try clear hcz48_2
                  try clear hcz48_3
                  try clear hcz48_4
                  try clear hcz48_5
                  try clear hcz48_6
                  try clear hfz44_0
                  try clear hfz44_1
                  try clear hfz44_2
                  try clear hfz44_3
                  try clear hfz44_4
                  try clear hfz44_5
                  try clear hfz44_6
                  try clear hfz46_0
                  try clear hfz46_1
                  try clear hfz46_2
                  try clear hfz46_3
                  try clear hfz46_4
                  try clear hfz46_5
                  try clear hfz46_6
                  try clear hfz48_0
                  try clear hfz48_1
                  try clear hfz48_2
                  try clear hfz48_3
                  try clear hfz48_4
                  try clear hfz48_5
                  try clear hfz48_6
                  try clear hx430_0
                  try clear hx430_1
                  try clear hx430_2
                  try clear hx430_3
                  try clear hx430_4
                  try clear hx431_0
                  try clear hx431_1
                  try clear hx431_2
                  try clear hx431_3
                  try clear hx431_4
                  try clear hx432_0
                  try clear hx432_1
                  try clear hx432_2
                  try clear hx432_3
                  try clear hx432_4
                  try clear p430
                  try clear p431
                  try clear p432
                  try clear q430
                  try clear q431
                  try clear q432
                  obtain ⟨kq, x122_21, rfl, HA, HJ21, HO_0, HO_428002, BK427, BK429, HB⟩ := hcut
                  cases kq with
                  | zero => exact absurd HA.out (by simp [gutterlaw17_RowAll.j1])
                  | succ kj21 =>
                    have H := HA.out
                    clear HA
                    simp only [gutterlaw17_RowAll.j1] at H
                    by_cases c49 : x122_21 = true
                    · subst c49
                      have H1 : (some false) = some r := by rw [if_pos rfl] at H; exact H
                      clear H
                      have H := H1
                      clear H1
                      exact absurd ((Option.some.inj H).trans HTR.out) Bool.false_ne_true
                    · replace c49 := Bool.eq_false_iff.mpr c49
                      subst c49
                      have H1 : (if x16_1 = 0 then (if ((rd_T58 t423 x16_1).f2) = 0 then (if x16_1 > 0 then (if 0 ≤ (wrap64 (x16_1 - 1)) then (if (wrap64 (x16_1 - 1)) < (t423.length : Int) then (if ((rd_T58 t423 x16_1).f2) = ((rd_T58 t423 (wrap64 (x16_1 - 1))).f2) then (gutterlaw17_RowAll.j2 kj21 t418 a2 a3 t417 x16_1 false t421 t422 t423 ((rd_T58 t423 x16_1).f0) ((rd_T58 t423 x16_1).f1) ((rd_T58 t423 x16_1).f2) ((rd_T58 t423 x16_1).f3.f0) ((rd_T58 t423 x16_1).f3.f1) ((rd_T58 t423 x16_1).f3.f2) ((rd_T58 t423 x16_1).f3.f3)) else (if ((rd_T58 t423 x16_1).f2) = (wrap64 (((rd_T58 t423 (wrap64 (x16_1 - 1))).f2) + 1)) then (gutterlaw17_RowAll.j2 kj21 t418 a2 a3 t417 x16_1 (((rd_T58 t423 x16_1).f3.f1) != 0) t421 t422 t423 ((rd_T58 t423 x16_1).f0) ((rd_T58 t423 x16_1).f1) ((rd_T58 t423 x16_1).f2) ((rd_T58 t423 x16_1).f3.f0) ((rd_T58 t423 x16_1).f3.f1) ((rd_T58 t423 x16_1).f3.f2) ((rd_T58 t423 x16_1).f3.f3)) else (gutterlaw17_RowAll.j2 kj21 t418 a2 a3 t417 x16_1 true t421 t422 t423 ((rd_T58 t423 x16_1).f0) ((rd_T58 t423 x16_1).f1) ((rd_T58 t423 x16_1).f2) ((rd_T58 t423 x16_1).f3.f0) ((rd_T58 t423 x16_1).f3.f1) ((rd_T58 t423 x16_1).f3.f2) ((rd_T58 t423 x16_1).f3.f3)))) else (none)) else (none)) else (gutterlaw17_RowAll.j2 kj21 t418 a2 a3 t417 x16_1 false t421 t422 t423 ((rd_T58 t423 x16_1).f0) ((rd_T58 t423 x16_1).f1) ((rd_T58 t423 x16_1).f2) ((rd_T58 t423 x16_1).f3.f0) ((rd_T58 t423 x16_1).f3.f1) ((rd_T58 t423 x16_1).f3.f2) ((rd_T58 t423 x16_1).f3.f3))) else (gutterlaw17_RowAll.j2 kj21 t418 a2 a3 t417 x16_1 true t421 t422 t423 ((rd_T58 t423 x16_1).f0) ((rd_T58 t423 x16_1).f1) ((rd_T58 t423 x16_1).f2) ((rd_T58 t423 x16_1).f3.f0) ((rd_T58 t423 x16_1).f3.f1) ((rd_T58 t423 x16_1).f3.f2) ((rd_T58 t423 x16_1).f3.f3))) else (if x16_1 > 0 then (if 0 ≤ (wrap64 (x16_1 - 1)) then (if (wrap64 (x16_1 - 1)) < (t423.length : Int) then (if ((rd_T58 t423 x16_1).f2) = ((rd_T58 t423 (wrap64 (x16_1 - 1))).f2) then (gutterlaw17_RowAll.j2 kj21 t418 a2 a3 t417 x16_1 false t421 t422 t423 ((rd_T58 t423 x16_1).f0) ((rd_T58 t423 x16_1).f1) ((rd_T58 t423 x16_1).f2) ((rd_T58 t423 x16_1).f3.f0) ((rd_T58 t423 x16_1).f3.f1) ((rd_T58 t423 x16_1).f3.f2) ((rd_T58 t423 x16_1).f3.f3)) else (if ((rd_T58 t423 x16_1).f2) = (wrap64 (((rd_T58 t423 (wrap64 (x16_1 - 1))).f2) + 1)) then (gutterlaw17_RowAll.j2 kj21 t418 a2 a3 t417 x16_1 (((rd_T58 t423 x16_1).f3.f1) != 0) t421 t422 t423 ((rd_T58 t423 x16_1).f0) ((rd_T58 t423 x16_1).f1) ((rd_T58 t423 x16_1).f2) ((rd_T58 t423 x16_1).f3.f0) ((rd_T58 t423 x16_1).f3.f1) ((rd_T58 t423 x16_1).f3.f2) ((rd_T58 t423 x16_1).f3.f3)) else (gutterlaw17_RowAll.j2 kj21 t418 a2 a3 t417 x16_1 true t421 t422 t423 ((rd_T58 t423 x16_1).f0) ((rd_T58 t423 x16_1).f1) ((rd_T58 t423 x16_1).f2) ((rd_T58 t423 x16_1).f3.f0) ((rd_T58 t423 x16_1).f3.f1) ((rd_T58 t423 x16_1).f3.f2) ((rd_T58 t423 x16_1).f3.f3)))) else (none)) else (none)) else (gutterlaw17_RowAll.j2 kj21 t418 a2 a3 t417 x16_1 false t421 t422 t423 ((rd_T58 t423 x16_1).f0) ((rd_T58 t423 x16_1).f1) ((rd_T58 t423 x16_1).f2) ((rd_T58 t423 x16_1).f3.f0) ((rd_T58 t423 x16_1).f3.f1) ((rd_T58 t423 x16_1).f3.f2) ((rd_T58 t423 x16_1).f3.f3)))) = some r := by rw [if_neg (show ¬ (false = true) by decide)] at H; exact H
                      clear H
                      have H := H1
                      clear H1
                      have HC50 := Aside0.mk H
                      clear H
                      go_upto_region 14 with (fail)
                      repeat (go_quiet (fail); go_upto_region 14 with (fail))
                      go_cut [164] (fun v164 wc => ∃ (kq : Nat) (x164_49 : Bool), v164 = .bool x164_49 ∧ Aside0 (gutterlaw17_RowAll.j2 kq t418 a2 a3 t417 x16_1 x164_49 t421 t422 t423 ((rd_T58 t423 x16_1).f0) ((rd_T58 t423 x16_1).f1) ((rd_T58 t423 x16_1).f2) ((rd_T58 t423 x16_1).f3.f0) ((rd_T58 t423 x16_1).f3.f1) ((rd_T58 t423 x16_1).f3.f2) ((rd_T58 t423 x16_1).f3.f3) = some r) ∧ Aside0 (kq ≤ kj21) ∧ Aside0 (Kd.R k32 32 wc w.heap.size (fun _ => True) (.slice Ao14 t418.length co14) t418) ∧ Aside0 (Kd.R k58 58 wc w.heap.size (fun k_ => k_ ≠ gb429) (.slice (some ad428) t423.length co18) t423) ∧ Aside0 (wc.heap[gb427]? = some (.cells #[.int .i64 t421, .int .i64 t422, (.slice (some ad428) t423.length co18)] 50 (0, 0))) ∧ Aside0 (wc.heap[gb429]? = some (.cells #[.int .i64 ((rd_T58 t423 x16_1).f0), .int .i64 ((rd_T58 t423 x16_1).f1), .int .i64 ((rd_T58 t423 x16_1).f2), .int .i64 ((rd_T58 t423 x16_1).f3.f0), .int .i64 ((rd_T58 t423 x16_1).f3.f1), .int .i64 ((rd_T58 t423 x16_1).f3.f2), .int .i64 ((rd_T58 t423 x16_1).f3.f3)] 58 (0, 0))) ∧ Aside0 (Below w.heap.size w wc))
                      case first => as_aux_lemma =>
                        have H := HC50.out
                        clear HC50
                        by_cases c51 : x16_1 = 0
                        · rw [if_pos c51] at H
                          have c51b0 : (x16_1 == 0) = true := beq_iff_eq.mpr c51
                          have c51b1 : (x16_1 != 0) = false := bne_eq_false_iff_eq.mpr c51
                          clear c51
                          (first | rw [c51b0] | (simp only [i64_w, i32_w]; rw [c51b0]) | skip)
                          by_cases c52 : ((rd_T58 t423 x16_1).f2) = 0
                          · rw [if_pos c52] at H
                            have c52b0 : (((rd_T58 t423 x16_1).f2) == 0) = true := beq_iff_eq.mpr c52
                            have c52b1 : (((rd_T58 t423 x16_1).f2) != 0) = false := bne_eq_false_iff_eq.mpr c52
                            clear c52
                            by_cases c53 : x16_1 > 0
                            · rw [if_pos c53] at H
                              have c53b0 : decide (0 < x16_1) = true := decide_eq_true c53
                              clear c53
                              obtain ⟨ji54, hji54⟩ : ∃ j_ : Int, (wrap64 (x16_1 - 1)) = j_ := ⟨_, rfl⟩
                              replace H : (if 0 ≤ (ji54) then (if (ji54) < (t423.length : Int) then (if ((rd_T58 t423 x16_1).f2) = ((rd_T58 t423 (ji54)).f2) then (gutterlaw17_RowAll.j2 kj21 t418 a2 a3 t417 x16_1 false t421 t422 t423 ((rd_T58 t423 x16_1).f0) ((rd_T58 t423 x16_1).f1) ((rd_T58 t423 x16_1).f2) ((rd_T58 t423 x16_1).f3.f0) ((rd_T58 t423 x16_1).f3.f1) ((rd_T58 t423 x16_1).f3.f2) ((rd_T58 t423 x16_1).f3.f3)) else (if ((rd_T58 t423 x16_1).f2) = (wrap64 (((rd_T58 t423 (ji54)).f2) + 1)) then (gutterlaw17_RowAll.j2 kj21 t418 a2 a3 t417 x16_1 (((rd_T58 t423 x16_1).f3.f1) != 0) t421 t422 t423 ((rd_T58 t423 x16_1).f0) ((rd_T58 t423 x16_1).f1) ((rd_T58 t423 x16_1).f2) ((rd_T58 t423 x16_1).f3.f0) ((rd_T58 t423 x16_1).f3.f1) ((rd_T58 t423 x16_1).f3.f2) ((rd_T58 t423 x16_1).f3.f3)) else (gutterlaw17_RowAll.j2 kj21 t418 a2 a3 t417 x16_1 true t421 t422 t423 ((rd_T58 t423 x16_1).f0) ((rd_T58 t423 x16_1).f1) ((rd_T58 t423 x16_1).f2) ((rd_T58 t423 x16_1).f3.f0) ((rd_T58 t423 x16_1).f3.f1) ((rd_T58 t423 x16_1).f3.f2) ((rd_T58 t423 x16_1).f3.f3)))) else (none)) else (none)) = some r := by first | (rw [hji54] at H; exact H) | (simp only [hji54] at H ⊢; exact H)
                              have hji54w : (IntKind.i64.wrap (x16_1 - 1)) = ji54 := (i64_w _).trans hji54
                              by_cases c55 : 0 ≤ (ji54)
                              · rw [if_pos c55] at H
                                have c55b0 : decide (0 ≤ (ji54)) = true := decide_eq_true c55
                                clear c55
                                by_cases c56 : (ji54) < (t423.length : Int)
                                · rw [if_pos c56] at H
                                  have c56b0 : decide ((ji54) < (t423.length : Int)) = true := decide_eq_true c56
                                  clear c56
                                  by_cases c57 : ((rd_T58 t423 x16_1).f2) = ((rd_T58 t423 (ji54)).f2)
                                  · rw [if_pos c57] at H
                                    have c57b0 : (((rd_T58 t423 x16_1).f2) == ((rd_T58 t423 (ji54)).f2)) = true := beq_iff_eq.mpr c57
                                    have c57b1 : (((rd_T58 t423 x16_1).f2) != ((rd_T58 t423 (ji54)).f2)) = false := bne_eq_false_iff_eq.mpr c57
                                    clear c57
                                    have H' := Aside0.mk H
                                    clear H
                                    have hnb58 := NB429_427.out
                                    have hnc58 := NB427_429.out
                                    have hcz59_0 : wc.cell? ⟨gb429, 0, none⟩ = some (.int .i64 ((rd_T58 t423 x16_1).f0)) := (blk_cell BK429.out 0).trans rfl
                                    have hcz59_1 : wc.cell? ⟨gb429, 1, none⟩ = some (.int .i64 ((rd_T58 t423 x16_1).f1)) := (blk_cell BK429.out 1).trans rfl
                                    have hcz59_2 : wc.cell? ⟨gb429, 2, none⟩ = some (.int .i64 ((rd_T58 t423 x16_1).f2)) := (blk_cell BK429.out 2).trans rfl
                                    have hcz59_3 : wc.cell? ⟨gb429, 3, none⟩ = some (.int .i64 ((rd_T58 t423 x16_1).f3.f0)) := (blk_cell BK429.out 3).trans rfl
                                    have hcz59_4 : wc.cell? ⟨gb429, 4, none⟩ = some (.int .i64 ((rd_T58 t423 x16_1).f3.f1)) := (blk_cell BK429.out 4).trans rfl
                                    have hcz59_5 : wc.cell? ⟨gb429, 5, none⟩ = some (.int .i64 ((rd_T58 t423 x16_1).f3.f2)) := (blk_cell BK429.out 5).trans rfl
                                    have hcz59_6 : wc.cell? ⟨gb429, 6, none⟩ = some (.int .i64 ((rd_T58 t423 x16_1).f3.f3)) := (blk_cell BK429.out 6).trans rfl
                                    have hfz59_0 := blk_frozen BK429.out 0
                                    have hfz59_1 := blk_frozen BK429.out 1
                                    have hfz59_2 := blk_frozen BK429.out 2
                                    have hfz59_3 := blk_frozen BK429.out 3
                                    have hfz59_4 := blk_frozen BK429.out 4
                                    have hfz59_5 := blk_frozen BK429.out 5
                                    have hfz59_6 := blk_frozen BK429.out 6
                                    have hcz60_0 : wc.cell? ⟨gb427, 0, none⟩ = some (.int .i64 t421) := (blk_cell BK427.out 0).trans rfl
                                    have hcz60_1 : wc.cell? ⟨gb427, 1, none⟩ = some (.int .i64 t422) := (blk_cell BK427.out 1).trans rfl
                                    have hcz60_2 : wc.cell? ⟨gb427, 2, none⟩ = some (.slice (some ad428) t423.length co18) := (blk_cell BK427.out 2).trans rfl
                                    have hfz60_0 := blk_frozen BK427.out 0
                                    have hfz60_1 := blk_frozen BK427.out 1
                                    have hfz60_2 := blk_frozen BK427.out 2
                                    have p433 : 0 ≤ ((ji54) : Int) := of_decide_eq_true (by first | (with_reducible assumption) | assumption)
                                    have q433 : (ji54) < (t423.length : Int) := of_decide_eq_true (by first | (with_reducible assumption) | assumption)
                                    obtain ⟨ad433, e433, hx433_0, hx433_1, hx433_2, hx433_3, hx433_4, hx433_5, hx433_6⟩ := at_T58 (Kd.R_reads' HO_428002.out).2.2 (ji54) p433 q433
                                    obtain rfl : ad428 = ad433 := (by injection e433)
                                    replace p433 := eq_true p433
                                    replace q433 := eq_true q433
                                    go_wp2
                                    repeat (go_quiet (fail); try go_wp2)
                                    go_meet
                                    case rel => exact ⟨_, (false), (by first | rfl | (simp; done) | (simp [*]; done)), H', ⟨by have := HK1.out; have := HJ21.out; first | omega | exact Nat.le_refl _⟩, ⟨by (with_reducible repeat (first | apply Kd.R_alloc | apply Kd.R_drewN | apply Kd.R_drew)); exact HO_0.out⟩, ⟨by (with_reducible repeat (first | apply Kd.R_alloc | apply Kd.R_drewN | apply Kd.R_drew)); exact HO_428002.out⟩, ⟨by (with_reducible repeat (first | refine blk_drewN ?_ _ | refine blk_drew ?_ | refine blk_alloc ?_ _)); exact BK427.out⟩, ⟨by (with_reducible repeat (first | refine blk_drewN ?_ _ | refine blk_drew ?_ | refine blk_alloc ?_ _)); exact BK429.out⟩, ⟨by repeat (first | (with_reducible first | exact HB.out | apply below_alloc | apply pw_below_drewN | apply below_drew1 | refine below_set ?_ GE427.out | refine below_set ?_ GE429.out) | exact HB.out)⟩⟩
                                  · rw [if_neg c57] at H
                                    have c57b0 : (((rd_T58 t423 x16_1).f2) == ((rd_T58 t423 (ji54)).f2)) = false := beq_eq_false_iff_ne.mpr c57
                                    have c57b1 : (((rd_T58 t423 x16_1).f2) != ((rd_T58 t423 (ji54)).f2)) = true := bne_iff_ne.mpr c57
                                    by_cases c61 : ((rd_T58 t423 x16_1).f2) = (wrap64 (((rd_T58 t423 (ji54)).f2) + 1))
                                    · rw [if_pos c61] at H
                                      have c61b0 : (((rd_T58 t423 x16_1).f2) == (wrap64 (((rd_T58 t423 (ji54)).f2) + 1))) = true := beq_iff_eq.mpr c61
                                      have c61b1 : (((rd_T58 t423 x16_1).f2) != (wrap64 (((rd_T58 t423 (ji54)).f2) + 1))) = false := bne_eq_false_iff_eq.mpr c61
                                      clear c61
                                      have H' := Aside0.mk H
                                      clear H
                                      have hnb62 := NB429_427.out
                                      have hnc62 := NB427_429.out
                                      have hcz63_0 : wc.cell? ⟨gb429, 0, none⟩ = some (.int .i64 ((rd_T58 t423 x16_1).f0)) := (blk_cell BK429.out 0).trans rfl
                                      have hcz63_1 : wc.cell? ⟨gb429, 1, none⟩ = some (.int .i64 ((rd_T58 t423 x16_1).f1)) := (blk_cell BK429.out 1).trans rfl
                                      have hcz63_2 : wc.cell? ⟨gb429, 2, none⟩ = some (.int .i64 ((rd_T58 t423 x16_1).f2)) := (blk_cell BK429.out 2).trans rfl
                                      have hcz63_3 : wc.cell? ⟨gb429, 3, none⟩ = some (.int .i64 ((rd_T58 t423 x16_1).f3.f0)) := (blk_cell BK429.out 3).trans rfl
                                      have hcz63_4 : wc.cell? ⟨gb429, 4, none⟩ = some (.int .i64 ((rd_T58 t423 x16_1).f3.f1)) := (blk_cell BK429.out 4).trans rfl
                                      have hcz63_5 : wc.cell? ⟨gb429, 5, none⟩ = some (.int .i64 ((rd_T58 t423 x16_1).f3.f2)) := (blk_cell BK429.out 5).trans rfl
                                      have hcz63_6 : wc.cell? ⟨gb429, 6, none⟩ = some (.int .i64 ((rd_T58 t423 x16_1).f3.f3)) := (blk_cell BK429.out 6).trans rfl
                                      have hfz63_0 := blk_frozen BK429.out 0
                                      have hfz63_1 := blk_frozen BK429.out 1
                                      have hfz63_2 := blk_frozen BK429.out 2
                                      have hfz63_3 := blk_frozen BK429.out 3
                                      have hfz63_4 := blk_frozen BK429.out 4
                                      have hfz63_5 := blk_frozen BK429.out 5
                                      have hfz63_6 := blk_frozen BK429.out 6
                                      have hcz64_0 : wc.cell? ⟨gb427, 0, none⟩ = some (.int .i64 t421) := (blk_cell BK427.out 0).trans rfl
                                      have hcz64_1 : wc.cell? ⟨gb427, 1, none⟩ = some (.int .i64 t422) := (blk_cell BK427.out 1).trans rfl
                                      have hcz64_2 : wc.cell? ⟨gb427, 2, none⟩ = some (.slice (some ad428) t423.length co18) := (blk_cell BK427.out 2).trans rfl
                                      have hfz64_0 := blk_frozen BK427.out 0
                                      have hfz64_1 := blk_frozen BK427.out 1
                                      have hfz64_2 := blk_frozen BK427.out 2
                                      have p433 : 0 ≤ ((ji54) : Int) := of_decide_eq_true (by first | (with_reducible assumption) | assumption)
                                      have q433 : (ji54) < (t423.length : Int) := of_decide_eq_true (by first | (with_reducible assumption) | assumption)
                                      obtain ⟨ad433, e433, hx433_0, hx433_1, hx433_2, hx433_3, hx433_4, hx433_5, hx433_6⟩ := at_T58 (Kd.R_reads' HO_428002.out).2.2 (ji54) p433 q433
                                      obtain rfl : ad428 = ad433 := (by injection e433)
                                      replace p433 := eq_true p433
                                      replace q433 := eq_true q433
                                      have p434 : 0 ≤ ((ji54) : Int) := of_decide_eq_true (by first | (with_reducible assumption) | assumption)
                                      have q434 : (ji54) < (t423.length : Int) := of_decide_eq_true (by first | (with_reducible assumption) | assumption)
                                      obtain ⟨ad434, e434, hx434_0, hx434_1, hx434_2, hx434_3, hx434_4, hx434_5, hx434_6⟩ := at_T58 (Kd.R_reads' HO_428002.out).2.2 (ji54) p434 q434
                                      obtain rfl : ad428 = ad434 := (by injection e434)
                                      replace p434 := eq_true p434
                                      replace q434 := eq_true q434
                                      go_wp2
                                      repeat (go_quiet (fail); try go_wp2)
                                      go_meet
                                      case rel => exact ⟨_, ((((rd_T58 t423 x16_1).f3.f1) != 0)), (by first | rfl | (simp; done) | (simp [*]; done)), H', ⟨by have := HK1.out; have := HJ21.out; first | omega | exact Nat.le_refl _⟩, ⟨by (with_reducible repeat (first | apply Kd.R_alloc | apply Kd.R_drewN | apply Kd.R_drew)); exact HO_0.out⟩, ⟨by (with_reducible repeat (first | apply Kd.R_alloc | apply Kd.R_drewN | apply Kd.R_drew)); exact HO_428002.out⟩, ⟨by (with_reducible repeat (first | refine blk_drewN ?_ _ | refine blk_drew ?_ | refine blk_alloc ?_ _)); exact BK427.out⟩, ⟨by (with_reducible repeat (first | refine blk_drewN ?_ _ | refine blk_drew ?_ | refine blk_alloc ?_ _)); exact BK429.out⟩, ⟨by repeat (first | (with_reducible first | exact HB.out | apply below_alloc | apply pw_below_drewN | apply below_drew1 | refine below_set ?_ GE427.out | refine below_set ?_ GE429.out) | exact HB.out)⟩⟩
                                    · rw [if_neg c61] at H
                                      have c61b0 : (((rd_T58 t423 x16_1).f2) == (wrap64 (((rd_T58 t423 (ji54)).f2) + 1))) = false := beq_eq_false_iff_ne.mpr c61
                                      have c61b1 : (((rd_T58 t423 x16_1).f2) != (wrap64 (((rd_T58 t423 (ji54)).f2) + 1))) = true := bne_iff_ne.mpr c61
                                      first | exact (all_j1_dead H HTR.out).elim | exact (all_j2_dead H HTR.out).elim
                                · rw [if_neg c56] at H
                                  exact absurd H (by simp)
                              · rw [if_neg c55] at H
                                exact absurd H (by simp)
                            · rw [if_neg c53] at H
                              have c53b0 : decide (0 < x16_1) = false := decide_eq_false c53
                              clear c53
                              have H' := Aside0.mk H
                              clear H
                              have hnb68 := NB429_427.out
                              have hnc68 := NB427_429.out
                              have hcz69_0 : wc.cell? ⟨gb429, 0, none⟩ = some (.int .i64 ((rd_T58 t423 x16_1).f0)) := (blk_cell BK429.out 0).trans rfl
                              have hcz69_1 : wc.cell? ⟨gb429, 1, none⟩ = some (.int .i64 ((rd_T58 t423 x16_1).f1)) := (blk_cell BK429.out 1).trans rfl
                              have hcz69_2 : wc.cell? ⟨gb429, 2, none⟩ = some (.int .i64 ((rd_T58 t423 x16_1).f2)) := (blk_cell BK429.out 2).trans rfl
                              have hcz69_3 : wc.cell? ⟨gb429, 3, none⟩ = some (.int .i64 ((rd_T58 t423 x16_1).f3.f0)) := (blk_cell BK429.out 3).trans rfl
                              have hcz69_4 : wc.cell? ⟨gb429, 4, none⟩ = some (.int .i64 ((rd_T58 t423 x16_1).f3.f1)) := (blk_cell BK429.out 4).trans rfl
                              have hcz69_5 : wc.cell? ⟨gb429, 5, none⟩ = some (.int .i64 ((rd_T58 t423 x16_1).f3.f2)) := (blk_cell BK429.out 5).trans rfl
                              have hcz69_6 : wc.cell? ⟨gb429, 6, none⟩ = some (.int .i64 ((rd_T58 t423 x16_1).f3.f3)) := (blk_cell BK429.out 6).trans rfl
                              have hfz69_0 := blk_frozen BK429.out 0
                              have hfz69_1 := blk_frozen BK429.out 1
                              have hfz69_2 := blk_frozen BK429.out 2
                              have hfz69_3 := blk_frozen BK429.out 3
                              have hfz69_4 := blk_frozen BK429.out 4
                              have hfz69_5 := blk_frozen BK429.out 5
                              have hfz69_6 := blk_frozen BK429.out 6
                              go_wp2
                              repeat (go_quiet (fail); try go_wp2)
                              go_meet
                              case rel => exact ⟨_, (false), (by first | rfl | (simp; done) | (simp [*]; done)), H', ⟨by have := HK1.out; have := HJ21.out; first | omega | exact Nat.le_refl _⟩, ⟨by (with_reducible repeat (first | apply Kd.R_alloc | apply Kd.R_drewN | apply Kd.R_drew)); exact HO_0.out⟩, ⟨by (with_reducible repeat (first | apply Kd.R_alloc | apply Kd.R_drewN | apply Kd.R_drew)); exact HO_428002.out⟩, ⟨by (with_reducible repeat (first | refine blk_drewN ?_ _ | refine blk_drew ?_ | refine blk_alloc ?_ _)); exact BK427.out⟩, ⟨by (with_reducible repeat (first | refine blk_drewN ?_ _ | refine blk_drew ?_ | refine blk_alloc ?_ _)); exact BK429.out⟩, ⟨by repeat (first | (with_reducible first | exact HB.out | apply below_alloc | apply pw_below_drewN | apply below_drew1 | refine below_set ?_ GE427.out | refine below_set ?_ GE429.out) | exact HB.out)⟩⟩
                          · rw [if_neg c52] at H
                            have c52b0 : (((rd_T58 t423 x16_1).f2) == 0) = false := beq_eq_false_iff_ne.mpr c52
                            have c52b1 : (((rd_T58 t423 x16_1).f2) != 0) = true := bne_iff_ne.mpr c52
                            first | exact (all_j1_dead H HTR.out).elim | exact (all_j2_dead H HTR.out).elim
                        · rw [if_neg c51] at H
                          have c51b0 : (x16_1 == 0) = false := beq_eq_false_iff_ne.mpr c51
                          have c51b1 : (x16_1 != 0) = true := bne_iff_ne.mpr c51
                          (first | rw [c51b0] | (simp only [i64_w, i32_w]; rw [c51b0]) | skip)
                          by_cases c72 : x16_1 > 0
                          · rw [if_pos c72] at H
                            have c72b0 : decide (0 < x16_1) = true := decide_eq_true c72
                            clear c72
                            obtain ⟨ji73, hji73⟩ : ∃ j_ : Int, (wrap64 (x16_1 - 1)) = j_ := ⟨_, rfl⟩
                            replace H : (if 0 ≤ (ji73) then (if (ji73) < (t423.length : Int) then (if ((rd_T58 t423 x16_1).f2) = ((rd_T58 t423 (ji73)).f2) then (gutterlaw17_RowAll.j2 kj21 t418 a2 a3 t417 x16_1 false t421 t422 t423 ((rd_T58 t423 x16_1).f0) ((rd_T58 t423 x16_1).f1) ((rd_T58 t423 x16_1).f2) ((rd_T58 t423 x16_1).f3.f0) ((rd_T58 t423 x16_1).f3.f1) ((rd_T58 t423 x16_1).f3.f2) ((rd_T58 t423 x16_1).f3.f3)) else (if ((rd_T58 t423 x16_1).f2) = (wrap64 (((rd_T58 t423 (ji73)).f2) + 1)) then (gutterlaw17_RowAll.j2 kj21 t418 a2 a3 t417 x16_1 (((rd_T58 t423 x16_1).f3.f1) != 0) t421 t422 t423 ((rd_T58 t423 x16_1).f0) ((rd_T58 t423 x16_1).f1) ((rd_T58 t423 x16_1).f2) ((rd_T58 t423 x16_1).f3.f0) ((rd_T58 t423 x16_1).f3.f1) ((rd_T58 t423 x16_1).f3.f2) ((rd_T58 t423 x16_1).f3.f3)) else (gutterlaw17_RowAll.j2 kj21 t418 a2 a3 t417 x16_1 true t421 t422 t423 ((rd_T58 t423 x16_1).f0) ((rd_T58 t423 x16_1).f1) ((rd_T58 t423 x16_1).f2) ((rd_T58 t423 x16_1).f3.f0) ((rd_T58 t423 x16_1).f3.f1) ((rd_T58 t423 x16_1).f3.f2) ((rd_T58 t423 x16_1).f3.f3)))) else (none)) else (none)) = some r := by first | (rw [hji73] at H; exact H) | (simp only [hji73] at H ⊢; exact H)
                            have hji73w : (IntKind.i64.wrap (x16_1 - 1)) = ji73 := (i64_w _).trans hji73
                            by_cases c74 : 0 ≤ (ji73)
                            · rw [if_pos c74] at H
                              have c74b0 : decide (0 ≤ (ji73)) = true := decide_eq_true c74
                              clear c74
                              by_cases c75 : (ji73) < (t423.length : Int)
                              · rw [if_pos c75] at H
                                have c75b0 : decide ((ji73) < (t423.length : Int)) = true := decide_eq_true c75
                                clear c75
                                by_cases c76 : ((rd_T58 t423 x16_1).f2) = ((rd_T58 t423 (ji73)).f2)
                                · rw [if_pos c76] at H
                                  have c76b0 : (((rd_T58 t423 x16_1).f2) == ((rd_T58 t423 (ji73)).f2)) = true := beq_iff_eq.mpr c76
                                  have c76b1 : (((rd_T58 t423 x16_1).f2) != ((rd_T58 t423 (ji73)).f2)) = false := bne_eq_false_iff_eq.mpr c76
                                  clear c76
                                  have H' := Aside0.mk H
                                  clear H
                                  have hnb77 := NB429_427.out
                                  have hnc77 := NB427_429.out
                                  have hcz78_0 : wc.cell? ⟨gb429, 0, none⟩ = some (.int .i64 ((rd_T58 t423 x16_1).f0)) := (blk_cell BK429.out 0).trans rfl
                                  have hcz78_1 : wc.cell? ⟨gb429, 1, none⟩ = some (.int .i64 ((rd_T58 t423 x16_1).f1)) := (blk_cell BK429.out 1).trans rfl
                                  have hcz78_2 : wc.cell? ⟨gb429, 2, none⟩ = some (.int .i64 ((rd_T58 t423 x16_1).f2)) := (blk_cell BK429.out 2).trans rfl
                                  have hcz78_3 : wc.cell? ⟨gb429, 3, none⟩ = some (.int .i64 ((rd_T58 t423 x16_1).f3.f0)) := (blk_cell BK429.out 3).trans rfl
                                  have hcz78_4 : wc.cell? ⟨gb429, 4, none⟩ = some (.int .i64 ((rd_T58 t423 x16_1).f3.f1)) := (blk_cell BK429.out 4).trans rfl
                                  have hcz78_5 : wc.cell? ⟨gb429, 5, none⟩ = some (.int .i64 ((rd_T58 t423 x16_1).f3.f2)) := (blk_cell BK429.out 5).trans rfl
                                  have hcz78_6 : wc.cell? ⟨gb429, 6, none⟩ = some (.int .i64 ((rd_T58 t423 x16_1).f3.f3)) := (blk_cell BK429.out 6).trans rfl
                                  have hfz78_0 := blk_frozen BK429.out 0
                                  have hfz78_1 := blk_frozen BK429.out 1
                                  have hfz78_2 := blk_frozen BK429.out 2
                                  have hfz78_3 := blk_frozen BK429.out 3
                                  have hfz78_4 := blk_frozen BK429.out 4
                                  have hfz78_5 := blk_frozen BK429.out 5
                                  have hfz78_6 := blk_frozen BK429.out 6
                                  have hcz79_0 : wc.cell? ⟨gb427, 0, none⟩ = some (.int .i64 t421) := (blk_cell BK427.out 0).trans rfl
                                  have hcz79_1 : wc.cell? ⟨gb427, 1, none⟩ = some (.int .i64 t422) := (blk_cell BK427.out 1).trans rfl
                                  have hcz79_2 : wc.cell? ⟨gb427, 2, none⟩ = some (.slice (some ad428) t423.length co18) := (blk_cell BK427.out 2).trans rfl
                                  have hfz79_0 := blk_frozen BK427.out 0
                                  have hfz79_1 := blk_frozen BK427.out 1
                                  have hfz79_2 := blk_frozen BK427.out 2
                                  have p435 : 0 ≤ ((ji73) : Int) := of_decide_eq_true (by first | (with_reducible assumption) | assumption)
                                  have q435 : (ji73) < (t423.length : Int) := of_decide_eq_true (by first | (with_reducible assumption) | assumption)
                                  obtain ⟨ad435, e435, hx435_0, hx435_1, hx435_2, hx435_3, hx435_4, hx435_5, hx435_6⟩ := at_T58 (Kd.R_reads' HO_428002.out).2.2 (ji73) p435 q435
                                  obtain rfl : ad428 = ad435 := (by injection e435)
                                  replace p435 := eq_true p435
                                  replace q435 := eq_true q435
                                  go_wp2
                                  repeat (go_quiet (fail); try go_wp2)
                                  go_meet
                                  case rel => exact ⟨_, (false), (by first | rfl | (simp; done) | (simp [*]; done)), H', ⟨by have := HK1.out; have := HJ21.out; first | omega | exact Nat.le_refl _⟩, ⟨by (with_reducible repeat (first | apply Kd.R_alloc | apply Kd.R_drewN | apply Kd.R_drew)); exact HO_0.out⟩, ⟨by (with_reducible repeat (first | apply Kd.R_alloc | apply Kd.R_drewN | apply Kd.R_drew)); exact HO_428002.out⟩, ⟨by (with_reducible repeat (first | refine blk_drewN ?_ _ | refine blk_drew ?_ | refine blk_alloc ?_ _)); exact BK427.out⟩, ⟨by (with_reducible repeat (first | refine blk_drewN ?_ _ | refine blk_drew ?_ | refine blk_alloc ?_ _)); exact BK429.out⟩, ⟨by repeat (first | (with_reducible first | exact HB.out | apply below_alloc | apply pw_below_drewN | apply below_drew1 | refine below_set ?_ GE427.out | refine below_set ?_ GE429.out) | exact HB.out)⟩⟩
                                · rw [if_neg c76] at H
                                  have c76b0 : (((rd_T58 t423 x16_1).f2) == ((rd_T58 t423 (ji73)).f2)) = false := beq_eq_false_iff_ne.mpr c76
                                  have c76b1 : (((rd_T58 t423 x16_1).f2) != ((rd_T58 t423 (ji73)).f2)) = true := bne_iff_ne.mpr c76
                                  by_cases c80 : ((rd_T58 t423 x16_1).f2) = (wrap64 (((rd_T58 t423 (ji73)).f2) + 1))
                                  · rw [if_pos c80] at H
                                    have c80b0 : (((rd_T58 t423 x16_1).f2) == (wrap64 (((rd_T58 t423 (ji73)).f2) + 1))) = true := beq_iff_eq.mpr c80
                                    have c80b1 : (((rd_T58 t423 x16_1).f2) != (wrap64 (((rd_T58 t423 (ji73)).f2) + 1))) = false := bne_eq_false_iff_eq.mpr c80
                                    clear c80
                                    have H' := Aside0.mk H
                                    clear H
                                    have hnb81 := NB429_427.out
                                    have hnc81 := NB427_429.out
                                    have hcz82_0 : wc.cell? ⟨gb429, 0, none⟩ = some (.int .i64 ((rd_T58 t423 x16_1).f0)) := (blk_cell BK429.out 0).trans rfl
                                    have hcz82_1 : wc.cell? ⟨gb429, 1, none⟩ = some (.int .i64 ((rd_T58 t423 x16_1).f1)) := (blk_cell BK429.out 1).trans rfl
                                    have hcz82_2 : wc.cell? ⟨gb429, 2, none⟩ = some (.int .i64 ((rd_T58 t423 x16_1).f2)) := (blk_cell BK429.out 2).trans rfl
                                    have hcz82_3 : wc.cell? ⟨gb429, 3, none⟩ = some (.int .i64 ((rd_T58 t423 x16_1).f3.f0)) := (blk_cell BK429.out 3).trans rfl
                                    have hcz82_4 : wc.cell? ⟨gb429, 4, none⟩ = some (.int .i64 ((rd_T58 t423 x16_1).f3.f1)) := (blk_cell BK429.out 4).trans rfl
                                    have hcz82_5 : wc.cell? ⟨gb429, 5, none⟩ = some (.int .i64 ((rd_T58 t423 x16_1).f3.f2)) := (blk_cell BK429.out 5).trans rfl
                                    have hcz82_6 : wc.cell? ⟨gb429, 6, none⟩ = some (.int .i64 ((rd_T58 t423 x16_1).f3.f3)) := (blk_cell BK429.out 6).trans rfl
                                    have hfz82_0 := blk_frozen BK429.out 0
                                    have hfz82_1 := blk_frozen BK429.out 1
                                    have hfz82_2 := blk_frozen BK429.out 2
                                    have hfz82_3 := blk_frozen BK429.out 3
                                    have hfz82_4 := blk_frozen BK429.out 4
                                    have hfz82_5 := blk_frozen BK429.out 5
                                    have hfz82_6 := blk_frozen BK429.out 6
                                    have hcz83_0 : wc.cell? ⟨gb427, 0, none⟩ = some (.int .i64 t421) := (blk_cell BK427.out 0).trans rfl
                                    have hcz83_1 : wc.cell? ⟨gb427, 1, none⟩ = some (.int .i64 t422) := (blk_cell BK427.out 1).trans rfl
                                    have hcz83_2 : wc.cell? ⟨gb427, 2, none⟩ = some (.slice (some ad428) t423.length co18) := (blk_cell BK427.out 2).trans rfl
                                    have hfz83_0 := blk_frozen BK427.out 0
                                    have hfz83_1 := blk_frozen BK427.out 1
                                    have hfz83_2 := blk_frozen BK427.out 2
                                    have p435 : 0 ≤ ((ji73) : Int) := of_decide_eq_true (by first | (with_reducible assumption) | assumption)
                                    have q435 : (ji73) < (t423.length : Int) := of_decide_eq_true (by first | (with_reducible assumption) | assumption)
                                    obtain ⟨ad435, e435, hx435_0, hx435_1, hx435_2, hx435_3, hx435_4, hx435_5, hx435_6⟩ := at_T58 (Kd.R_reads' HO_428002.out).2.2 (ji73) p435 q435
                                    obtain rfl : ad428 = ad435 := (by injection e435)
                                    replace p435 := eq_true p435
                                    replace q435 := eq_true q435
                                    have p436 : 0 ≤ ((ji73) : Int) := of_decide_eq_true (by first | (with_reducible assumption) | assumption)
                                    have q436 : (ji73) < (t423.length : Int) := of_decide_eq_true (by first | (with_reducible assumption) | assumption)
                                    obtain ⟨ad436, e436, hx436_0, hx436_1, hx436_2, hx436_3, hx436_4, hx436_5, hx436_6⟩ := at_T58 (Kd.R_reads' HO_428002.out).2.2 (ji73) p436 q436
                                    obtain rfl : ad428 = ad436 := (by injection e436)
                                    replace p436 := eq_true p436
                                    replace q436 := eq_true q436
                                    go_wp2
                                    repeat (go_quiet (fail); try go_wp2)
                                    go_meet
                                    case rel => exact ⟨_, ((((rd_T58 t423 x16_1).f3.f1) != 0)), (by first | rfl | (simp; done) | (simp [*]; done)), H', ⟨by have := HK1.out; have := HJ21.out; first | omega | exact Nat.le_refl _⟩, ⟨by (with_reducible repeat (first | apply Kd.R_alloc | apply Kd.R_drewN | apply Kd.R_drew)); exact HO_0.out⟩, ⟨by (with_reducible repeat (first | apply Kd.R_alloc | apply Kd.R_drewN | apply Kd.R_drew)); exact HO_428002.out⟩, ⟨by (with_reducible repeat (first | refine blk_drewN ?_ _ | refine blk_drew ?_ | refine blk_alloc ?_ _)); exact BK427.out⟩, ⟨by (with_reducible repeat (first | refine blk_drewN ?_ _ | refine blk_drew ?_ | refine blk_alloc ?_ _)); exact BK429.out⟩, ⟨by repeat (first | (with_reducible first | exact HB.out | apply below_alloc | apply pw_below_drewN | apply below_drew1 | refine below_set ?_ GE427.out | refine below_set ?_ GE429.out) | exact HB.out)⟩⟩
                                  · rw [if_neg c80] at H
                                    have c80b0 : (((rd_T58 t423 x16_1).f2) == (wrap64 (((rd_T58 t423 (ji73)).f2) + 1))) = false := beq_eq_false_iff_ne.mpr c80
                                    have c80b1 : (((rd_T58 t423 x16_1).f2) != (wrap64 (((rd_T58 t423 (ji73)).f2) + 1))) = true := bne_iff_ne.mpr c80
                                    first | exact (all_j1_dead H HTR.out).elim | exact (all_j2_dead H HTR.out).elim
                              · rw [if_neg c75] at H
                                exact absurd H (by simp)
                            · rw [if_neg c74] at H
                              exact absurd H (by simp)
                          · rw [if_neg c72] at H
                            have c72b0 : decide (0 < x16_1) = false := decide_eq_false c72
                            clear c72
                            have H' := Aside0.mk H
                            clear H
                            go_wp2
                            repeat (go_quiet (fail); try go_wp2)
                            go_meet
                            case rel => exact ⟨_, (false), (by first | rfl | (simp; done) | (simp [*]; done)), H', ⟨by have := HK1.out; have := HJ21.out; first | omega | exact Nat.le_refl _⟩, ⟨by (with_reducible repeat (first | apply Kd.R_alloc | apply Kd.R_drewN | apply Kd.R_drew)); exact HO_0.out⟩, ⟨by (with_reducible repeat (first | apply Kd.R_alloc | apply Kd.R_drewN | apply Kd.R_drew)); exact HO_428002.out⟩, ⟨by (with_reducible repeat (first | refine blk_drewN ?_ _ | refine blk_drew ?_ | refine blk_alloc ?_ _)); exact BK427.out⟩, ⟨by (with_reducible repeat (first | refine blk_drewN ?_ _ | refine blk_drew ?_ | refine blk_alloc ?_ _)); exact BK429.out⟩, ⟨by repeat (first | (with_reducible first | exact HB.out | apply below_alloc | apply pw_below_drewN | apply below_drew1 | refine below_set ?_ GE427.out | refine below_set ?_ GE429.out) | exact HB.out)⟩⟩
                      case rest => as_aux_lemma =>
                        clear HC50
                        try clear c2
                        try clear p2
                        try clear c4
                        try clear p4
                        try clear q4
                        try clear hx4
                        try clear c5
                        try clear c6
                        try clear p6
                        try clear c7
                        try clear c8
                        try clear c27
                        try clear c27b0
                        try clear c27b1
                        try clear c28
                        try clear c28b0
                        try clear c28b1
                        try clear c29
                        try clear c29b0
                        try clear c29b1
                        try clear c43
                        try clear p43
                        try clear q43
                        try clear hx43
                        try clear c45
                        try clear c47
                        try clear c49
                        try clear c51
                        try clear c51b0
                        try clear c51b1
                        try clear c52
                        try clear c52b0
                        try clear c52b1
                        try clear c53
                        try clear c53b0
                        try clear c55
                        try clear c55b0
                        try clear c56
                        try clear c56b0
                        try clear c57
                        try clear c57b0
                        try clear c57b1
                        try clear c58
                        try clear c61
                        try clear c61b0
                        try clear c61b1
                        try clear c62
                        try clear p64
                        try clear c65
                        try clear c68
                        try clear c70
                        try clear c72
                        try clear c72b0
                        try clear c74
                        try clear c74b0
                        try clear c75
                        try clear c75b0
                        try clear c76
                        try clear c76b0
                        try clear c76b1
                        try clear c77
                        try clear c80
                        try clear c80b0
                        try clear c80b1
                        try clear c81
                        try clear c84
                        try clear hcz44_0
                        try clear hcz44_1
                        try clear hcz44_2
                        try clear hcz44_3
                        try clear hcz44_4
                        try clear hcz44_5
                        try clear hcz44_6
                        try clear hcz46_0
                        try clear hcz46_1
                        try clear hcz46_2
                        try clear hcz46_3
                        try clear hcz46_4
                        try clear hcz46_5
                        try clear hcz46_6
                        try clear hcz48_0
                        try clear hcz48_1
                        try clear hcz48_2
                        try clear hcz48_3
                        try clear hcz48_4
                        try clear hcz48_5
                        try clear hcz48_6
                        try clear hcz59_0
                        try clear hcz59_1
                        try clear hcz59_2
                        try clear hcz59_3
                        try clear hcz59_4
                        try clear hcz59_5
                        try clear hcz59_6
                        try clear hcz60_0
                        try clear hcz60_1
                        try clear hcz60_2
                        try clear hcz63_0
                        try clear hcz63_1
                        try clear hcz63_2
                        try clear hcz63_3
                        try clear hcz63_4
                        try clear hcz63_5
                        try clear hcz63_6
                        try clear hcz64_0
                        try clear hcz64_1
                        try clear hcz64_2
                        try clear hcz66_0
                        try clear hcz66_1
                        try clear hcz66_2
                        try clear hcz66_3
                        try clear hcz66_4
                        try clear hcz66_5
                        try clear hcz66_6
                        try clear hcz67_0
                        try clear hcz67_1
                        try clear hcz67_2
                        try clear hcz69_0
                        try clear hcz69_1
                        try clear hcz69_2
                        try clear hcz69_3
                        try clear hcz69_4
                        try clear hcz69_5
                        try clear hcz69_6
                        try clear hcz71_0
                        try clear hcz71_1
                        try clear hcz71_2
                        try clear hcz71_3
                        try clear hcz71_4
                        try clear hcz71_5
                        try clear hcz71_6
                        try clear hcz78_0
                        try clear hcz78_1
                        try clear hcz78_2
                        try clear hcz78_3
                        try clear hcz78_4
                        try clear hcz78_5
                        try clear hcz78_6
                        try clear hcz79_0
                        try clear hcz79_1
                        try clear hcz79_2
                        try clear hcz82_0
                        try clear hcz82_1
                        try clear hcz82_2
                        try clear hcz82_3
                        try clear hcz82_4
                        try clear hcz82_5
                        try clear hcz82_6
                        try clear hcz83_0
                        try clear hcz83_1
                        try clear hcz83_2
                        try clear hcz85_0
                        try clear hcz85_1
                        try clear hcz85_2
                        try clear hcz85_3
                        try clear hcz85_4
                        try clear hcz85_5
                        try clear hcz85_6
                        try clear hcz86_0
                        try clear hcz86_1
                        try clear hcz86_2
                        try clear hfz44_0
                        try clear hfz44_1
                        try clear hfz44_2
                        try clear hfz44_3
                        try clear hfz44_4
                        try clear hfz44_5
                        try clear hfz44_6
                        try clear hfz46_0
                        try clear hfz46_1
                        try clear hfz46_2
                        try clear hfz46_3
                        try clear hfz46_4
                        try clear hfz46_5
                        try clear hfz46_6
                        try clear hfz48_0
                        try clear hfz48_1
                        try clear hfz48_2
                        try clear hfz48_3
                        try clear hfz48_4
                        try clear hfz48_5
                        try clear hfz48_6
                        try clear hfz59_0
                        try clear hfz59_1
                        try clear hfz59_2
                        try clear hfz59_3
                        try clear hfz59_4
                        try clear hfz59_5
                        try clear hfz59_6
                        try clear hfz60_0
                        try clear hfz60_1
                        try clear hfz60_2
                        try clear hfz63_0
                        try clear hfz63_1
                        try clear hfz63_2
                        try clear hfz63_3
                        try clear hfz63_4
                        try clear hfz63_5
                        try clear hfz63_6
                        try clear hfz64_0
                        try clear hfz64_1
                        try clear hfz64_2
                        try clear hfz66_0
                        try clear hfz66_1
                        try clear hfz66_2
                        try clear hfz66_3
                        try clear hfz66_4
                        try clear hfz66_5
                        try clear hfz66_6
                        try clear hfz67_0
                        try clear hfz67_1
                        try clear hfz67_2
                        try clear hfz69_0
                        try clear hfz69_1
                        try clear hfz69_2
                        try clear hfz69_3
                        try clear hfz69_4
                        try clear hfz69_5
                        try clear hfz69_6
                        try clear hfz71_0
                        try clear hfz71_1
                        try clear hfz71_2
                        try clear hfz71_3
                        try clear hfz71_4
                        try clear hfz71_5
                        try clear hfz71_6
                        try clear hfz78_0
                        try clear hfz78_1
                        try clear hfz78_2
                        try clear hfz78_3
                        try clear hfz78_4
                        try clear hfz78_5
                        try clear hfz78_6
                        try clear hfz79_0
                        try clear hfz79_1
                        try clear hfz79_2
                        try clear hfz82_0
                        try clear hfz82_1
                        try clear hfz82_2
                        try clear hfz82_3
                        try clear hfz82_4
                        try clear hfz82_5
                        try clear hfz82_6
                        try clear hfz83_0
                        try clear hfz83_1
                        try clear hfz83_2
                        try clear hfz85_0
                        try clear hfz85_1
                        try clear hfz85_2
                        try clear hfz85_3
                        try clear hfz85_4
                        try clear hfz85_5
                        try clear hfz85_6
                        try clear hfz86_0
                        try clear hfz86_1
                        try clear hfz86_2
                        try clear hx430_0
                        try clear hx430_1
                        try clear hx430_2
                        try clear hx430_3
                        try clear hx430_4
                        try clear hx431_0
                        try clear hx431_1
                        try clear hx431_2
                        try clear hx431_3
                        try clear hx431_4
                        try clear hx432_0
                        try clear hx432_1
                        try clear hx432_2
                        try clear hx432_3
                        try clear hx432_4
                        try clear hx433_0
                        try clear hx433_1
                        try clear hx433_2
                        try clear hx433_3
                        try clear hx433_4
                        try clear hx433_5
                        try clear hx433_6
                        try clear hx434_0
                        try clear hx434_1
                        try clear hx434_2
                        try clear hx434_3
                        try clear hx434_4
                        try clear hx434_5
                        try clear hx434_6
                        try clear hx435_0
                        try clear hx435_1
                        try clear hx435_2
                        try clear hx435_3
                        try clear hx435_4
                        try clear hx435_5
                        try clear hx435_6
                        try clear hx436_0
                        try clear hx436_1
                        try clear hx436_2
                        try clear hx436_3
                        try clear hx436_4
                        try clear hx436_5
                        try clear hx436_6
                        try clear p2
                        try clear p4
                        try clear p43
                        try clear p430
                        try clear p431
                        try clear p432
                        try clear p433
                        try clear p434
                        try clear p435
                        try clear p436
                        try clear q4
                        try clear q43
                        try clear q430
                        try clear q431
                        try clear q432
                        try clear q433
                        try clear q434
                        try clear q435
                        try clear q436
                        obtain ⟨kq, x164_49, rfl, HA, HJ49, HO_0, HO_428002, BK427, BK429, HB⟩ := hcut
                        cases kq with
                        | zero => exact absurd HA.out (by simp [gutterlaw17_RowAll.j2])
                        | succ kj49 =>
                          have H := HA.out
                          clear HA
                          simp only [gutterlaw17_RowAll.j2] at H
                          by_cases c87 : x164_49 = true
                          · subst c87
                            have H1 : (some false) = some r := by rw [if_pos rfl] at H; exact H
                            clear H
                            have H := H1
                            clear H1
                            exact absurd ((Option.some.inj H).trans HTR.out) Bool.false_ne_true
                          · replace c87 := Bool.eq_false_iff.mpr c87
                            subst c87
                            have H1 : (if x16_1 > 0 then (if 0 ≤ (wrap64 (x16_1 - 1)) then (if (wrap64 (x16_1 - 1)) < (t423.length : Int) then (if ((rd_T58 t423 x16_1).f2) = ((rd_T58 t423 (wrap64 (x16_1 - 1))).f2) then (if 0 ≤ x16_1 then (if x16_1 < (t418.length : Int) then (if ((rd_T58 t423 x16_1).f3.f1) = (wrap64 ((wrap64 (((rd_T58 t423 (wrap64 (x16_1 - 1))).f3.f1) + ((rd_T58 t423 (wrap64 (x16_1 - 1))).f3.f3))) + ((rd_T32 t418 x16_1).f3))) then (gutterlaw17_RowAll.l0 kj49 t418 a2 a3 t417 (wrap64 (x16_1 + 1)) t421 t422 t423) else (some false)) else (none)) else (none)) else (gutterlaw17_RowAll.l0 kj49 t418 a2 a3 t417 (wrap64 (x16_1 + 1)) t421 t422 t423)) else (none)) else (none)) else (gutterlaw17_RowAll.l0 kj49 t418 a2 a3 t417 (wrap64 (x16_1 + 1)) t421 t422 t423)) = some r := by rw [if_neg (show ¬ (false = true) by decide)] at H; exact H
                            clear H
                            have H := H1
                            clear H1
                            by_cases c88 : x16_1 > 0
                            · rw [if_pos c88] at H
                              have c88b0 : decide (0 < x16_1) = true := decide_eq_true c88
                              clear c88
                              obtain ⟨ji89, hji89⟩ : ∃ j_ : Int, (wrap64 (x16_1 - 1)) = j_ := ⟨_, rfl⟩
                              replace H : (if 0 ≤ (ji89) then (if (ji89) < (t423.length : Int) then (if ((rd_T58 t423 x16_1).f2) = ((rd_T58 t423 (ji89)).f2) then (if 0 ≤ x16_1 then (if x16_1 < (t418.length : Int) then (if ((rd_T58 t423 x16_1).f3.f1) = (wrap64 ((wrap64 (((rd_T58 t423 (ji89)).f3.f1) + ((rd_T58 t423 (ji89)).f3.f3))) + ((rd_T32 t418 x16_1).f3))) then (gutterlaw17_RowAll.l0 kj49 t418 a2 a3 t417 (wrap64 (x16_1 + 1)) t421 t422 t423) else (some false)) else (none)) else (none)) else (gutterlaw17_RowAll.l0 kj49 t418 a2 a3 t417 (wrap64 (x16_1 + 1)) t421 t422 t423)) else (none)) else (none)) = some r := by first | (rw [hji89] at H; exact H) | (simp only [hji89] at H ⊢; exact H)
                              have hji89w : (IntKind.i64.wrap (x16_1 - 1)) = ji89 := (i64_w _).trans hji89
                              by_cases c90 : 0 ≤ (ji89)
                              · rw [if_pos c90] at H
                                have c90b0 : decide (0 ≤ (ji89)) = true := decide_eq_true c90
                                clear c90
                                by_cases c91 : (ji89) < (t423.length : Int)
                                · rw [if_pos c91] at H
                                  have c91b0 : decide ((ji89) < (t423.length : Int)) = true := decide_eq_true c91
                                  clear c91
                                  by_cases c92 : ((rd_T58 t423 x16_1).f2) = ((rd_T58 t423 (ji89)).f2)
                                  · rw [if_pos c92] at H
                                    have c92b0 : (((rd_T58 t423 x16_1).f2) == ((rd_T58 t423 (ji89)).f2)) = true := beq_iff_eq.mpr c92
                                    have c92b1 : (((rd_T58 t423 x16_1).f2) != ((rd_T58 t423 (ji89)).f2)) = false := bne_eq_false_iff_eq.mpr c92
                                    clear c92
                                    by_cases c93 : 0 ≤ x16_1
                                    · rw [if_pos c93] at H
                                      have c93b0 : decide (0 ≤ x16_1) = true := decide_eq_true c93
                                      clear c93
                                      by_cases c94 : x16_1 < (t418.length : Int)
                                      · rw [if_pos c94] at H
                                        have c94b0 : decide (x16_1 < (t418.length : Int)) = true := decide_eq_true c94
                                        clear c94
                                        by_cases c95 : ((rd_T58 t423 x16_1).f3.f1) = (wrap64 ((wrap64 (((rd_T58 t423 (ji89)).f3.f1) + ((rd_T58 t423 (ji89)).f3.f3))) + ((rd_T32 t418 x16_1).f3)))
                                        · rw [if_pos c95] at H
                                          have c95b0 : (((rd_T58 t423 x16_1).f3.f1) == (wrap64 ((wrap64 (((rd_T58 t423 (ji89)).f3.f1) + ((rd_T58 t423 (ji89)).f3.f3))) + ((rd_T32 t418 x16_1).f3)))) = true := beq_iff_eq.mpr c95
                                          have c95b1 : (((rd_T58 t423 x16_1).f3.f1) != (wrap64 ((wrap64 (((rd_T58 t423 (ji89)).f3.f1) + ((rd_T58 t423 (ji89)).f3.f3))) + ((rd_T32 t418 x16_1).f3)))) = false := bne_eq_false_iff_eq.mpr c95
                                          clear c95
                                          have H' := Aside0.mk H
                                          clear H
                                          have hnb96 := NB429_427.out
                                          have hnc96 := NB427_429.out
                                          have hcz97_0 : wc.cell? ⟨gb429, 0, none⟩ = some (.int .i64 ((rd_T58 t423 x16_1).f0)) := (blk_cell BK429.out 0).trans rfl
                                          have hcz97_1 : wc.cell? ⟨gb429, 1, none⟩ = some (.int .i64 ((rd_T58 t423 x16_1).f1)) := (blk_cell BK429.out 1).trans rfl
                                          have hcz97_2 : wc.cell? ⟨gb429, 2, none⟩ = some (.int .i64 ((rd_T58 t423 x16_1).f2)) := (blk_cell BK429.out 2).trans rfl
                                          have hcz97_3 : wc.cell? ⟨gb429, 3, none⟩ = some (.int .i64 ((rd_T58 t423 x16_1).f3.f0)) := (blk_cell BK429.out 3).trans rfl
                                          have hcz97_4 : wc.cell? ⟨gb429, 4, none⟩ = some (.int .i64 ((rd_T58 t423 x16_1).f3.f1)) := (blk_cell BK429.out 4).trans rfl
                                          have hcz97_5 : wc.cell? ⟨gb429, 5, none⟩ = some (.int .i64 ((rd_T58 t423 x16_1).f3.f2)) := (blk_cell BK429.out 5).trans rfl
                                          have hcz97_6 : wc.cell? ⟨gb429, 6, none⟩ = some (.int .i64 ((rd_T58 t423 x16_1).f3.f3)) := (blk_cell BK429.out 6).trans rfl
                                          have hfz97_0 := blk_frozen BK429.out 0
                                          have hfz97_1 := blk_frozen BK429.out 1
                                          have hfz97_2 := blk_frozen BK429.out 2
                                          have hfz97_3 := blk_frozen BK429.out 3
                                          have hfz97_4 := blk_frozen BK429.out 4
                                          have hfz97_5 := blk_frozen BK429.out 5
                                          have hfz97_6 := blk_frozen BK429.out 6
                                          have hcz98_0 : wc.cell? ⟨gb427, 0, none⟩ = some (.int .i64 t421) := (blk_cell BK427.out 0).trans rfl
                                          have hcz98_1 : wc.cell? ⟨gb427, 1, none⟩ = some (.int .i64 t422) := (blk_cell BK427.out 1).trans rfl
                                          have hcz98_2 : wc.cell? ⟨gb427, 2, none⟩ = some (.slice (some ad428) t423.length co18) := (blk_cell BK427.out 2).trans rfl
                                          have hfz98_0 := blk_frozen BK427.out 0
                                          have hfz98_1 := blk_frozen BK427.out 1
                                          have hfz98_2 := blk_frozen BK427.out 2
                                          have p437 : 0 ≤ ((ji89) : Int) := of_decide_eq_true (by first | (with_reducible assumption) | assumption)
                                          have q437 : (ji89) < (t423.length : Int) := of_decide_eq_true (by first | (with_reducible assumption) | assumption)
                                          obtain ⟨ad437, e437, hx437_0, hx437_1, hx437_2, hx437_3, hx437_4, hx437_5, hx437_6⟩ := at_T58 (Kd.R_reads' HO_428002.out).2.2 (ji89) p437 q437
                                          obtain rfl : ad428 = ad437 := (by injection e437)
                                          replace p437 := eq_true p437
                                          replace q437 := eq_true q437
                                          have p438 : 0 ≤ ((ji89) : Int) := of_decide_eq_true (by first | (with_reducible assumption) | assumption)
                                          have q438 : (ji89) < (t423.length : Int) := of_decide_eq_true (by first | (with_reducible assumption) | assumption)
                                          obtain ⟨ad438, e438, hx438_0, hx438_1, hx438_2, hx438_3, hx438_4, hx438_5, hx438_6⟩ := at_T58 (Kd.R_reads' HO_428002.out).2.2 (ji89) p438 q438
                                          obtain rfl : ad428 = ad438 := (by injection e438)
                                          replace p438 := eq_true p438
                                          replace q438 := eq_true q438
                                          have p439 : 0 ≤ ((ji89) : Int) := of_decide_eq_true (by first | (with_reducible assumption) | assumption)
                                          have q439 : (ji89) < (t423.length : Int) := of_decide_eq_true (by first | (with_reducible assumption) | assumption)
                                          obtain ⟨ad439, e439, hx439_0, hx439_1, hx439_2, hx439_3, hx439_4, hx439_5, hx439_6⟩ := at_T58 (Kd.R_reads' HO_428002.out).2.2 (ji89) p439 q439
                                          obtain rfl : ad428 = ad439 := (by injection e439)
                                          replace p439 := eq_true p439
                                          replace q439 := eq_true q439
                                          have p440 : 0 ≤ (x16_1 : Int) := of_decide_eq_true (by first | (with_reducible assumption) | assumption)
                                          have q440 : x16_1 < (t418.length : Int) := of_decide_eq_true (by first | (with_reducible assumption) | assumption)
                                          obtain ⟨ad440, e440, hx440_0, hx440_1, hx440_2, hx440_3, hx440_4⟩ := at_T32 (Kd.R_reads' HO_0.out).2.2 x16_1 p440 q440
                                          cases e440
                                          replace p440 := eq_true p440
                                          replace q440 := eq_true q440
                                          go_wp2
                                          repeat (go_quiet (fail); try go_wp2)
                                          go_roundg kj49
                                          case measure => have := HK1.out; have := HJ21.out; have := HJ49.out; omega
                                          case rel => exact ⟨(wrap64 (x16_1 + 1)), (by first | rfl | (simp; done) | (simp [*]; done)), H', ⟨by have := HK1.out; have := HJ21.out; have := HJ49.out; omega⟩, ⟨by (with_reducible repeat (first | apply Kd.R_alloc | apply Kd.R_drewN | apply Kd.R_drew)); exact HO_0.out⟩, ⟨by (with_reducible repeat (first | apply Kd.R_alloc | apply Kd.R_drewN | apply Kd.R_drew)); exact Kd.R_mono HO_428002.out (fun _ hk => trivial)⟩, ⟨by (with_reducible repeat (first | refine blk_drewN ?_ _ | refine blk_drew ?_ | refine blk_alloc ?_ _)); exact BK427.out⟩, ⟨by repeat (first | (with_reducible first | exact HB.out | apply below_alloc | apply pw_below_drewN | apply below_drew1 | refine below_set ?_ GE427.out | refine below_set ?_ GE429.out) | exact HB.out)⟩⟩
                                        · rw [if_neg c95] at H
                                          have c95b0 : (((rd_T58 t423 x16_1).f3.f1) == (wrap64 ((wrap64 (((rd_T58 t423 (ji89)).f3.f1) + ((rd_T58 t423 (ji89)).f3.f3))) + ((rd_T32 t418 x16_1).f3)))) = false := beq_eq_false_iff_ne.mpr c95
                                          have c95b1 : (((rd_T58 t423 x16_1).f3.f1) != (wrap64 ((wrap64 (((rd_T58 t423 (ji89)).f3.f1) + ((rd_T58 t423 (ji89)).f3.f3))) + ((rd_T32 t418 x16_1).f3)))) = true := bne_iff_ne.mpr c95
                                          exact absurd ((Option.some.inj H).trans HTR.out) Bool.false_ne_true
                                      · rw [if_neg c94] at H
                                        exact absurd H (by simp)
                                    · rw [if_neg c93] at H
                                      exact absurd H (by simp)
                                  · rw [if_neg c92] at H
                                    have c92b0 : (((rd_T58 t423 x16_1).f2) == ((rd_T58 t423 (ji89)).f2)) = false := beq_eq_false_iff_ne.mpr c92
                                    have c92b1 : (((rd_T58 t423 x16_1).f2) != ((rd_T58 t423 (ji89)).f2)) = true := bne_iff_ne.mpr c92
                                    have H' := Aside0.mk H
                                    clear H
                                    have hnb102 := NB429_427.out
                                    have hnc102 := NB427_429.out
                                    have hcz103_0 : wc.cell? ⟨gb429, 0, none⟩ = some (.int .i64 ((rd_T58 t423 x16_1).f0)) := (blk_cell BK429.out 0).trans rfl
                                    have hcz103_1 : wc.cell? ⟨gb429, 1, none⟩ = some (.int .i64 ((rd_T58 t423 x16_1).f1)) := (blk_cell BK429.out 1).trans rfl
                                    have hcz103_2 : wc.cell? ⟨gb429, 2, none⟩ = some (.int .i64 ((rd_T58 t423 x16_1).f2)) := (blk_cell BK429.out 2).trans rfl
                                    have hcz103_3 : wc.cell? ⟨gb429, 3, none⟩ = some (.int .i64 ((rd_T58 t423 x16_1).f3.f0)) := (blk_cell BK429.out 3).trans rfl
                                    have hcz103_4 : wc.cell? ⟨gb429, 4, none⟩ = some (.int .i64 ((rd_T58 t423 x16_1).f3.f1)) := (blk_cell BK429.out 4).trans rfl
                                    have hcz103_5 : wc.cell? ⟨gb429, 5, none⟩ = some (.int .i64 ((rd_T58 t423 x16_1).f3.f2)) := (blk_cell BK429.out 5).trans rfl
                                    have hcz103_6 : wc.cell? ⟨gb429, 6, none⟩ = some (.int .i64 ((rd_T58 t423 x16_1).f3.f3)) := (blk_cell BK429.out 6).trans rfl
                                    have hfz103_0 := blk_frozen BK429.out 0
                                    have hfz103_1 := blk_frozen BK429.out 1
                                    have hfz103_2 := blk_frozen BK429.out 2
                                    have hfz103_3 := blk_frozen BK429.out 3
                                    have hfz103_4 := blk_frozen BK429.out 4
                                    have hfz103_5 := blk_frozen BK429.out 5
                                    have hfz103_6 := blk_frozen BK429.out 6
                                    have hcz104_0 : wc.cell? ⟨gb427, 0, none⟩ = some (.int .i64 t421) := (blk_cell BK427.out 0).trans rfl
                                    have hcz104_1 : wc.cell? ⟨gb427, 1, none⟩ = some (.int .i64 t422) := (blk_cell BK427.out 1).trans rfl
                                    have hcz104_2 : wc.cell? ⟨gb427, 2, none⟩ = some (.slice (some ad428) t423.length co18) := (blk_cell BK427.out 2).trans rfl
                                    have hfz104_0 := blk_frozen BK427.out 0
                                    have hfz104_1 := blk_frozen BK427.out 1
                                    have hfz104_2 := blk_frozen BK427.out 2
                                    have p437 : 0 ≤ ((ji89) : Int) := of_decide_eq_true (by first | (with_reducible assumption) | assumption)
                                    have q437 : (ji89) < (t423.length : Int) := of_decide_eq_true (by first | (with_reducible assumption) | assumption)
                                    obtain ⟨ad437, e437, hx437_0, hx437_1, hx437_2, hx437_3, hx437_4, hx437_5, hx437_6⟩ := at_T58 (Kd.R_reads' HO_428002.out).2.2 (ji89) p437 q437
                                    obtain rfl : ad428 = ad437 := (by injection e437)
                                    replace p437 := eq_true p437
                                    replace q437 := eq_true q437
                                    go_wp2
                                    repeat (go_quiet (fail); try go_wp2)
                                    go_roundg kj49
                                    case measure => have := HK1.out; have := HJ21.out; have := HJ49.out; omega
                                    case rel => exact ⟨(wrap64 (x16_1 + 1)), (by first | rfl | (simp; done) | (simp [*]; done)), H', ⟨by have := HK1.out; have := HJ21.out; have := HJ49.out; omega⟩, ⟨by (with_reducible repeat (first | apply Kd.R_alloc | apply Kd.R_drewN | apply Kd.R_drew)); exact HO_0.out⟩, ⟨by (with_reducible repeat (first | apply Kd.R_alloc | apply Kd.R_drewN | apply Kd.R_drew)); exact Kd.R_mono HO_428002.out (fun _ hk => trivial)⟩, ⟨by (with_reducible repeat (first | refine blk_drewN ?_ _ | refine blk_drew ?_ | refine blk_alloc ?_ _)); exact BK427.out⟩, ⟨by repeat (first | (with_reducible first | exact HB.out | apply below_alloc | apply pw_below_drewN | apply below_drew1 | refine below_set ?_ GE427.out | refine below_set ?_ GE429.out) | exact HB.out)⟩⟩
                                · rw [if_neg c91] at H
                                  exact absurd H (by simp)
                              · rw [if_neg c90] at H
                                exact absurd H (by simp)
                            · rw [if_neg c88] at H
                              have c88b0 : decide (0 < x16_1) = false := decide_eq_false c88
                              clear c88
                              have H' := Aside0.mk H
                              clear H
                              go_wp2
                              repeat (go_quiet (fail); try go_wp2)
                              go_roundg kj49
                              case measure => have := HK1.out; have := HJ21.out; have := HJ49.out; omega
                              case rel => exact ⟨(wrap64 (x16_1 + 1)), (by first | rfl | (simp; done) | (simp [*]; done)), H', ⟨by have := HK1.out; have := HJ21.out; have := HJ49.out; omega⟩, ⟨by (with_reducible repeat (first | apply Kd.R_alloc | apply Kd.R_drewN | apply Kd.R_drew)); exact HO_0.out⟩, ⟨by (with_reducible repeat (first | apply Kd.R_alloc | apply Kd.R_drewN | apply Kd.R_drew)); exact Kd.R_mono HO_428002.out (fun _ hk => trivial)⟩, ⟨by (with_reducible repeat (first | refine blk_drewN ?_ _ | refine blk_drew ?_ | refine blk_alloc ?_ _)); exact BK427.out⟩, ⟨by repeat (first | (with_reducible first | exact HB.out | apply below_alloc | apply pw_below_drewN | apply below_drew1 | refine below_set ?_ GE427.out | refine below_set ?_ GE429.out) | exact HB.out)⟩⟩
              · rw [if_neg c21] at H
                exact absurd H (by simp)
            · rw [if_neg c20] at H
              exact absurd H (by simp)
          · rw [if_neg c19] at H
            have c19b0 : decide (x16_1 < (t418.length : Int)) = false := decide_eq_false c19
            clear c19
            by_cases c105 : t417 = true
            · subst c105
              have H1 : (some (((t418.length : Int) == 0) == (t422 == 0))) = some r := by rw [if_pos rfl] at H; exact H
              clear H
              have H := H1
              clear H1
              obtain rfl := Option.some.inj H
              have hcz106_0 : wr.cell? ⟨gb427, 0, none⟩ = some (.int .i64 t421) := (blk_cell BK427.out 0).trans rfl
              have hcz106_1 : wr.cell? ⟨gb427, 1, none⟩ = some (.int .i64 t422) := (blk_cell BK427.out 1).trans rfl
              have hcz106_2 : wr.cell? ⟨gb427, 2, none⟩ = some (.slice Ao18 t423.length co18) := (blk_cell BK427.out 2).trans rfl
              have hfz106_0 := blk_frozen BK427.out 0
              have hfz106_1 := blk_frozen BK427.out 1
              have hfz106_2 := blk_frozen BK427.out 2
              go_wp2
              repeat (go_quiet (fail); try go_wp2)
              go_ret
              exact ⟨by first | rfl | (simp [errW_none, errW_some] <;> rfl) | (simp [*, errW_none, errW_some] <;> rfl), by repeat (first | (with_reducible first | exact HB.out | apply below_alloc | apply pw_below_drewN | apply below_drew1 | refine below_set ?_ GE427.out) | exact HB.out)⟩
            · replace c105 := Bool.eq_false_iff.mpr c105
              subst c105
              have H1 : (some false) = some r := by rw [if_neg (show ¬ (false = true) by decide)] at H; exact H
              clear H
              have H := H1
              clear H1
              exact absurd ((Option.some.inj H).trans HTR.out) Bool.false_ne_true
    · rw [if_neg c11] at H
      have c11b0 : ((t423.length : Int) == (t418.length : Int)) = false := beq_eq_false_iff_ne.mpr c11
      have c11b1 : ((t423.length : Int) != (t418.length : Int)) = true := bne_iff_ne.mpr c11
      have c11b2 : (t423.length == t418.length) = false := by first | simpa using c11 | (simp at c11 ⊢; omega)
      exact absurd ((Option.some.inj H).trans HTR.out) Bool.false_ne_true
  · rw [if_neg c10] at H
    have c10b0 : (t426 == 0) = false := beq_eq_false_iff_ne.mpr c10
    have c10b1 : (t426 != 0) = true := bne_iff_ne.mpr c10
    by_cases c114 : t417 = true
    · subst c114
      have H1 : (if (t423.length : Int) = 0 then (some (t421 == 0)) else (some false)) = some r := by rw [if_pos rfl] at H; exact H
      clear H
      have H := H1
      clear H1
      by_cases c115 : (t423.length : Int) = 0
      · rw [if_pos c115] at H
        have c115b0 : ((t423.length : Int) == 0) = true := beq_iff_eq.mpr c115
        have c115b1 : ((t423.length : Int) != 0) = false := bne_eq_false_iff_eq.mpr c115
        clear c115
        obtain rfl := Option.some.inj H
        go_enter Tryd.func10, Tryd.ntmps10
        go_wp2_with (first | (go_at_call 39; (with_reducible refine (gutterlaw17_shown.calls k  true _ ?side1 A7.out).mono ?_); (case side1 => exact (Gl.of_below HG.out (by repeat (first | (with_reducible first | exact HB.out | apply below_alloc | apply pw_below_drewN | apply below_drew1) | exact HB.out))).le (by decide)); rintro e w116 ⟨rfl, hb⟩; have n0_ := Aside0.mk (below_step (by repeat (first | (with_reducible first | exact HB.out | apply below_alloc | apply pw_below_drewN | apply below_drew1) | exact HB.out)) hb); clear HB; have HB := n0_; clear n0_; (try clear hb); (try clear hb2); (try clear hk); (try clear hi)) | (go_at_call 40; (with_reducible refine (gutterlaw17_few.calls _ _ l0 t418 _ ?side1 ?side2 A8.out).mono ?_); (case side1 => repeat (first | exact (Kd.C_below HR0.out HB.out) | (with_reducible refine Kd.C_alloc ?_ _) | (with_reducible refine Kd.C_drewN ?_ _) | (with_reducible refine Kd.C_drew ?_))); (case side2 => exact HC0.out); rintro e w117 ⟨v419, rfl, ho0, hb⟩; have n0_ := Aside0.mk (Kd.R_lower ho0 (below_size (by repeat (first | (with_reducible first | exact HB.out | apply below_alloc | apply pw_below_drewN | apply below_drew1) | exact HB.out)))); have n1_ := Aside0.mk (below_step (by repeat (first | (with_reducible first | exact HB.out | apply below_alloc | apply pw_below_drewN | apply below_drew1) | exact HB.out)) hb); clear HB; have HO420 := n0_; have HB := n1_; clear n0_ n1_; (try clear hb); (try clear hb2); (try clear hk); (try clear hi); (try clear ho0); obtain ⟨Ao118, co118, eo118⟩ := Kd.R_slice HO420.out; subst eo118) | (go_at_call 41; (with_reducible refine (row_Lay.calls _ _ t418 a1 a2 a3 a4 a5 t421 t422 t423 t426 _ ?side1 ?side2 ?side3 A9.out).mono ?_); (case side1 => repeat (first | exact (Kd.R_reads' HO420.out).2.2 | (with_reducible refine Kd.C_alloc ?_ _) | (with_reducible refine Kd.C_drewN ?_ _) | (with_reducible refine Kd.C_drew ?_))); (case side2 => exact (Kd.R_reads' HO420.out).2.1); (case side3 => exact (Gl.of_below HG.out (by repeat (first | (with_reducible first | exact HB.out | apply below_alloc | apply pw_below_drewN | apply below_drew1) | exact HB.out))).le (by decide)); rintro e w119 ⟨v424, rfl, ho0, hb⟩; have n0_ := Aside0.mk (Kd.R_below (by (with_reducible repeat (first | apply Kd.R_alloc | apply Kd.R_drewN | apply Kd.R_drew)); exact HO420.out) hb); have n1_ := Aside0.mk (Kd.R_lower ho0 (below_size (by repeat (first | (with_reducible first | exact HB.out | apply below_alloc | apply pw_below_drewN | apply below_drew1) | exact HB.out)))); have n2_ := Aside0.mk (below_step (by repeat (first | (with_reducible first | exact HB.out | apply below_alloc | apply pw_below_drewN | apply below_drew1) | exact HB.out)) hb); clear HO420; clear HB; have HO420 := n0_; have HO425 := n1_; have HB := n2_; clear n0_ n1_ n2_; (try clear hb); (try clear hb2); (try clear hk); (try clear hi); (try clear ho0)) | ((with_reducible refine gate_dst (N := 14) rfl ?_); (try (refine gate_guard (by rfl) ?_; dsimp only)); refine box_event ?hg (N := 14) ?hd (cs := #[.int .i64 0, .int .i64 0, .slice none 0 0]) (t := 50) ?hr ?_; (case hd => rfl); (case hg => rfl); (case hr => first | (go_simp; done) | (go_simp; rfl)); intro gb427 hg w120 hbox hb; have n0_ := Aside0.mk (Kd.R_below (by (with_reducible repeat (first | apply Kd.R_alloc | apply Kd.R_drewN | apply Kd.R_drew)); exact HO420.out) hb); have n1_ := Aside0.mk (Kd.R_below (by (with_reducible repeat (first | apply Kd.R_alloc | apply Kd.R_drewN | apply Kd.R_drew)); exact HO425.out) hb); have n2_ := Aside0.mk (below_step (by repeat (first | (with_reducible first | exact HB.out | apply below_alloc | apply pw_below_drewN | apply below_drew1) | exact HB.out)) hb); have n3_ := Aside0.mk (hbox); have n4_ := Aside0.mk ((by rw [hg]; exact (below_size (by repeat (first | (with_reducible first | exact HB.out | apply below_alloc | apply pw_below_drewN | apply below_drew1) | exact HB.out))) : w.heap.size ≤ gb427)); have n5_ := Aside0.mk ((by rw [hg]; exact (below_size (by repeat (first | (with_reducible first | exact HB.out | apply below_alloc | apply pw_below_drewN | apply below_drew1) | exact HB.out))) : w.heap.size ≤ gb427)); clear HO420; clear HO425; clear HB; have HO420 := n0_; have HO425 := n1_; have HB := n2_; have BK427 := n3_; have GW427 := n4_; have GE427 := n5_; clear n0_ n1_ n2_ n3_ n4_ n5_; clear hb hbox hg; have hcz121_0 : w120.cell? ⟨gb427, 0, none⟩ = some (.int .i64 0) := (blk_cell BK427.out 0).trans rfl; have hcz121_1 : w120.cell? ⟨gb427, 1, none⟩ = some (.int .i64 0) := (blk_cell BK427.out 1).trans rfl; have hcz121_2 : w120.cell? ⟨gb427, 2, none⟩ = some (.slice none 0 0) := (blk_cell BK427.out 2).trans rfl; have hfz121_0 := blk_frozen BK427.out 0; have hfz121_1 := blk_frozen BK427.out 1; have hfz121_2 := blk_frozen BK427.out 2; obtain ⟨Ao122, co122, eo122⟩ := Kd.R_slice HO425.out; subst eo122))
        repeat (go_quiet (first | (go_at_call 39; (with_reducible refine (gutterlaw17_shown.calls k  true _ ?side1 A7.out).mono ?_); (case side1 => exact (Gl.of_below HG.out (by repeat (first | (with_reducible first | exact HB.out | apply below_alloc | apply pw_below_drewN | apply below_drew1) | exact HB.out))).le (by decide)); rintro e w116 ⟨rfl, hb⟩; have n0_ := Aside0.mk (below_step (by repeat (first | (with_reducible first | exact HB.out | apply below_alloc | apply pw_below_drewN | apply below_drew1) | exact HB.out)) hb); clear HB; have HB := n0_; clear n0_; (try clear hb); (try clear hb2); (try clear hk); (try clear hi)) | (go_at_call 40; (with_reducible refine (gutterlaw17_few.calls _ _ l0 t418 _ ?side1 ?side2 A8.out).mono ?_); (case side1 => repeat (first | exact (Kd.C_below HR0.out HB.out) | (with_reducible refine Kd.C_alloc ?_ _) | (with_reducible refine Kd.C_drewN ?_ _) | (with_reducible refine Kd.C_drew ?_))); (case side2 => exact HC0.out); rintro e w117 ⟨v419, rfl, ho0, hb⟩; have n0_ := Aside0.mk (Kd.R_lower ho0 (below_size (by repeat (first | (with_reducible first | exact HB.out | apply below_alloc | apply pw_below_drewN | apply below_drew1) | exact HB.out)))); have n1_ := Aside0.mk (below_step (by repeat (first | (with_reducible first | exact HB.out | apply below_alloc | apply pw_below_drewN | apply below_drew1) | exact HB.out)) hb); clear HB; have HO420 := n0_; have HB := n1_; clear n0_ n1_; (try clear hb); (try clear hb2); (try clear hk); (try clear hi); (try clear ho0); obtain ⟨Ao118, co118, eo118⟩ := Kd.R_slice HO420.out; subst eo118) | (go_at_call 41; (with_reducible refine (row_Lay.calls _ _ t418 a1 a2 a3 a4 a5 t421 t422 t423 t426 _ ?side1 ?side2 ?side3 A9.out).mono ?_); (case side1 => repeat (first | exact (Kd.R_reads' HO420.out).2.2 | (with_reducible refine Kd.C_alloc ?_ _) | (with_reducible refine Kd.C_drewN ?_ _) | (with_reducible refine Kd.C_drew ?_))); (case side2 => exact (Kd.R_reads' HO420.out).2.1); (case side3 => exact (Gl.of_below HG.out (by repeat (first | (with_reducible first | exact HB.out | apply below_alloc | apply pw_below_drewN | apply below_drew1) | exact HB.out))).le (by decide)); rintro e w119 ⟨v424, rfl, ho0, hb⟩; have n0_ := Aside0.mk (Kd.R_below (by (with_reducible repeat (first | apply Kd.R_alloc | apply Kd.R_drewN | apply Kd.R_drew)); exact HO420.out) hb); have n1_ := Aside0.mk (Kd.R_lower ho0 (below_size (by repeat (first | (with_reducible first | exact HB.out | apply below_alloc | apply pw_below_drewN | apply below_drew1) | exact HB.out)))); have n2_ := Aside0.mk (below_step (by repeat (first | (with_reducible first | exact HB.out | apply below_alloc | apply pw_below_drewN | apply below_drew1) | exact HB.out)) hb); clear HO420; clear HB; have HO420 := n0_; have HO425 := n1_; have HB := n2_; clear n0_ n1_ n2_; (try clear hb); (try clear hb2); (try clear hk); (try clear hi); (try clear ho0)) | ((with_reducible refine gate_dst (N := 14) rfl ?_); (try (refine gate_guard (by rfl) ?_; dsimp only)); refine box_event ?hg (N := 14) ?hd (cs := #[.int .i64 0, .int .i64 0, .slice none 0 0]) (t := 50) ?hr ?_; (case hd => rfl); (case hg => rfl); (case hr => first | (go_simp; done) | (go_simp; rfl)); intro gb427 hg w120 hbox hb; have n0_ := Aside0.mk (Kd.R_below (by (with_reducible repeat (first | apply Kd.R_alloc | apply Kd.R_drewN | apply Kd.R_drew)); exact HO420.out) hb); have n1_ := Aside0.mk (Kd.R_below (by (with_reducible repeat (first | apply Kd.R_alloc | apply Kd.R_drewN | apply Kd.R_drew)); exact HO425.out) hb); have n2_ := Aside0.mk (below_step (by repeat (first | (with_reducible first | exact HB.out | apply below_alloc | apply pw_below_drewN | apply below_drew1) | exact HB.out)) hb); have n3_ := Aside0.mk (hbox); have n4_ := Aside0.mk ((by rw [hg]; exact (below_size (by repeat (first | (with_reducible first | exact HB.out | apply below_alloc | apply pw_below_drewN | apply below_drew1) | exact HB.out))) : w.heap.size ≤ gb427)); have n5_ := Aside0.mk ((by rw [hg]; exact (below_size (by repeat (first | (with_reducible first | exact HB.out | apply below_alloc | apply pw_below_drewN | apply below_drew1) | exact HB.out))) : w.heap.size ≤ gb427)); clear HO420; clear HO425; clear HB; have HO420 := n0_; have HO425 := n1_; have HB := n2_; have BK427 := n3_; have GW427 := n4_; have GE427 := n5_; clear n0_ n1_ n2_ n3_ n4_ n5_; clear hb hbox hg; have hcz121_0 : w120.cell? ⟨gb427, 0, none⟩ = some (.int .i64 0) := (blk_cell BK427.out 0).trans rfl; have hcz121_1 : w120.cell? ⟨gb427, 1, none⟩ = some (.int .i64 0) := (blk_cell BK427.out 1).trans rfl; have hcz121_2 : w120.cell? ⟨gb427, 2, none⟩ = some (.slice none 0 0) := (blk_cell BK427.out 2).trans rfl; have hfz121_0 := blk_frozen BK427.out 0; have hfz121_1 := blk_frozen BK427.out 1; have hfz121_2 := blk_frozen BK427.out 2; obtain ⟨Ao122, co122, eo122⟩ := Kd.R_slice HO425.out; subst eo122)); try go_wp2_with (first | (go_at_call 39; (with_reducible refine (gutterlaw17_shown.calls k  true _ ?side1 A7.out).mono ?_); (case side1 => exact (Gl.of_below HG.out (by repeat (first | (with_reducible first | exact HB.out | apply below_alloc | apply pw_below_drewN | apply below_drew1) | exact HB.out))).le (by decide)); rintro e w116 ⟨rfl, hb⟩; have n0_ := Aside0.mk (below_step (by repeat (first | (with_reducible first | exact HB.out | apply below_alloc | apply pw_below_drewN | apply below_drew1) | exact HB.out)) hb); clear HB; have HB := n0_; clear n0_; (try clear hb); (try clear hb2); (try clear hk); (try clear hi)) | (go_at_call 40; (with_reducible refine (gutterlaw17_few.calls _ _ l0 t418 _ ?side1 ?side2 A8.out).mono ?_); (case side1 => repeat (first | exact (Kd.C_below HR0.out HB.out) | (with_reducible refine Kd.C_alloc ?_ _) | (with_reducible refine Kd.C_drewN ?_ _) | (with_reducible refine Kd.C_drew ?_))); (case side2 => exact HC0.out); rintro e w117 ⟨v419, rfl, ho0, hb⟩; have n0_ := Aside0.mk (Kd.R_lower ho0 (below_size (by repeat (first | (with_reducible first | exact HB.out | apply below_alloc | apply pw_below_drewN | apply below_drew1) | exact HB.out)))); have n1_ := Aside0.mk (below_step (by repeat (first | (with_reducible first | exact HB.out | apply below_alloc | apply pw_below_drewN | apply below_drew1) | exact HB.out)) hb); clear HB; have HO420 := n0_; have HB := n1_; clear n0_ n1_; (try clear hb); (try clear hb2); (try clear hk); (try clear hi); (try clear ho0); obtain ⟨Ao118, co118, eo118⟩ := Kd.R_slice HO420.out; subst eo118) | (go_at_call 41; (with_reducible refine (row_Lay.calls _ _ t418 a1 a2 a3 a4 a5 t421 t422 t423 t426 _ ?side1 ?side2 ?side3 A9.out).mono ?_); (case side1 => repeat (first | exact (Kd.R_reads' HO420.out).2.2 | (with_reducible refine Kd.C_alloc ?_ _) | (with_reducible refine Kd.C_drewN ?_ _) | (with_reducible refine Kd.C_drew ?_))); (case side2 => exact (Kd.R_reads' HO420.out).2.1); (case side3 => exact (Gl.of_below HG.out (by repeat (first | (with_reducible first | exact HB.out | apply below_alloc | apply pw_below_drewN | apply below_drew1) | exact HB.out))).le (by decide)); rintro e w119 ⟨v424, rfl, ho0, hb⟩; have n0_ := Aside0.mk (Kd.R_below (by (with_reducible repeat (first | apply Kd.R_alloc | apply Kd.R_drewN | apply Kd.R_drew)); exact HO420.out) hb); have n1_ := Aside0.mk (Kd.R_lower ho0 (below_size (by repeat (first | (with_reducible first | exact HB.out | apply below_alloc | apply pw_below_drewN | apply below_drew1) | exact HB.out)))); have n2_ := Aside0.mk (below_step (by repeat (first | (with_reducible first | exact HB.out | apply below_alloc | apply pw_below_drewN | apply below_drew1) | exact HB.out)) hb); clear HO420; clear HB; have HO420 := n0_; have HO425 := n1_; have HB := n2_; clear n0_ n1_ n2_; (try clear hb); (try clear hb2); (try clear hk); (try clear hi); (try clear ho0)) | ((with_reducible refine gate_dst (N := 14) rfl ?_); (try (refine gate_guard (by rfl) ?_; dsimp only)); refine box_event ?hg (N := 14) ?hd (cs := #[.int .i64 0, .int .i64 0, .slice none 0 0]) (t := 50) ?hr ?_; (case hd => rfl); (case hg => rfl); (case hr => first | (go_simp; done) | (go_simp; rfl)); intro gb427 hg w120 hbox hb; have n0_ := Aside0.mk (Kd.R_below (by (with_reducible repeat (first | apply Kd.R_alloc | apply Kd.R_drewN | apply Kd.R_drew)); exact HO420.out) hb); have n1_ := Aside0.mk (Kd.R_below (by (with_reducible repeat (first | apply Kd.R_alloc | apply Kd.R_drewN | apply Kd.R_drew)); exact HO425.out) hb); have n2_ := Aside0.mk (below_step (by repeat (first | (with_reducible first | exact HB.out | apply below_alloc | apply pw_below_drewN | apply below_drew1) | exact HB.out)) hb); have n3_ := Aside0.mk (hbox); have n4_ := Aside0.mk ((by rw [hg]; exact (below_size (by repeat (first | (with_reducible first | exact HB.out | apply below_alloc | apply pw_below_drewN | apply below_drew1) | exact HB.out))) : w.heap.size ≤ gb427)); have n5_ := Aside0.mk ((by rw [hg]; exact (below_size (by repeat (first | (with_reducible first | exact HB.out | apply below_alloc | apply pw_below_drewN | apply below_drew1) | exact HB.out))) : w.heap.size ≤ gb427)); clear HO420; clear HO425; clear HB; have HO420 := n0_; have HO425 := n1_; have HB := n2_; have BK427 := n3_; have GW427 := n4_; have GE427 := n5_; clear n0_ n1_ n2_ n3_ n4_ n5_; clear hb hbox hg; have hcz121_0 : w120.cell? ⟨gb427, 0, none⟩ = some (.int .i64 0) := (blk_cell BK427.out 0).trans rfl; have hcz121_1 : w120.cell? ⟨gb427, 1, none⟩ = some (.int .i64 0) := (blk_cell BK427.out 1).trans rfl; have hcz121_2 : w120.cell? ⟨gb427, 2, none⟩ = some (.slice none 0 0) := (blk_cell BK427.out 2).trans rfl; have hfz121_0 := blk_frozen BK427.out 0; have hfz121_1 := blk_frozen BK427.out 1; have hfz121_2 := blk_frozen BK427.out 2; obtain ⟨Ao122, co122, eo122⟩ := Kd.R_slice HO425.out; subst eo122)))
        go_ret
        exact ⟨by first | rfl | (simp [errW_none, errW_some] <;> rfl) | (simp [*, errW_none, errW_some] <;> rfl), by repeat (first | (with_reducible first | exact HB.out | apply below_alloc | apply pw_below_drewN | apply below_drew1 | refine below_set ?_ GE427.out) | exact HB.out)⟩
      · rw [if_neg c115] at H
        have c115b0 : ((t423.length : Int) == 0) = false := beq_eq_false_iff_ne.mpr c115
        have c115b1 : ((t423.length : Int) != 0) = true := bne_iff_ne.mpr c115
        have c115b2 : ¬ (t423 = []) := fun h_ => c115 (by rw [h_]; rfl)
        exact absurd ((Option.some.inj H).trans HTR.out) Bool.false_ne_true
    · replace c114 := Bool.eq_false_iff.mpr c114
      subst c114
      have H1 : (some false) = some r := by rw [if_neg (show ¬ (false = true) by decide)] at H; exact H
      clear H
      have H := H1
      clear H1
      exact absurd ((Option.some.inj H).trans HTR.out) Bool.false_ne_true
end Go.Proofs.YtjpifknencfipaaDoor.P
