/- atom.High, the balance's cols, all: what they answer for atoms that are right. Conditions: the slice reads as the list. · balance.open: a search in new memory where atoms and columns are right, else the sentinel. Conditions: the slice reads as the list; the sentinels. · The balance's all: the sum of all heights. Conditions: a search in memory. · The balance's at: a pass, reckoned once. Conditions: a search in memory; its map holds what is right. · A range over an iterator that, between two rounds, writes one map that lay ahead of the loop: the loop's law (the fourth law's proof, turned to it). Conditions: the map's block lies ahead of the loop. · The balance's begin. Conditions: a search in memory; the sentinel. · The balance's passes as an iterator: its contract for every loop body that leaves alone what lay ahead of the loop. Conditions: a search in memory, what it knows is right. · The balance's least: where a search ends. Conditions: a search in memory, which knows nothing yet. · balance.Target. Conditions: the slice reads as the list; the sentinels. · balance.Begin. Conditions: the slice reads as the list; the sentinels. · balance.Least. Conditions: the slice reads as the list; the sentinels. · balance.Balance. Conditions: the slice reads as the list; the sentinels. -/
import Derived.Test.YtjpifknencfipaaDoorLo
import Derived.Test.YtjpifknencfipaaDoorP33
import Derived.Test.YtjpifknencfipaaDoorP66
import Derived.Maps.Own
import Derived.Test.YtjpifknencfipaaDoorP111
import Derived.Maps.AppendAt
import Derived.Maps.OwnSet
import Derived.Maps.Views
import Derived.RangeFuncNested
import Derived.RangeFuncBound
import Derived.RangeFuncCalls
import Derived.RangeFuncLeaves
import Derived.RangeFuncBox
import Derived.Below
import Derived.Test.YtjpifknencfipaaDoorLt
import Derived.Test.YtjpifknencfipaaDoorE59
import Derived.Sort.CutIn
import Derived.Deep.RegionWith
import Derived.Deep.Cut
import Derived.Laws.EntriesVeiled
set_option linter.unusedVariables false
set_option linter.unusedSimpArgs false
namespace Go.Proofs.YtjpifknencfipaaDoor.P
open Go.RowKit Go.Proofs.YtjpifknencfipaaDoorW.PrintWords Go.Proofs.YtjpifknencfipaaDoorW.PrintLast Go.Proofs.YtjpifknencfipaaDoorW.PrintMore

set_option maxHeartbeats 2000000 in
set_option maxRecDepth 100000 in
/-- atom.High. -/
theorem high_calls (A : Option Addr) (c : Nat) (l : List S32) (w : World) (hr : Kd.C k32 w A l.length l) (hl : rightA l = true) :
    Calls Tryd.prog 94 #[.slice A l.length c] w fun e w' => e = .returned (.int .i64 (allA l)) ∧ Below w.heap.size w w' := by
  have HC := Aside0.mk hr
  have hln := len_of hl
  clear hr
  go_enter Tryd.func94, Tryd.ntmps94
  go_wp2
  go_loopw [3, 8] (fun nv p wr => ∃ i : Nat, p = .int .i64 i ∧ i ≤ l.length ∧ nv = .int .i64 (if i = 0 then 0 else hiA l 0 i) ∧ Aside0 (Below w.heap.size w wr)) (fun _ p _ => l.length - (intOf p).toNat)
  case atStart => exact ⟨0, rfl, Nat.zero_le _, rfl, ⟨Below.refl _ _⟩⟩
  case round =>
    obtain ⟨i, rfl, hi, rfl, HB⟩ := hrel
    by_cases hlt : i < l.length
    · obtain ⟨ad, rfl, x0, x1, x2, x3, x4⟩ := atom_cells (Kd.C_below HC.out HB.out) i hlt
      have hh := hh_of hl i hlt
      have hb2 := hi_range hl 0 (i + 1) (by omega) (by omega)
      have hs := hi_succ l 0 i
      have hst : stA l i = spA l i + hhA l i := rfl
      obtain ⟨H, hH⟩ : ∃ H, hhA l i = H := ⟨_, rfl⟩
      obtain ⟨S, hS⟩ : ∃ S, spA l i = S := ⟨_, rfl⟩
      rw [hH] at x2 hh hst
      rw [hS] at x3 hh hst
      by_cases hz : i = 0
      · have h1 : hiA l 0 (i + 1) = H := by rw [← hH, hz, hi_one]
        have HE := Lib.hid h1
        have hz0 : ¬ (0 < (i : Int)) := by omega
        rw [if_pos hz]
        clear hs hst hb2 h1 hH hS hz
        go_wp2
        go_roundw
        case rel => exact ⟨i + 1, by go_num, by omega, by rw [if_neg (by omega), HE.out], ⟨below_alloc HB.out _⟩⟩
        case measure => simp [intOf]; omega
      · have hb1 := hi_range hl 0 i (by omega) (by omega)
        obtain ⟨n, hn⟩ : ∃ n, hiA l 0 i = n := ⟨_, rfl⟩
        rw [hn] at hb1 hs
        rw [hst] at hs
        have HE := Lib.hid hs
        have hb3 : n + H ≤ 2149580800000 + 2149580800000 := by omega
        have hb4 : n + H + S ≤ 2149580800000 + 2149580800000 := by omega
        rw [if_neg hz, hn]
        clear hst hb2 hs hH hS hn
        go_wp2
        go_roundw
        case rel => exact ⟨i + 1, by go_num, by omega, by rw [if_neg (by omega), HE.out]; congr 1; omega, ⟨below_alloc HB.out _⟩⟩
        case measure => simp [intOf]; omega
    · have HE : Hid ((if i = 0 then 0 else hiA l 0 i) = allA l) := Lib.hid (by rw [show i = l.length by omega]; rfl)
      rw [HE.out]
      go_wp2
      go_ret
      exact ⟨rfl, HB.out⟩

set_option maxHeartbeats 2000000 in
set_option maxRecDepth 100000 in
/-- (*atoms).cols. -/
theorem colsN_calls (A : Option Addr) (c : Nat) (l : List S32) (h : Int) (g : Nat) (w : World) (hc0 : w.cell? ⟨g, 0, none⟩ = some (.slice A l.length c)) (hr : Kd.C k32 w A l.length l) (hc : l.length ≤ c) (hG : Gl 1 w) :
    Calls Tryd.prog 93 #[.pointer (some ⟨g, 0, none⟩), .int .i64 h] w fun e w' => e = .returned (.int .i64 (numA l h)) ∧ Below w.heap.size w w' := by
  have hf : ∃ x, fill_Cols.f l h = some (numA l h, x) := by
    unfold fill_Cols.f fill_Fill.f numA
    by_cases hf : fineA l h = true
    · rw [if_pos hf, if_pos hf]
      exact ⟨0, by simp⟩
    · rw [if_neg hf, if_neg hf]
      exact ⟨130, rfl⟩
  obtain ⟨x, hx⟩ := hf
  have HK := Lib.hid (fill_Cols.calls A c l h _ _ w hr hc hG hx)
  clear hr hc hG hx
  go_enter Tryd.func93, Tryd.ntmps93
  go_wp2_with (go_at_call 33; refine HK.out.mono ?_; rintro e w1 ⟨rfl, hb⟩; have HB := Aside0.mk hb; clear hb)
  go_ret
  exact ⟨rfl, HB.out⟩

end Go.Proofs.YtjpifknencfipaaDoor.P

namespace Go.Proofs.YtjpifknencfipaaDoor.P
open Go.RowKit Go.Proofs.YtjpifknencfipaaDoorW.PrintWords Go.Proofs.YtjpifknencfipaaDoorW.PrintLast Go.Proofs.YtjpifknencfipaaDoorW.PrintMore

theorem openA_parts {l : List S32} {n : Int} (h : openA l n = true) : rightA l = true ∧ l.length ≤ 200 ∧ 1 ≤ n ∧ n ≤ 50 := by
  unfold openA at h
  simp only [Bool.and_eq_true, decide_eq_true_eq] at h
  exact ⟨h.1.1.1, h.1.1.2, h.1.2, h.2⟩

set_option maxHeartbeats 1000000 in
set_option maxRecDepth 100000 in
theorem bopen_no (A : Option Addr) (c : Nat) (l : List S32) (n : Int) (w : World) (a : Addr) (hr : Kd.C k32 w A l.length l) (hc : l.length ≤ c) (hf : openA l n = false) (hg : w.cell? ⟨0, 0, none⟩ = some (.iface 186 (.pointer (some a)))) :
    Calls Tryd.prog 68 #[.slice A l.length c, .int .i64 n] w fun e w' => e = .returned (.tuple #[.pointer none, .iface 186 (.pointer (some a))]) ∧ Below w.heap.size w w' := by
  have hn : l.length ≤ 9223372036854775807 := hr.2.1
  cases h1 : rightA l with
  | false =>
    have HR := Lib.hid (right_not A c l w hr hc h1)
    clear hr h1 hf
    go_enter Tryd.func68, Tryd.ntmps68
    go_wp2_with (go_at_call 77; refine HR.out.mono ?_; rintro e w1 ⟨rfl, hb⟩; have HB := Aside0.mk hb; have hg1 := pw_cell_below hb hg; clear hb)
    go_quiet (fail)
    go_wp2
    go_ret2
    exact ⟨rfl, pw_below_drewN HB.out _⟩
  | true =>
    have HR := Lib.hid (right_yes A c l w hr hc h1)
    have hd : (200 : Int) < (l.length : Int) ∨ ((l.length : Int) ≤ 200 ∧ (n < 1 ∨ (1 ≤ n ∧ 50 < n))) := by
      unfold openA at hf
      rw [h1] at hf
      by_cases h2 : l.length ≤ 200
      · refine .inr ⟨by omega, ?_⟩
        have h3 : (decide (1 ≤ n) && decide (n ≤ 50)) = false := by simpa [h2] using hf
        simp only [Bool.and_eq_false_iff, decide_eq_false_iff_not] at h3
        omega
      · exact .inl (by omega)
    clear hr h1 hf
    rcases hd with d1 | ⟨d1, d2 | ⟨d2, d3⟩⟩
    all_goals
      go_enter Tryd.func68, Tryd.ntmps68
      go_wp2_with (go_at_call 77; refine HR.out.mono ?_; rintro e w1 ⟨rfl, hb⟩; have HB := Aside0.mk hb; have hg1 := pw_cell_below hb hg; clear hb)
      go_quiet (fail)
      go_wp2
      go_ret2
      exact ⟨rfl, pw_below_drewN HB.out _⟩

/-- A search. -/
structure Search (l : List S32) (t : Int) (g b : Nat) (w : World) : Prop where
  row : ∃ A c, w.cell? ⟨g, 0, none⟩ = some (.slice A l.length c) ∧ l.length ≤ c ∧ Kd.C k32 w A l.length l
  tgt : w.cell? ⟨g, 1, none⟩ = some (.int .i64 t)
  map : w.cell? ⟨g, 2, none⟩ = some (.map (some b))

set_option maxHeartbeats 2000000 in
set_option maxRecDepth 100000 in
theorem bopen_yes2 (A : Option Addr) (c : Nat) (l : List S32) (n : Int) (w : World) (hr : Kd.C k32 w A l.length l) (hc : l.length ≤ c) (hG : Gl 1 w) (hf : openA l n = true) :
    Calls Tryd.prog 68 #[.slice A l.length c, .int .i64 n] w fun e w' => ∃ g b : Nat, e = .returned (.tuple #[.pointer (some ⟨g, 0, none⟩), .nilIface]) ∧ (Search l (targetA l n) g b w' ∧ w'.cell? ⟨g, 0, none⟩ = some (.slice A l.length c)) ∧ w'.ownsMap Tryd.prog 2 (plainElem (H := Unit) Tryd.prog 3) b 0 (.map []) ∧ w.heap.size ≤ b ∧ b < g ∧ Below w.heap.size w w' := by
  obtain ⟨h1, h2, h3, h4⟩ := openA_parts hf
  have HR := Lib.hid (right_yes A c l w hr hc h1)
  have HC := Aside0.mk hr
  have HG := Aside0.mk hG
  have hmm := @run_makeMap Tryd.prog
  clear hr hG
  go_enter Tryd.func68, Tryd.ntmps68
  go_wp2_with (first
    | (go_at_call 77; refine HR.out.mono ?_; rintro e w1 ⟨rfl, hb⟩; have HB := Aside0.mk hb; clear hb)
    | go_in)
  obtain ⟨W0, hW0⟩ : ∃ W0, (w1.alloc (.map #[] 0)).alloc (.cells #[.slice A l.length c, .int .i64 0, .map (some w1.heap.size)] 96) = W0 := ⟨_, rfl⟩
  have hblk : W0.heap[w1.heap.size + 1]? = some (.cells #[.slice A l.length c, .int .i64 0, .map (some w1.heap.size)] 96 (0, 0)) := by
    have := World.alloc_heap_new (w1.alloc (.map #[] 0)) (.cells #[.slice A l.length c, .int .i64 0, .map (some w1.heap.size)] 96)
    rw [World.size_alloc] at this
    exact hW0 ▸ this
  have hM0 : W0.ownsMap Tryd.prog 2 (plainElem (H := Unit) Tryd.prog 3) w1.heap.size 0 (.map []) := hW0 ▸ (World.ownsMap_made w1 Tryd.prog 2 (plainElem Tryd.prog 3)).alloc _
  have HM0 := Aside0.mk hM0
  clear hM0
  have hb0 : Below w1.heap.size w1 W0 := hW0 ▸ below_alloc (below_alloc (Below.refl _ w1) _) _
  rw [hW0]
  clear hW0
  refine wp_region_quiet_tail (fun w' => Below W0.heap.size W0 w') 11 (by kernel_rfl) (by kernel_rfl) (pw_below_drewN (Below.refl _ W0) 1) ?_
  simp only [List.take_succ_cons, List.take_zero, List.drop_succ_cons, List.drop_zero]
  have HCw := fun w' (h : Below W0.heap.size W0 w') => Lib.hid (high_calls A c l w' (Kd.C_below HC.out (HB.out.trans ((hb0.trans (h.mono hb0.size)).mono HB.out.size))) h1)
  have HNw := fun w' (h : Below W0.heap.size W0 w') => Lib.hid (colsN_calls A c l (allA l) (w1.heap.size + 1) w' ((blk_cell ((h.block _ (blk_lt hblk)).trans hblk) 0).trans rfl) (Kd.C_below HC.out (HB.out.trans ((hb0.trans (h.mono hb0.size)).mono HB.out.size))) hc (HG.out.of_below (HB.out.trans ((hb0.trans (h.mono hb0.size)).mono HB.out.size))))
  have HCH := Lib.hid HCw
  have HNH := Lib.hid HNw
  have hgl := blk_lt hblk
  have HBK := Aside0.mk hblk
  have HB0 := Aside0.mk hb0
  clear HCw HNw hblk hb0
  iterate 6
    refine wpQuiet_step (fun K hK => ?_)
    go_simp
    refine ⟨_, fun _ _ => rfl, hK _ ?_⟩
    clear hK K
  refine wpQuiet_step (fun K hK => ?_)
  go_simp
  refine ⟨.int .i64 (allA l), fun w' hw' => ?_, hK _ ?_⟩
  · go_at_call 94
    refine ((HCH.out w' hw').out).mono ?_
    rintro e w2 ⟨rfl, hb⟩
    exact ⟨rfl, hw'.trans (hb.mono hw'.size)⟩
  clear hK K
  refine wpQuiet_step (fun K hK => ?_)
  go_simp
  refine ⟨.int .i64 (numA l (allA l)), fun w' hw' => ?_, hK _ ?_⟩
  · go_at_call 93
    refine ((HNH.out w' hw').out).mono ?_
    rintro e w2 ⟨rfl, hb⟩
    exact ⟨rfl, hw'.trans (hb.mono hw'.size)⟩
  clear hK K
  iterate 3
    refine wpQuiet_step (fun K hK => ?_)
    go_simp
    refine ⟨_, fun _ _ => rfl, hK _ ?_⟩
    clear hK K
  refine wpQuiet_nil ?_
  intro w2 hw2
  have hbk2 := (hw2.block _ (blk_lt HBK.out)).trans HBK.out
  have c1 : w2.cell? ⟨w1.heap.size + 1, 1, none⟩ = some (.int .i64 0) := (blk_cell hbk2 1).trans rfl
  have f1 : w2.frozen? ⟨w1.heap.size + 1, 1, none⟩ = false := by simp [World.frozen?, hbk2]
  have hb2 := HB.out.trans ((HB0.out.trans (hw2.mono HB0.out.size)).mono HB.out.size)
  have fin : ∀ t : Int, t = targetA l n → ∃ b : Nat, (Search l (targetA l n) (w1.heap.size + 1) b (w2.setCell ⟨w1.heap.size + 1, 1, none⟩ (.int .i64 t)) ∧ (w2.setCell ⟨w1.heap.size + 1, 1, none⟩ (.int .i64 t)).cell? ⟨w1.heap.size + 1, 0, none⟩ = some (.slice A l.length c)) ∧ (w2.setCell ⟨w1.heap.size + 1, 1, none⟩ (.int .i64 t)).ownsMap Tryd.prog 2 (plainElem (H := Unit) Tryd.prog 3) b 0 (.map []) ∧ w.heap.size ≤ b ∧ b < w1.heap.size + 1 ∧ Below w.heap.size w (w2.setCell ⟨w1.heap.size + 1, 1, none⟩ (.int .i64 t)) := by
    rintro t rfl
    have hs := HB.out.size
    have hb3 : Below w.heap.size w (w2.setCell ⟨w1.heap.size + 1, 1, none⟩ (.int .i64 (targetA l n))) := hb2.setCell (p := ⟨w1.heap.size + 1, 1, none⟩) (by simp; omega) _
    have hlt : w1.heap.size + 1 < w2.heap.size := blk_lt hbk2
    have hblk3 : (w2.setCell ⟨w1.heap.size + 1, 1, none⟩ (.int .i64 (targetA l n))).heap[w1.heap.size + 1]? = some (.cells #[.slice A l.length c, .int .i64 (targetA l n), .map (some w1.heap.size)] 96 (0, 0)) := by
      have h0 := hbk2
      simp only [World.setCell, Array.getElem?_modify, if_true, h0, Option.map_some]
      rfl
    refine ⟨w1.heap.size, ⟨⟨⟨A, c, (blk_cell hblk3 0).trans rfl, hc, Kd.C_below HC.out hb3⟩, (blk_cell hblk3 1).trans rfl, (blk_cell hblk3 2).trans rfl⟩, (blk_cell hblk3 0).trans rfl⟩, ?_, hs, by omega, hb3⟩
    have hm2 : w2.ownsMap Tryd.prog 2 (plainElem (H := Unit) Tryd.prog 3) w1.heap.size 0 (.map []) := by
      obtain ⟨es, clock, hh, r⟩ := HM0.out
      exact ⟨es, clock, (hw2.block _ (by omega)).trans hh, r⟩
    obtain ⟨es, clock, hh, r⟩ := hm2
    exact ⟨es, clock, (Below.heap_setCell w2 ⟨w1.heap.size + 1, 1, none⟩ _ w1.heap.size (by simp)).trans hh, r⟩
  have HFIN := Lib.hid fin
  clear hbk2 hw2 fin hb2
  go_wp2
  all_goals
    refine bodyPost_ret (results_tmp2 rfl _ _ _) rfl ?_
    first
      | (obtain ⟨b, hfin⟩ := HFIN.out n (by unfold targetA; omega); exact ⟨_, rfl, b, hfin⟩)
      | (obtain ⟨b, hfin⟩ := HFIN.out (numA l (allA l)) (by unfold targetA; omega); exact ⟨_, rfl, b, hfin⟩)

theorem bopen_yes (A : Option Addr) (c : Nat) (l : List S32) (n : Int) (w : World) (hr : Kd.C k32 w A l.length l) (hc : l.length ≤ c) (hG : Gl 1 w) (hf : openA l n = true) :
    Calls Tryd.prog 68 #[.slice A l.length c, .int .i64 n] w fun e w' => ∃ g b : Nat, e = .returned (.tuple #[.pointer (some ⟨g, 0, none⟩), .nilIface]) ∧ Search l (targetA l n) g b w' ∧ w'.ownsMap Tryd.prog 2 (plainElem (H := Unit) Tryd.prog 3) b 0 (.map []) ∧ w.heap.size ≤ b ∧ b < g ∧ Below w.heap.size w w' :=
  (bopen_yes2 A c l n w hr hc hG hf).mono fun e w' ⟨g, b, h1, h2, h3⟩ => ⟨g, b, h1, h2.1, h3⟩

end Go.Proofs.YtjpifknencfipaaDoor.P

namespace Go.Proofs.YtjpifknencfipaaDoor.P
open Go.RowKit Go.Proofs.YtjpifknencfipaaDoorW.PrintWords Go.Proofs.YtjpifknencfipaaDoorW.PrintLast Go.Proofs.YtjpifknencfipaaDoorW.PrintMore

theorem sum_bound {l : List S32} (hl : rightA l = true) (hn : l.length ≤ 200) : ∀ i, i ≤ l.length → 0 ≤ ((l.take i).map (·.f2)).foldl (· + ·) 0 ∧ ((l.take i).map (·.f2)).foldl (· + ·) 0 ≤ (i : Int) * 1073741824
  | 0, _ => by simp
  | i + 1, hi => by
    have ih := sum_bound hl hn i (by omega)
    have hh := hh_of hl i (by omega)
    rw [List.take_succ_eq_append_getElem (by omega), List.map_append, List.foldl_append]
    have e : l[i].f2 = hhA l i := by simp [hhA, atA, List.getD_eq_getElem?_getD, List.getElem?_eq_getElem (show i < l.length by omega)]
    simp only [List.map_cons, List.map_nil, List.foldl_cons, List.foldl_nil, e]
    rw [Int.natCast_add, Int.natCast_one, Int.add_mul]
    omega
theorem sum_l0 {l : List S32} (hl : rightA l = true) (hn : l.length ≤ 200) (d : Nat) : ∀ (k i : Nat), i ≤ l.length → l.length - i = d → d < k →
    balance_sum.l0 k (((l.take i).map (·.f2)).foldl (· + ·) 0) (l.map (·.f2)) (l.length : Int) (i : Int) = some (sumA l) := by
  induction d with
  | zero =>
    intro k i h0 hd hk
    obtain ⟨k, rfl⟩ : ∃ m, k = m + 1 := ⟨k - 1, by omega⟩
    obtain rfl : i = l.length := by omega
    simp only [balance_sum.l0]
    rw [if_neg (by omega), List.take_length]
    rfl
  | succ d ih =>
    intro k i h0 hd hk
    obtain ⟨k, rfl⟩ : ∃ m, k = m + 1 := ⟨k - 1, by omega⟩
    have hlt : i < l.length := by omega
    have hb := sum_bound hl hn (i + 1) (by omega)
    have es : ((l.take (i + 1)).map (·.f2)).foldl (· + ·) 0 = ((l.take i).map (·.f2)).foldl (· + ·) 0 + l[i].f2 := by
      rw [List.take_succ_eq_append_getElem hlt, List.map_append, List.foldl_append]
      rfl
    have hi := ih k (i + 1) (by omega) (by omega) (by omega)
    simp only [balance_sum.l0, List.length_map]
    have e : rd (l.map (·.f2)) (i : Int) = l[i].f2 := by simp [rd, List.getD_eq_getElem?_getD, List.getElem?_eq_getElem hlt]
    rw [if_pos (by omega), if_pos (by omega), if_pos (by omega), e, ← es]
    have w1 : wrap64 (((l.take (i + 1)).map (·.f2)).foldl (· + ·) 0) = ((l.take (i + 1)).map (·.f2)).foldl (· + ·) 0 := by
      unfold wrap64
      omega
    rw [w1, wrap64_succ (n := l.length) (by omega) (by omega) (by omega), show ((i : Int) + 1) = ((i + 1 : Nat) : Int) by push_cast; rfl]
    exact hi
theorem sum_f {l : List S32} (hl : rightA l = true) (hn : l.length ≤ 200) : balance_sum.f (l.length + 1) (l.map (·.f2)) = some (sumA l) := by
  unfold balance_sum.f
  rw [List.length_map]
  have := sum_l0 hl hn l.length (l.length + 1) 0 (by omega) (by omega) (by omega)
  simpa using this

/-- The heights of the first i atoms. -/
def hhs (l : List S32) (i : Nat) : List Int := (l.take i).map (·.f2)
theorem hhs_zero (l : List S32) : hhs l 0 = [] := rfl
theorem hhs_len (l : List S32) (i : Nat) (hi : i ≤ l.length) : (hhs l i).length = i := by simp [hhs]; omega
theorem hhs_succ (l : List S32) (i : Nat) (hi : i < l.length) : hhs l (i + 1) = hhs l i ++ [hhA l i] := by
  unfold hhs
  rw [List.take_succ_eq_append_getElem hi, List.map_append]
  simp [hhA, atA, List.getD_eq_getElem?_getD, List.getElem?_eq_getElem hi]
theorem hhs_all (l : List S32) : hhs l l.length = l.map (·.f2) := by simp [hhs]

set_option maxHeartbeats 2000000 in
set_option maxRecDepth 100000 in
theorem all_calls (A : Option Addr) (c : Nat) (l : List S32) (g : Nat) (w : World) (hc0 : w.cell? ⟨g, 0, none⟩ = some (.slice A l.length c)) (hr : Kd.C k32 w A l.length l) (hl : rightA l = true) (hn : l.length ≤ 200) :
    Calls Tryd.prog 98 #[.pointer (some ⟨g, 0, none⟩)] w fun e w' => e = .returned (.int .i64 (sumA l)) ∧ Below w.heap.size w w' := by
  have HC := Aside0.mk hr
  clear hr
  go_enter Tryd.func98, Tryd.ntmps98
  go_wp2
  go_loopw [3, 11] (fun v p wr => ∃ i : Nat, p = .int .i64 i ∧ i ≤ l.length ∧ Aside0 (Kd.R (Kd.int .i64) 2 wr w.heap.size (fun _ => True) v (hhs l i)) ∧ Aside0 (Below w.heap.size w wr)) (fun _ p _ => l.length - (intOf p).toNat)
  case atStart => exact ⟨0, rfl, Nat.zero_le _, ⟨Kd.R_nil _ _ _ _ _⟩, ⟨Below.refl _ _⟩⟩
  case round =>
    obtain ⟨i, rfl, hi, HO, HB⟩ := hrel
    by_cases hlt : i < l.length
    · obtain ⟨ad, rfl, x0, x1, x2, x3, x4⟩ := atom_cells (Kd.C_below HC.out HB.out) i hlt
      obtain ⟨H, hH⟩ : ∃ H, hhA l i = H := ⟨_, rfl⟩
      rw [hH] at x2
      have HS : Hid (hhs l (i + 1) = hhs l i ++ [H]) := Lib.hid (by rw [hhs_succ l i hlt, hH])
      have HL := Lib.hid (hhs_len l i hi)
      have hm2 : ((hhs l i).length + 1) * 8 ≤ 140737488355328 := by rw [HL.out]; omega
      have hm3 : ∀ o, w.heap.size ≤ (wr.alloc o).heap.size := fun o => by have := HB.out.size; simp; omega
      have HB1 := fun o => Lib.hid (below_alloc HB.out o)
      have HO1 := fun o => Lib.hid (Kd.R_alloc HO.out o)
      clear hH HO
      go_wp2_with (first
        | (at_builtin; refine Kd.R_append (w0 := w) (Kd.int .i64) w.heap.size rfl _ _ 38 2 (.int .i64 0) 8 rfl Tryd.underlying38 info2 rfl (by decide) (by decide) u3 (hhs l i) H [.int .i64 H] (fun _ => True) (fun _ => False) rfl (by first | (go_simp; done) | (go_simp; rfl)) rfl (fun _ hk => hk.elim) (fun _ _ => trivial) (HO1 _).out (HB1 _).out (hm3 _) hm2 ?_; intro v1 w1 HO2 HB2 _ _; have HO3 := Aside0.mk HO2; have HB3 := Aside0.mk HB2; clear HO2 HB2)
        | go_in)
      go_roundw
      case rel => exact ⟨i + 1, by go_num, by omega, ⟨by rw [HS.out]; exact HO3.out⟩, HB3⟩
      case measure => simp [intOf]; omega
    · have HE := Lib.hid (show i = l.length by omega)
      obtain ⟨A1, c1, rfl, hc1, hC1⟩ := Kd.R_reads HO.out
      have hsum := balance_sum.calls (l.length + 1) A1 c1 (hhs l i) (sumA l) wr hC1 hc1 (by rw [HE.out, hhs_all]; exact sum_f hl hn)
      have HK := Lib.hid hsum
      clear hC1 hsum HO
      go_wp2_with (go_at_call 111; refine HK.out.mono ?_; rintro e w1 ⟨rfl, hd⟩; have HD := Aside0.mk hd; clear hd)
      go_ret
      exact ⟨rfl, HB.out.trans (HD.out.below.mono HB.out.size)⟩

end Go.Proofs.YtjpifknencfipaaDoor.P

namespace Go.Proofs.YtjpifknencfipaaDoor.P
open Go.RowKit Go.Maps Go.Proofs.YtjpifknencfipaaDoorW.PrintWords Go.Proofs.YtjpifknencfipaaDoorW.PrintLast Go.Proofs.YtjpifknencfipaaDoorW.PrintMore

set_option maxRecDepth 100000 in
theorem zero3 (w : World) : (zeroValue 3).run Tryd.prog w = .ok (.int .i64 0) w := by kernel_rfl
theorem law2' : Keyed Tryd.prog 2 := int_keyed Tryd.underlying2

theorem num_le (l : List S32) (h : Int) : 0 ≤ numA l h ∧ numA l h ≤ l.length := by
  have : (fillA l h).length ≤ l.length := cols_len l h l.length 0
  unfold numA
  split
  · omega
  · omega
theorem num_wf {l : List S32} (hl : rightA l = true) (h : Int) : (Lit.int .i64 (numA l h)).wf = true := by
  have := num_le l h
  have := len_of hl
  exact WalkArith.wf_i64 (by omega)

/-- What a search knows is right. -/
def MemoD (l : List S32) (D : DataW Unit) : Prop := Maps.IsMap D ∧ ∀ h : Int, Maps.has D (.int .i64 h) = true → ∀ z, D.atKey (.int .i64 h) z = .lit (.int .i64 (numA l h))
theorem MemoD.start (l : List S32) : MemoD l (.map []) := ⟨⟨_, rfl⟩, fun h hh => by simp [Maps.has] at hh⟩
theorem MemoD.put {l : List S32} {D : DataW Unit} (H : MemoD l D) (h : Int) : MemoD l (D.put (.int .i64 h) (.lit (.int .i64 (numA l h)))) := by
  obtain ⟨h1, h2⟩ := H
  refine ⟨h1.put _ _, fun x hx z => ?_⟩
  by_cases e : x = h
  · subst e
    exact Maps.atKey_put_same h1 (by trivial) _ _
  · have hne : (Lit.int .i64 x) ≠ Lit.int .i64 h := fun q => e (by cases q; rfl)
    rw [Maps.has_put_other hne] at hx
    rw [Maps.atKey_put_other hne]
    exact h2 x hx z
theorem memo_le {b m : Nat} {w : World} {D : DataW Unit} (h : w.ownsMap Tryd.prog 2 (plainElem (H := Unit) Tryd.prog 3) b m D) : w.ownsMap Tryd.prog 2 (plainElem (H := Unit) Tryd.prog 3) b (m + 1) D := by
  obtain ⟨es, clock, h1, h2, h3, h4⟩ := h
  exact ⟨es, clock, h1, h2, Nat.le_succ_of_le h3, h4⟩
def Memo (l : List S32) (b m : Nat) (w : World) : Prop := ∃ D, w.ownsMap Tryd.prog 2 (plainElem (H := Unit) Tryd.prog 3) b m D ∧ MemoD l D

theorem gb_set {w w2 : World} {row : Option Nat} (h : w.grownBy w2 row) {p : Addr} (hp : w.heap.size ≤ p.block) (v : Value) : w.grownBy (w2.setCell p v) row :=
  ⟨h.os, h.tape, h.output, by simpa using h.size, fun k hk hne => (Below.heap_setCell w2 p v k (by omega)).trans (h.block k hk hne)⟩
theorem memo_set {l : List S32} {b m : Nat} {w : World} (h : Memo l b m w) {p : Addr} (hp : b ≠ p.block) (v : Value) : Memo l b m (w.setCell p v) := by
  obtain ⟨D, ⟨es, clock, h1, h2⟩, h3⟩ := h
  exact ⟨D, ⟨es, clock, (Below.heap_setCell w p v b hp).trans h1, h2⟩, h3⟩

/-- .. and knows h. -/
def MemoK (l : List S32) (b m : Nat) (h : Int) (w : World) : Prop := ∃ D, w.ownsMap Tryd.prog 2 (plainElem (H := Unit) Tryd.prog 3) b m D ∧ MemoD l D ∧ Maps.has D (.int .i64 h) = true
theorem MemoK.memo {l : List S32} {b m : Nat} {h : Int} {w : World} (H : MemoK l b m h w) : Memo l b m w := by
  obtain ⟨D, h1, h2, _⟩ := H
  exact ⟨D, h1, h2⟩
theorem memok_set {l : List S32} {b m : Nat} {h : Int} {w : World} (H : MemoK l b m h w) {p : Addr} (hp : b ≠ p.block) (v : Value) : MemoK l b m h (w.setCell p v) := by
  obtain ⟨D, ⟨es, clock, h1, h2⟩, h3⟩ := H
  exact ⟨D, ⟨es, clock, (Below.heap_setCell w p v b hp).trans h1, h2⟩, h3⟩

set_option maxHeartbeats 2000000 in
set_option maxRecDepth 100000 in
theorem at_known (l : List S32) (hl : rightA l = true) (t : Int) (g b m : Nat) (h : Int) (w : World) (hS : Search l t g b w) (hM : MemoK l b m h w) (hwf : -9223372036854775808 ≤ h ∧ h ≤ 9223372036854775807) :
    Calls Tryd.prog 69 #[.pointer (some ⟨g, 0, none⟩), .int .i64 h] w fun e w' => e = .returned (.agg #[.int .i64 h, .int .i64 (numA l h)]) ∧ MemoK l b m h w' ∧ Below w.heap.size w w' := by
  obtain ⟨⟨A, c, hc0, hcl, hC⟩, _, hmap⟩ := hS
  obtain ⟨D, hown, hD, hh⟩ := hM
  have HO := Aside0.mk hown
  have hkey : keyOf Tryd.prog 2 (.int .i64 h) = some (.int .i64 h) := keyOf_int_mk Tryd.underlying2 (WalkArith.wf_i64 hwf)
  have HK := Lib.hid hkey
  have hgl : g < w.heap.size := World.block_lt_of_cell? w _ hc0
  have HAT := Lib.hid (hD.2 h hh)
  have HD := Lib.hid hD
  have HH := Lib.hid hh
  clear hC hown hwf hkey hh hD
  go_enter Tryd.func69, Tryd.ntmps69
  go_wp2_with (first
    | (at_lookup; refine wpList_lookup_own_ok_int _ rfl _ _ 94 rfl 2 3 .i64 law2' Tryd.underlying94 Tryd.underlying3 (zero3 _) b m D rfl (HO.out.alloc _) _ _ rfl HK.out ?_; rintro c hat -; rw [HH.out]; rw [HAT.out] at hat; cases hat)
    | go_in)
  refine bodyPost_ret (v := .agg #[.int .i64 h, .int .i64 (numA l h)]) (by simp [results, Tryd.results69, go_sem]) rfl ⟨rfl, ⟨D, HO.out.alloc _, HD.out, HH.out⟩, below_alloc (Below.refl _ w) _⟩

set_option maxHeartbeats 2000000 in
set_option maxRecDepth 100000 in
theorem at_new (l : List S32) (hl : rightA l = true) (t : Int) (g b m : Nat) (h : Int) (w : World) (hS : Search l t g b w) (D : DataW Unit) (hown : w.ownsMap Tryd.prog 2 (plainElem (H := Unit) Tryd.prog 3) b m D) (hD : MemoD l D) (hh : Maps.has D (.int .i64 h) = false) (hm : m < maxLen) (hG : Gl 1 w) (hwf : -9223372036854775808 ≤ h ∧ h ≤ 9223372036854775807) :
    Calls Tryd.prog 69 #[.pointer (some ⟨g, 0, none⟩), .int .i64 h] w fun e w' => e = .returned (.agg #[.int .i64 h, .int .i64 (numA l h)]) ∧ MemoK l b (m + 1) h w' ∧ w.grownBy w' (some b) := by
  obtain ⟨⟨A, c, hc0, hcl, hC⟩, _, hmap⟩ := hS
  have HC := Aside0.mk hC
  have HG := Aside0.mk hG
  have HO := Aside0.mk hown
  have hkey : keyOf Tryd.prog 2 (.int .i64 h) = some (.int .i64 h) := keyOf_int_mk Tryd.underlying2 (WalkArith.wf_i64 hwf)
  have HK := Lib.hid hkey
  have hgl : g < w.heap.size := World.block_lt_of_cell? w _ hc0
  have hnr := num_wf hl h
  have hbl : b < w.heap.size := by
    obtain ⟨es, clock, hh, _⟩ := hown
    exact (Array.getElem?_eq_some_iff.1 hh).1
  have HN := Lib.hid hnr
  have HD := Lib.hid hD
  have HH := Lib.hid hh
  have hcol : ∀ o, Hid (Calls Tryd.prog 93 #[.pointer (some ⟨g, 0, none⟩), .int .i64 h] (w.alloc o) fun e w' => e = .returned (.int .i64 (numA l h)) ∧ Below (w.alloc o).heap.size (w.alloc o) w') := fun o =>
    Lib.hid (colsN_calls A c l h g (w.alloc o) (((below_alloc (Below.refl _ w) o).cell (p := ⟨g, 0, none⟩) hgl).trans hc0) (Kd.C_below HC.out (below_alloc (Below.refl _ w) o)) hcl (HG.out.of_below (below_alloc (Below.refl _ w) o)))
  clear hC hG hown hwf hkey hnr hh hD
  go_enter Tryd.func69, Tryd.ntmps69
  go_wp2_with (first
    | (at_lookup; refine wpList_lookup_own_ok_int _ rfl _ _ 94 rfl 2 3 .i64 law2' Tryd.underlying94 Tryd.underlying3 (zero3 _) b m D rfl (HO.out.alloc _) _ _ rfl HK.out ?_; rintro c - -; rw [HH.out])
    | (go_at_call 93; refine (hcol _).out.mono ?_; rintro e w1 ⟨rfl, hb⟩; have HB := Aside0.mk hb; have HO1 := Aside0.mk (HO.out.kept (grown_of_below ((below_alloc (Below.refl _ w) (.cells #[.int .i64 0, .int .i64 0] 87)).trans (hb.mono (by simp))) none) (by simp)); have hblk1 := (hb.block w.heap.size (by simp)).trans (World.alloc_heap_new w (.cells #[.int .i64 0, .int .i64 0] 87)); have cm1 := (hb.cell (p := ⟨g, 2, none⟩) (by simp; omega)).trans (((below_alloc (Below.refl _ w) _).cell (p := ⟨g, 2, none⟩) hgl).trans hmap); clear hb)
    | (at_mapUpdate; refine wpList_mapUpdate_own _ rfl _ _ _ 94 rfl 2 3 law2' Tryd.underlying94 (plainElem (H := Unit) Tryd.prog 3) b m D rfl HO1.out hm _ _ _ rfl rfl HK.out _ [] (plainElem_int Tryd.underlying3 HN.out) ?_; intro w2 hown2 hgrow2; have HO2 := Aside0.mk hown2; have HG2 := Aside0.mk hgrow2; have hblk2 := (hgrow2.block w.heap.size (by have := HB.out.size; simp at this; omega) (by simp; omega)).trans hblk1; have r0 := (blk_cell hblk2 0).trans rfl; have r1 := (blk_cell hblk2 1).trans rfl; have rf := blk_frozen hblk2; clear hown2 hgrow2)
    | go_in)
  have hg1 : w.grownBy w1 (some b) := grown_of_below ((below_alloc (Below.refl _ w) _).trans (HB.out.mono (by simp))) _
  refine bodyPost_ret (v := .agg #[.int .i64 h, .int .i64 (numA l h)]) (by simp [results, Tryd.results69, go_sem, r0, r1]) rfl ⟨rfl, memok_set (memok_set ⟨_, HO2.out, HD.out.put h, Maps.has_put_same HD.out.1 (by trivial) _⟩ (by simp; omega) _) (by simp; omega) _, gb_set (gb_set (hg1.trans HG2.out) (by simp) _) (by simp) _⟩

theorem at_calls (l : List S32) (hl : rightA l = true) (t : Int) (g b m : Nat) (h : Int) (w : World) (hS : Search l t g b w) (hM : Memo l b m w) (hm : m < maxLen) (hG : Gl 1 w) (hwf : -9223372036854775808 ≤ h ∧ h ≤ 9223372036854775807) :
    Calls Tryd.prog 69 #[.pointer (some ⟨g, 0, none⟩), .int .i64 h] w fun e w' => e = .returned (.agg #[.int .i64 h, .int .i64 (numA l h)]) ∧ MemoK l b (m + 1) h w' ∧ w.grownBy w' (some b) := by
  obtain ⟨D, hown, hD⟩ := hM
  cases hh : Maps.has D (.int .i64 h) with
  | true => exact (at_known l hl t g b (m + 1) h w hS ⟨D, memo_le hown, hD, hh⟩ hwf).mono fun e w' ⟨h1, h2, h3⟩ => ⟨h1, h2, grown_of_below h3 _⟩
  | false => exact at_new l hl t g b m h w hS D hown hD hh hm hG hwf

end Go.Proofs.YtjpifknencfipaaDoor.P

namespace Go.Proofs.YtjpifknencfipaaDoor.P
open Go.RowKit

/-- What is said abides new blocks, a turn of block b, and a turn of a block that is no cells from B on. -/
def AbideM {β : Type} (b B : Nat) (I : β → World → Prop) : Prop :=
  ∀ s W W' row, I s W → W.grownBy W' row → (∀ r, row = some r → r = b ∨ (B ≤ r ∧ ∃ o : Obj, W.heap[r]? = some o ∧ o.isCells = false)) → I s W'
theorem AbideM.putObj {β : Type} {b B : Nat} {I : β → World → Prop} (h : AbideM b B I) {s : β} {W : World} {l : Nat} {o : Obj} (o' : Obj) (hs : I s W) (hB : B ≤ l) (hl : W.heap[l]? = some o) (ho : o.isCells = false) : I s (W.putObj l o') :=
  h s W _ (some l) hs (grownBy_putObj' W l o') (fun r e => by cases e; exact .inr ⟨hB, o, hl, ho⟩)
theorem AbideM.alloc {β : Type} {b B : Nat} {I : β → World → Prop} (h : AbideM b B I) {s : β} {W : World} (o : Obj) (hs : I s W) : I s (W.alloc o) :=
  h s W _ none hs (World.grownBy_alloc W o none) (fun r e => by cases e)

/-- The contract of an iterator that writes block b. -/
def SeqM {α : Type} (F : Fence) (n : Nat) (P : Program) (g : Nat) (lb : Array Value) (encs : α → Array Value) (Kp : World → World → Prop) (S Sp : List α → Prop) (R : World → Prop) (N b : Nat) (w : World) : Prop :=
  ∀ (l : Nat) (J Jx : List α → World → Prop) (W : World), Below w.heap.size w W →
    (∀ s A B row, J s A → A.grownBy B row → (∀ r, row = some r → r = b) → J s B) →
    (∀ s A B row, Jx s A → A.grownBy B row → (∀ r, row = some r → r = b) → Jx s B) →
    (∀ pre x W1, J pre W1 → pre.length < N → YieldAt F (n - 1) P l (encs x) W1 fun e W' =>
      (e = .returned (.bool true) ∧ J (pre ++ [x]) W' ∧ Kp W1 W') ∨ (e = .returned (.bool false) ∧ Jx (pre ++ [x]) W')) →
    J [] W →
    CallsIn F n P g (#[.func (.yield l) #[] #[]] ++ lb) W fun e W' => (∃ v, e = .returned v) ∧ ((∃ xs, S xs ∧ R W' ∧ J xs W') ∨ (∃ pre, Sp pre ∧ Jx pre W'))

variable {F : Fence} {n : Nat} {P : Program}

theorem wpIn_rangeFunc_map {α : Type} {g : Operand} {ps : Array Tmp} {assign body : Code} {Q : Exit → Act → World → Prop} {a : Act} {w : World}
    (hro : F.round = none) (h1 : 1 ≤ n) {gf : Nat} {lb : Array Value} (hg : a.eval g = .func (.func gf) #[] lb) (hFg : F.fn gf) (eg : ∀ args w, (callFunc gf args).run P w = .ok (.enter gf args) w)
    {encs : α → Array Value} {Kp : World → World → Prop} {S Sp : List α → Prop} {R : World → Prop} {N b : Nat} (hbw : b < w.heap.size) (hseq : SeqM F (n - 1) P gf lb encs Kp S Sp R N b w) (hR : ∀ W l o, w.heap.size ≤ l → R W → R (W.putObj l o))
    (hKt : ∀ {A B C : World}, Kp A B → Kp B C → Kp A C) (hKb : ∀ (W : World) (l : Nat) (o o' : Obj), w.heap.size ≤ l → W.heap[l]? = some o → o.isCells = false → o.isWalk = false → Kp W (W.putObj l o')) (hps : ∀ x, (encs x).size = ps.size)
    (I : List α → World → Prop) (Ix : Code → List α → World → Prop) (hI : AbideM b w.heap.size I) (hIx : ∀ c, AbideM b w.heap.size (Ix c)) (h0 : I [] w) (Ax : α → Act → World → Prop) (hAx : ∀ x a', OwnFrom w.heap.size (fun (_ : Unit) W => Ax x a' W))
    (hassign : ∀ (l : Nat) (pre : List α) (x : α) (W : World) (K : Act → World → Prop), I pre W → (∀ a' W', KeepsFrom w.heap.size W W' → Kp W W' → I pre W' → Ax x a' W' → K a' W') →
      assign.wpIn (F.inRound l) (n - 1 - 1) P (Exit.then K (fun _ _ _ => False)) { tmps := (ps.zip (encs x)).foldl (fun t (p, v) => t.setIfInBounds p v) a.tmps, defers := [] } W)
    (hbody : ∀ (l : Nat) (pre : List α) (x : α) (a' : Act) (W : World), w.heap.size ≤ l → (∃ r, W.heap[l]? = some (.loop r)) → I pre W → Ax x a' W → pre.length < N → body.wpIn (F.inRound l) (n - 1 - 1) P (ownPostG w.heap.size Kp I Ix (pre ++ [x]) W) a' W)
    (hdone : ∀ (D : Nat) (xs : List α) (W : World), w.heap.size ≤ D → S xs → R W → I xs W → W.heap[D]? = some (.deferred (some [])) → Q .normal { a with defers := { target := .collected D, args := #[] } :: a.defers } W)
    (hstop : ∀ (D : Nat) (c : Code) (pre : List α) (W : World), w.heap.size ≤ D → Sp pre → Ix c pre W → W.heap[D]? = some (.deferred (some [])) → c.wpIn F n P Q { a with defers := { target := .collected D, args := #[] } :: a.defers } W) :
    (Code.rangeFunc g ps assign body).wpIn F n P Q a w := by
  refine wpIn_rangeFunc ?_
  intro fn hfn
  rw [hro]
  obtain ⟨rec, hrec⟩ : ∃ rec : LoopState → Option Code → Loop, rec = fun st pe => { state := st, pending := pe, fn, tmps := a.tmps, params := ps, assign, body, defers := w.heap.size } := ⟨_, rfl⟩
  obtain ⟨W1, hW1⟩ : ∃ W1, (w.alloc (.deferred (some []))).alloc (.loop (rec .ready none)) = W1 := ⟨_, rfl⟩
  have hL1 : W1.heap[w.heap.size + 1]? = some (.loop (rec .ready none)) := by
    rw [← hW1]; have := World.alloc_heap_new (w.alloc (.deferred (some []))) (.loop (rec .ready none)); rwa [World.size_alloc] at this
  have hK1 : W1.heap[w.heap.size]? = some (.deferred (some [])) := by
    rw [← hW1]; exact (Below.heap_alloc _ _ _ (by simp)).trans (World.alloc_heap_new w _)
  have hI1 : I [] W1 := by rw [← hW1]; exact hI.alloc _ (hI.alloc _ h0)
  have hb1 : Below w.heap.size w W1 := by
    rw [← hW1]; exact ((Below.refl _ w).alloc (Nat.le_refl _) _).alloc (by simp) _
  have far : ∀ (A B : World) (row : Option Nat) (k : Nat) (o : Obj), w.heap.size ≤ k → A.grownBy B row → (∀ r, row = some r → r = b) → A.heap[k]? = some o → B.heap[k]? = some o := fun A B row k o hk hg' hr ho =>
    (hg'.block k (Array.getElem?_eq_some_iff.1 ho).1 (fun e => by have := hr k e.symm; omega)).trans ho
  refine ⟨w.heap.size + 1, [{ target := .collected w.heap.size, args := #[] }], W1, { target := .fn (.func gf) lb, args := #[.func (.yield (w.heap.size + 1)) #[] #[]] }, W1, gf,
    #[.func (.yield (w.heap.size + 1)) #[] #[]] ++ lb, W1, ?_, ?_, ?_, ?_, fun _ => h1, ?_⟩
  · rw [← hW1, hrec]; exact run_enterLoop_outer _ _ _ _ _
  · simp only [resolve, hg]
    simp [go_sem]
  · intro f' hf'; simp [Target.leads] at hf'; subst hf'; exact hFg
  · simp [invoke, go_sem, eg]
  · refine (hseq (w.heap.size + 1)
      (fun pre W => I pre W ∧ W.heap[w.heap.size + 1]? = some (.loop (rec .ready none)) ∧ W.heap[w.heap.size]? = some (.deferred (some [])))
      (fun pre W => ∃ c, Ix c pre W ∧ W.heap[w.heap.size + 1]? = some (.loop (rec .done (some c))) ∧ W.heap[w.heap.size]? = some (.deferred (some [])))
      W1 hb1
      (fun s A B row hs hg' hr => ⟨hI s A B row hs.1 hg' (fun r e => .inl (hr r e)), far A B row _ _ (by omega) hg' hr hs.2.1, far A B row _ _ (by omega) hg' hr hs.2.2⟩)
      (fun s A B row hs hg' hr => by
        obtain ⟨c, hc, hl, hk⟩ := hs
        exact ⟨c, hIx c s A B row hc hg' (fun r e => .inl (hr r e)), far A B row _ _ (by omega) hg' hr hl, far A B row _ _ (by omega) hg' hr hk⟩)
      ?_ ⟨hI1, hL1, hK1⟩).mono ?_
    · rintro pre x W ⟨hi, hl, hk⟩ hlen
      have hlt : w.heap.size + 1 < W.heap.size := (Array.getElem?_eq_some_iff.1 hl).1
      have hy := run_yield (P := P) (args := encs x) hl (by rw [hrec]; exact hps x)
      rw [hrec] at hy
      refine ⟨fn, _, assign, body, hy, roundIn_of_wpIn hfn (hassign _ pre x W _ hi ?_)⟩
      clear hy
      intro a' Wa hkfa hkpa hia hax
      replace hl := hkfa.same _ _ (by omega) hl rfl
      replace hk := hkfa.same _ _ (Nat.le_refl _) hk rfl
      replace hlt : w.heap.size + 1 < Wa.heap.size := (Array.getElem?_eq_some_iff.1 hl).1
      refine ⟨_, run_beginRound hl (by rw [hrec]), ?_⟩
      have hl2 : (Wa.putObj (w.heap.size + 1) (.loop { rec .ready none with state := .busy })).heap[w.heap.size + 1]? = some (.loop { rec .ready none with state := .busy }) := World.putObj_heap_same hlt
      have hk2 : (Wa.putObj (w.heap.size + 1) (.loop { rec .ready none with state := .busy })).heap[w.heap.size]? = some (.deferred (some [])) := (World.putObj_heap_other (by omega)).trans hk
      have hw2 : Kp Wa (Wa.putObj (w.heap.size + 1) (.loop { rec .ready none with state := .busy })) := hKb _ _ _ _ (by omega) hl rfl rfl
      refine wpIn_mono (hbody _ pre x a' _ (by omega) ⟨_, hl2⟩ (hI.putObj _ hia (by omega) hl rfl) ((hAx x a').putObj (s := ()) _ hax (by omega) hl rfl) hlen) ?_
      have fin : ∀ (jump : Option Code) (W3 : World), KeepsFrom w.heap.size (Wa.putObj (w.heap.size + 1) (.loop { rec .ready none with state := .busy })) W3 →
          (Instr.endRound (w.heap.size + 1) jump).run P W3 = .ok (.bool jump.isNone) (W3.putObj (w.heap.size + 1) (.loop (rec (if jump.isNone then .ready else .done) jump))) ∧
          W3.heap[w.heap.size + 1]? = some (.loop { rec .ready none with state := .busy }) ∧
          (W3.putObj (w.heap.size + 1) (.loop (rec (if jump.isNone then .ready else .done) jump))).heap[w.heap.size + 1]? = some (.loop (rec (if jump.isNone then .ready else .done) jump)) ∧
          (W3.putObj (w.heap.size + 1) (.loop (rec (if jump.isNone then .ready else .done) jump))).heap[w.heap.size]? = some (.deferred (some [])) := fun jump W3 hk3 => by
        have hl3 := hk3.same _ _ (by omega) hl2 rfl
        have := run_endRound (P := P) jump hl3
        rw [hrec] at this ⊢
        exact ⟨this, by rw [hrec] at hl3; exact hl3, World.putObj_heap_same (Array.getElem?_eq_some_iff.1 hl3).1, (World.putObj_heap_other (by omega)).trans (hk3.same _ _ (Nat.le_refl _) hk2 rfl)⟩
      rintro e a3 W3 hp
      cases e with
      | normal =>
        obtain ⟨hk3, hkp3, hi3⟩ := hp
        obtain ⟨hr, hl3, hl4, hk4⟩ := fin none W3 hk3
        exact ⟨_, _, hr, .inl ⟨rfl, ⟨hI.putObj _ hi3 (by omega) hl3 rfl, hl4, hk4⟩, hKt hkpa (hKt (hKt hw2 hkp3) (hKb _ _ _ _ (by omega) hl3 rfl rfl))⟩⟩
      | ret =>
        obtain ⟨hk3, hi3⟩ := hp
        obtain ⟨hr, hl3, hl4, hk4⟩ := fin (some .ret) W3 hk3
        exact ⟨_, _, hr, .inr ⟨rfl, .ret, (hIx _).putObj _ hi3 (by omega) hl3 rfl, hl4, hk4⟩⟩
      | exit id =>
        obtain ⟨hk3, hi3⟩ := hp
        obtain ⟨hr, hl3, hl4, hk4⟩ := fin (some (.exit id)) W3 hk3
        exact ⟨_, _, hr, .inr ⟨rfl, .exit id, (hIx _).putObj _ hi3 (by omega) hl3 rfl, hl4, hk4⟩⟩
      | goto t =>
        obtain ⟨hk3, hi3⟩ := hp
        obtain ⟨hr, hl3, hl4, hk4⟩ := fin (some (.goto t)) W3 hk3
        exact ⟨_, _, hr, .inr ⟨rfl, .goto t, (hIx _).putObj _ hi3 (by omega) hl3 rfl, hl4, hk4⟩⟩
      | panic ch => exact hp.elim
      | outgrown => exact hp.elim
    · rintro e W2 ⟨⟨v, rfl⟩, (⟨xs, hS, hRW, hi, hl, hk⟩ | ⟨pre, hSp, c, hi, hl, hk⟩)⟩
      · exact ⟨none, _, by have := run_endLoop (P := P) hl (by rw [hrec]; simp); rw [hrec] at this; exact this, hdone _ xs _ (Nat.le_refl _) hS (hR _ _ _ (by omega) hRW) (hI.putObj _ hi (by omega) hl rfl) ((World.putObj_heap_other (by omega)).trans hk)⟩
      · exact ⟨some c, _, by have := run_endLoop (P := P) hl (by rw [hrec]; simp); rw [hrec] at this; exact this, hstop _ c pre _ (Nat.le_refl _) hSp ((hIx c).putObj _ hi (by omega) hl rfl) ((World.putObj_heap_other (by omega)).trans hk)⟩

end Go.Proofs.YtjpifknencfipaaDoor.P

namespace Go.Proofs.YtjpifknencfipaaDoor.P
open Go.RowKit Go.Proofs.YtjpifknencfipaaDoorW.PrintWords Go.Proofs.YtjpifknencfipaaDoorW.PrintLast Go.Proofs.YtjpifknencfipaaDoorW.PrintMore

set_option maxHeartbeats 2000000 in
set_option maxRecDepth 100000 in
/-- (*search).begin. -/
theorem begin_calls (l : List S32) (hl : rightA l = true) (hn : l.length ≤ 200) (t : Int) (ht : 1 ≤ t ∧ t ≤ 200) (g b : Nat) (w : World) (hS : Search l t g b w) (htall : ∃ k, fill_Tallest.f k l = some (tallA l)) :
    Calls Tryd.prog 73 #[.pointer (some ⟨g, 0, none⟩)] w fun e w' => e = .returned (.int .i64 (max (tallA l) ((sumA l + t - 1) / t))) ∧ Below w.heap.size w w' := by
  obtain ⟨⟨A, c, hc0, hcl, hC⟩, hc1, _⟩ := hS
  obtain ⟨kt, hkt⟩ := htall
  have HC := Aside0.mk hC
  have hgl : g < w.heap.size := World.block_lt_of_cell? w _ hc0
  have hb0 : ∀ w', Below w.heap.size w w' → w'.cell? ⟨g, 0, none⟩ = some (.slice A l.length c) := fun w' h => (h.cell (p := ⟨g, 0, none⟩) hgl).trans hc0
  have HT := fun w' (h : Below w.heap.size w w') => Lib.hid (fill_Tallest.calls kt A c l (tallA l) w' (Kd.C_below HC.out h) hcl hkt)
  have HA := fun w' (h : Below w.heap.size w w') => Lib.hid (all_calls A c l g w' (hb0 w' h) (Kd.C_below HC.out h) hl hn)
  have HTT := Lib.hid HT
  have HAA := Lib.hid HA
  have HB0 := Lib.hid hb0
  have hs1 : 0 ≤ sumA l ∧ sumA l ≤ 214748364800 := by
    have := sum_bound hl hn l.length (Nat.le_refl _)
    rw [List.take_length] at this
    unfold sumA
    omega
  obtain ⟨s, hs⟩ : ∃ s, sumA l = s := ⟨_, rfl⟩
  obtain ⟨m, hm⟩ : ∃ m, tallA l = m := ⟨_, rfl⟩
  rw [hs] at hs1 HAA ⊢
  rw [hm] at HTT ⊢
  clear HT HA hC hb0 hs hm hkt
  go_enter Tryd.func73, Tryd.ntmps73
  go_wp2
  refine wp_region_quiet_tail (fun w' => Below w.heap.size w w') 16 (by kernel_rfl) (by kernel_rfl) (pw_below_drewN (Below.refl _ w) 1) ?_
  simp only [List.take_succ_cons, List.take_zero, List.drop_succ_cons, List.drop_zero]
  iterate 4
    refine wpQuiet_step (fun K hK => ?_)
    go_simp
    refine ⟨_, fun _ _ => rfl, hK _ ?_⟩
    clear hK K
  refine wpQuiet_step (fun K hK => ?_)
  go_simp
  refine ⟨.slice A l.length c, fun w' hw' => by simp [HB0.out w' hw', Result.andThen], hK _ ?_⟩
  clear hK K
  refine wpQuiet_step (fun K hK => ?_)
  go_simp
  refine ⟨.int .i64 m, fun w' hw' => ?_, hK _ ?_⟩
  · go_at_call 66
    refine ((HTT.out w' hw').out).mono ?_
    rintro e w2 ⟨rfl, hb⟩
    exact ⟨rfl, hw'.trans (hb.mono hw'.size)⟩
  clear hK K
  iterate 3
    refine wpQuiet_step (fun K hK => ?_)
    go_simp
    refine ⟨_, fun _ _ => rfl, hK _ ?_⟩
    clear hK K
  refine wpQuiet_step (fun K hK => ?_)
  go_simp
  refine ⟨.int .i64 s, fun w' hw' => ?_, hK _ ?_⟩
  · go_at_call 98
    refine ((HAA.out w' hw').out).mono ?_
    rintro e w2 ⟨rfl, hb⟩
    exact ⟨rfl, hw'.trans (hb.mono hw'.size)⟩
  clear hK K
  refine wpQuiet_step (fun K hK => ?_)
  go_simp
  refine ⟨_, fun _ _ => rfl, hK _ ?_⟩
  clear hK K
  have e1 : IntKind.i64.wrap (s + t) = s + t := by rw [IntKind.wrap_i64]; omega
  have e2 : IntKind.i64.wrap (s + t - 1) = s + t - 1 := by rw [IntKind.wrap_i64]; omega
  refine wpQuiet_step (fun K hK => ?_)
  go_simp
  refine ⟨.int .i64 (s + t), fun _ _ => rfl, hK _ ?_⟩
  clear hK K
  refine wpQuiet_step (fun K hK => ?_)
  go_simp
  refine ⟨.int .i64 (s + t - 1), fun _ _ => rfl, hK _ ?_⟩
  clear hK K
  refine wpQuiet_step (fun K hK => ?_)
  go_simp
  refine ⟨_, fun _ _ => rfl, hK _ ?_⟩
  clear hK K
  refine wpQuiet_step (fun K hK => ?_)
  go_simp
  have ht0 : ¬ t = 0 := by omega
  have e3 : IntKind.i64.wrap ((s + t - 1).tdiv t) = (s + t - 1) / t := by
    rw [Int.tdiv_eq_ediv_of_nonneg (by omega), IntKind.wrap_i64]
    have h1 : 0 ≤ (s + t - 1) / t := Int.ediv_nonneg (by omega) (by omega)
    have h2 : (s + t - 1) / t ≤ s + t - 1 := Int.ediv_le_self t (by omega)
    omega
  refine ⟨.int .i64 ((s + t - 1) / t), fun _ _ => by rw [if_neg ht0]; exact ⟨rfl, by rw [e3]⟩, hK _ ?_⟩
  clear hK K e1 e2 e3
  obtain ⟨q, hq⟩ : ∃ q, (s + t - 1) / t = q := ⟨_, rfl⟩
  rw [hq]
  refine wpQuiet_step (fun K hK => ?_)
  go_simp
  have e4 : (if m < q then q else m) = max m q := by split <;> omega
  refine ⟨.int .i64 (max m q), fun _ _ => by first | rfl | rw [e4], hK _ ?_⟩
  clear hK K
  refine wpQuiet_nil ?_
  intro w2 hw2
  go_wp2
  go_ret
  exact ⟨by rw [hq]; rfl, hw2⟩

end Go.Proofs.YtjpifknencfipaaDoor.P

namespace Go.Proofs.YtjpifknencfipaaDoor.P
open Go.RowKit Go.Shelf Go.Proofs.YtjpifknencfipaaDoorW.PrintWords Go.Proofs.YtjpifknencfipaaDoorW.PrintLast Go.Proofs.YtjpifknencfipaaDoorW.PrintMore
attribute [local go_sem] Oper.semAt_some

/-- fill.Short, whatever the height: its first result is the next height of a search. -/
theorem short_next (A : Option Addr) (c : Nat) (l : List S32) (h : Int) (w : World) (hr : Kd.C k32 w A l.length l) (hc : l.length ≤ c) (hG : Gl 1 w) :
    Calls Tryd.prog 59 #[.slice A l.length c, .int .i64 h] w fun e w' => (∃ x y, e = .returned (.tuple #[.int .i64 (nextA l h), x, y])) ∧ Below w.heap.size w w' := by
  unfold nextA
  by_cases hf : fineA l h = true
  · rw [if_pos hf]
    exact (short_yes A c l h w hr hc hf).mono fun e w' ⟨he, hb⟩ => ⟨⟨_, _, he⟩, hb⟩
  · rw [if_neg hf]
    exact (short_no A c l h w hr hc hG (by simpa using hf)).mono fun e w' ⟨he, hb⟩ => ⟨⟨_, _, he⟩, hb⟩

/-- A search while it runs: what lay at the start of the whole lies as it lay; its three cells; what it knows is right. -/
structure St (l : List S32) (t : Int) (g b m : Nat) (A : Option Addr) (c : Nat) (w0 w : World) : Prop where
  bel : Below w0.heap.size w0 w
  c0 : w.cell? ⟨g, 0, none⟩ = some (.slice A l.length c)
  c1 : w.cell? ⟨g, 1, none⟩ = some (.int .i64 t)
  c2 : w.cell? ⟨g, 2, none⟩ = some (.map (some b))
  mem : Memo l b m w
section
variable {l : List S32} {t : Int} {g b m : Nat} {A : Option Addr} {c : Nat} {w0 w w' : World}
theorem St.lt (h : St l t g b m A c w0 w) : g < w.heap.size := World.block_lt_of_cell? w _ h.c0
theorem St.mlt (h : St l t g b m A c w0 w) : b < w.heap.size := by
  obtain ⟨D, ⟨es, clock, hh, _⟩, _⟩ := h.mem
  exact (Array.getElem?_eq_some_iff.1 hh).1
theorem St.grow {m' : Nat} (h : St l t g b m A c w0 w) (hg : w.grownBy w' (some b)) (hM : Memo l b m' w') (hb : w0.heap.size ≤ b) (hgb : b < g) : St l t g b m' A c w0 w' := by
  have hc : ∀ i, w'.cell? ⟨g, i, none⟩ = w.cell? ⟨g, i, none⟩ := fun i => World.cell?_of_block (a := ⟨g, i, none⟩) (hg.block g h.lt (fun e => by cases e; omega))
  exact ⟨h.bel.grown hg h.bel.size (fun j hj => by cases hj; exact hb), (hc 0).trans h.c0, (hc 1).trans h.c1, (hc 2).trans h.c2, hM⟩
theorem Memo.keep {n : Nat} (h : Memo l b m w) (hb : Below n w w') (hn : b < n) : Memo l b m w' := by
  obtain ⟨D, ⟨es, clock, h1, h2⟩, h3⟩ := h
  exact ⟨D, ⟨es, clock, (hb.block b hn).trans h1, h2⟩, h3⟩
theorem St.keep {n : Nat} (h : St l t g b m A c w0 w) (hb : Below n w w') (hn : g < n) (hgb : b < g) (h0 : w0.heap.size ≤ b) : St l t g b m A c w0 w' := by
  have hc : ∀ i, w'.cell? ⟨g, i, none⟩ = w.cell? ⟨g, i, none⟩ := fun i => hb.cell (p := ⟨g, i, none⟩) hn
  exact ⟨h.bel.trans (hb.mono (by omega)), (hc 0).trans h.c0, (hc 1).trans h.c1, (hc 2).trans h.c2, h.mem.keep hb (by omega)⟩
theorem St.search (h : St l t g b m A c w0 w) (hC : Kd.C k32 w0 A l.length l) (hc : l.length ≤ c) : Search l t g b w := ⟨⟨A, c, h.c0, hc, Kd.C_below hC h.bel⟩, h.c1, h.c2⟩
end
theorem pv_succ (l : List S32) (h : Int) (i : Nat) : pvsA l h (i + 1) = pvsA l h i ++ [pvA l h i] := rfl
theorem gro_keep {ws wr w' : World} {b : Nat} (h : ws.grownBy wr (some b)) (k : Below ws.heap.size wr w') : ws.grownBy w' (some b) :=
  ⟨k.os.trans h.os, k.tape.trans h.tape, k.output.trans h.output, Nat.le_trans h.size k.size, fun i hi hne => (k.block i hi).trans (h.block i hi hne)⟩

set_option maxRecDepth 100000 in
set_option maxHeartbeats 4000000 in
theorem passes1_in (n : Nat) (hn : 1 ≤ n) (lp Bs Bn g b m c N : Nat) (A : Option Addr) (l : List S32) (hl : rightA l = true) (hlen : l.length ≤ 200) (t : Int) (ht : 1 ≤ t ∧ t ≤ 200) (h0 : Int) (hh0 : h0 = max (tallA l) ((sumA l + t - 1) / t)) (hN : N ≤ 1000) (hm : m ≤ 1000) (w0 ws : World)
    (hC : Kd.C k32 w0 A l.length l) (hcl : l.length ≤ c) (hG : Gl 1 w0) (hSt : St l t g b m A c w0 ws) (hb0 : w0.heap.size ≤ b) (hbg : b < g) (hBs0 : g < Bs) (hBn0 : g < Bn)
    (hBs : ws.heap[Bs]? = some (.cells #[.pointer (some ⟨g, 0, none⟩)] 81 (0, 0))) (hBn : ws.heap[Bn]? = some (.cells #[.int .i64 N] 3 (0, 0)))
    (J Jx : List Pv → World → Prop) (W : World) (hW : Below ws.heap.size ws W) (hJ : ∀ s A B row, J s A → A.grownBy B row → (∀ r, row = some r → r = b) → J s B)
    (hY : ∀ pre x W, J pre W → pre.length < N → YieldAt Fence.wide (n - 1) Tryd.prog lp (Pv.enc x) W fun e W' =>
      (e = .returned (.bool true) ∧ J (pre ++ [x]) W' ∧ Below ws.heap.size W W') ∨ (e = .returned (.bool false) ∧ Jx (pre ++ [x]) W')) (hj : J [] W) :
    CallsIn Fence.wide n Tryd.prog 110 #[.func (.yield lp) #[] #[], .pointer (some ⟨Bs, 0, none⟩), .pointer (some ⟨Bn, 0, none⟩)] W fun e W' => (∃ v, e = .returned v) ∧
      ((∃ ys, ys = pvsA l h0 N ∧ Memo l b (m + N) W' ∧ J ys W') ∨ (∃ pre, (∃ k, k < N ∧ pre = pvsA l h0 (k + 1)) ∧ Jx pre W')) := by
  have hglt := hSt.lt
  have hsl : Bs < ws.heap.size := blk_lt hBs
  have hnl : Bn < ws.heap.size := blk_lt hBn
  have hStW := hSt.keep hW hglt hbg hb0
  have hbeg := Lib.hid (begin_calls l hl hlen t ht g b W (hStW.search hC hcl) ⟨_, tall_f l (by omega)⟩)
  rw [← hh0] at hbeg
  have hrg : 0 ≤ h0 ∧ h0 ≤ 214748364800 := by
    have h1 := sum_range hl hlen
    have h2 := ceil_says (sumA l) t ht.1 h1.1
    have h3 := tall_range l hl
    omega
  have cs0 : W.cell? ⟨Bs, 0, none⟩ = some (.pointer (some ⟨g, 0, none⟩)) := (hW.cell (p := ⟨Bs, 0, none⟩) hsl).trans ((blk_cell hBs 0).trans rfl)
  have cn0 : W.cell? ⟨Bn, 0, none⟩ = some (.int .i64 N) := (hW.cell (p := ⟨Bn, 0, none⟩) hnl).trans ((blk_cell hBn 0).trans rfl)
  have HST := Aside0.mk hStW
  have HCC := Aside0.mk hC
  have HGG := Aside0.mk hG
  have HJJ := Aside0.mk hj
  have HRG := Lib.hid (hgt_range l hl h0 hrg.1 (by omega))
  clear hStW hSt hC hG hh0 hrg hj
  refine callsIn_of_wp Tryd.func110 rfl trivial ?_ rfl
  simp only [Tryd.ntmps110, List.size_toArray, List.length_cons, List.length_nil, Nat.reduceAdd, Nat.reduceSub, Array.replicate_succ, Array.replicate_zero, List.push_toArray, List.append_toArray, List.nil_append, List.cons_append]
  gi_wp2
  refine wpIn_scope_wide ?_
  gi_wp2_with (refine ⟨trivial, ?_⟩; gi_at_call 73; refine (callsIn_wide.2 hbeg.out).mono ?_; rintro e w1 ⟨rfl, hb⟩; have HB := Aside0.mk hb; have cn1 := pw_cell_below hb cn0; clear hb)
  refine wpIn_label ?_
  gi_wp2
  gi_loopw [4, 9] (fun hv p wr => ∃ i : Nat, p = .int .i64 i ∧ i ≤ N ∧ hv = .int .i64 (hgtA l h0 i) ∧ Aside0 (J (pvsA l h0 i) wr) ∧ Aside0 (St l t g b (m + i) A c w0 wr) ∧ Aside0 (ws.grownBy wr (some b))) (fun _ p _ => N - (intOf p).toNat)
  case atStart =>
    refine ⟨0, rfl, Nat.zero_le _, rfl, ⟨hJ [] W w1 none HJJ.out (grown_of_below HB.out none) (fun r e => by cases e)⟩, ⟨HST.out.keep HB.out HST.out.lt hbg hb0⟩, ⟨?_⟩⟩
    exact gro_keep (grown_of_below hW (some b)) (HB.out.mono hW.size)
  case round =>
    obtain ⟨i, rfl, hi, rfl, HJr, HSr, HGr⟩ := hrel
    have hlenp := pvs_len l h0 i
    have csr : wr.cell? ⟨Bs, 0, none⟩ = some (.pointer (some ⟨g, 0, none⟩)) := (World.cell?_of_block (a := ⟨Bs, 0, none⟩) (HGr.out.block Bs hsl (by simp; omega))).trans ((blk_cell hBs 0).trans rfl)
    by_cases hlt : i < N
    · have HAT := Lib.hid (at_calls l hl t g b (m + i) (hgtA l h0 i) wr (HSr.out.search HCC.out hcl) HSr.out.mem (by unfold maxLen; omega) (HGG.out.of_below HSr.out.bel) (by have := HRG.out i; omega))
      have HS2 := Lib.hid (pv_succ l h0 i)
      have HP := Lib.hid (show ∃ k, k < N ∧ pvsA l h0 (i + 1) = pvsA l h0 (k + 1) from ⟨i, hlt, rfl⟩)
      have hb1 : b < wr.heap.size := HSr.out.mlt
      have hg1 : g < wr.heap.size := HSr.out.lt
      have hnx : hgtA l h0 (i + 1) = nextA l (hgtA l h0 i) := rfl
      have HNX := Lib.hid hnx
      have hpv : pvA l h0 i = (⟨(i : Int) + 1, hgtA l h0 i, numA l (hgtA l h0 i)⟩ : Pv) := rfl
      rw [hpv] at HS2
      obtain ⟨H, hH⟩ : ∃ H, hgtA l h0 i = H := ⟨_, rfl⟩
      obtain ⟨Kc, hK⟩ : ∃ K, numA l H = K := ⟨_, rfl⟩
      rw [hH] at HAT HS2 HNX
      rw [hK] at HAT HS2
      rw [hH]
      have hi64 : (i : Int) + 1 ≤ 1000 := by omega
      clear hnx hpv hH hK
      gi_wp2_with (refine ⟨trivial, ?_⟩; gi_at_call 69; refine (callsIn_wide.2 HAT.out).mono ?_; rintro e w2 ⟨rfl, hM2, hg2⟩; have hJ2 := hJ _ wr w2 (some b) HJr.out hg2 (fun r e => by cases e; rfl); obtain ⟨fn, tmps, assign, body, hy, hR⟩ := hY (pvsA l h0 i) (⟨(i : Int) + 1, H, Kc⟩ : Pv) _ hJ2 (by omega); dsimp only [Pv.enc] at hy; have HG2 := Aside0.mk hg2; have HM2 := Aside0.mk hM2.memo; clear hg2 hM2 hJ2)
      refine hR.mono ?_
      rintro e W3 (⟨rfl, hJ3, hk3⟩ | ⟨rfl, hJx3⟩)
      · have hSt2 := (HSr.out.grow HG2.out HM2.out hb0 hbg)
        have hSt3 := hSt2.keep hk3 hglt hbg hb0
        have hg3 := gro_keep (HGr.out.trans HG2.out) hk3
        have HJ3 := Aside0.mk (HS2.out ▸ hJ3)
        have HSt3 := Aside0.mk hSt3
        have HG3 := Aside0.mk hg3
        have csr3 : W3.cell? ⟨Bs, 0, none⟩ = some (.pointer (some ⟨g, 0, none⟩)) := (World.cell?_of_block (a := ⟨Bs, 0, none⟩) (hg3.block Bs hsl (by simp; omega))).trans ((blk_cell hBs 0).trans rfl)
        have c03 := hSt3.c0
        have HSH := Lib.hid (short_next A c l H W3 (Kd.C_below HCC.out hSt3.bel) hcl (HGG.out.of_below hSt3.bel))
        clear hJ3 hy hR hSt2 hSt3 hg3 hk3
        gi_wp2_with (refine ⟨trivial, ?_⟩; gi_at_call 59; refine (callsIn_wide.2 HSH.out).mono ?_; rintro e w4 ⟨⟨x1, x2, rfl⟩, hb⟩; have HB4 := Aside0.mk hb; clear hb)
        go_roundw
        case rel => exact ⟨i + 1, by go_num, by omega, by rw [HNX.out], ⟨hJ _ W3 w4 none HJ3.out (grown_of_below HB4.out none) (fun r e => by cases e)⟩, ⟨HSt3.out.keep HB4.out HSt3.out.lt hbg hb0⟩, ⟨gro_keep HG3.out (HB4.out.mono HG3.out.size)⟩⟩
        case measure => simp [intOf]; omega
      · have HJx := Aside0.mk (HS2.out ▸ hJx3)
        clear hJx3 hy hR
        gi_wp2
        rw [Exit.noGoto_normal]
        go_end0
        exact ⟨⟨_, rfl⟩, .inr ⟨_, HP.out, HJx.out⟩⟩
    · obtain rfl : i = N := by omega
      gi_wp2
      rw [Exit.noGoto_normal]
      go_end0
      exact ⟨⟨_, rfl⟩, .inl ⟨_, rfl, HSr.out.mem, HJr.out⟩⟩

/-- (*search).passes: the receiver and the budget are boxed, the closure captures the boxes. -/
theorem passes_calls (g : Nat) (N : Int) (w : World) :
    Calls Tryd.prog 97 #[.pointer (some ⟨g, 0, none⟩), .int .i64 N] w fun e w' => e = .returned (.func (.func 110) #[] #[.pointer (some ⟨w.heap.size, 0, none⟩), .pointer (some ⟨w.heap.size + 1, 0, none⟩)]) ∧ (w.alloc (.cells #[.pointer (some ⟨g, 0, none⟩)] 81)).alloc (.cells #[.int .i64 N] 3) = w' := by
  go_enter Tryd.func97, Tryd.ntmps97
  go_wp2
  go_ret
  exact ⟨by simp, rfl⟩

theorem passes_stops (n : Nat) (hn : 1 ≤ n) (Bs Bn g b m c N : Nat) (A : Option Addr) (l : List S32) (hl : rightA l = true) (hlen : l.length ≤ 200) (t : Int) (ht : 1 ≤ t ∧ t ≤ 200) (h0 : Int) (hh0 : h0 = max (tallA l) ((sumA l + t - 1) / t)) (hN : N ≤ 1000) (hm : m ≤ 1000) (w0 ws : World)
    (hC : Kd.C k32 w0 A l.length l) (hcl : l.length ≤ c) (hG : Gl 1 w0) (hSt : St l t g b m A c w0 ws) (hb0 : w0.heap.size ≤ b) (hbg : b < g) (hBs0 : g < Bs) (hBn0 : g < Bn)
    (hBs : ws.heap[Bs]? = some (.cells #[.pointer (some ⟨g, 0, none⟩)] 81 (0, 0))) (hBn : ws.heap[Bn]? = some (.cells #[.int .i64 N] 3 (0, 0))) :
    SeqM Fence.wide n Tryd.prog 110 #[.pointer (some ⟨Bs, 0, none⟩), .pointer (some ⟨Bn, 0, none⟩)] Pv.enc (Below ws.heap.size) (fun ys => ys = pvsA l h0 N) (fun pre => ∃ k, k < N ∧ pre = pvsA l h0 (k + 1)) (fun W => Memo l b (m + N) W) N b ws := fun lp J Jx W hW hJ _ hY hj =>
  passes1_in n hn lp Bs Bn g b m c N A l hl hlen t ht h0 hh0 hN hm w0 ws hC hcl hG hSt hb0 hbg hBs0 hBn0 hBs hBn J Jx W hW hJ hY hj

set_option maxHeartbeats 1000000 in
set_option maxRecDepth 100000 in
/-- isFew. -/
theorem few_calls (Bx g : Nat) (h x t : Int) (w : World) (hB : w.cell? ⟨Bx, 0, none⟩ = some (.pointer (some ⟨g, 0, none⟩))) (hc1 : w.cell? ⟨g, 1, none⟩ = some (.int .i64 t)) :
    Calls Tryd.prog 96 #[.agg #[.int .i64 h, .int .i64 x], .pointer (some ⟨Bx, 0, none⟩)] w fun e w' => e = .returned (.bool (decide (x ≤ t))) ∧ Below w.heap.size w w' := by
  have hgl : g < w.heap.size := World.block_lt_of_cell? w _ hc1
  have hbl : Bx < w.heap.size := World.block_lt_of_cell? w _ hB
  go_enter Tryd.func96, Tryd.ntmps96
  go_wp2
  go_quiet (fail)
  go_wp2
  go_ret
  exact ⟨rfl, pw_below_drewN (below_alloc (Below.refl _ w) _) _⟩

end Go.Proofs.YtjpifknencfipaaDoor.P

namespace Go.Proofs.YtjpifknencfipaaDoor.P
open Go.RowKit Go.Shelf Go.Proofs.YtjpifknencfipaaDoorW.PrintWords Go.Proofs.YtjpifknencfipaaDoorW.PrintLast Go.Proofs.YtjpifknencfipaaDoorW.PrintMore
attribute [local go_sem] Oper.semAt_some

/-- What least tells. -/
def lstA (l : List S32) (t h0 : Int) (N : Nat) : Int × Int × Bool :=
  match searchA l t N 0 h0 with
  | some (h, i) => (h, i, true)
  | none => (allA l, N, false)

theorem gro_abide {ws W W' : World} {b : Nat} {row : Option Nat} (h : ws.grownBy W (some b)) (hg : W.grownBy W' row) (hr : ∀ r, row = some r → r = b ∨ ws.heap.size ≤ r) : ws.grownBy W' (some b) :=
  ⟨hg.os.trans h.os, hg.tape.trans h.tape, hg.output.trans h.output, Nat.le_trans h.size hg.size, fun k hk hne => (hg.block k (Nat.lt_of_lt_of_le hk h.size) (fun e => by
    rcases hr k e.symm with e1 | e1
    · exact hne (by rw [e1])
    · omega)).trans (h.block k hk hne)⟩
theorem keepsFrom_below {B : Nat} {W W' : World} (h : Below W.heap.size W W') : KeepsFrom B W W' :=
  ⟨h.size, fun k o _ hk _ => (h.block k (Array.getElem?_eq_some_iff.1 hk).1).trans hk⟩

/-- The run goes on, with what is said. -/
def LastQ (R : Act → World → Prop) : Exit → Act → World → Prop
  | .normal, a, w => R a w
  | _, _, _ => False
/-- The worlds of the last statement. -/
structure Cls (l : List S32) (b N : Nat) (x : Int) (W W' : World) : Prop where
  gro : W.grownBy W' (some b)
  mem : Memo l b N W' ∨ MemoK l b (N + 1) x W'

set_option maxHeartbeats 4000000 in
set_option maxRecDepth 100000 in
theorem least_calls (A : Option Addr) (c : Nat) (l : List S32) (hl : rightA l = true) (hlen : l.length ≤ 200) (t : Int) (ht : 1 ≤ t ∧ t ≤ 200) (g b : Nat) (h0 : Int) (hh0 : h0 = max (tallA l) ((sumA l + t - 1) / t)) (N : Nat) (hN : N ≤ 1000) (w0 w : World)
    (hC : Kd.C k32 w0 A l.length l) (hcl : l.length ≤ c) (hG : Gl 1 w0) (hSt : St l t g b 0 A c w0 w) (hb0 : w0.heap.size ≤ b) (hbg : b < g) :
    Calls Tryd.prog 71 #[.pointer (some ⟨g, 0, none⟩), .int .i64 N] w fun e w' => e = .returned (.tuple #[.agg #[.int .i64 (lstA l t h0 N).1, .int .i64 (numA l (lstA l t h0 N).1)], .int .i64 (lstA l t h0 N).2.1, .bool (lstA l t h0 N).2.2]) ∧ w.grownBy w' (some b) := by
  have hglt := hSt.lt
  have HST := Aside0.mk hSt
  have HCC := Aside0.mk hC
  have HGG := Aside0.mk hG
  have HH0 := Lib.hid hh0
  clear hSt hC hG hh0
  refine (callsIn_wide (n := 3)).1 ?_
  refine callsIn_of_wp_marks Tryd.func71 rfl trivial ?_ rfl
  simp only [Tryd.ntmps71, List.size_toArray, List.length_cons, List.length_nil, Nat.reduceAdd, Nat.reduceSub, Array.replicate_succ, Array.replicate_zero, List.push_toArray, List.append_toArray, List.nil_append, List.cons_append]
  gi_upto_region 1 with (fail)
  obtain ⟨Wa, hWa⟩ : ∃ Wa, (((w.alloc (.cells #[.pointer (some ⟨g, 0, none⟩)] 81)).alloc (.cells #[.int .i64 0, .int .i64 0] 87)).alloc (.cells #[.int .i64 0] 3)).alloc (.cells #[.bool false] 4) = Wa := ⟨_, rfl⟩
  have hWb : Below w.heap.size w Wa := hWa ▸ below_alloc (below_alloc (below_alloc (below_alloc (Below.refl _ w) _) _) _) _
  have hWs : Wa.heap.size = w.heap.size + 4 := by rw [← hWa]; simp
  have k2 : Wa.heap[w.heap.size]? = some (.cells #[.pointer (some ⟨g, 0, none⟩)] 81 (0, 0)) := by
    rw [← hWa]
    exact blk_alloc (blk_alloc (blk_alloc (World.alloc_heap_new _ _) _) _) _
  have k4 : Wa.heap[w.heap.size + 1]? = some (.cells #[.int .i64 0, .int .i64 0] 87 (0, 0)) := by
    rw [← hWa]
    exact blk_alloc (blk_alloc (by have := World.alloc_heap_new (w.alloc (.cells #[.pointer (some ⟨g, 0, none⟩)] 81)) (.cells #[.int .i64 0, .int .i64 0] 87); rwa [World.size_alloc] at this) _) _
  have k5 : Wa.heap[w.heap.size + 1 + 1]? = some (.cells #[.int .i64 0] 3 (0, 0)) := by
    rw [← hWa]
    exact blk_alloc (by have := World.alloc_heap_new ((w.alloc (.cells #[.pointer (some ⟨g, 0, none⟩)] 81)).alloc (.cells #[.int .i64 0, .int .i64 0] 87)) (.cells #[.int .i64 0] 3); rwa [World.size_alloc, World.size_alloc] at this) _
  have k6 : Wa.heap[w.heap.size + 1 + 1 + 1]? = some (.cells #[.bool false] 4 (0, 0)) := by
    rw [← hWa]
    have := World.alloc_heap_new (((w.alloc (.cells #[.pointer (some ⟨g, 0, none⟩)] 81)).alloc (.cells #[.int .i64 0, .int .i64 0] 87)).alloc (.cells #[.int .i64 0] 3)) (.cells #[.bool false] 4)
    rwa [World.size_alloc, World.size_alloc, World.size_alloc] at this
  obtain ⟨B6, e6⟩ : ∃ x, x = w.heap.size + 1 + 1 + 1 := ⟨_, rfl⟩
  rw [← e6] at k6 ⊢
  have E6 := Lib.hid e6
  clear e6
  obtain ⟨B5, e5⟩ : ∃ x, x = w.heap.size + 1 + 1 := ⟨_, rfl⟩
  rw [← e5] at k5 ⊢
  have E5 := Lib.hid e5
  clear e5
  obtain ⟨B4, e4⟩ : ∃ x, x = w.heap.size + 1 := ⟨_, rfl⟩
  rw [← e4] at k4 ⊢
  have E4 := Lib.hid e4
  clear e4
  rw [hWa]
  have hbw : b < w.heap.size := HST.out.mlt
  have c2 : Wa.cell? ⟨w.heap.size, 0, none⟩ = some (.pointer (some ⟨g, 0, none⟩)) := (blk_cell k2 0).trans rfl
  have l2 : w.heap.size < Wa.heap.size := blk_lt k2
  have HWs := Lib.hid hWs
  clear hWa hWs
  gi_wp2_with (first | (refine ⟨trivial, ?_⟩; gi_at_call 97; refine (callsIn_wide.2 (passes_calls _ _ _)).mono ?_; rintro e w2 ⟨rfl, rfl⟩))
  have hWA : w.heap.size ≤ Wa.heap.size := hWb.size
  have hStA := HST.out.keep hWb HST.out.lt hbg hb0
  have eB7 : (Wa.alloc (.cells #[.func (.func 96) #[] #[.pointer (some ⟨w.heap.size, 0, none⟩)]] 135)).heap.size = Wa.heap.size + 1 := by simp
  obtain ⟨W0, hW0⟩ : ∃ W0, ((Wa.alloc (.cells #[.func (.func 96) #[] #[.pointer (some ⟨w.heap.size, 0, none⟩)]] 135)).alloc (.cells #[.pointer (some ⟨g, 0, none⟩)] 81)).alloc (.cells #[.int .i64 N] 3) = W0 := ⟨_, rfl⟩
  have hsz : W0.heap.size = Wa.heap.size + 3 := by rw [← hW0]; simp
  have hWb0 : Below Wa.heap.size Wa W0 := hW0 ▸ below_alloc (below_alloc (below_alloc (Below.refl _ Wa) _) _) _
  have k7 : W0.heap[Wa.heap.size]? = some (.cells #[.func (.func 96) #[] #[.pointer (some ⟨w.heap.size, 0, none⟩)]] 135 (0, 0)) := by
    rw [← hW0]
    exact blk_alloc (blk_alloc (World.alloc_heap_new _ _) _) _
  have kS : W0.heap[Wa.heap.size + 1]? = some (.cells #[.pointer (some ⟨g, 0, none⟩)] 81 (0, 0)) := by
    rw [← hW0]
    exact blk_alloc (by have := World.alloc_heap_new (Wa.alloc (.cells #[.func (.func 96) #[] #[.pointer (some ⟨w.heap.size, 0, none⟩)]] 135)) (.cells #[.pointer (some ⟨g, 0, none⟩)] 81); rwa [World.size_alloc] at this) _
  have kN : W0.heap[Wa.heap.size + 1 + 1]? = some (.cells #[.int .i64 N] 3 (0, 0)) := by
    rw [← hW0]
    have := World.alloc_heap_new ((Wa.alloc (.cells #[.func (.func 96) #[] #[.pointer (some ⟨w.heap.size, 0, none⟩)]] 135)).alloc (.cells #[.pointer (some ⟨g, 0, none⟩)] 81)) (.cells #[.int .i64 N] 3)
    rwa [World.size_alloc, World.size_alloc] at this
  have hSt0 := hStA.keep hWb0 hStA.lt hbg hb0
  have k2' := (hWb0.block _ (blk_lt k2)).trans k2
  have k4' := (hWb0.block _ (blk_lt k4)).trans k4
  have k5' := (hWb0.block _ (blk_lt k5)).trans k5
  have k6' := (hWb0.block _ (blk_lt k6)).trans k6
  have hgw : w.grownBy W0 (some b) := grown_of_below (hWb.trans (hWb0.mono hWA)) _
  have hbW : b < W0.heap.size := by omega
  rw [hW0]
  clear hW0 hWb0 hStA k2 k4 k5 k6
  have h4lt := blk_lt k4'
  have h5lt := blk_lt k5'
  have h6lt := blk_lt k6'
  have e4 := E4.out
  have e5 := E5.out
  have e6 := E6.out
  have hb4 : w.heap.size ≤ B4 := by omega
  have hb5 : w.heap.size ≤ B5 := by omega
  have hb6 : w.heap.size ≤ B6 := by omega
  have h45 : B4 < B5 := by omega
  have h56 : B5 < B6 := by omega
  clear e4 e5 e6 E4 E5 E6
  refine wpIn_rangeFunc_map rfl (by omega) (gf := 110) (lb := #[.pointer (some ⟨Wa.heap.size + 1, 0, none⟩), .pointer (some ⟨Wa.heap.size + 1 + 1, 0, none⟩)]) (by simp [Act.eval]) trivial (enters_of Tryd.func110 (by kernel_rfl) rfl)
    (encs := Pv.enc) (Kp := Below W0.heap.size) (S := fun ys => ys = pvsA l h0 N) (Sp := fun pre => ∃ k, k < N ∧ pre = pvsA l h0 (k + 1)) (R := fun W => Memo l b (0 + N) W) (N := N) (b := b) hbW
    (passes_stops 2 (by omega) (Wa.heap.size + 1) (Wa.heap.size + 1 + 1) g b 0 c N A l hl hlen t ht h0 HH0.out hN (by omega) w0 W0 HCC.out hcl HGG.out hSt0 hb0 hbg (by omega) (by omega) kS kN)
    (fun W l1 o hl1 hM => by obtain ⟨D, ⟨es, clock, q1, q2⟩, q3⟩ := hM; exact ⟨D, ⟨es, clock, (World.putObj_heap_other (by omega)).trans q1, q2⟩, q3⟩)
    (fun h k => h.trans k) (belowK_b (Nat.le_refl _)) (fun _ => rfl)
    (fun pre W => W0.grownBy W (some b) ∧ ∀ x ∈ pre, ¬ x.n ≤ t)
    (fun cd pre W => cd = .ret ∧ w.grownBy W (some b) ∧ ∃ pre' x, pre = pre' ++ [x] ∧ (∀ y ∈ pre', ¬ y.n ≤ t) ∧ x.n ≤ t ∧ W.heap[B4]? = some (.cells #[.int .i64 x.h, .int .i64 x.n] 87 (0, 0)) ∧ W.heap[B5]? = some (.cells #[.int .i64 x.i] 3 (0, 0)) ∧ W.heap[B6]? = some (.cells #[.bool true] 4 (0, 0)))
    (fun s W W' row hs hg hr => ⟨gro_abide hs.1 hg (fun r e => (hr r e).imp id (fun q => q.1)), hs.2⟩)
    (fun cd s W W' row hs hg hr => by
      have hne : ∀ k, b < k → k < W0.heap.size → ∀ o, W.heap[k]? = some o → W'.heap[k]? = some o := fun k h1 h2 o ho => (hg.block k (Array.getElem?_eq_some_iff.1 ho).1 (fun e => by rcases hr k e.symm with q | q <;> omega)).trans ho
      obtain ⟨q1, q2, pre', x, q3, q4, q5, q6, q7, q8⟩ := hs
      exact ⟨q1, gro_abide q2 hg (fun r e => (hr r e).imp id (fun q => by omega)), pre', x, q3, q4, q5, hne _ (by omega) h4lt _ q6, hne _ (by omega) h5lt _ q7, hne _ (by omega) h6lt _ q8⟩)
    ⟨⟨rfl, rfl, rfl, Nat.le_refl _, fun _ _ _ => rfl⟩, fun x hx => (by cases hx)⟩
    (fun x a' W => ∃ Bx, W0.heap.size ≤ Bx ∧ W.heap[Bx]? = some (.cells #[.int .i64 x.h, .int .i64 x.n] 87 (0, 0)) ∧ a' = Act.mk #[.pointer (some ⟨g, 0, none⟩), .int .i64 N, .pointer (some ⟨w.heap.size, 0, none⟩), undef, .pointer (some ⟨B4, 0, none⟩), .pointer (some ⟨B5, 0, none⟩), .pointer (some ⟨B6, 0, none⟩), .pointer (some ⟨Wa.heap.size, 0, none⟩), .int .i64 x.i, .pointer (some ⟨Bx, 0, none⟩), .func (.func 96) #[] #[.pointer (some ⟨w.heap.size, 0, none⟩)], .pointer (some ⟨g, 0, none⟩), .int .i64 N, .func (.func 110) #[] #[.pointer (some ⟨Wa.heap.size + 1, 0, none⟩), .pointer (some ⟨Wa.heap.size + 1 + 1, 0, none⟩)], .int .i64 x.i, .agg #[.int .i64 x.h, .int .i64 x.n], undef, undef, undef, undef, undef, undef, undef, undef, undef, undef, undef, undef, undef, undef] [])
    (fun x a' _ X Y row hs hg hr => by
      obtain ⟨Bx, h1, h2, h3⟩ := hs
      exact ⟨Bx, h1, (grownBy_keeps_cells hg (fun r e => (hr r e).2) h2 rfl).trans h2, h3⟩)
    ?assign ?body ?done ?stop
  case assign =>
    rintro l1 pre x W K ⟨hi1, hi2⟩ hK
    dsimp only [Pv.enc] at hK ⊢
    gi_wp2
    exact hK _ _ ((KeepsOthers.alloc _ _).from _) (below_alloc (Below.refl _ W) _ |>.mono hi1.size) ⟨gro_abide hi1 (World.grownBy_alloc W _ none) (fun r e => by cases e), hi2⟩ ⟨W.heap.size, hi1.size, World.alloc_heap_new _ _, rfl⟩
  case body =>
    rintro l1 pre x a' W hl1 ⟨r, hr⟩ ⟨hi1, hi2⟩ ⟨Bx, hBx, bX, rfl⟩ hlt
    have x0 : W.cell? ⟨Bx, 0, none⟩ = some (.int .i64 x.h) := (blk_cell bX 0).trans rfl
    have x1 : W.cell? ⟨Bx, 1, none⟩ = some (.int .i64 x.n) := (blk_cell bX 1).trans rfl
    have q7 : W.heap[Wa.heap.size]? = some (.cells #[.func (.func 96) #[] #[.pointer (some ⟨w.heap.size, 0, none⟩)]] 135 (0, 0)) := (hi1.block _ (by omega) (by simp; omega)).trans k7
    have c7 : W.cell? ⟨Wa.heap.size, 0, none⟩ = some (.func (.func 96) #[] #[.pointer (some ⟨w.heap.size, 0, none⟩)]) := (blk_cell q7 0).trans rfl
    have q2 : W.heap[w.heap.size]? = some (.cells #[.pointer (some ⟨g, 0, none⟩)] 81 (0, 0)) := (hi1.block _ (by omega) (by simp; omega)).trans k2'
    have c2' : W.cell? ⟨w.heap.size, 0, none⟩ = some (.pointer (some ⟨g, 0, none⟩)) := (blk_cell q2 0).trans rfl
    have c1' : W.cell? ⟨g, 1, none⟩ = some (.int .i64 t) := (World.cell?_of_block (a := ⟨g, 1, none⟩) (hi1.block g hSt0.lt (by simp; omega))).trans hSt0.c1
    have HF := Lib.hid (few_calls w.heap.size g x.h x.n t W c2' c1')
    have q4 : W.heap[B4]? = some (.cells #[.int .i64 0, .int .i64 0] 87 (0, 0)) := (hi1.block _ h4lt (by simp; omega)).trans k4'
    have q5 : W.heap[B5]? = some (.cells #[.int .i64 0] 3 (0, 0)) := (hi1.block _ h5lt (by simp; omega)).trans k5'
    have q6 : W.heap[B6]? = some (.cells #[.bool false] 4 (0, 0)) := (hi1.block _ h6lt (by simp; omega)).trans k6'
    clear q7 q2
    gi_wp2_with (first | (refine ⟨trivial, ?_⟩; gi_at_call 96; refine (callsIn_wide.2 HF.out).mono ?_; rintro e w2 ⟨rfl, hb⟩; have HB := Aside0.mk hb; have x0' := pw_cell_below hb x0; have x1' := pw_cell_below hb x1; have v4 := (hb.block _ (blk_lt q4)).trans q4; have v5 := (hb.block _ (blk_lt q5)).trans q5; have v6 := (hb.block _ (blk_lt q6)).trans q6; have r40 := (blk_cell v4 0).trans rfl; have r41 := (blk_cell v4 1).trans rfl; have r50 := (blk_cell v5 0).trans rfl; have r60 := (blk_cell v6 0).trans rfl; have f4 := blk_frozen v4; have f5 := blk_frozen v5; have f6 := blk_frozen v6; clear hb))
    · rename_i hle
      have hg3 : w.grownBy w2 (some b) := (hgw.trans hi1).trans (grown_of_below HB.out (some b))
      have s0 := hi1.size
      have s1 := HB.out.size
      refine ⟨(((keepsFrom_below HB.out).trans ((KeepsOthers.setCell _ _ _).from _)).trans ((KeepsOthers.setCell _ _ _).from _)).trans (((KeepsOthers.setCell _ _ _).from _).trans ((KeepsOthers.setCell _ _ _).from _)), rfl, gb_set (gb_set (gb_set (gb_set hg3 hb4 _) hb4 _) hb5 _) hb6 _, pre, x, rfl, hi2, hle, ?_, ?_, ?_⟩
      · refine (Below.heap_setCell _ _ _ _ (by simp; omega)).trans ((Below.heap_setCell _ _ _ _ (by simp; omega)).trans ?_)
        exact blk_put (blk_put v4 0 _ rfl) 1 _ rfl
      · refine (Below.heap_setCell _ _ _ _ (by simp; omega)).trans ?_
        exact blk_put ((Below.heap_setCell _ _ _ _ (by simp; omega)).trans ((Below.heap_setCell _ _ _ _ (by simp; omega)).trans v5)) 0 _ rfl
      · exact blk_put ((Below.heap_setCell _ _ _ _ (by simp; omega)).trans ((Below.heap_setCell _ _ _ _ (by simp; omega)).trans ((Below.heap_setCell _ _ _ _ (by simp; omega)).trans v6))) 0 _ rfl
    · rename_i hle
      have s0 := hi1.size
      refine ⟨keepsFrom_below HB.out, HB.out.mono (by omega), gro_keep hi1 (HB.out.mono s0), fun y hy => ?_⟩
      rcases List.mem_append.1 hy with hy | hy
      · exact hi2 y hy
      · rw [List.mem_singleton.1 hy]
        omega
  case done =>
    rintro D xs W hD rfl hMem ⟨hi1, hi2⟩ hKD
    have hs := search_none l t N 0 h0 (pvs_mem l h0 t N hi2)
    have HL : Hid (lstA l t h0 N = (allA l, (N : Int), false)) := Lib.hid (by unfold lstA; rw [hs])
    have hMem : Memo l b N W := by rw [Nat.zero_add] at hMem; exact hMem
    have hStW := hSt0.grow hi1 hMem hb0 hbg
    have hlW := hStW.lt
    have hbW' := hStW.mlt
    have s0 := hi1.size
    have hcl2 : ∀ W', Cls l b N (allA l) W W' → ∃ m', m' ≤ N + 1 ∧ St l t g b m' A c w0 W' := fun W' h => by
      rcases h with ⟨h1, h2 | h2⟩
      · exact ⟨N, by omega, hStW.grow h1 h2 hb0 hbg⟩
      · exact ⟨N + 1, Nat.le_refl _, hStW.grow h1 h2.memo hb0 hbg⟩
    have q2 : W.heap[w.heap.size]? = some (.cells #[.pointer (some ⟨g, 0, none⟩)] 81 (0, 0)) := (hi1.block _ (by omega) (by simp; omega)).trans k2'
    have hc2 : ∀ W', Cls l b N (allA l) W W' → W'.cell? ⟨w.heap.size, 0, none⟩ = some (.pointer (some ⟨g, 0, none⟩)) := fun W' h => (World.cell?_of_block (a := ⟨w.heap.size, 0, none⟩) (h.gro.block _ (blk_lt q2) (by simp; omega))).trans ((blk_cell q2 0).trans rfl)
    have hc0' : ∀ W', Cls l b N (allA l) W W' → W'.cell? ⟨g, 0, none⟩ = some (.slice A l.length c) := fun W' h => by obtain ⟨_, _, q⟩ := hcl2 W' h; exact q.c0
    have hhi : ∀ W', Cls l b N (allA l) W W' → Calls Tryd.prog 94 #[.slice A l.length c] W' fun e w'' => e = .returned (.int .i64 (allA l)) ∧ Cls l b N (allA l) W w'' := fun W' h => by
      obtain ⟨_, _, q⟩ := hcl2 W' h
      refine (high_calls A c l W' (Kd.C_below HCC.out q.bel) hl).mono ?_
      rintro e w2 ⟨rfl, hb⟩
      exact ⟨rfl, h.gro.trans (grown_of_below hb _), h.mem.imp (fun q2 => q2.keep hb q.mlt) (fun ⟨D, ⟨es, clock, p1, p2⟩, p3⟩ => ⟨D, ⟨es, clock, (hb.block b q.mlt).trans p1, p2⟩, p3⟩)⟩
    have hat : ∀ W', Cls l b N (allA l) W W' → Calls Tryd.prog 69 #[.pointer (some ⟨g, 0, none⟩), .int .i64 (allA l)] W' fun e w'' => e = .returned (.agg #[.int .i64 (allA l), .int .i64 (numA l (allA l))]) ∧ Cls l b N (allA l) W w'' := fun W' h => by
      obtain ⟨_, _, q⟩ := hcl2 W' h
      have hal := all_range l hl
      rcases h with ⟨h1, h2 | h2⟩
      · refine (at_calls l hl t g b N (allA l) W' (q.search HCC.out hcl) h2 (by unfold maxLen; omega) (HGG.out.of_below q.bel) (by omega)).mono ?_
        rintro e w2 ⟨rfl, p1, p2⟩
        exact ⟨rfl, h1.trans p2, .inr p1⟩
      · refine (at_known l hl t g b (N + 1) (allA l) W' (q.search HCC.out hcl) h2 (by omega)).mono ?_
        rintro e w2 ⟨rfl, p1, p2⟩
        exact ⟨rfl, h1.trans (grown_of_below p2 _), .inr p1⟩
    have HHI := Lib.hid hhi
    have HATT := Lib.hid hat
    have HC2 := Lib.hid hc2
    have HC0 := Lib.hid hc0'
    have q4 : W.heap[B4]? = some (.cells #[.int .i64 0, .int .i64 0] 87 (0, 0)) := (hi1.block _ h4lt (by simp; omega)).trans k4'
    have q5 : W.heap[B5]? = some (.cells #[.int .i64 0] 3 (0, 0)) := (hi1.block _ h5lt (by simp; omega)).trans k5'
    have q6 : W.heap[B6]? = some (.cells #[.bool false] 4 (0, 0)) := (hi1.block _ h6lt (by simp; omega)).trans k6'
    have hMW0 : Cls l b N (allA l) W W := ⟨⟨rfl, rfl, rfl, Nat.le_refl _, fun _ _ _ => rfl⟩, .inl hMem⟩
    have hMW : Cls l b N (allA l) W (W.drewN 1) := ⟨⟨rfl, rfl, rfl, Nat.le_refl _, fun _ _ _ => rfl⟩, .inl hMem⟩
    obtain ⟨Al, hAl⟩ : ∃ x, allA l = x := ⟨_, rfl⟩
    obtain ⟨Nl, hNl⟩ : ∃ x, numA l Al = x := ⟨_, rfl⟩
    rw [hAl] at HHI HATT HC2 HC0 HL hMW hMW0
    rw [hNl] at HATT
    clear hhi hat hc2 hc0' hcl2 hs hStW hMem
    rename_i K1 hK1
    refine hK1 _ _ (wpIn_wide.2 ?_)
    have d2 := HC2.out W hMW0
    have d0 := HC0.out W hMW0
    have hbk : ∀ W', Cls l b N Al W W' → W'.heap[B4]? = some (.cells #[.int .i64 0, .int .i64 0] 87 (0, 0)) ∧ W'.heap[B5]? = some (.cells #[.int .i64 0] 3 (0, 0)) ∧ W'.heap[B6]? = some (.cells #[.bool false] 4 (0, 0)) := fun W' h =>
      ⟨(h.gro.block _ (blk_lt q4) (by simp; omega)).trans q4, (h.gro.block _ (blk_lt q5) (by simp; omega)).trans q5, (h.gro.block _ (blk_lt q6) (by simp; omega)).trans q6⟩
    have HBK := Lib.hid hbk
    have HMW := Aside0.mk hMW
    clear hMW hMW0 hbk q4 q5 q6 q2
    refine wp_seq (wp_mono (Q := LastQ fun a' w' => (∃ v1 v2 v3 v4 v5 v6 v7 v8 v9 : Value, a'.tmps = #[.pointer (some ⟨g, 0, none⟩), .int .i64 N, .pointer (some ⟨w.heap.size, 0, none⟩), undef, .pointer (some ⟨B4, 0, none⟩), .pointer (some ⟨B5, 0, none⟩), .pointer (some ⟨B6, 0, none⟩), .pointer (some ⟨Wa.heap.size, 0, none⟩), undef, undef, .func (.func 96) #[] #[.pointer (some ⟨w.heap.size, 0, none⟩)], .pointer (some ⟨g, 0, none⟩), .int .i64 N, .func (.func 110) #[] #[.pointer (some ⟨Wa.heap.size + 1, 0, none⟩), .pointer (some ⟨Wa.heap.size + 1 + 1, 0, none⟩)], undef, undef, undef, undef, undef, undef, undef, v1, v2, v3, v4, v5, v6, v7, v8, v9]) ∧ a'.defers = [{ target := .collected D, args := #[] }] ∧ ∃ w3, Cls l b N Al W w3 ∧ w' = (((w3.setCell ⟨B4, 0, none⟩ (.int .i64 Al)).setCell ⟨B4, 1, none⟩ (.int .i64 Nl)).setCell ⟨B5, 0, none⟩ (.int .i64 N)).setCell ⟨B6, 0, none⟩ (.bool false)) ?reg ?rest)
    case reg =>
      go_region_with (first
        | (go_at_call 94; refine (HHI.out _ HMW.out).mono ?_; rintro e w2 ⟨rfl, hC2⟩; have d2' := HC2.out _ hC2; have d0' := HC0.out _ hC2; have HC2' := Aside0.mk hC2; clear hC2)
        | (go_at_call 69; refine (HATT.out _ HC2'.out).mono ?_; rintro e w3 ⟨rfl, hC3⟩; obtain ⟨v4, v5, v6⟩ := HBK.out _ hC3; have r40 := (blk_cell v4 0).trans rfl; have r41 := (blk_cell v4 1).trans rfl; have r50 := (blk_cell v5 0).trans rfl; have r60 := (blk_cell v6 0).trans rfl; have f4 := blk_frozen v4; have f5 := blk_frozen v5; have f6 := blk_frozen v6; have HC3 := Aside0.mk hC3; clear hC3))
      all_goals exact ⟨⟨_, _, _, _, _, _, _, _, _, rfl⟩, rfl, w3, HC3.out, rfl⟩
    case rest =>
      rintro e a2 wE hq
      cases e with
      | normal =>
        obtain ⟨⟨v1, v2, v3, v4, v5, v6, v7, v8, v9, ht2⟩, hd2, w3, hC3, rfl⟩ := hq
        obtain ⟨u4, u5, u6⟩ := HBK.out _ hC3
        have z4 := blk_put (blk_put u4 0 (.int .i64 Al) rfl) 1 (.int .i64 Nl) rfl
        have z5 := blk_put ((Below.heap_setCell _ ⟨B4, 1, none⟩ (.int .i64 Nl) B5 (by simp; omega)).trans ((Below.heap_setCell w3 ⟨B4, 0, none⟩ (.int .i64 Al) B5 (by simp; omega)).trans u5)) 0 (.int .i64 N) rfl
        have z4' : ((((w3.setCell ⟨B4, 0, none⟩ (.int .i64 Al)).setCell ⟨B4, 1, none⟩ (.int .i64 Nl)).setCell ⟨B5, 0, none⟩ (.int .i64 N)).setCell ⟨B6, 0, none⟩ (.bool false)).heap[B4]? = some (.cells #[.int .i64 Al, .int .i64 Nl] 87 (0, 0)) :=
          (Below.heap_setCell _ ⟨B6, 0, none⟩ (.bool false) B4 (by simp; omega)).trans ((Below.heap_setCell _ ⟨B5, 0, none⟩ (.int .i64 N) B4 (by simp; omega)).trans z4)
        have z5' : ((((w3.setCell ⟨B4, 0, none⟩ (.int .i64 Al)).setCell ⟨B4, 1, none⟩ (.int .i64 Nl)).setCell ⟨B5, 0, none⟩ (.int .i64 N)).setCell ⟨B6, 0, none⟩ (.bool false)).heap[B5]? = some (.cells #[.int .i64 N] 3 (0, 0)) :=
          (Below.heap_setCell _ ⟨B6, 0, none⟩ (.bool false) B5 (by simp; omega)).trans z5
        have z6' : ((((w3.setCell ⟨B4, 0, none⟩ (.int .i64 Al)).setCell ⟨B4, 1, none⟩ (.int .i64 Nl)).setCell ⟨B5, 0, none⟩ (.int .i64 N)).setCell ⟨B6, 0, none⟩ (.bool false)).heap[B6]? = some (.cells #[.bool false] 4 (0, 0)) :=
          blk_put ((Below.heap_setCell _ ⟨B5, 0, none⟩ (.int .i64 N) B6 (by simp; omega)).trans ((Below.heap_setCell _ ⟨B4, 1, none⟩ (.int .i64 Nl) B6 (by simp; omega)).trans ((Below.heap_setCell w3 ⟨B4, 0, none⟩ (.int .i64 Al) B6 (by simp; omega)).trans u6))) 0 (.bool false) rfl
        have hD3 : w3.heap[D]? = some (.deferred (some [])) := (hC3.gro.block D (Array.getElem?_eq_some_iff.1 hKD).1 (by simp; omega)).trans hKD
        have hKD' : ((((w3.setCell ⟨B4, 0, none⟩ (.int .i64 Al)).setCell ⟨B4, 1, none⟩ (.int .i64 Nl)).setCell ⟨B5, 0, none⟩ (.int .i64 N)).setCell ⟨B6, 0, none⟩ (.bool false)).heap[D]? = some (.deferred (some [])) :=
          (Below.heap_setCell _ ⟨B6, 0, none⟩ (.bool false) D (by simp; omega)).trans ((Below.heap_setCell _ ⟨B5, 0, none⟩ (.int .i64 N) D (by simp; omega)).trans ((Below.heap_setCell _ ⟨B4, 1, none⟩ (.int .i64 Nl) D (by simp; omega)).trans ((Below.heap_setCell w3 ⟨B4, 0, none⟩ (.int .i64 Al) D (by simp; omega)).trans hD3)))
        have hgE : w.grownBy ((((w3.setCell ⟨B4, 0, none⟩ (.int .i64 Al)).setCell ⟨B4, 1, none⟩ (.int .i64 Nl)).setCell ⟨B5, 0, none⟩ (.int .i64 N)).setCell ⟨B6, 0, none⟩ (.bool false)) (some b) :=
          gb_set (gb_set (gb_set (gb_set ((hgw.trans hi1).trans hC3.gro) hb4 _) hb4 _) hb5 _) hb6 _
        generalize ((((w3.setCell ⟨B4, 0, none⟩ (.int .i64 Al)).setCell ⟨B4, 1, none⟩ (.int .i64 Nl)).setCell ⟨B5, 0, none⟩ (.int .i64 N)).setCell ⟨B6, 0, none⟩ (.bool false)) = wE at z4' z5' z6' hKD' hgE ⊢
        have r40 : (wE.putObj D (.deferred none)).cell? ⟨B4, 0, none⟩ = some (.int .i64 Al) := (World.cell?_of_block (a := ⟨B4, 0, none⟩) (World.putObj_heap_other (by simp; omega))).trans ((blk_cell z4' 0).trans rfl)
        have r41 : (wE.putObj D (.deferred none)).cell? ⟨B4, 1, none⟩ = some (.int .i64 Nl) := (World.cell?_of_block (a := ⟨B4, 1, none⟩) (World.putObj_heap_other (by simp; omega))).trans ((blk_cell z4' 1).trans rfl)
        have r50 : (wE.putObj D (.deferred none)).cell? ⟨B5, 0, none⟩ = some (.int .i64 N) := (World.cell?_of_block (a := ⟨B5, 0, none⟩) (World.putObj_heap_other (by simp; omega))).trans ((blk_cell z5' 0).trans rfl)
        have r60 : (wE.putObj D (.deferred none)).cell? ⟨B6, 0, none⟩ = some (.bool false) := (World.cell?_of_block (a := ⟨B6, 0, none⟩) (World.putObj_heap_other (by simp; omega))).trans ((blk_cell z6' 0).trans rfl)
        obtain ⟨tm, df⟩ := a2
        simp only at ht2 hd2
        subst ht2
        subst hd2
        clear z4 z5 z4' z5' z6'
        show Code.wp Tryd.prog Code.ret _ _ _
        go_wp2
        refine ⟨by simp, .inl ⟨_, _, rfl, run_takeDeferred hKD', ?_⟩⟩
        refine ⟨.tuple #[.agg #[.int .i64 Al, .int .i64 Nl], .int .i64 N, .bool false], by simp [results, Tryd.results71, go_sem, r40, r41, r50, r60], by rw [HL.out]; simp only; rw [hNl], ?_⟩
        exact ⟨hgE.os, hgE.tape, hgE.output, by simpa using hgE.size, fun j hj hne => (World.putObj_heap_other (by omega)).trans (hgE.block j hj hne)⟩
      | _ => exact hq.elim
  case stop =>
    rintro D cd pre W hD ⟨k, hk, hpk⟩ ⟨rfl, hgw2, pre', x, hpre, hno, hx, v4, v5, v6⟩ hKD
    rw [hpk, pv_succ] at hpre
    obtain ⟨e1, e2⟩ := List.append_inj' hpre rfl
    obtain rfl : pvA l h0 k = x := by simpa using e2
    have hs := search_found l t k N 0 h0 hk (pvs_mem l h0 t k (fun y hy => hno y (e1 ▸ hy))) hx
    have HL : Hid (lstA l t h0 N = (hgtA l h0 k, (k : Int) + 1, true)) := Lib.hid (by unfold lstA; rw [hs]; simp)
    have r40 : (W.putObj D (.deferred none)).cell? ⟨B4, 0, none⟩ = some (.int .i64 (hgtA l h0 k)) := (World.cell?_of_block (a := ⟨B4, 0, none⟩) (World.putObj_heap_other (by simp; omega))).trans ((blk_cell v4 0).trans rfl)
    have r41 : (W.putObj D (.deferred none)).cell? ⟨B4, 1, none⟩ = some (.int .i64 (numA l (hgtA l h0 k))) := (World.cell?_of_block (a := ⟨B4, 1, none⟩) (World.putObj_heap_other (by simp; omega))).trans ((blk_cell v4 1).trans rfl)
    have r50 : (W.putObj D (.deferred none)).cell? ⟨B5, 0, none⟩ = some (.int .i64 ((k : Int) + 1)) := (World.cell?_of_block (a := ⟨B5, 0, none⟩) (World.putObj_heap_other (by simp; omega))).trans ((blk_cell v5 0).trans rfl)
    have r60 : (W.putObj D (.deferred none)).cell? ⟨B6, 0, none⟩ = some (.bool true) := (World.cell?_of_block (a := ⟨B6, 0, none⟩) (World.putObj_heap_other (by simp; omega))).trans ((blk_cell v6 0).trans rfl)
    gi_wp2
    refine ⟨by simp, .inl ⟨_, _, rfl, run_takeDeferred hKD, ?_⟩⟩
    refine ⟨.tuple #[.agg #[.int .i64 (hgtA l h0 k), .int .i64 (numA l (hgtA l h0 k))], .int .i64 ((k : Int) + 1), .bool true], by simp [results, Tryd.results71, go_sem, r40, r41, r50, r60], by rw [HL.out], ?_⟩
    exact ⟨hgw2.os, hgw2.tape, hgw2.output, by simpa using hgw2.size, fun j hj hne => (World.putObj_heap_other (by omega)).trans (hgw2.block j hj hne)⟩

end Go.Proofs.YtjpifknencfipaaDoor.P

namespace Go.Proofs.YtjpifknencfipaaDoor.P
open Go.RowKit Go.Proofs.YtjpifknencfipaaDoorW.PrintWords Go.Proofs.YtjpifknencfipaaDoorW.PrintLast Go.Proofs.YtjpifknencfipaaDoorW.PrintMore

set_option maxHeartbeats 2000000 in
set_option maxRecDepth 100000 in
theorem balance_Target.calls (A0 : Option Addr) (c0 : Nat) (l0 : List (S32)) (a1 : Int) (r1 : Int) (r2 : Int) (w : World) (hr0 : Kd.C k32 w A0 l0.length l0) (hc0 : l0.length ≤ c0) (hG : Gl 2 w) (h : balance_Target.f l0 a1 = some (r1, r2)) :
    Calls Tryd.prog 30 #[.slice A0 l0.length c0, .int .i64 a1] w fun e w' => e = .returned (.tuple #[.int .i64 r1, .int .i64 r2]) ∧ Below w.heap.size w w' := by
  unfold balance_Target.f at h
  by_cases hf : openA l0 a1 = true
  · rw [if_pos hf] at h
    cases h
    have HO := Lib.hid (bopen_yes A0 c0 l0 a1 w hr0 hc0 (hG.le (by decide)) hf)
    clear hr0 hc0 hG hf
    go_enter Tryd.func30, Tryd.ntmps30
    go_wp2_with (go_at_call 68; refine HO.out.mono ?_; rintro e w1 ⟨g, b, rfl, hS, hM, hb1, hb2, hb⟩; have c1 := hS.tgt; have HB := Aside0.mk hb; clear hb hM hS)
    go_ret2
    exact ⟨rfl, HB.out⟩
  · rw [if_neg hf] at h
    cases h
    obtain ⟨a, ha⟩ := hG.2.1 (Nat.le_refl _)
    have HO := Lib.hid (bopen_no A0 c0 l0 a1 w a hr0 hc0 (by simpa using hf) ha)
    clear hr0 hc0 hG hf
    go_enter Tryd.func30, Tryd.ntmps30
    go_wp2_with (first | (go_at_call 68; refine HO.out.mono ?_; rintro e w1 ⟨rfl, hb⟩; have HB := Aside0.mk hb; have ha1 := pw_cell_below hb ha; clear hb) | (go_at_call 70; refine (told_balance a _ ha1).mono ?_; rintro e w2 ⟨rfl, rfl⟩))
    go_ret2
    exact ⟨rfl, HB.out⟩

end Go.Proofs.YtjpifknencfipaaDoor.P

namespace Go.Proofs.YtjpifknencfipaaDoor.P
open Go.RowKit Go.Proofs.YtjpifknencfipaaDoorW.PrintWords Go.Proofs.YtjpifknencfipaaDoorW.PrintLast Go.Proofs.YtjpifknencfipaaDoorW.PrintMore

set_option maxHeartbeats 2000000 in
set_option maxRecDepth 100000 in
theorem balance_Begin.calls (A0 : Option Addr) (c0 : Nat) (l0 : List (S32)) (a1 : Int) (r1 : Int) (r2 : Int) (w : World) (hr0 : Kd.C k32 w A0 l0.length l0) (hc0 : l0.length ≤ c0) (hG : Gl 2 w) (h : balance_Begin.f l0 a1 = some (r1, r2)) :
    Calls Tryd.prog 34 #[.slice A0 l0.length c0, .int .i64 a1] w fun e w' => e = .returned (.tuple #[.int .i64 r1, .int .i64 r2]) ∧ Below w.heap.size w w' := by
  unfold balance_Begin.f at h
  by_cases hf : openA l0 a1 = true
  · rw [if_pos hf] at h
    cases h
    have HO := Lib.hid (bopen_yes A0 c0 l0 a1 w hr0 hc0 (hG.le (by decide)) hf)
    obtain ⟨h1, h2, h3, h4⟩ := openA_parts hf
    have ht := target_range l0 a1 h3 h4 h2
    have HB := fun g b w' hS => Lib.hid (begin_calls l0 h1 h2 (targetA l0 a1) ⟨ht.1, ht.2.1⟩ g b w' hS ⟨_, tall_f l0 (by omega)⟩)
    have HBB := Lib.hid HB
    clear hr0 hc0 hG hf HB ht h1 h2 h3 h4
    go_enter Tryd.func34, Tryd.ntmps34
    go_wp2_with (first
      | (go_at_call 68; refine HO.out.mono ?_; rintro e w1 ⟨g, b, rfl, hS, hM, hb1, hb2, hb⟩; have HS := Aside0.mk hS; have HB := Aside0.mk hb; clear hb hM hS)
      | (go_at_call 73; refine (HBB.out g b w1 HS.out).out.mono ?_; rintro e w2 ⟨rfl, hb⟩; have HB2 := Aside0.mk hb; clear hb))
    go_ret2
    exact ⟨rfl, HB.out.trans (HB2.out.mono HB.out.size)⟩
  · rw [if_neg hf] at h
    cases h
    obtain ⟨a, ha⟩ := hG.2.1 (Nat.le_refl _)
    have HO := Lib.hid (bopen_no A0 c0 l0 a1 w a hr0 hc0 (by simpa using hf) ha)
    clear hr0 hc0 hG hf
    go_enter Tryd.func34, Tryd.ntmps34
    go_wp2_with (first | (go_at_call 68; refine HO.out.mono ?_; rintro e w1 ⟨rfl, hb⟩; have HB := Aside0.mk hb; have ha1 := pw_cell_below hb ha; clear hb) | (go_at_call 70; refine (told_balance a _ ha1).mono ?_; rintro e w2 ⟨rfl, rfl⟩))
    go_ret2
    exact ⟨rfl, HB.out⟩

end Go.Proofs.YtjpifknencfipaaDoor.P

namespace Go.Proofs.YtjpifknencfipaaDoor.P
open Go.RowKit Go.Proofs.YtjpifknencfipaaDoorW.PrintWords Go.Proofs.YtjpifknencfipaaDoorW.PrintLast Go.Proofs.YtjpifknencfipaaDoorW.PrintMore

theorem lst_eq (l : List S32) (n : Int) (N : Nat) : leastBA l n (N : Int) = lstA l (targetA l n) (beginA l n) N := by
  unfold leastBA lstA
  rw [Int.toNat_natCast]
  cases searchA l (targetA l n) N 0 (beginA l n) <;> rfl
/-- What open leaves, as a search that runs. -/
theorem st_of_open {A : Option Addr} {c : Nat} {l : List S32} {t : Int} {g b : Nat} {w w1 : World} (hr : Kd.C k32 w A l.length l) (hS : Search l t g b w1) (hA : w1.cell? ⟨g, 0, none⟩ = some (.slice A l.length c)) (hM : w1.ownsMap Tryd.prog 2 (plainElem (H := Unit) Tryd.prog 3) b 0 (.map [])) (hb : Below w.heap.size w w1) : St l t g b 0 A c w w1 :=
  ⟨hb, hA, hS.tgt, hS.map, ⟨_, hM, MemoD.start l⟩⟩

set_option maxHeartbeats 2000000 in
set_option maxRecDepth 100000 in
theorem balance_Least.calls (A0 : Option Addr) (c0 : Nat) (l0 : List (S32)) (a1 : Int) (a2 : Int) (r1 : Int) (r2 : Int) (r3 : Bool) (r4 : Int) (w : World) (hr0 : Kd.C k32 w A0 l0.length l0) (hc0 : l0.length ≤ c0) (hG : Gl 2 w) (h : balance_Least.f l0 a1 a2 = some (r1, r2, r3, r4)) :
    Calls Tryd.prog 29 #[.slice A0 l0.length c0, .int .i64 a1, .int .i64 a2] w fun e w' => e = .returned (.tuple #[.int .i64 r1, .int .i64 r2, .bool r3, .int .i64 r4]) ∧ Below w.heap.size w w' := by
  unfold balance_Least.f at h
  obtain ⟨a, ha⟩ := hG.2.1 (Nat.le_refl _)
  by_cases ho : openA l0 a1 = true
  · obtain ⟨h1, h2, h3, h4⟩ := openA_parts ho
    have HO := Lib.hid (bopen_yes2 A0 c0 l0 a1 w hr0 hc0 (hG.le (by decide)) ho)
    by_cases hb : budA a2 = true
    · rw [if_pos (by rw [ho, hb]; rfl)] at h
      cases h
      unfold budA at hb
      simp only [Bool.and_eq_true, decide_eq_true_eq] at hb
      obtain ⟨N, rfl⟩ : ∃ N : Nat, a2 = N := ⟨a2.toNat, by omega⟩
      rw [lst_eq]
      have d1 : decide ((N : Int) < 1) = false := decide_eq_false (by omega)
      have d2 : decide ((1000 : Int) < N) = false := decide_eq_false (by omega)
      have ht := target_range l0 a1 h3 h4 h2
      have HL := fun g b w1 (hS : St l0 (targetA l0 a1) g b 0 A0 c0 w w1) (p1 : w.heap.size ≤ b) (p2 : b < g) => Lib.hid (least_calls A0 c0 l0 h1 h2 (targetA l0 a1) ⟨ht.1, ht.2.1⟩ g b (beginA l0 a1) rfl N (by omega) w w1 hr0 hc0 (hG.le (by decide)) hS p1 p2)
      have HLL := Lib.hid HL
      have HR := Aside0.mk hr0
      obtain ⟨X, hX⟩ : ∃ x, lstA l0 (targetA l0 a1) (beginA l0 a1) N = x := ⟨_, rfl⟩
      rw [hX] at HLL ⊢
      clear HL hr0 hG ho hb ht hX h1 h2 h3 h4
      go_enter Tryd.func29, Tryd.ntmps29
      go_wp2_with (first
        | (go_at_call 68; refine HO.out.mono ?_; rintro e w1 ⟨g, b, rfl, ⟨hS, hA⟩, hM, hb1, hb2, hb⟩; have HK := Lib.hid (HLL.out g b w1 (st_of_open HR.out hS hA hM hb) hb1 hb2); have HB := Aside0.mk hb; clear hb hM hS hA)
        | (go_at_call 71; refine HK.out.out.mono ?_; rintro e w2 ⟨rfl, hg2⟩; have HG2 := Aside0.mk hg2; clear hg2)
        | go_in)
      refine bodyPost_ret (v := .tuple #[.int .i64 X.1, .int .i64 X.2.1, .bool X.2.2, .int .i64 0]) (by simp [results, Tryd.results29]) rfl ⟨rfl, ?_⟩
      exact below_alloc (HB.out.grown HG2.out HB.out.size (fun j hj => by cases hj; exact hb1)) _
    · rw [if_neg (by rw [ho]; simpa using hb)] at h
      cases h
      have hd : decide (a2 < 1) = true ∨ (decide (a2 < 1) = false ∧ decide ((1000 : Int) < a2) = true) := by
        by_cases q : a2 < 1
        · exact .inl (decide_eq_true q)
        · refine .inr ⟨decide_eq_false q, decide_eq_true ?_⟩
          refine Int.lt_of_not_ge fun q2 => hb ?_
          unfold budA
          rw [decide_eq_true (by omega), decide_eq_true (by omega)]
          rfl
      clear hr0 hG ho hb
      rcases hd with d1 | ⟨d1, d2⟩
      all_goals
        go_enter Tryd.func29, Tryd.ntmps29
        go_wp2_with (first
          | (go_at_call 68; refine HO.out.mono ?_; rintro e w1 ⟨g, b, rfl, -, hM, hb1, hb2, hb⟩; have HB := Aside0.mk hb; have ha1 := pw_cell_below hb ha; clear hb hM)
          | (go_at_call 70; refine (told_balance a _ ha1).mono ?_; rintro e w2 ⟨rfl, rfl⟩))
        refine bodyPost_ret (v := .tuple #[.int .i64 0, .int .i64 0, .bool false, .int .i64 140]) (by simp [results, Tryd.results29]) rfl ⟨rfl, HB.out⟩
  · rw [if_neg (by simpa using fun q => absurd q ho)] at h
    cases h
    have HO := Lib.hid (bopen_no A0 c0 l0 a1 w a hr0 hc0 (by simpa using ho) ha)
    clear hr0 hG ho
    go_enter Tryd.func29, Tryd.ntmps29
    go_wp2_with (first
      | (go_at_call 68; refine HO.out.mono ?_; rintro e w1 ⟨rfl, hb⟩; have HB := Aside0.mk hb; have ha1 := pw_cell_below hb ha; clear hb)
      | (go_at_call 70; refine (told_balance a _ ha1).mono ?_; rintro e w2 ⟨rfl, rfl⟩))
    refine bodyPost_ret (v := .tuple #[.int .i64 0, .int .i64 0, .bool false, .int .i64 140]) (by simp [results, Tryd.results29]) rfl ⟨rfl, HB.out⟩

end Go.Proofs.YtjpifknencfipaaDoor.P

namespace Go.Proofs.YtjpifknencfipaaDoor.P
open Go.RowKit Go.Proofs.YtjpifknencfipaaDoorW.PrintWords Go.Proofs.YtjpifknencfipaaDoorW.PrintLast Go.Proofs.YtjpifknencfipaaDoorW.PrintMore

set_option maxHeartbeats 4000000 in
set_option maxRecDepth 100000 in
theorem bal_no (A0 : Option Addr) (c0 : Nat) (l0 : List (S32)) (a1 : Int) (a2 : Int) (a3 : Int) (w : World) (hr0 : Kd.C k32 w A0 l0.length l0) (hc0 : l0.length ≤ c0) (hG : Gl 2 w) (h : ¬ (openA l0 a1 && budA a3 && decide (0 ≤ a2) && decide (a2 ≤ 2199023255552)) = true) :
    Calls Tryd.prog 26 #[.slice A0 l0.length c0, .int .i64 a1, .int .i64 a2, .int .i64 a3] w fun e w' => e = .returned (.tuple #[.agg #[.int .i64 0, .int .i64 0, .int .i64 0, .bool false], .int .i64 140]) ∧ Below w.heap.size w w' := by
  obtain ⟨a, ha⟩ := hG.2.1 (Nat.le_refl _)
  have hal : ∀ o, (w.alloc o).cell? ⟨0, 0, none⟩ = some (.iface 186 (.pointer (some a))) := fun o => pw_cell_below (below_alloc (Below.refl _ w) o) ha
  by_cases ho : openA l0 a1 = true
  · have hd : decide (a3 < 1) = true ∨ (decide (a3 < 1) = false ∧ (decide ((1000 : Int) < a3) = true ∨ (decide ((1000 : Int) < a3) = false ∧ (decide (a2 < 0) = true ∨ (decide (a2 < 0) = false ∧ decide ((2199023255552 : Int) < a2) = true))))) := by
      simp only [decide_eq_true_eq, decide_eq_false_iff_not]
      by_cases q : a3 < 1
      · exact .inl q
      refine .inr ⟨q, ?_⟩
      by_cases q2 : 1000 < a3
      · exact .inl q2
      refine .inr ⟨q2, ?_⟩
      by_cases q3 : a2 < 0
      · exact .inl q3
      refine .inr ⟨q3, Int.lt_of_not_ge fun q4 => h ?_⟩
      unfold budA
      rw [ho, decide_eq_true (show 1 ≤ a3 by omega), decide_eq_true (show a3 ≤ 1000 by omega), decide_eq_true (show 0 ≤ a2 by omega), decide_eq_true q4]
      rfl
    have HO := fun w' (hb : Below w.heap.size w w') => Lib.hid (bopen_yes A0 c0 l0 a1 w' (Kd.C_below hr0 hb) hc0 ((hG.le (by decide)).of_below hb) ho)
    have HOO := Lib.hid HO
    clear hr0 hG ho h HO
    rcases hd with d1 | ⟨d1, d2 | ⟨d2, d3 | ⟨d3, d4⟩⟩⟩
    all_goals
      go_enter Tryd.func26, Tryd.ntmps26
      go_wp2
      refine wp_scope_follow 1 ?_
      obtain ⟨Wa, hWa⟩ : ∃ Wa, w.alloc (.cells #[.int .i64 0, .int .i64 0, .int .i64 0, .bool false] 26) = Wa := ⟨_, rfl⟩
      have hWb : Below w.heap.size w Wa := hWa ▸ below_alloc (Below.refl _ w) _
      have k8 : Wa.heap[w.heap.size]? = some (.cells #[.int .i64 0, .int .i64 0, .int .i64 0, .bool false] 26 (0, 0)) := hWa ▸ World.alloc_heap_new _ _
      rw [hWa]
      clear hWa
      go_wp2_with (first
        | (go_at_call 68; refine (HOO.out _ (below_alloc hWb _)).out.mono ?_; rintro e w1 ⟨g, b, rfl, -, hM, hb1, hb2, hb⟩; have HB := Aside0.mk hb; have ha1 := pw_cell_below hb (pw_cell_below (below_alloc hWb _) ha); have k81 := (hb.block _ (by simp; exact Nat.lt_succ_of_lt (blk_lt k8))).trans (blk_alloc k8 _); clear hb hM))
      go_step3
      refine Follow.goto 0 rfl ?_
      have r0 := (blk_cell k81 0).trans rfl
      have r1 := (blk_cell k81 1).trans rfl
      have r2 := (blk_cell k81 2).trans rfl
      have r3 := (blk_cell k81 3).trans rfl
      have rf := blk_frozen k81
      go_wp2_with (first
        | (go_at_call 70; refine (told_balance a _ ha1).mono ?_; rintro e w2 ⟨rfl, rfl⟩))
      refine Follow.ret 0 ?_
      have hb2 := (below_alloc hWb (.cells #[.int .i64 0, .int .i64 0, .int .i64 0, .bool false] 26)).trans (HB.out.mono (by have := hWb.size; simp; omega))
      refine bodyPost_ret (v := .tuple #[.agg #[.int .i64 0, .int .i64 0, .int .i64 0, .bool false], .int .i64 140]) (by simp [results, Tryd.results26, go_sem, r0, r1, r2, r3]) rfl ⟨rfl, ?_⟩
      exact below_set (below_set (below_set (below_set hb2 (Nat.le_refl _)) (Nat.le_refl _)) (Nat.le_refl _)) (Nat.le_refl _)
  · have HO := fun w' (hb : Below w.heap.size w w') => Lib.hid (bopen_no A0 c0 l0 a1 w' a (Kd.C_below hr0 hb) hc0 (by simpa using ho) (pw_cell_below hb ha))
    have HOO := Lib.hid HO
    clear hr0 hG ho h HO
    go_enter Tryd.func26, Tryd.ntmps26
    go_wp2
    refine wp_scope_follow 1 ?_
    obtain ⟨Wa, hWa⟩ : ∃ Wa, w.alloc (.cells #[.int .i64 0, .int .i64 0, .int .i64 0, .bool false] 26) = Wa := ⟨_, rfl⟩
    have hWb : Below w.heap.size w Wa := hWa ▸ below_alloc (Below.refl _ w) _
    have k8 : Wa.heap[w.heap.size]? = some (.cells #[.int .i64 0, .int .i64 0, .int .i64 0, .bool false] 26 (0, 0)) := hWa ▸ World.alloc_heap_new _ _
    rw [hWa]
    clear hWa
    go_wp2_with (first
      | (go_at_call 68; refine (HOO.out _ (below_alloc hWb _)).out.mono ?_; rintro e w1 ⟨rfl, hb⟩; have HB := Aside0.mk hb; have ha1 := pw_cell_below hb (pw_cell_below (below_alloc hWb _) ha); have k81 := (hb.block _ (by simp; exact Nat.lt_succ_of_lt (blk_lt k8))).trans (blk_alloc k8 _); clear hb))
    go_step3
    refine Follow.goto 0 rfl ?_
    have r0 := (blk_cell k81 0).trans rfl
    have r1 := (blk_cell k81 1).trans rfl
    have r2 := (blk_cell k81 2).trans rfl
    have r3 := (blk_cell k81 3).trans rfl
    have rf := blk_frozen k81
    go_wp2_with (first
      | (go_at_call 70; refine (told_balance a _ ha1).mono ?_; rintro e w2 ⟨rfl, rfl⟩))
    refine Follow.ret 0 ?_
    have hb2 := (below_alloc hWb (.cells #[.int .i64 0, .int .i64 0, .int .i64 0, .bool false] 26)).trans (HB.out.mono (by have := hWb.size; simp; omega))
    refine bodyPost_ret (v := .tuple #[.agg #[.int .i64 0, .int .i64 0, .int .i64 0, .bool false], .int .i64 140]) (by simp [results, Tryd.results26, go_sem, r0, r1, r2, r3]) rfl ⟨rfl, ?_⟩
    exact below_set (below_set (below_set (below_set hb2 (Nat.le_refl _)) (Nat.le_refl _)) (Nat.le_refl _)) (Nat.le_refl _)

set_option maxRecDepth 100000 in
theorem field87 (a b : Int) (w : World) : (Instr.field 87 (.agg #[.int .i64 a, .int .i64 b]) 1).run Tryd.prog w = .ok (.int .i64 b) w := by kernel_rfl
attribute [local go_sem] field87
theorem St.set {l : List S32} {t : Int} {g b m : Nat} {A : Option Addr} {c : Nat} {w0 w : World} (h : St l t g b m A c w0 w) {p : Addr} (hp : w0.heap.size ≤ p.block) (hg : g ≠ p.block) (hb : b ≠ p.block) (v : Value) : St l t g b m A c w0 (w.setCell p v) := by
  have hc : ∀ i, (w.setCell p v).cell? ⟨g, i, none⟩ = w.cell? ⟨g, i, none⟩ := fun i => World.cell?_of_block (a := ⟨g, i, none⟩) (Below.heap_setCell w p v g hg)
  exact ⟨h.bel.setCell hp v, (hc 0).trans h.c0, (hc 1).trans h.c1, (hc 2).trans h.c2, memo_set h.mem hb v⟩

set_option maxHeartbeats 4000000 in
set_option maxRecDepth 100000 in
theorem bal_ok (A0 : Option Addr) (c0 : Nat) (l0 : List (S32)) (a1 : Int) (a2 : Int) (a3 : Int) (w : World) (hr0 : Kd.C k32 w A0 l0.length l0) (hc0 : l0.length ≤ c0) (hG : Gl 2 w) (ho : openA l0 a1 = true) (hb : budA a3 = true) (h0 : 0 ≤ a2) (h1 : a2 ≤ 2199023255552) :
    Calls Tryd.prog 26 #[.slice A0 l0.length c0, .int .i64 a1, .int .i64 a2, .int .i64 a3] w fun e w' => e = .returned (.tuple #[.agg #[.int .i64 (lowA (leastBA l0 a1 a3).1 a2), .int .i64 (numA l0 (lowA (leastBA l0 a1 a3).1 a2)), .int .i64 (leastBA l0 a1 a3).2.1, .bool (leastBA l0 a1 a3).2.2], .int .i64 0]) ∧ Below w.heap.size w w' := by
  obtain ⟨p1, p2, p3, p4⟩ := openA_parts ho
  have hbr := begin_range p1 p2 a1 p3 p4
  have hb' := hb
  unfold budA at hb'
  simp only [Bool.and_eq_true, decide_eq_true_eq] at hb'
  have d1 : decide (a3 < 1) = false := decide_eq_false (by omega)
  have d2 : decide ((1000 : Int) < a3) = false := decide_eq_false (by omega)
  have d3 : decide (a2 < 0) = false := decide_eq_false (by omega)
  have d4 : decide ((2199023255552 : Int) < a2) = false := decide_eq_false (by omega)
  have hl : balance_Least.f l0 a1 a3 = some ((leastBA l0 a1 a3).1, (leastBA l0 a1 a3).2.1, (leastBA l0 a1 a3).2.2, 0) := by
    unfold balance_Least.f
    rw [if_pos (by rw [ho, hb]; rfl)]
  have hLr : 0 ≤ (leastBA l0 a1 a3).1 ∧ (leastBA l0 a1 a3).1 ≤ 2199023255552 := by
    have hal := all_range l0 p1
    unfold leastBA
    split
    · next h i e =>
      rcases search_spec l0 (targetA l0 a1) a3.toNat 0 (beginA l0 a1) with ⟨k, q1, q2, q3, q4⟩ | ⟨q1, q2⟩
      · rw [q2] at e
        cases e
        exact hgt_range l0 p1 (beginA l0 a1) hbr.1 (by omega) k
      · rw [q1] at e
        cases e
    · exact ⟨hal.1, by simp only; omega⟩
  obtain ⟨H, hH⟩ : ∃ x, (leastBA l0 a1 a3).1 = x := ⟨_, rfl⟩
  obtain ⟨Pn, hP⟩ : ∃ x, (leastBA l0 a1 a3).2.1 = x := ⟨_, rfl⟩
  obtain ⟨E, hE⟩ : ∃ x, (leastBA l0 a1 a3).2.2 = x := ⟨_, rfl⟩
  rw [hH, hP, hE] at hl ⊢
  rw [hH] at hLr
  have HO := fun w' (hb : Below w.heap.size w w') => Lib.hid (bopen_yes2 A0 c0 l0 a1 w' (Kd.C_below hr0 hb) hc0 ((hG.le (by decide)).of_below hb) ho)
  have HOO := Lib.hid HO
  have HL := fun w' (hb : Below w.heap.size w w') => Lib.hid (balance_Least.calls A0 c0 l0 a1 a3 H Pn E 0 w' (Kd.C_below hr0 hb) hc0 (hG.of_below hb) hl)
  have HLL := Lib.hid HL
  have HAT := fun g b m w' h (hS : St l0 (targetA l0 a1) g b m A0 c0 w w') (hm : m ≤ 1000) (hr : 0 ≤ h ∧ h ≤ 2199023255552) => Lib.hid (at_calls l0 p1 (targetA l0 a1) g b m h w' (hS.search hr0 hc0) hS.mem (by unfold maxLen; omega) ((hG.le (by decide)).of_below hS.bel) (by omega))
  have HATT := Lib.hid HAT
  have HR := Aside0.mk hr0
  obtain ⟨t, ht⟩ : ∃ x, targetA l0 a1 = x := ⟨_, rfl⟩
  rw [ht] at HOO HATT
  clear hr0 hG ho hb HO HL HAT hl hb' hH hP hE ht
  go_enter Tryd.func26, Tryd.ntmps26
  go_wp2
  refine wp_scope_follow 1 ?_
  obtain ⟨Wa, hWa⟩ : ∃ Wa, w.alloc (.cells #[.int .i64 0, .int .i64 0, .int .i64 0, .bool false] 26) = Wa := ⟨_, rfl⟩
  have hWb : Below w.heap.size w Wa := hWa ▸ below_alloc (Below.refl _ w) _
  have hWs : Wa.heap.size = w.heap.size + 1 := by rw [← hWa]; simp
  have k8 : Wa.heap[w.heap.size]? = some (.cells #[.int .i64 0, .int .i64 0, .int .i64 0, .bool false] 26 (0, 0)) := hWa ▸ World.alloc_heap_new _ _
  rw [hWa]
  have HWS := Lib.hid hWs
  clear hWa hWs
  go_upto_region 4 with (first
    | (go_at_call 68; refine (HOO.out _ (below_alloc hWb _)).out.mono ?_; rintro e w1 ⟨g, b, rfl, ⟨hS, hA⟩, hM, hb1, hb2, hb⟩; have HB := Aside0.mk hb; have HS := Aside0.mk hS; have HA := Aside0.mk hA; have HM := Aside0.mk hM; clear hb hM hS hA))
  have hbA := below_alloc hWb (.cells #[.int .i64 0, .int .i64 0, .int .i64 0, .bool false] 26)
  have hb1w : Below w.heap.size w w1 := hbA.trans (HB.out.mono hbA.size)
  have hSt1 := st_of_open HR.out HS.out HA.out HM.out hb1w
  have k10 : w1.heap[Wa.heap.size]? = some (.cells #[.int .i64 0, .int .i64 0, .int .i64 0, .bool false] 26 (0, 0)) := (HB.out.block _ (by simp)).trans (World.alloc_heap_new Wa _)
  have k81 : w1.heap[w.heap.size]? = some (.cells #[.int .i64 0, .int .i64 0, .int .i64 0, .bool false] 26 (0, 0)) := (HB.out.block _ (by simp; exact Nat.lt_succ_of_lt (blk_lt k8))).trans (blk_alloc k8 _)
  have hbb : Wa.heap.size < b := by simp at hb1; omega
  have hWa2 : w.heap.size < Wa.heap.size := blk_lt k8
  obtain ⟨B10, hB10⟩ : ∃ x, Wa.heap.size = x := ⟨_, rfl⟩
  rw [hB10] at k10 hbb hWa2 ⊢
  have HST1 := Aside0.mk hSt1
  clear hSt1 HB HS HA HM hb1 hbA k8 hWb HWS hB10
  go_upto_region 6 with (first
    | (go_at_call 29; refine (HLL.out _ hb1w).out.mono ?_; rintro e w2 ⟨rfl, hb⟩; have HB2 := Aside0.mk hb; have q10 := (hb.block _ (blk_lt k10)).trans k10; have q8 := (hb.block _ (blk_lt k81)).trans k81; have r0 := (blk_cell q10 0).trans rfl; have r1 := (blk_cell q10 1).trans rfl; have r2 := (blk_cell q10 2).trans rfl; have r3 := (blk_cell q10 3).trans rfl; have rf := blk_frozen q10; clear hb))
  have hSt2 := HST1.out.keep HB2.out HST1.out.lt hb2 (by omega)
  have hS3 := ((hSt2.set (p := ⟨B10, 0, none⟩) (by simp; omega) (by simp; omega) (by simp; omega) (.int .i64 H)).set (p := ⟨B10, 2, none⟩) (by simp; omega) (by simp; omega) (by simp; omega) (.int .i64 Pn)).set (p := ⟨B10, 3, none⟩) (by simp; omega) (by simp; omega) (by simp; omega) (.bool E)
  have z10 := blk_put (blk_put (blk_put q10 0 (.int .i64 H) rfl) 2 (.int .i64 Pn) rfl) 3 (.bool E) rfl
  have z8 := (Below.heap_setCell _ ⟨B10, 3, none⟩ (.bool E) w.heap.size (by simp; omega)).trans ((Below.heap_setCell _ ⟨B10, 2, none⟩ (.int .i64 Pn) w.heap.size (by simp; omega)).trans ((Below.heap_setCell w2 ⟨B10, 0, none⟩ (.int .i64 H) w.heap.size (by simp; omega)).trans q8))
  have esz : (((w2.setCell ⟨B10, 0, none⟩ (.int .i64 H)).setCell ⟨B10, 2, none⟩ (.int .i64 Pn)).setCell ⟨B10, 3, none⟩ (.bool E)).heap.size = w2.heap.size := by simp
  generalize (((w2.setCell ⟨B10, 0, none⟩ (.int .i64 H)).setCell ⟨B10, 2, none⟩ (.int .i64 Pn)).setCell ⟨B10, 3, none⟩ (.bool E)) = W3 at hS3 z10 z8 esz ⊢
  rw [← esz]
  have hSt4 := hS3.keep (below_alloc (Below.refl _ W3) (.cells #[.int .i64 0, .int .i64 0] 87)) hS3.lt hb2 (by omega)
  have y10 := blk_alloc z10 (.cells #[.int .i64 0, .int .i64 0] 87)
  have y8 := blk_alloc z8 (.cells #[.int .i64 0, .int .i64 0] 87)
  have y13 := World.alloc_heap_new W3 (.cells #[.int .i64 0, .int .i64 0] 87)
  obtain ⟨B13, h13⟩ : ∃ x, W3.heap.size = x := ⟨_, rfl⟩
  have hg13 := hS3.lt
  rw [h13] at y13 hg13 ⊢
  generalize W3.alloc (.cells #[.int .i64 0, .int .i64 0] 87) = W4 at hSt4 y10 y8 y13 ⊢
  have HST := Aside0.mk hSt4
  have Y10 := Aside0.mk y10
  have Y8 := Aside0.mk y8
  have Y13 := Aside0.mk y13
  clear hSt2 hS3 z10 z8 esz q10 q8 r0 r1 r2 r3 rf k10 k81 HB2 HST1 hSt4 y10 y8 y13 h13
  go_cut [60] (fun v60 wc => ∃ (q : Bool) (m : Nat), v60 = .bool q ∧ m ≤ 1 ∧ Aside0 (St l0 t g b m A0 c0 w wc) ∧ Aside0 (wc.heap[B10]? = some (.cells #[.int .i64 H, .int .i64 0, .int .i64 Pn, .bool E] 26 (0, 0))) ∧ Aside0 (wc.heap[w.heap.size]? = some (.cells #[.int .i64 0, .int .i64 0, .int .i64 0, .bool false] 26 (0, 0))) ∧ Aside0 (if q = true then 0 < a2 else lowA H a2 = H))
  case first =>
    by_cases hpos : 0 < a2
    · have hSd := HST.out.keep (pw_below_drewN (Below.refl _ W4) 1) HST.out.lt hb2 (by omega)
      have hHK := Lib.hid (HATT.out g b 0 (W4.drewN 1) H hSd (by omega) hLr)
      have HSD := Aside0.mk hSd
      have hlg := HST.out.lt
      obtain ⟨Nn, hNn⟩ : ∃ x, numA l0 H = x := ⟨_, rfl⟩
      rw [hNn] at hHK
      have hn0 : 0 ≤ Nn := hNn ▸ (num_range l0 H).1
      clear hSd hNn
      have e0 : W4.cell? ⟨B13, 0, none⟩ = some (.int .i64 0) := (blk_cell Y13.out 0).trans rfl
      have e1 : W4.cell? ⟨B13, 1, none⟩ = some (.int .i64 0) := (blk_cell Y13.out 1).trans rfl
      have e10 : W4.cell? ⟨B10, 0, none⟩ = some (.int .i64 H) := (blk_cell Y10.out 0).trans rfl
      by_cases hH0 : H = 0
      · subst hH0
        by_cases hN0 : Nn = 0
        · subst hN0
          go_region_with (first
          | (go_at_call 69; refine hHK.out.out.mono ?_; rintro e w5 ⟨rfl, hM5, hg5⟩; have HM5 := Aside0.mk hM5; have HG5 := Aside0.mk hg5; have v13 := (hg5.block B13 (blk_lt Y13.out) (by simp; omega)).trans Y13.out; have v10 := (hg5.block B10 (blk_lt Y10.out) (by simp; omega)).trans Y10.out; have e0' : w5.cell? ⟨B13, 0, none⟩ = some (.int .i64 0) := (blk_cell v13 0).trans rfl; have e1' : w5.cell? ⟨B13, 1, none⟩ = some (.int .i64 0) := (blk_cell v13 1).trans rfl; have e10' : w5.cell? ⟨B10, 0, none⟩ = some (.int .i64 0) := (blk_cell v10 0).trans rfl; have V10 := Aside0.mk v10; clear hM5 hg5 v13 v10))
          all_goals
            go_wp2_with fail
            go_meet
            exact ⟨false, 1, rfl, by omega, ⟨HSD.out.grow HG5.out HM5.out.memo (by omega) hb2⟩, V10, ⟨(HG5.out.block _ (blk_lt Y8.out) (by simp; omega)).trans Y8.out⟩, ⟨by simp [lowA]; omega⟩⟩
        · have q1 : ((0 : Int) == Nn) = false := by simp; omega
          have q2 : ¬ (0 : Int) = Nn := fun e => hN0 e.symm
          go_region_with (first
          | (go_at_call 69; refine hHK.out.out.mono ?_; rintro e w5 ⟨rfl, hM5, hg5⟩; have HM5 := Aside0.mk hM5; have HG5 := Aside0.mk hg5; have v13 := (hg5.block B13 (blk_lt Y13.out) (by simp; omega)).trans Y13.out; have v10 := (hg5.block B10 (blk_lt Y10.out) (by simp; omega)).trans Y10.out; have e0' : w5.cell? ⟨B13, 0, none⟩ = some (.int .i64 0) := (blk_cell v13 0).trans rfl; have e1' : w5.cell? ⟨B13, 1, none⟩ = some (.int .i64 0) := (blk_cell v13 1).trans rfl; have e10' : w5.cell? ⟨B10, 0, none⟩ = some (.int .i64 0) := (blk_cell v10 0).trans rfl; have V10 := Aside0.mk v10; clear hM5 hg5 v13 v10))
          all_goals
            go_wp2_with fail
            go_meet
            exact ⟨true, 1, rfl, by omega, ⟨HSD.out.grow HG5.out HM5.out.memo (by omega) hb2⟩, V10, ⟨(HG5.out.block _ (blk_lt Y8.out) (by simp; omega)).trans Y8.out⟩, ⟨by simpa using hpos⟩⟩
      · have q1 : ((0 : Int) == H) = false := by simp; omega
        have q2 : ¬ (0 : Int) = H := fun e => hH0 e.symm
        go_region_with (first
        | (go_at_call 69; refine hHK.out.out.mono ?_; rintro e w5 ⟨rfl, hM5, hg5⟩; have HM5 := Aside0.mk hM5; have HG5 := Aside0.mk hg5; have v13 := (hg5.block B13 (blk_lt Y13.out) (by simp; omega)).trans Y13.out; have v10 := (hg5.block B10 (blk_lt Y10.out) (by simp; omega)).trans Y10.out; have e0' : w5.cell? ⟨B13, 0, none⟩ = some (.int .i64 0) := (blk_cell v13 0).trans rfl; have e1' : w5.cell? ⟨B13, 1, none⟩ = some (.int .i64 0) := (blk_cell v13 1).trans rfl; have e10' : w5.cell? ⟨B10, 0, none⟩ = some (.int .i64 H) := (blk_cell v10 0).trans rfl; have V10 := Aside0.mk v10; clear hM5 hg5 v13 v10))
        all_goals
          go_wp2_with fail
          go_meet
          exact ⟨true, 1, rfl, by omega, ⟨HSD.out.grow HG5.out HM5.out.memo (by omega) hb2⟩, V10, ⟨(HG5.out.block _ (blk_lt Y8.out) (by simp; omega)).trans Y8.out⟩, ⟨by simpa using hpos⟩⟩
    · have hd : decide (0 < a2) = false := decide_eq_false hpos
      have e10 : W4.cell? ⟨B10, 0, none⟩ = some (.int .i64 H) := (blk_cell Y10.out 0).trans rfl
      go_quiet (fail)
      go_wp2_with fail
      go_meet
      rename_i nq
      exact ⟨false, 0, rfl, by omega, ⟨HST.out.keep (pw_below_drewN (Below.refl _ W4) nq) HST.out.lt hb2 (by omega)⟩, Y10, Y8, ⟨by simp only [Bool.false_eq_true, if_false]; unfold lowA; rw [if_neg (by omega)]⟩⟩
  case rest =>
    obtain ⟨q, m, rfl, hm, HS6, Z10, Z8, HQ⟩ := hcut
    have e0 : wc.cell? ⟨B10, 0, none⟩ = some (.int .i64 H) := (blk_cell Z10.out 0).trans rfl
    have ef := blk_frozen Z10.out
    cases q with
    | false =>
      have hlow : lowA H a2 = H := by simpa using HQ.out
      have HLW := Lib.hid hlow
      have hK6 := Lib.hid (HATT.out g b m wc H HS6.out (by omega) hLr)
      clear hlow HQ
      go_wp2_with (first
        | (go_at_call 69; refine hK6.out.out.mono ?_; rintro e w6 ⟨rfl, hM6, hg6⟩; have v10 := (hg6.block B10 (blk_lt Z10.out) (by simp; omega)).trans Z10.out; have v8 := (hg6.block w.heap.size (blk_lt Z8.out) (by simp; omega)).trans Z8.out; have s0 : w6.cell? ⟨B10, 0, none⟩ = some (.int .i64 H) := (blk_cell v10 0).trans rfl; have s1 : w6.cell? ⟨B10, 1, none⟩ = some (.int .i64 0) := (blk_cell v10 1).trans rfl; have s2 : w6.cell? ⟨B10, 2, none⟩ = some (.int .i64 Pn) := (blk_cell v10 2).trans rfl; have s3 : w6.cell? ⟨B10, 3, none⟩ = some (.bool E) := (blk_cell v10 3).trans rfl; have t0 := (blk_cell v8 0).trans rfl; have t1 := (blk_cell v8 1).trans rfl; have t2 := (blk_cell v8 2).trans rfl; have t3 := (blk_cell v8 3).trans rfl; have f10 := blk_frozen v10; have f8 := blk_frozen v8; have HG6 := Aside0.mk hg6; clear hM6 hg6 v10 v8))
      refine Follow.ret 1 ?_
      have hbE := (HS6.out.bel.grown HG6.out HS6.out.bel.size (fun j hj => by cases hj; omega))
      refine bodyPost_ret (v := .tuple #[.agg #[.int .i64 H, .int .i64 (numA l0 H), .int .i64 Pn, .bool E], .int .i64 0]) (by simp [results, Tryd.results26, go_sem, t0, t1, t2, t3]) rfl ⟨by rw [HLW.out], ?_⟩
      exact below_set (below_set (below_set (below_set (below_set hbE (show w.heap.size ≤ B10 by omega)) (Nat.le_refl _)) (Nat.le_refl _)) (Nat.le_refl _)) (Nat.le_refl _)
    | true =>
      have hpos : 0 < a2 := by simpa using HQ.out
      obtain ⟨M, hM⟩ : ∃ x, lowA H a2 = x := ⟨_, rfl⟩
      have hM2 : min H a2 = M := by rw [← hM]; unfold lowA; rw [if_pos hpos]
      have eM : (if a2 < H then a2 else H) = M := by rw [← hM2]; split <;> omega
      have hMr : 0 ≤ M ∧ M ≤ 2199023255552 := by omega
      have HLW := Lib.hid hM
      have hS7 := HS6.out.set (p := ⟨B10, 0, none⟩) (by simp; omega) (by simp; omega) (by simp; omega) (.int .i64 M)
      have hK6 := Lib.hid (HATT.out g b m _ M hS7 (by omega) hMr)
      have Z10' := Aside0.mk (blk_put Z10.out 0 (.int .i64 M) rfl)
      have Z8' := Aside0.mk ((Below.heap_setCell wc ⟨B10, 0, none⟩ (.int .i64 M) w.heap.size (by simp; omega)).trans Z8.out)
      have HS7 := Aside0.mk hS7
      clear hM hM2 hS7 HQ
      go_wp2_with (first
        | (go_at_call 69; refine hK6.out.out.mono ?_; rintro e w6 ⟨rfl, hM6, hg6⟩; have v10 := (hg6.block B10 (blk_lt Z10'.out) (by simp; omega)).trans Z10'.out; have v8 := (hg6.block w.heap.size (blk_lt Z8'.out) (by simp; omega)).trans Z8'.out; have s0 : w6.cell? ⟨B10, 0, none⟩ = some (.int .i64 M) := (blk_cell v10 0).trans rfl; have s1 : w6.cell? ⟨B10, 1, none⟩ = some (.int .i64 0) := (blk_cell v10 1).trans rfl; have s2 : w6.cell? ⟨B10, 2, none⟩ = some (.int .i64 Pn) := (blk_cell v10 2).trans rfl; have s3 : w6.cell? ⟨B10, 3, none⟩ = some (.bool E) := (blk_cell v10 3).trans rfl; have t0 := (blk_cell v8 0).trans rfl; have t1 := (blk_cell v8 1).trans rfl; have t2 := (blk_cell v8 2).trans rfl; have t3 := (blk_cell v8 3).trans rfl; have f10 := blk_frozen v10; have f8 := blk_frozen v8; have HG6 := Aside0.mk hg6; clear hM6 hg6 v10 v8))
      refine Follow.ret 1 ?_
      have hbE := (HS7.out.bel.grown HG6.out HS7.out.bel.size (fun j hj => by cases hj; omega))
      refine bodyPost_ret (v := .tuple #[.agg #[.int .i64 M, .int .i64 (numA l0 M), .int .i64 Pn, .bool E], .int .i64 0]) (by simp [results, Tryd.results26, go_sem, t0, t1, t2, t3]) rfl ⟨by rw [HLW.out], ?_⟩
      exact below_set (below_set (below_set (below_set (below_set hbE (show w.heap.size ≤ B10 by omega)) (Nat.le_refl _)) (Nat.le_refl _)) (Nat.le_refl _)) (Nat.le_refl _)

theorem balance_Balance.calls (A0 : Option Addr) (c0 : Nat) (l0 : List (S32)) (a1 : Int) (a2 : Int) (a3 : Int) (r1 : Int) (r2 : Int) (r3 : Int) (r4 : Bool) (r5 : Int) (w : World) (hr0 : Kd.C k32 w A0 l0.length l0) (hc0 : l0.length ≤ c0) (hG : Gl 2 w) (h : balance_Balance.f l0 a1 a2 a3 = some (r1, r2, r3, r4, r5)) :
    Calls Tryd.prog 26 #[.slice A0 l0.length c0, .int .i64 a1, .int .i64 a2, .int .i64 a3] w fun e w' => e = .returned (.tuple #[.agg #[.int .i64 r1, .int .i64 r2, .int .i64 r3, .bool r4], .int .i64 r5]) ∧ Below w.heap.size w w' := by
  unfold balance_Balance.f at h
  by_cases hf : (openA l0 a1 && budA a3 && decide (0 ≤ a2) && decide (a2 ≤ 2199023255552)) = true
  · rw [if_pos hf] at h
    cases h
    simp only [Bool.and_eq_true, decide_eq_true_eq] at hf
    exact bal_ok A0 c0 l0 a1 a2 a3 w hr0 hc0 hG hf.1.1.1 hf.1.1.2 hf.1.2 hf.2
  · rw [if_neg hf] at h
    cases h
    exact bal_no A0 c0 l0 a1 a2 a3 w hr0 hc0 hG hf

end Go.Proofs.YtjpifknencfipaaDoor.P
