/- fill.Heights: its walk, given the library's sort. Conditions: the slice reads as the list; the sentinel. · slices.Sort at []int64: the kit's contract, laid at this program. Conditions: none. -/
import Derived.Test.YtjpifknencfipaaDoorLo
import Derived.Sort.OwnSortedInts
import Derived.Maps.AppendAt
import Derived.Shelf.SortM.Plain
import Derived.Shelf.SortM.SortNone
import Derived.Shelf.SlGeneric
import Derived.Ground.SlgmProg
set_option linter.unusedVariables false
set_option linter.unusedSimpArgs false
namespace Go.Proofs.YtjpifknencfipaaDoor.P
open Go.RowKit Go.Maps Go.Sort Go.Proofs.YtjpifknencfipaaDoorW.PrintWords Go.Proofs.YtjpifknencfipaaDoorW.PrintLast Go.Proofs.YtjpifknencfipaaDoorW.PrintMore

/-- slices.Sort at []int64. -/
def SortI : Prop :=
  (∀ (blk off cap : Nat) (zs : List Int) (w : World), Holds (Value.int .i64) w blk off zs.toArray → blk < w.heap.size → zs.length < 4611686018427387904 →
    Calls Tryd.prog 90 #[.slice (some ⟨blk, off, none⟩) zs.length cap] w fun e w' => e = .returned (.tuple #[]) ∧ ∃ n os, w' = grow (putRow (Value.int .i64) (Sort.ahead w n) blk off (zs.mergeSort fun x y => decide (x ≤ y)).toArray) os) ∧
  (∀ (p : Option Addr) (cap : Nat) (w : World), Calls Tryd.prog 90 #[.slice p 0 cap] w fun e w' => e = .returned (.tuple #[]) ∧ w' = w)

set_option maxHeartbeats 2000000 in
set_option maxRecDepth 100000 in
theorem heights_no (A : Option Addr) (c : Nat) (l : List S32) (w : World) (hr : Kd.C k32 w A l.length l) (hc : l.length ≤ c) (hG : Gl 1 w) (hf : ¬ (rightA l = true ∧ l.length ≤ 200)) :
    Calls Tryd.prog 64 #[.slice A l.length c] w fun e w' => e = .returned (.tuple #[.slice none 0 0, .int .i64 130]) ∧ Below w.heap.size w w' := by
  obtain ⟨a, ha⟩ := hG.1
  cases h1 : rightA l with
  | false =>
    have HO := Lib.hid (open_no A c l 0 w a hr hc (by simp [fineA, h1]) ha)
    have hn : l.length ≤ 9223372036854775807 := hr.2.1
    clear hr hc hG hf h1
    go_enter Tryd.func64, Tryd.ntmps64
    go_wp2_with (first | (go_at_call 83; refine HO.out.mono ?_; rintro e w1 ⟨rfl, hb⟩; have HB := Aside0.mk hb; have ha1 := pw_cell_below hb ha; clear hb) | (go_at_call 84; refine (told_fill a _ ha1).mono ?_; rintro e w2 ⟨rfl, rfl⟩))
    go_ret2
    exact ⟨rfl, HB.out⟩
  | true =>
    have HO := Lib.hid (open_yes A c l 0 w hr hc (by simp [fineA, h1]))
    have hn : l.length ≤ 9223372036854775807 := hr.2.1
    have hlen : (200 : Int) < (l.length : Int) := by
      have : ¬ l.length ≤ 200 := fun h => hf ⟨h1, h⟩
      omega
    clear hr hc hG hf h1
    go_enter Tryd.func64, Tryd.ntmps64
    go_wp2_with (first | (go_at_call 83; refine HO.out.mono ?_; rintro e w1 ⟨g, rfl, hF, hg, hb⟩; have HB := Aside0.mk hb; have ha1 := pw_cell_below hb ha; clear hb hF) | (go_at_call 84; refine (told_fill a _ ha1).mono ?_; rintro e w2 ⟨rfl, rfl⟩))
    go_ret2
    exact ⟨rfl, HB.out⟩

theorem World.grownBy.trans_drewN {wr w4 : World} {n : Nat} {row : Option Nat} (h : (wr.drewN n).grownBy w4 row) : wr.grownBy w4 row := ⟨h.os, h.tape, h.output, h.size, h.block⟩
set_option maxRecDepth 100000 in
theorem inv2 : ∀ key kl, keyOf Tryd.prog 2 key = some kl → ∃ x, key = Value.int .i64 x := fun key kl h => by
  obtain ⟨x, rfl, _⟩ := Maps.keyOf_int_inv Tryd.underlying2 h
  exact ⟨x, rfl⟩
theorem own_far {w : World} {base k : Nat} {e : TypeId} {size n : Nat} {v : Value} {xs : List Value} (h : w.ownsRow base e size v n xs) (hk : k < base) : v.ownBlock ≠ some k := fun e => by
  have := own_base h k e
  omega

set_option maxHeartbeats 4000000 in
set_option maxRecDepth 100000 in
theorem heights_yes (hsort : SortI) (A : Option Addr) (c : Nat) (l : List S32) (w : World) (hr : Kd.C k32 w A l.length l) (hc : l.length ≤ c) (hl : rightA l = true) (hln : l.length ≤ 200) :
    Calls Tryd.prog 64 #[.slice A l.length c] w fun e w' => ∃ v : Value, e = .returned (.tuple #[v, .int .i64 0]) ∧ w'.ownsRow w.heap.size 2 1 v (heightsA l).length ((heightsA l).map (Value.int .i64)) ∧ Below w.heap.size w w' := by
  have HO := Lib.hid (open_yes A c l 0 w hr hc (by simp [fineA, hl]))
  have HC := Aside0.mk hr
  have hmm := @run_makeMap Tryd.prog
  have law2 : Keyed Tryd.prog 2 := int_keyed Tryd.underlying2
  have hi0 := info2
  obtain ⟨i0, hi2, hz0, hz1, hz2⟩ : ∃ i0, Tryd.prog.info? 2 = some i0 ∧ i0.zero = some (.int .i64 0) ∧ i0.size = 1 ∧ i0.bytes = 8 := by
    cases hx : Tryd.prog.info? 2 with
    | none => rw [hx] at hi0; cases hi0
    | some i0 =>
      rw [hx] at hi0
      simp only [Option.map_some, Option.some.injEq, Prod.mk.injEq] at hi0
      exact ⟨i0, rfl, hi0.1, hi0.2.1, hi0.2.2⟩
  clear hi0
  clear hr hc
  go_enter Tryd.func64, Tryd.ntmps64
  go_wp2_with (first
    | (go_at_call 83; refine HO.out.mono ?_; rintro e w1 ⟨g, rfl, hF, hg, hb⟩; have HF := Aside0.mk hF; have HB := Aside0.mk hb; clear hb hF; obtain ⟨w2, hins, hown0, hgr0⟩ := (World.ownsMap_made (H := Unit) w1 Tryd.prog 2 (plainElem Tryd.prog 4)).update law2 Tryd.underlying124 (by unfold maxLen; omega) (keyOf_int_mk Tryd.underlying2 (a := 0) (q := .i64) rfl) (plainElem_bool Tryd.underlying4 true); have HM0 := Aside0.mk hown0; have HG0 := Aside0.mk hgr0; clear hown0 hgr0)
    | go_in)
  go_loopw [30] (fun p wr => ∃ i : Nat, p = .int .i64 i ∧ i ≤ l.length ∧ Aside0 (wr.ownsMap Tryd.prog 2 (plainElem Tryd.prog 4) w1.heap.size (keysA l i 0).length (setI (keysA l i 0))) ∧ Aside0 (RowKit.Below w1.heap.size w1 wr)) (fun p _ => l.length - (intOf p).toNat)
  case atStart => exact ⟨0, rfl, Nat.zero_le _, HM0, ⟨((Below.refl _ w1).alloc (Nat.le_refl _) _).grown HG0.out (by simp) (fun j hj => by cases hj; exact Nat.le_refl _)⟩⟩
  case round =>
    obtain ⟨i, rfl, hi, HM, HBr⟩ := hrel
    have hmx : (keysA l i 0).length < maxLen := by have := keys_len l hln i 0 hi (Nat.zero_le _); unfold maxLen; omega
    by_cases hlt : i < l.length
    · have HCr := Kd.C_below HC.out (HB.out.trans (HBr.out.mono HB.out.size))
      obtain ⟨ad, rfl, x0, x1, x2, x3, x4⟩ := atom_cells HCr i hlt
      have hhi := hi_range hl i (i + 1) (by omega) hlt
      have hH1 := hi_one l i
      obtain ⟨h, hh⟩ : ∃ h, hhA l i = h := ⟨_, rfl⟩
      rw [hh] at x2
      have hwf := Aside0.mk (show (Lit.int .i64 h).wf = true from WalkArith.wf_i64 (by omega))
      have HS := Lib.hid (keys_succ l i 0)
      have HH := Lib.hid (hH1.trans hh)
      clear HCr x0 x1 x3 x4 hhi hH1 hh
      go_wp2_with (first
        | (at_mapUpdate; refine wpList_mapUpdate_own _ rfl _ _ _ 124 rfl 2 4 law2 Tryd.underlying124 (plainElem (H := Unit) Tryd.prog 4) w1.heap.size _ _ rfl HM.out hmx _ _ _ rfl rfl (keyOf_int_mk Tryd.underlying2 hwf.out) _ [] (plainElem_bool Tryd.underlying4 true) ?_; intro w3 hown3 hgrow3; have HM3 := Aside0.mk hown3; have HG3 := Aside0.mk hgrow3; clear hown3 hgrow3)
        | go_in)
      have HBw3 := Aside0.mk (HBr.out.grown HG3.out HBr.out.size (fun j hj => by cases hj; exact Nat.le_refl _))
      have hw3 : w1.heap.size ≤ w3.heap.size := HBw3.out.size
      go_loopw [8, 9] (fun nv kv wx => ∃ d : Nat, nv = .int .i64 (hiA l i (i + 1 + d)) ∧ kv = .int .i64 ((i + 1 + d : Nat) : Int) ∧ i + 1 + d ≤ l.length ∧ Aside0 (wx.ownsMap Tryd.prog 2 (plainElem Tryd.prog 4) w1.heap.size (keysA l i (d + 1)).length (setI (keysA l i (d + 1)))) ∧ Aside0 (RowKit.Below w1.heap.size w1 wx)) (fun _ kv _ => l.length - (intOf kv).toNat)
      case atStart =>
        refine ⟨0, by rw [HH.out], by simp, by omega, ⟨?_⟩, HBw3⟩
        have := HM3.out
        rw [HS.out, setI_snoc, List.length_append]
        rw [show i + 0 + 1 = i + 1 from rfl, HH.out]
        exact this
      case round =>
        obtain ⟨d, rfl, rfl, hd, HMd, HBx⟩ := hrel
        have hmd : (keysA l i (d + 1)).length < maxLen := by have := keys_len l hln i (d + 1) hi (by omega); unfold maxLen; omega
        by_cases hlt2 : i + 1 + d < l.length
        · have HFx := Lib.hid (HF.out.below (HBx.out.mono (Nat.le_refl _)))
          have hst := Lib.hid (step_calls l hl g (i + 1 + d) wr HFx.out.1 hlt2)
          have hb1 := hi_range hl i (i + 1 + d) (by omega) hd
          have hb2 := hi_range hl i (i + 1 + d + 1) (by omega) (by omega)
          have hb3 := hi_succ l i (i + 1 + d)
          have HS2 := Lib.hid (keys_succ l i (d + 1))
          have HE : Hid (i + (d + 1) + 1 = i + 1 + d + 1) := Lib.hid (by omega)
          have HE2 : Hid (i + 1 + (d + 1) = i + 1 + d + 1) := Lib.hid (by omega)
          obtain ⟨x, hx⟩ : ∃ x, hiA l i (i + 1 + d) = x := ⟨_, rfl⟩
          obtain ⟨y, hy⟩ : ∃ y, hiA l i (i + 1 + d + 1) = y := ⟨_, rfl⟩
          obtain ⟨z, hz⟩ : ∃ z, stA l (i + 1 + d) = z := ⟨_, rfl⟩
          rw [hx] at hb1
          rw [hy] at hb2
          rw [hx, hy, hz] at hb3
          rw [hz] at hst
          have hwf2 := Aside0.mk (show (Lit.int .i64 (x + z)).wf = true from WalkArith.wf_i64 (by omega))
          have HY := Lib.hid hy
          have HYE := Lib.hid hb3
          rw [hx]
          clear HFx hy hz hx
          go_wp2_with (first
            | (go_at_call 89; refine hst.out.mono ?_; rintro e w5 ⟨rfl, nn, rfl⟩)
            | (at_mapUpdate; refine wpList_mapUpdate_own _ rfl _ _ _ 124 rfl 2 4 law2 Tryd.underlying124 (plainElem (H := Unit) Tryd.prog 4) w1.heap.size _ _ rfl HMd.out hmd _ _ _ rfl rfl (keyOf_int_mk Tryd.underlying2 hwf2.out) _ [] (plainElem_bool Tryd.underlying4 true) ?_; intro w4 hown4 hgrow4; have HM4 := Aside0.mk hown4; have HG4 := Aside0.mk hgrow4; clear hown4 hgrow4)
            | go_in)
          have hm4 := HM4.out
          have hg4 := HG4.out
          refine ⟨⟨d + 1, by rw [HE2.out, HY.out, HYE.out], by rw [HE2.out]; push_cast; rfl, by omega, ⟨?_⟩, ⟨HBx.out.grown (World.grownBy.trans_drewN hg4) HBx.out.size (fun j hj => by cases hj; exact Nat.le_refl _)⟩⟩, by simp only [intOf]; omega⟩
          rw [HS2.out, setI_snoc, List.length_append, HE.out, HY.out, HYE.out]
          exact hm4
        · have hde : i + 1 + d = l.length := by omega
          have HKN := Lib.hid (keys_next l i)
          have HDE : Hid (l.length - i = d + 1) := Lib.hid (by omega)
          go_wp2
          go_roundw
          case rel => exact ⟨i + 1, by go_num, by omega, ⟨by rw [HKN.out, HDE.out]; exact HMd.out⟩, HBx⟩
          case measure => simp [intOf]; omega
    · have hie : i = l.length := by omega
      subst hie
      go_wp2_with (first
        | (at_range; refine wpList_range_own _ rfl _ 124 rfl 2 4 law2 Tryd.underlying124 _ w1.heap.size _ _ rfl HM.out ?_; intro w0 hrg0 hg0 hs0; have HR0 := Aside0.mk hrg0; have HGr := Aside0.mk hg0; clear hrg0 hg0)
        | go_in)
      go_frame
      obtain ⟨r, hr⟩ : ∃ r, wr.heap.size = r := ⟨_, rfl⟩
      have hrw : w1.heap.size ≤ r := hr ▸ HBr.out.size
      have hmr : w1.heap.size < r := hr ▸ HM.out.lt
      rw [hr] at HR0 hs0 ⊢
      have hsz := HM.out.size_le
      have HBr0 := Aside0.mk (HBr.out.grown HGr.out HBr.out.size (fun j hj => by cases hj))
      obtain ⟨D, hD⟩ : ∃ D, setI (keysA l l.length 0) = D := ⟨_, rfl⟩
      have HD := Lib.hid hD
      rw [hD] at HR0 hsz
      have hkl := keys_len l hln l.length 0 (Nat.le_refl _) (Nat.zero_le _)
      obtain ⟨nk, hnk⟩ : ∃ nk, (keysA l l.length 0).length = nk := ⟨_, rfl⟩
      rw [hnk] at HR0 hsz hkl
      clear hD HM hmx HGr hr
      go_loopw [10] (fun v wr => ∃ (left : Lit → Bool) (cnt : Nat) (ss : List Int), Aside0 (wr.ranges Tryd.prog 2 (plainElem Tryd.prog 4) w1.heap.size r nk D left cnt) ∧ Aside0 (CollI D left ss) ∧ ss.length + cnt ≤ nk ∧ Aside0 (wr.ownsRow (r + 1) 2 1 v ss.length (ss.map (Value.int .i64))) ∧ Aside0 (RowKit.Below w1.heap.size w1 wr) ∧ r + 1 ≤ wr.heap.size) (fun _ wr => wr.rangeLeft w1.heap.size r)
      case atStart => exact ⟨_, _, [], HR0, ⟨CollI.start D⟩, by simpa using hsz, ⟨own_nil _ _ _ _⟩, HBr0, by omega⟩
      case round =>
        obtain ⟨left, cnt, ss, HR, HCo, hcs, HRow, HBx, hrx⟩ := hrel
        go_wp2_with (first
          | (at_next; refine wpList_next_ranges _ rfl _ rfl 2 law2 (plainElem Tryd.prog 4) (Value.int .i64) (fun c : Value => c) inv2 (fun v y _ => ⟨v, rfl⟩) w1.heap.size r nk D left cnt rfl HR.out ?_ ?_)
          | go_in)
        · intro hc0 hl0
          have HSO := Lib.hid (CollI.done (HD.out ▸ HCo.out) hl0)
          rcases HRow.out.2 with ⟨rfl, hz⟩ | ⟨g2, cap, cur, rfl, hbase, hgb, r1, r2, r3, r4⟩
          · have hss : ss = [] := List.eq_nil_of_length_eq_zero hz
            subst hss
            have hH0 : heightsA l = [] := by rw [← HSO.out]; simp
            go_wp2_with (first
              | (go_at_call 90; refine (hsort.2 none 0 _).mono ?_; rintro e w' ⟨rfl, rfl⟩)
              | go_in)
            go_ret2
            exact ⟨_, rfl, by rw [hH0]; exact own_nil _ _ _ _, HB.out.trans (HBx.out.mono HB.out.size)⟩
          · have hH : Holds (Value.int .i64) wr g2 0 ss.toArray := holds_of_blockI hgb (by simpa using r4)
            have hgl : g2 < wr.heap.size := (Array.getElem?_eq_some_iff.1 hgb).1
            have hso0 := hsort.1 g2 0 cap ss wr hH hgl (by omega)
            have hlen : (heightsA l).length = ss.length := by rw [← HSO.out]; simp
            rw [HSO.out] at hso0
            have hso := Lib.hid hso0
            clear hso0
            have HX := Aside0.mk (And.intro hgb (And.intro r1 (And.intro r2 r3)))
            clear hH hgb r1 r2 r3 r4
            go_wp2_with (first
              | (go_at_call 90; refine hso.out.mono ?_; rintro e w' ⟨rfl, n, os, rfl⟩)
              | go_in)
            go_ret2
            have h1 := ownsRow_sortedI (n := n) (os := os) hlen hbase HX.out.1 HX.out.2.1 HX.out.2.2.1 HX.out.2.2.2
            have hb6 := HB.out.trans ((HBx.out.grown (grownBy_sortedI (g := g2) (n := n) (os := os) (heightsA l).toArray) HBx.out.size (fun j hj => by cases hj; omega)).mono HB.out.size)
            refine ⟨.slice (some ⟨g2, 0, none⟩) ss.length cap, rfl, ?_, hb6⟩
            rw [hlen]
            exact own_weaken h1 (by have := HB.out.size; omega)
        · intro x c kl yd yp w5 cnt2 hkey hlk hv hat hrg2 hlt2 hg2 hs2 hen
          obtain ⟨x', ex, rfl, hwx⟩ := Maps.keyOf_int_inv Tryd.underlying2 hkey
          cases ex
          have HR5 := Aside0.mk hrg2
          have HC5 := Aside0.mk (HCo.out.step hlk hat)
          have hrow5 := HRow.out.kept hg2 (.inr (own_far HRow.out (by omega)))
          have HB5 := Aside0.mk (HBx.out.grown hg2 HBx.out.size (fun j hj => by cases hj; omega))
          have hrx5 : r + 1 ≤ w5.heap.size := by omega
          have hm3 : ∀ o, r + 1 ≤ (w5.alloc o).heap.size := fun o => by simp; omega
          have hm1 : ss.length + 1 ≤ maxLen := by unfold maxLen; omega
          have hm2 : (ss.length + 1) * 8 ≤ 140737488355328 := by omega
          have HLT := Lib.hid hlt2
          have HLE := Lib.hid (HR.out.left_eq)
          have HROW := Aside0.mk hrow5
          clear hs2 hkey hlk hv hat hrg2 hg2 hrow5 HR HCo HRow HBx hrx hrx5
          go_wp2_with (first
            | (at_builtin; refine wpList_append_own _ rfl _ _ 38 rfl (r + 1) 2 i0 (.int .i64 0) 1 8 Tryd.underlying38 hi2 hz0 hz1 hz2 rfl (by decide) _ _ _ rfl (HROW.out.alloc _) ⟨w5.heap.size, 0, none⟩ 1 1 [.int .i64 x] rfl rfl (cell_one_new _ _ _) (by simp [Value.oneCell']) hm1 hm2 (hm3 _) ?_; intro v' w6 hown6 hgrow6 _; have HO6 := Aside0.mk hown6; have HG6 := Aside0.mk hgrow6; clear hown6 hgrow6)
            | go_in)
          have hrow5 := HROW.out
          have hHR6 := (HR5.out.alloc (.cells #[.int .i64 x] 2)).kept HG6.out (own_far hrow5 (by omega)).symm (own_far hrow5 (by omega)).symm
          have hB6 := (HB5.out.alloc HB5.out.size (.cells #[.int .i64 x] 2)).grown HG6.out (by simp; exact Nat.le_succ_of_le HB5.out.size) (fun j hj => by have := own_base hrow5 j hj; omega)
          have hs6 : r + 1 ≤ w6.heap.size := Nat.le_trans (hm3 _) HG6.out.size
          go_roundw
          case rel =>
            refine ⟨_, cnt2, ss ++ [x], ⟨hHR6⟩, HC5, by have := HLT.out; simp; omega, ⟨?_⟩, ⟨hB6⟩, hs6⟩
            rw [List.length_append, List.map_append]
            exact HO6.out
          case measure => rw [hHR6.left_eq, HLE.out]; exact HLT.out

end Go.Proofs.YtjpifknencfipaaDoor.P

namespace Go.Proofs
open Go.RowKit Go.Sort Go.Shelf Go.Proofs.YtjpifknencfipaaDoorW.PrintWords Go.Proofs.YtjpifknencfipaaDoorW.PrintLast Go.Proofs.YtjpifknencfipaaDoorW.PrintMore
def Tryd.sort90_ren : Go.Shelf.Ren := ⟨fun | 5 => 90 | 8 => 107 | 7 => 106 | 19 => 124 | 20 => 125 | 10 => 115 | 11 => 116 | 12 => 117 | 13 => 118 | 14 => 119 | 15 => 120 | 16 => 121 | 17 => 122 | 18 => 123 | 30 => 126 | 31 => 127 | 32 => 128 | 33 => 129 | 34 => 130 | 35 => 131 | 40 => 132 | n => n, fun | 23 => 38 | 25 => 2 | 3 => 3 | 32 => 146 | 22 => 38 | 0 => 0 | 44 => 164 | 46 => 166 | 4 => 4 | 36 => 157 | 35 => 156 | 41 => 133 | 5 => 5 | 9 => 9 | 53 => 178 | 57 => 182 | 63 => 184 | 64 => 121 | n => n, fun | n => n⟩
theorem Tryd.sort90 : Go.Proofs.SlLaysM.n5 Tryd.prog Tryd.sort90_ren := {
  mixed := by kernel_rfl
  f5 := ⟨Tryd.f90.name, by decide, Tryd.func90.trans (congrArg some (by kernel_rfl))⟩
  f7 := ⟨Tryd.f106.name, by decide, Tryd.func106.trans (congrArg some (by kernel_rfl))⟩
  f8 := Tryd.func107.trans (congrArg some (by kernel_rfl))
  f10 := ⟨Tryd.f115.name, by decide, Tryd.func115.trans (congrArg some (by kernel_rfl))⟩
  f11 := ⟨Tryd.f116.name, by decide, Tryd.func116.trans (congrArg some (by kernel_rfl))⟩
  f12 := ⟨Tryd.f117.name, by decide, Tryd.func117.trans (congrArg some (by kernel_rfl))⟩
  f13 := ⟨Tryd.f118.name, by decide, Tryd.func118.trans (congrArg some (by kernel_rfl))⟩
  f14 := ⟨Tryd.f119.name, by decide, Tryd.func119.trans (congrArg some (by kernel_rfl))⟩
  f15 := ⟨Tryd.f120.name, by decide, Tryd.func120.trans (congrArg some (by kernel_rfl))⟩
  f16 := ⟨Tryd.f121.name, by decide, Tryd.func121.trans (congrArg some (by kernel_rfl))⟩
  f17 := ⟨Tryd.f122.name, by decide, Tryd.func122.trans (congrArg some (by kernel_rfl))⟩
  f18 := ⟨Tryd.f123.name, by decide, Tryd.func123.trans (congrArg some (by kernel_rfl))⟩
  f19 := Tryd.func124.trans (congrArg some (by kernel_rfl))
  f20 := Tryd.func125.trans (congrArg some (by kernel_rfl))
  f30 := ⟨Tryd.f126.name, by decide, Tryd.func126.trans (congrArg some (by kernel_rfl))⟩
  f31 := Tryd.func127.trans (congrArg some (by kernel_rfl))
  f32 := Tryd.func128.trans (congrArg some (by kernel_rfl))
  f33 := ⟨Tryd.f129.name, by decide, Tryd.func129.trans (congrArg some (by kernel_rfl))⟩
  f34 := ⟨Tryd.f130.name, by decide, Tryd.func130.trans (congrArg some (by kernel_rfl))⟩
  f35 := ⟨Tryd.f131.name, by decide, Tryd.func131.trans (congrArg some (by kernel_rfl))⟩
  f40 := ⟨Tryd.f132.name, by decide, Tryd.func132.trans (congrArg some (by kernel_rfl))⟩
  t0 := Tryd.underlying0
  a0 := Tryd.isAgg0
  z0 := Tryd.sizeOf0
  v0 := Tryd.zeroValue0
  t3 := Tryd.underlying3
  a3 := Tryd.isAgg3
  z3 := Tryd.sizeOf3
  v3 := Tryd.zeroValue3
  t4 := Tryd.underlying4
  a4 := Tryd.isAgg4
  z4 := Tryd.sizeOf4
  v4 := Tryd.zeroValue4
  t5 := Tryd.underlying5
  a5 := Tryd.isAgg5
  z5 := Tryd.sizeOf5
  v5 := Tryd.zeroValue5
  t9 := Tryd.underlying9
  a9 := Tryd.isAgg9
  z9 := Tryd.sizeOf9
  v9 := Tryd.zeroValue9
  t22 := Tryd.underlying38
  a22 := Tryd.isAgg38
  z22 := Tryd.sizeOf38
  v22 := Tryd.zeroValue38
  t23 := Tryd.underlying38
  a23 := Tryd.isAgg38
  z23 := Tryd.sizeOf38
  v23 := Tryd.zeroValue38
  t25 := Tryd.underlying2
  a25 := Tryd.isAgg2
  z25 := Tryd.sizeOf2
  v25 := Tryd.zeroValue2
  t32 := Tryd.underlying146
  a32 := Tryd.isAgg146
  z32 := Tryd.sizeOf146
  v32 := Tryd.zeroValue146
  t35 := Tryd.underlying156
  a35 := Tryd.isAgg156
  z35 := Tryd.sizeOf156
  v35 := Tryd.zeroValue156
  t36 := Tryd.underlying157
  a36 := Tryd.isAgg157
  z36 := Tryd.sizeOf157
  v36 := Tryd.zeroValue157
  t41 := Tryd.underlying133
  a41 := Tryd.isAgg133
  z41 := Tryd.sizeOf133
  v41 := Tryd.zeroValue133
  t44 := Tryd.underlying164
  a44 := Tryd.isAgg164
  z44 := Tryd.sizeOf164
  v44 := Tryd.zeroValue164
  t46 := Tryd.underlying166
  a46 := Tryd.isAgg166
  z46 := Tryd.sizeOf166
  v46 := Tryd.zeroValue166
  t53 := Tryd.underlying178
  a53 := Tryd.isAgg178
  z53 := Tryd.sizeOf178
  v53 := Tryd.zeroValue178
  t57 := Tryd.underlying182
  a57 := Tryd.isAgg182
  z57 := Tryd.sizeOf182
  v57 := Tryd.zeroValue182
  t63 := Tryd.underlying184
  a63 := Tryd.isAgg184
  z63 := Tryd.sizeOf184
  v63 := Tryd.zeroValue184
  t64 := Tryd.underlying121
  a64 := Tryd.isAgg121
  z64 := Tryd.sizeOf121
  v64 := Tryd.zeroValue121 }
namespace YtjpifknencfipaaDoor.P
theorem sortI : SortI := ⟨fun blk off cap zs w hH hb hl => AnyM.slices_Sort_int Tryd.sort90 blk off cap zs w hH hb hl, fun p cap w => AnyM.slices_Sort_int_none Tryd.sort90 p cap w⟩

theorem fill_Heights.calls (A0 : Option Addr) (c0 : Nat) (l0 : List (S32)) (r1 : List Int) (r2 : Int) (w : World) (hr0 : Kd.C k32 w A0 l0.length l0) (hc0 : l0.length ≤ c0) (hG : Gl 1 w) (h : fill_Heights.f l0 = some (r1, r2)) :
    Calls Tryd.prog 64 #[.slice A0 l0.length c0] w fun e w' => ∃ v0_ : Value, e = .returned (.tuple #[v0_, .int .i64 r2]) ∧ Kd.R (Kd.int .i64) 2 w' w.heap.size (fun _ => True) v0_ r1 ∧ Below w.heap.size w w' := by
  unfold fill_Heights.f at h
  split at h
  · next hf =>
    cases h
    refine (heights_yes sortI A0 c0 l0 w hr0 hc0 hf.1 hf.2).mono ?_
    rintro e w' ⟨v, rfl, ho, hb⟩
    exact ⟨v, rfl, Kd.R_of_own ho (fun _ _ => trivial), hb⟩
  · next hf =>
    cases h
    refine (heights_no A0 c0 l0 w hr0 hc0 hG hf).mono ?_
    rintro e w' ⟨rfl, hb⟩
    exact ⟨_, rfl, Kd.R_nil _ _ _ _ _, hb⟩
end YtjpifknencfipaaDoor.P
end Go.Proofs
