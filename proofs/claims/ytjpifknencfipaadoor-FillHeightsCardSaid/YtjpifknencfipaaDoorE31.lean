/- The reference's Heights: its walk. Conditions: the slice reads as the list. -/
import Derived.Test.YtjpifknencfipaaDoorLw
import Derived.Test.YtjpifknencfipaaDoorP72
import Derived.Deep.RegionLaw
set_option linter.unusedVariables false
set_option linter.unusedSimpArgs false
namespace Go.Proofs.YtjpifknencfipaaDoor.P
open Go.RowKit Go.Proofs.YtjpifknencfipaaDoorW.PrintWords Go.Proofs.YtjpifknencfipaaDoorW.PrintLast Go.Proofs.YtjpifknencfipaaDoorW.PrintMore

/-- Where a number is in a list, or would be. -/
def posA (x : Int) : List Int → Nat
  | [] => 0
  | y :: ys => if y < x then posA x ys + 1 else 0
theorem pos_le (x : Int) : ∀ t : List Int, posA x t ≤ t.length
  | [] => Nat.le_refl _
  | y :: ys => by
    unfold posA
    split
    · have := pos_le x ys
      simp
      exact this
    · exact Nat.zero_le _
theorem ins_pos (x : Int) : ∀ t : List Int, (posA x t < t.length ∧ t.getD (posA x t) 0 = x ∧ insA x t = t) ∨ ((posA x t < t.length → t.getD (posA x t) 0 ≠ x) ∧ insA x t = t.take (posA x t) ++ [x] ++ t.drop (posA x t))
  | [] => .inr ⟨fun h => by simp at h, by simp [insA, posA]⟩
  | y :: ys => by
    unfold posA insA
    by_cases h1 : y < x
    · rw [if_pos h1, if_neg (by omega), if_neg (by omega)]
      rcases ins_pos x ys with ⟨q1, q2, q3⟩ | ⟨q1, q2⟩
      · refine .inl ⟨by simpa using q1, ?_, by rw [q3]⟩
        rw [List.getD_cons_succ]
        exact q2
      · refine .inr ⟨fun q => ?_, by rw [q2]; simp⟩
        rw [List.getD_cons_succ]
        exact q1 (by simpa using q)
    · rw [if_neg h1]
      by_cases h2 : x < y
      · rw [if_pos h2]
        exact .inr ⟨fun _ => by simp; omega, by simp⟩
      · rw [if_neg h2, if_pos (by omega)]
        exact .inl ⟨by simp, by simp; omega, rfl⟩
theorem in_l0 (t : List Int) (x : Int) (hn : t.length ≤ 9223372036854775807) (d : Nat) : ∀ (k i : Nat), i ≤ t.length → t.length - i = d → d < k → gutterref14_in.l0 k t x (i : Int) = some ((i + posA x (t.drop i) : Nat) : Int) := by
  induction d with
  | zero =>
    intro k i h0 hd hk
    obtain ⟨k, rfl⟩ : ∃ m, k = m + 1 := ⟨k - 1, by omega⟩
    simp only [gutterref14_in.l0]
    rw [if_neg (by omega), List.drop_eq_nil_of_le (by omega)]
    simp [posA]
  | succ d ih =>
    intro k i h0 hd hk
    obtain ⟨k, rfl⟩ : ∃ m, k = m + 1 := ⟨k - 1, by omega⟩
    have hlt : i < t.length := by omega
    have hrd : rd t (i : Int) = t[i] := by simp [rd, List.getD_eq_getElem?_getD, List.getElem?_eq_getElem hlt]
    simp only [gutterref14_in.l0]
    rw [if_pos (by omega), if_pos (by omega), hrd, wrap64_succ (n := t.length) (by omega) (by omega) hn, show ((i : Int) + 1) = ((i + 1 : Nat) : Int) by push_cast; rfl, List.drop_eq_getElem_cons hlt, ih k (i + 1) (by omega) (by omega) (by omega)]
    have e : posA x (t[i] :: t.drop (i + 1)) = if t[i] < x then posA x (t.drop (i + 1)) + 1 else 0 := rfl
    rw [e]
    by_cases h1 : t[i] < x
    · rw [if_pos h1, if_pos h1, show i + 1 + posA x (t.drop (i + 1)) = i + (posA x (t.drop (i + 1)) + 1) by omega]
    · rw [if_neg h1, if_neg h1]
      simp
theorem in_f (t : List Int) (x : Int) (hn : t.length ≤ 9223372036854775807) : gutterref14_in.f (t.length + 1) t x = some (posA x t : Int) := by
  unfold gutterref14_in.f
  have := in_l0 t x hn t.length (t.length + 1) 0 (by omega) (by omega) (by omega)
  simpa using this

/-- All heights after i whole rounds and d steps of the next. -/
def htsA (l : List S32) (i d : Nat) : List Int := (pairsA l i ++ runsA l i d).foldl (fun t x => insA x t) [0]
theorem hts_zero (l : List S32) : htsA l 0 0 = [0] := rfl
theorem hts_succ (l : List S32) (i d : Nat) : htsA l i (d + 1) = insA (hiA l i (i + d + 1)) (htsA l i d) := by
  unfold htsA
  rw [runsA, ← List.append_assoc, List.foldl_append]
  rfl
theorem hts_next (l : List S32) (i : Nat) : htsA l (i + 1) 0 = htsA l i (l.length - i) := by simp [htsA, runsA, pairsA]
theorem hts_end (l : List S32) : htsA l l.length 0 = heightsA l := by simp [htsA, runsA, heightsA]
theorem insA_len' (x : Int) : ∀ t : List Int, (insA x t).length ≤ t.length + 1
  | [] => by simp [insA]
  | y :: ys => by
    unfold insA
    split
    · simp
    · split
      · simp
      · have := insA_len' x ys
        simp
        exact this
theorem fold_len' : ∀ (xs t : List Int), (xs.foldl (fun t x => insA x t) t).length ≤ t.length + xs.length
  | [], t => by simp
  | x :: xs, t => by
    have h1 := fold_len' xs (insA x t)
    have h2 := insA_len' x t
    rw [List.foldl_cons, List.length_cons]
    omega
theorem hts_len (l : List S32) (hl : l.length ≤ 200) (i d : Nat) (hi : i ≤ l.length) (hd : d ≤ l.length) : (htsA l i d).length ≤ 40401 := by
  have h1 := fold_len' (pairsA l i ++ runsA l i d) [0]
  have h2 := keys_len l hl i d hi hd
  unfold htsA
  unfold keysA at h2
  simp only [List.length_cons, List.length_append, List.length_nil] at h1 h2
  omega

theorem tab31 : rtab .any (opsOf Tryd.f31 17) = rtab .any (opsOf Tryd.f31 17) := rfl
theorem reads_grown {W W1 : World} {N : Int} {ad : Addr} (h : ReadsRow (fun x cs => cs = [Value.int .i64 x]) 1 W (some ad) 1 [N]) (hg : W.grownBy W1 none) : ReadsRow (fun x cs => cs = [Value.int .i64 x]) 1 W1 (some ad) 1 [N] := by
  have hb : Below W.heap.size W W1 := ⟨hg.os, hg.tape, hg.output, hg.size, fun k hk => hg.block k hk (by simp)⟩
  have h' : (Kd.int .i64).C W (some ad) 1 [N] := h
  exact Kd.C_below h' hb

set_option maxHeartbeats 8000000 in
set_option maxRecDepth 100000 in
theorem rheights_yes (A : Option Addr) (c : Nat) (l : List S32) (w : World) (hr : Kd.C k32 w A l.length l) (hc : l.length ≤ c) (hl : rightA l = true) (hln : l.length ≤ 200) :
    Calls Tryd.prog 31 #[.slice A l.length c] w fun e w' => ∃ v : Value, e = .returned (.tuple #[v, .int .i64 0]) ∧ Kd.R (Kd.int .i64) 2 w' w.heap.size (fun _ => True) v (heightsA l) ∧ Below w.heap.size w w' := by
  have hrf := ref_right l (by omega) (k := l.length + 1) (by omega)
  rw [hl] at hrf
  have HRT := Lib.hid (gutterref13_Right.calls (l.length + 1) A c l true w hr hc hrf)
  have HC := Aside0.mk hr
  clear hr hrf
  go_enter Tryd.func31, Tryd.ntmps31
  go_wp2_with (go_at_call 27; refine HRT.out.mono ?_; rintro e w1 ⟨rfl, hb⟩; have HB1 := Aside0.mk hb; clear hb)
  go_loopw [4, 5] (fun v p wr => ∃ i : Nat, p = .int .i64 i ∧ i ≤ l.length ∧ Aside0 (Kd.R (Kd.int .i64) 2 wr w.heap.size (fun _ => True) v (htsA l i 0)) ∧ Aside0 (Below w.heap.size w wr)) (fun _ p _ => l.length - (intOf p).toNat)
  case atStart => exact ⟨0, rfl, Nat.zero_le _, ⟨Kd.R_of_own (own_lit w1 w.heap.size 2 .i64 [0] HB1.out.size (by simp)) (fun _ _ => trivial)⟩, ⟨below_alloc HB1.out _⟩⟩
  case round =>
    obtain ⟨i, rfl, hi, HO, HB⟩ := hrel
    by_cases hlt : i < l.length
    · go_wp2
      go_loopw [4, 6, 7] (fun v nv kv wx => ∃ d : Nat, kv = .int .i64 ((i + d : Nat) : Int) ∧ i + d ≤ l.length ∧ nv = .int .i64 (if d = 0 then 0 else hiA l i (i + d)) ∧ Aside0 (Kd.R (Kd.int .i64) 2 wx w.heap.size (fun _ => True) v (htsA l i d)) ∧ Aside0 (Below w.heap.size w wx)) (fun _ _ kv _ => l.length - (intOf kv).toNat)
      case atStart => exact ⟨0, by simp, by omega, rfl, HO, HB⟩
      case round =>
        obtain ⟨d, rfl, hd, rfl, HOd, HBd⟩ := hrel
        by_cases hlt2 : i + d < l.length
        · obtain ⟨ad, rfl, x0, x1, x2, x3, x4⟩ := atom_cells (Kd.C_below HC.out HBd.out) (i + d) hlt2
          have hh := hh_of hl (i + d) hlt2
          have hb2 := hi_range hl i (i + d + 1) (by omega) (by omega)
          have hs := hi_succ l i (i + d)
          have hst : stA l (i + d) = spA l (i + d) + hhA l (i + d) := rfl
          have HSC := Lib.hid (hts_succ l i d)
          have HLN := Lib.hid (hts_len l hln i d hi (by omega))
          obtain ⟨A1, c1, rfl, hc1, hC1⟩ := Kd.R_reads HOd.out
          obtain ⟨N1, hN1⟩ : ∃ x, hiA l i (i + d + 1) = x := ⟨_, rfl⟩
          obtain ⟨T, hT⟩ : ∃ x, htsA l i d = x := ⟨_, rfl⟩
          rw [hN1] at hb2 hs HSC
          rw [hT] at HSC HOd hc1 hC1 HLN ⊢
          obtain ⟨p, hp⟩ : ∃ x, posA N1 T = x := ⟨_, rfl⟩
          have hpl := pos_le N1 T
          have hin := in_f T N1 (by have := HLN.out; omega)
          have hins := ins_pos N1 T
          rw [hp] at hpl hin hins
          have HIN := Lib.hid (gutterref14_in.calls (T.length + 1) A1 c1 T N1 p wr hC1 hc1 hin)
          have HC1 := Aside0.mk hC1
          have HINS := Lib.hid hins
          have H40 := HLN.out
          obtain ⟨Hh, hHh⟩ : ∃ x, hhA l (i + d) = x := ⟨_, rfl⟩
          obtain ⟨S, hS⟩ : ∃ x, spA l (i + d) = x := ⟨_, rfl⟩
          rw [hHh] at x2 hh hst
          rw [hS] at x3 hh hst
          clear hin hins hC1 hT hp
          go_upto_if 34 with (fail)
          go_cut [6] (fun v6 wc => v6 = .int .i64 (N1 - Hh) ∧ wc = wr)
          case first =>
            by_cases hz : d = 0
            · have hz0 : ¬ ((i : Int) < (i : Int) + (d : Int)) := by omega
              have e1 : N1 - Hh = 0 := by
                have h1 := hi_one l i
                rw [hz] at hN1 hHh
                rw [Nat.add_zero] at hN1 hHh
                omega
              rw [if_pos hz]
              clear hz
              have E1 := Lib.hid e1
              clear e1 hs
              go_wp2_with fail
              go_meet
              exact ⟨by rw [E1.out], rfl⟩
            · have hz0 : ((i : Int) < (i : Int) + (d : Int)) := by omega
              have hb1 := hi_range hl i (i + d) (by omega) (by omega)
              obtain ⟨N0, hN0⟩ : ∃ x, hiA l i (i + d) = x := ⟨_, rfl⟩
              rw [hN0] at hb1 hs
              rw [if_neg hz, hN0]
              have E1 : Hid (N0 + S = N1 - Hh) := Lib.hid (by omega)
              clear hz hs
              go_wp2_with fail
              go_meet
              exact ⟨by rw [E1.out], rfl⟩
          case rest =>
            obtain ⟨rfl, rfl⟩ := hcut
            have e2 : N1 - Hh + Hh = N1 := by omega
            clear hs hst
            go_upto_region 15 with (go_at_call 72; refine HIN.out.mono ?_; rintro e w3 ⟨rfl, hd3⟩; have HD3 := Aside0.mk hd3; clear hd3)
            have hR3 := Kd.R_below HOd.out HD3.out.below
            have hC3 := Kd.C_below HC1.out HD3.out.below
            have hB3 : Below w.heap.size w w3 := HBd.out.trans (HD3.out.below.mono HBd.out.size)
            have HR3 := Aside0.mk hR3
            have HC3 := Aside0.mk hC3
            have HB3 := Aside0.mk hB3
            clear hR3 hB3 HD3 HOd HBd HC1 x0 x1 x2 x3 x4 hb2 hh e2
            rcases HINS.out with ⟨q1, q2, q3⟩ | ⟨q1, q2⟩
            · obtain ⟨ad2, rfl, y0⟩ := Kd.at_int hC3 (p : Int) (by omega) (by omega)
              have hrd : rd T (p : Int) = N1 := by simp [rd]; exact q2
              rw [hrd, Int.toNat_natCast] at y0
              have hlt3 : (p : Int) < (T.length : Int) := by omega
              have HSC2 : Hid (htsA l i (d + 1) = T) := Lib.hid (HSC.out.trans q3)
              clear q2 q3 hrd hC3
              go_wp2
              go_roundw
              case rel => exact ⟨d + 1, by go_num, by omega, by rw [if_neg (by omega)]; congr 1; exact hN1.symm, by rw [HSC2.out]; exact HR3, HB3⟩
              case measure => simp [intOf]; omega
            · have HSC2 : Hid (htsA l i (d + 1) = T.take p ++ [N1] ++ T.drop p) := Lib.hid (HSC.out.trans q2)
              clear q2
              have hi0 := info2
              obtain ⟨i0, hi2, hz1⟩ : ∃ i0, Tryd.prog.info? 2 = some i0 ∧ i0.size = 1 := by
                cases hx : Tryd.prog.info? 2 with
                | none => rw [hx] at hi0; cases hi0
                | some i0 =>
                  rw [hx] at hi0
                  simp only [Option.map_some, Option.some.injEq, Prod.mk.injEq] at hi0
                  exact ⟨i0, rfl, hi0.2.1⟩
              clear hi0
              go_cut [63] (fun v63 wc => v63 = .bool false ∧ wc = w3)
              case first =>
                by_cases hlt3 : p < T.length
                · obtain ⟨ad2, rfl, y0⟩ := Kd.at_int hC3 (p : Int) (by omega) (by omega)
                  have hne : rd T (p : Int) ≠ N1 := by simp only [rd, Int.toNat_natCast]; exact q1 hlt3
                  obtain ⟨V, hV⟩ : ∃ x, rd T (p : Int) = x := ⟨_, rfl⟩
                  rw [hV] at hne y0
                  rw [Int.toNat_natCast] at y0
                  have hlt4 : (p : Int) < (T.length : Int) := by omega
                  have hb0 : (V == N1) = false := by simpa using hne
                  clear hC3 q1 hV
                  go_wp2_with fail
                  go_meet
                  exact ⟨rfl, rfl⟩
                · have hlt4 : ¬ (p : Int) < (T.length : Int) := by omega
                  clear hC3 q1
                  go_wp2_with fail
                  go_meet
                  exact ⟨rfl, rfl⟩
              case rest =>
                obtain ⟨rfl, rfl⟩ := hcut
                have hct := cut_to (P := Tryd.prog) 38 2 .i64 Tryd.underlying38 hi2 A1 T.length c1 (p : Int) (by omega) (by omega) hc1
                have hcf := cut_from (P := Tryd.prog) 38 2 .i64 Tryd.underlying38 hi2 1 hz1 A1 T.length c1 (p : Int) (by omega) (by omega)
                rw [Int.toNat_natCast] at hct hcf
                obtain ⟨A2, hA2⟩ : ∃ x, (if c1 = p then A1 else A1.map (·.add (p * 1))) = x := ⟨_, rfl⟩
                rw [hA2] at hcf
                have htk : ∀ W', Below wc.heap.size wc W' → ReadsRow (fun x cs => cs = [Value.int .i64 x]) 1 W' A1 p (T.take p) := fun W' hb => by
                  have := Kd.C_take (Kd.C_below hC3 hb) hpl
                  rwa [List.length_take, Nat.min_eq_left hpl] at this
                have hdr : ∀ W', Below wc.heap.size wc W' → ReadsRow (fun x cs => cs = [Value.int .i64 x]) 1 W' A2 (T.length - p) (T.drop p) := fun W' hb => by
                  have := Kd.C_drop (Kd.C_below hC3 hb) hpl hc1
                  rw [List.length_drop] at this
                  rw [← hA2]
                  exact this
                have hnew : ∀ W' : World, ReadsRow (fun x cs => cs = [Value.int .i64 x]) 1 (W'.alloc (.cells #[.int .i64 N1] 2)) (some ⟨W'.heap.size, 0, none⟩) 1 [N1] := fun W' => by
                  have hR : (Kd.int .i64).R 2 (W'.alloc (.cells #[.int .i64 N1] 2)) W'.heap.size (fun _ => True) (.slice (some ⟨W'.heap.size, 0, none⟩) 1 1) [N1] := Kd.R_of_own (own_lit W' W'.heap.size 2 .i64 [N1] (Nat.le_refl _) (by simp)) (fun _ _ => trivial)
                  exact (Kd.R_reads' hR).2.2
                have HTK := Lib.hid htk
                have HDR := Lib.hid hdr
                have HNEW := Lib.hid hnew
                have hp40 : p ≤ 40401 := by omega
                have htl : (T.take p).length = p := by rw [List.length_take]; omega
                have HTL := Lib.hid htl
                clear htk hdr hnew hC3 q1 hA2 htl
                go_upto_region 17 with (fail)
                have hB3s := HB3.out.size
                refine start_ (n := 13) (S := fun _ => True) (ds := []) #[false, false, false, false, false, false, false, false, false, false, false, false, false] (by kernel_rfl) rfl rfl trivial (fun hHeld => ?_); refine with_tab tab31 (fun HT_ => ?_)
                have HBd := Aside0.mk (below_drew1 (Below.refl wc.heap.size wc))
                obtain ⟨wd, hwd⟩ : ∃ x, wc.drew = x := ⟨_, rfl⟩
                rw [hwd] at HBd ⊢
                clear hwd
                refine pure_ (i := 0) (N := some 64) (v := ?_) (a' := ?_) #[true, false, false, false, false, false, false, false, false, false, false, false, false] rfl rfl (any_of HT_.out (by kernel_rfl)) (fun _ _ _ h => h) (Or.inl ⟨by rfl, ?_⟩) ?_ ?_
                rotate_left
                · intro w'
                  go_simp
                  with_reducible rfl
                rotate_left
                · simp only [Act.put, List.setIfInBounds_toArray, List.set_cons_zero, List.set_cons_succ]
                  rfl
                refine pure_ (i := 1) (N := some 65) (v := ?_) (a' := ?_) #[true, true, false, false, false, false, false, false, false, false, false, false, false] rfl rfl (any_of HT_.out (by kernel_rfl)) (fun _ _ _ h => h) (Or.inl ⟨by rfl, ?_⟩) ?_ ?_
                rotate_left
                · intro w'
                  go_simp
                  with_reducible rfl
                rotate_left
                · simp only [Act.put, List.setIfInBounds_toArray, List.set_cons_zero, List.set_cons_succ]
                  rfl
                refine pure_ (i := 2) (N := some 66) (v := ?_) (a' := ?_) #[true, true, true, false, false, false, false, false, false, false, false, false, false] rfl rfl (any_of HT_.out (by kernel_rfl)) (fun _ _ _ h => h) (Or.inl ⟨by rfl, ?_⟩) ?_ ?_
                rotate_left
                · intro w'
                  go_simp
                  with_reducible rfl
                rotate_left
                · simp only [Act.put, List.setIfInBounds_toArray, List.set_cons_zero, List.set_cons_succ]
                  rfl
                refine pure_ (i := 3) (N := some 67) (v := ?_) (a' := ?_) #[true, true, true, true, false, false, false, false, false, false, false, false, false] rfl rfl (any_of HT_.out (by kernel_rfl)) (fun _ _ _ h => h) (Or.inl ⟨by rfl, ?_⟩) ?_ ?_
                rotate_left
                · intro w'
                  go_simp
                  with_reducible rfl
                rotate_left
                · simp only [Act.put, List.setIfInBounds_toArray, List.set_cons_zero, List.set_cons_succ]
                  rfl
                refine pure_ (i := 5) (N := some 69) (v := ?_) (a' := ?_) #[true, true, true, true, false, true, false, false, false, false, false, false, false] rfl rfl (any_of HT_.out (by kernel_rfl)) (fun _ _ _ h => h) (Or.inl ⟨by rfl, ?_⟩) ?_ ?_
                rotate_left
                · intro w'
                  go_simp
                  with_reducible rfl
                rotate_left
                · simp only [Act.put, List.setIfInBounds_toArray, List.set_cons_zero, List.set_cons_succ]
                  rfl
                refine pure_ (i := 8) (N := some 72) (v := ?_) (a' := ?_) #[true, true, true, true, false, true, false, false, true, false, false, false, false] rfl rfl (any_of HT_.out (by kernel_rfl)) (fun _ _ _ h => h) (Or.inl ⟨by rfl, ?_⟩) ?_ ?_
                rotate_left
                · intro w'
                  go_simp
                  with_reducible rfl
                rotate_left
                · simp only [Act.put, List.setIfInBounds_toArray, List.set_cons_zero, List.set_cons_succ]
                  rfl
                refine pure_ (i := 9) (N := some 73) (v := ?_) (a' := ?_) #[true, true, true, true, false, true, false, false, true, true, false, false, false] rfl rfl (any_of HT_.out (by kernel_rfl)) (fun _ _ _ h => h) (Or.inl ⟨by rfl, ?_⟩) ?_ ?_
                rotate_left
                · intro w'
                  go_simp
                  with_reducible rfl
                rotate_left
                · simp only [Act.put, List.setIfInBounds_toArray, List.set_cons_zero, List.set_cons_succ]
                  rfl
                refine pure_ (i := 10) (N := some 74) (v := ?_) (a' := ?_) #[true, true, true, true, false, true, false, false, true, true, true, false, false] rfl rfl (any_of HT_.out (by kernel_rfl)) (fun _ _ _ h => h) (Or.inl ⟨by rfl, ?_⟩) ?_ ?_
                rotate_left
                · intro w'
                  go_simp
                  with_reducible rfl
                rotate_left
                · simp only [Act.put, List.setIfInBounds_toArray, List.set_cons_zero, List.set_cons_succ]
                  rfl
                refine two_ (i := 4) (j := 6) (Ni := some 68) (Nj := some 70) #[true, true, true, true, true, true, false, false, true, true, true, false, false] #[true, true, true, true, false, true, true, false, true, true, true, false, false] rfl rfl rfl rfl (by kernel_rfl) (by decide) (by decide) (fun K hK => ?_) (fun K hK => ?_)
                · refine Kd.R_append_rows_step (w0 := wc) (Kd.int .i64) (Rr := fun x cs => cs = [Value.int .i64 x]) wc.heap.size (by rfl) (.tmp 64) (.tmp 67) 38 2 (.int .i64 0) 8 rfl Tryd.underlying38 info2 rfl (by decide) (by decide) (.slice none 0 0) [] (T.take p) A1 p c1 (fun _ => True) (fun _ => False) rfl rfl (Kd.R_nil _ _ _ _ _) (HTK.out _ HBd.out) (fun _ _ h => h) (fun _ hk => hk.elim) (fun _ _ => trivial) HBd.out (below_size HBd.out) (by simp; omega) ?_
                  intro v4 w4 HO4 HB4 HG4 _
                  have O4 := Aside0.mk HO4
                  have B4 := Aside0.mk HB4
                  have G4 := Aside0.mk HG4
                  clear HO4 HB4 HG4
                  refine hK.out _ _ trivial (fun _ => ?_)
                  clear hK K
                  refine norm_ (a' := ?_) ?_ ?_
                  rotate_left
                  · show Act.put _ (some 68) _ = _
                    simp only [Act.put, List.setIfInBounds_toArray, List.set_cons_zero, List.set_cons_succ]
                    rfl
                  refine one_ (i := 6) (N := some 70) #[true, true, true, true, true, true, true, false, true, true, true, false, false] rfl rfl (one_of HT_.out (by kernel_rfl)) (by decide) (fun K hK => ?_)
                  refine value_ (w1 := w4.alloc (.cells #[.int .i64 N1] 2)) (v := .slice (some ⟨w4.heap.size, 0, none⟩) 1 1) (by rfl) rfl ?_ ?_
                  · go_simp
                  refine hK.out _ _ trivial (fun _ => ?_)
                  clear hK K
                  refine norm_ (a' := ?_) ?_ ?_
                  rotate_left
                  · show Act.put _ (some 70) _ = _
                    simp only [Act.put, List.setIfInBounds_toArray, List.set_cons_zero, List.set_cons_succ]
                    rfl
                  refine one_ (i := 7) (N := some 71) #[true, true, true, true, true, true, true, true, true, true, true, false, false] rfl rfl (one_of HT_.out (by kernel_rfl)) (by decide) (fun K hK => ?_)
                  refine Kd.R_append_rows_step (w0 := wc) (Kd.int .i64) (Rr := fun x cs => cs = [Value.int .i64 x]) wc.heap.size (by rfl) (.tmp 68) (.tmp 70) 38 2 (.int .i64 0) 8 rfl Tryd.underlying38 info2 rfl (by decide) (by decide) v4 ([] ++ T.take p) [N1] (some ⟨w4.heap.size, 0, none⟩) 1 1 (fun _ => True) (fun _ => False) rfl rfl (Kd.R_alloc O4.out _) (HNEW.out w4) (fun _ _ h => h) (fun _ hk => hk.elim) (fun _ _ => trivial) (below_alloc B4.out _) (below_size (below_alloc B4.out _)) (by simp; omega) ?_
                  intro v5 w5 HO5 HB5 _ _
                  have O5 := Aside0.mk HO5
                  have B5 := Aside0.mk HB5
                  clear HO5 HB5
                  refine hK.out _ _ trivial (fun _ => ?_)
                  clear hK K
                  refine norm_ (a' := ?_) ?_ ?_
                  rotate_left
                  · show Act.put _ (some 71) _ = _
                    simp only [Act.put, List.setIfInBounds_toArray, List.set_cons_zero, List.set_cons_succ]
                    rfl
                  refine one_ (i := 11) (N := some 75) #[true, true, true, true, true, true, true, true, true, true, true, true, false] rfl rfl (one_of HT_.out (by kernel_rfl)) (by decide) (fun K hK => ?_)
                  refine Kd.R_append_rows_step (w0 := wc) (Kd.int .i64) (Rr := fun x cs => cs = [Value.int .i64 x]) wc.heap.size (by rfl) (.tmp 71) (.tmp 74) 38 2 (.int .i64 0) 8 rfl Tryd.underlying38 info2 rfl (by decide) (by decide) v5 ([] ++ T.take p ++ [N1]) (T.drop p) A2 (T.length - p) (c1 - p) (fun _ => True) (fun _ => False) rfl rfl O5.out (HDR.out _ B5.out) (fun _ _ h => h) (fun _ hk => hk.elim) (fun _ _ => trivial) B5.out (below_size B5.out) (by simp; omega) ?_
                  intro v6 w6 HO6 HB6 _ _
                  have O6 := Aside0.mk HO6
                  have B6 := Aside0.mk HB6
                  clear HO6 HB6
                  refine hK.out _ _ trivial (fun _ => ?_)
                  clear hK K
                  refine norm_ (a' := ?_) ?_ ?_
                  rotate_left
                  · show Act.put _ (some 75) _ = _
                    simp only [Act.put, List.setIfInBounds_toArray, List.set_cons_zero, List.set_cons_succ]
                    rfl
                  refine pure_ (i := 12) (N := some 4) (v := ?_) (a' := ?_) #[true, true, true, true, true, true, true, true, true, true, true, true, true] rfl rfl (any_of HT_.out (by kernel_rfl)) (fun _ _ _ h => h) (Or.inl ⟨by rfl, ?_⟩) ?_ ?_
                  rotate_left
                  · intro w'
                    go_simp
                    with_reducible rfl
                  rotate_left
                  · simp only [Act.put, List.setIfInBounds_toArray, List.set_cons_zero, List.set_cons_succ]
                    rfl
                  refine done_ (done_of HT_.out (by kernel_rfl)) ?_
                  have HL6 : Hid ([] ++ T.take p ++ [N1] ++ T.drop p = htsA l i (d + 1)) := Lib.hid (by rw [HSC2.out, List.nil_append])
                  have hr6 := Kd.R_lower O6.out hB3s
                  rw [HL6.out] at hr6
                  have HR6 := Aside0.mk hr6
                  have HB6 := Aside0.mk (HB3.out.trans (B6.out.mono hB3s))
                  clear hr6
                  go_wp2
                  go_roundw
                  case rel => exact ⟨d + 1, by go_num, by omega, by rw [if_neg (by omega)]; congr 1; exact hN1.symm, HR6, HB6⟩
                  case measure => simp [intOf]; omega
                · refine value_ (w1 := wd.alloc (.cells #[.int .i64 N1] 2)) (v := .slice (some ⟨wd.heap.size, 0, none⟩) 1 1) (by rfl) rfl ?_ ?_
                  · go_simp
                  refine hK.out _ _ trivial (fun _ => ?_)
                  clear hK K
                  refine norm_ (a' := ?_) ?_ ?_
                  rotate_left
                  · show Act.put _ (some 70) _ = _
                    simp only [Act.put, List.setIfInBounds_toArray, List.set_cons_zero, List.set_cons_succ]
                    rfl
                  refine one_ (i := 4) (N := some 68) #[true, true, true, true, true, true, true, false, true, true, true, false, false] rfl rfl (one_of HT_.out (by kernel_rfl)) (by decide) (fun K hK => ?_)
                  refine Kd.R_append_rows_step (w0 := wc) (Kd.int .i64) (Rr := fun x cs => cs = [Value.int .i64 x]) wc.heap.size (by rfl) (.tmp 64) (.tmp 67) 38 2 (.int .i64 0) 8 rfl Tryd.underlying38 info2 rfl (by decide) (by decide) (.slice none 0 0) [] (T.take p) A1 p c1 (fun _ => True) (fun _ => False) rfl rfl (Kd.R_nil _ _ _ _ _) (HTK.out _ (below_alloc HBd.out _)) (fun _ _ h => h) (fun _ hk => hk.elim) (fun _ _ => trivial) (below_alloc HBd.out _) (below_size (below_alloc HBd.out _)) (by simp; omega) ?_
                  intro v4 w4 HO4 HB4 HG4 _
                  have O4 := Aside0.mk HO4
                  have B4 := Aside0.mk HB4
                  have G4 := Aside0.mk HG4
                  clear HO4 HB4 HG4
                  refine hK.out _ _ trivial (fun _ => ?_)
                  clear hK K
                  refine norm_ (a' := ?_) ?_ ?_
                  rotate_left
                  · show Act.put _ (some 68) _ = _
                    simp only [Act.put, List.setIfInBounds_toArray, List.set_cons_zero, List.set_cons_succ]
                    rfl
                  refine one_ (i := 7) (N := some 71) #[true, true, true, true, true, true, true, true, true, true, true, false, false] rfl rfl (one_of HT_.out (by kernel_rfl)) (by decide) (fun K hK => ?_)
                  refine Kd.R_append_rows_step (w0 := wc) (Kd.int .i64) (Rr := fun x cs => cs = [Value.int .i64 x]) wc.heap.size (by rfl) (.tmp 68) (.tmp 70) 38 2 (.int .i64 0) 8 rfl Tryd.underlying38 info2 rfl (by decide) (by decide) v4 ([] ++ T.take p) [N1] (some ⟨wd.heap.size, 0, none⟩) 1 1 (fun _ => True) (fun _ => False) rfl rfl O4.out (reads_grown (HNEW.out wd) G4.out) (fun _ _ h => h) (fun _ hk => hk.elim) (fun _ _ => trivial) B4.out (below_size B4.out) (by simp; omega) ?_
                  intro v5 w5 HO5 HB5 _ _
                  have O5 := Aside0.mk HO5
                  have B5 := Aside0.mk HB5
                  clear HO5 HB5
                  refine hK.out _ _ trivial (fun _ => ?_)
                  clear hK K
                  refine norm_ (a' := ?_) ?_ ?_
                  rotate_left
                  · show Act.put _ (some 71) _ = _
                    simp only [Act.put, List.setIfInBounds_toArray, List.set_cons_zero, List.set_cons_succ]
                    rfl
                  refine one_ (i := 11) (N := some 75) #[true, true, true, true, true, true, true, true, true, true, true, true, false] rfl rfl (one_of HT_.out (by kernel_rfl)) (by decide) (fun K hK => ?_)
                  refine Kd.R_append_rows_step (w0 := wc) (Kd.int .i64) (Rr := fun x cs => cs = [Value.int .i64 x]) wc.heap.size (by rfl) (.tmp 71) (.tmp 74) 38 2 (.int .i64 0) 8 rfl Tryd.underlying38 info2 rfl (by decide) (by decide) v5 ([] ++ T.take p ++ [N1]) (T.drop p) A2 (T.length - p) (c1 - p) (fun _ => True) (fun _ => False) rfl rfl O5.out (HDR.out _ B5.out) (fun _ _ h => h) (fun _ hk => hk.elim) (fun _ _ => trivial) B5.out (below_size B5.out) (by simp; omega) ?_
                  intro v6 w6 HO6 HB6 _ _
                  have O6 := Aside0.mk HO6
                  have B6 := Aside0.mk HB6
                  clear HO6 HB6
                  refine hK.out _ _ trivial (fun _ => ?_)
                  clear hK K
                  refine norm_ (a' := ?_) ?_ ?_
                  rotate_left
                  · show Act.put _ (some 75) _ = _
                    simp only [Act.put, List.setIfInBounds_toArray, List.set_cons_zero, List.set_cons_succ]
                    rfl
                  refine pure_ (i := 12) (N := some 4) (v := ?_) (a' := ?_) #[true, true, true, true, true, true, true, true, true, true, true, true, true] rfl rfl (any_of HT_.out (by kernel_rfl)) (fun _ _ _ h => h) (Or.inl ⟨by rfl, ?_⟩) ?_ ?_
                  rotate_left
                  · intro w'
                    go_simp
                    with_reducible rfl
                  rotate_left
                  · simp only [Act.put, List.setIfInBounds_toArray, List.set_cons_zero, List.set_cons_succ]
                    rfl
                  refine done_ (done_of HT_.out (by kernel_rfl)) ?_
                  have HL6 : Hid ([] ++ T.take p ++ [N1] ++ T.drop p = htsA l i (d + 1)) := Lib.hid (by rw [HSC2.out, List.nil_append])
                  have hr6 := Kd.R_lower O6.out hB3s
                  rw [HL6.out] at hr6
                  have HR6 := Aside0.mk hr6
                  have HB6 := Aside0.mk (HB3.out.trans (B6.out.mono hB3s))
                  clear hr6
                  go_wp2
                  go_roundw
                  case rel => exact ⟨d + 1, by go_num, by omega, by rw [if_neg (by omega)]; congr 1; exact hN1.symm, HR6, HB6⟩
                  case measure => simp [intOf]; omega
        · have hdn : Hid (htsA l (i + 1) 0 = htsA l i d) := Lib.hid (by rw [hts_next, show l.length - i = d by omega])
          go_wp2
          go_roundw
          case rel => exact ⟨i + 1, by go_num, by omega, by rw [hdn.out]; exact HOd, HBd⟩
          case measure => simp [intOf]; omega
    · have hdn : Hid (htsA l i 0 = heightsA l) := Lib.hid (by rw [show i = l.length by omega, hts_end])
      have HR := HO.out
      rw [hdn.out] at HR
      have HRR := Aside0.mk HR
      clear HR HO
      go_wp2
      go_ret2
      exact ⟨_, rfl, HRR.out, HB.out⟩

theorem rright_f (l : List S32) (hn : l.length ≤ 9223372036854775807) : gutterref13_Right.f (l.length + 1) l = some (rightA l) := by
  have := ref_right_l0 l hn l.length (l.length + 1) 0 (by omega) (by omega) (by omega)
  rw [List.drop_zero] at this
  exact this
set_option maxHeartbeats 2000000 in
set_option maxRecDepth 100000 in
theorem rheights_no (A : Option Addr) (c : Nat) (l : List S32) (w : World) (hr : Kd.C k32 w A l.length l) (hc : l.length ≤ c) (hf : ¬ (rightA l = true ∧ l.length ≤ 200)) :
    Calls Tryd.prog 31 #[.slice A l.length c] w fun e w' => e = .returned (.tuple #[.slice none 0 0, .int .i64 130]) ∧ Below w.heap.size w w' := by
  have hn : l.length ≤ 9223372036854775807 := hr.2.1
  have hrf := rright_f l hn
  cases h1 : rightA l with
  | false =>
    rw [h1] at hrf
    have HRT := Lib.hid (gutterref13_Right.calls (l.length + 1) A c l false w hr hc hrf)
    clear hr hrf hf h1
    go_enter Tryd.func31, Tryd.ntmps31
    go_wp2_with (go_at_call 27; refine HRT.out.mono ?_; rintro e w1 ⟨rfl, hb⟩; have HB1 := Aside0.mk hb; clear hb)
    go_ret2
    exact ⟨rfl, HB1.out⟩
  | true =>
    rw [h1] at hrf
    have HRT := Lib.hid (gutterref13_Right.calls (l.length + 1) A c l true w hr hc hrf)
    have hlen : (200 : Int) < (l.length : Int) := by
      have : ¬ l.length ≤ 200 := fun h => hf ⟨h1, h⟩
      omega
    clear hr hrf hf h1
    go_enter Tryd.func31, Tryd.ntmps31
    go_wp2_with (go_at_call 27; refine HRT.out.mono ?_; rintro e w1 ⟨rfl, hb⟩; have HB1 := Aside0.mk hb; clear hb)
    go_ret2
    exact ⟨rfl, HB1.out⟩

theorem gutterref14_Heights.calls (A0 : Option Addr) (c0 : Nat) (l0 : List (S32)) (r1 : List Int) (r2 : Int) (w : World) (hr0 : Kd.C k32 w A0 l0.length l0) (hc0 : l0.length ≤ c0) (h : gutterref14_Heights.f l0 = some (r1, r2)) :
    Calls Tryd.prog 31 #[.slice A0 l0.length c0] w fun e w' => ∃ v0_ : Value, e = .returned (.tuple #[v0_, .int .i64 r2]) ∧ Kd.R (Kd.int .i64) 2 w' w.heap.size (fun _ => True) v0_ r1 ∧ Below w.heap.size w w' := by
  unfold gutterref14_Heights.f at h
  split at h
  · next hf =>
    cases h
    exact rheights_yes A0 c0 l0 w hr0 hc0 hf.1 hf.2
  · next hf =>
    cases h
    exact (rheights_no A0 c0 l0 w hr0 hc0 hf).mono fun e w' ⟨he, hb⟩ => ⟨_, he, Kd.R_nil _ _ _ _ _, hb⟩

end Go.Proofs.YtjpifknencfipaaDoor.P
