/- The law RowLays answers true, whatever comes in, and leaves what came in as it was: the row and the tied card. Conditions: none. -/
import Derived.Test.YtjpifknencfipaaDoorRows
import Derived.Test.YtjpifknencfipaaDoorTie
import Derived.Test.YtjpifknencfipaaDoorCards
import Derived.Test.YtjpifknencfipaaDoorRw
import Derived.Test.YtjpifknencfipaaDoorRd
import Derived.Test.YtjpifknencfipaaDoorLq
import Derived.Test.YtjpifknencfipaaDoorLh
import Derived.Test.YtjpifknencfipaaDoorP9
import Derived.WalkKit
import Derived.ProofKit
import Derived.OpenShut
import Derived.ChangeOld
import Derived.Below
import Derived.SizedLaws
import Derived.JoinedOf
import Derived.ChangeVars
import Derived.SevenTiedAt
import Derived.Stop.Joined
set_option linter.unusedVariables false
set_option linter.unusedSimpArgs false
namespace Go.Proofs.YtjpifknencfipaaDoor.P
open Go.RowKit Go.Proofs.YtjpifknencfipaaDoorW.PrintWords Go.Proofs.YtjpifknencfipaaDoorW.PrintLast Go.Proofs.YtjpifknencfipaaDoorW.PrintMore

theorem size_f (a : Int) : gutterref17_size.f a = some (sizeA a) := by
  unfold gutterref17_size.f sizeA
  split
  · next h => rw [decide_eq_true (show 0 ≤ a from h)]; rfl
  · next h => rw [decide_eq_false (show ¬ 0 ≤ a from h)]; rfl
theorem sub_high (l : List S32) (hr : rightA l = true) (a b : Nat) (hab : a < b) (hb : b ≤ l.length) {k : Nat} (hk : l.length < k) : gutterref13_High.f k ((l.take b).drop a) = some (hiA l a b) := by
  have h := ref_high l hr a b hab hb hk
  unfold gutterref14_high.f at h
  rw [if_pos (by omega), if_pos (by omega), if_pos (by omega)] at h
  simp only [Int.toNat_natCast] at h
  cases q : gutterref13_High.f k ((l.take b).drop a) with
  | none => rw [q] at h; cases h
  | some v => rw [q] at h; exact h

theorem lay_l1 (l : List S32) (hr : rightA l = true) (hl : l.length ≤ 40) (w gap H C : Int) (hw : 0 ≤ w ∧ w ≤ 1048576) (hg : 0 ≤ gap ∧ gap ≤ 1048576) (cols : List S73) (i : Nat) (hi : i < cols.length) (hi2 : i < 1000) (a b : Nat) (hb : b ≤ l.length) (hc : (rd_T73 cols (i : Int)).f0 = a ∧ (rd_T73 cols (i : Int)).f1 = b) (out : List S58) (ho : out.length ≤ 100000) :
    ∀ (d m k K : Nat), b - (a + m) = d → a + m ≤ b → 100 ≤ k → K = k + d + 1 → gutterref17_Lay.l1 K l w gap cols (i : Int) ((a + m : Nat) : Int) H C (out ++ fragsA l w gap i a m) = gutterref17_Lay.l0 k l w gap cols ((i + 1 : Nat) : Int) H C (out ++ fragsA l w gap i a (b - a))
  | 0, m, k, K, hd, hm, hk, hK => by
    subst hK
    simp only [gutterref17_Lay.l1, Nat.add_zero]
    rw [if_pos (by omega), if_pos (by omega), hc.2, if_neg (by omega), w64 (by omega), show ((i : Int) + 1) = ((i + 1 : Nat) : Int) by push_cast; rfl, show b - a = m by omega]
  | d + 1, m, k, K, hd, hm, hk, hK => by
    obtain ⟨K, rfl⟩ : ∃ m, K = m + 1 := ⟨K - 1, by omega⟩
    have hh := hh_of hr (a + m) (by omega)
    have hi1 := hi_range hr a (a + m + 1) (by omega) (by omega)
    have hmul : 0 ≤ (i : Int) * (w + gap) ∧ (i : Int) * (w + gap) ≤ 1000 * 2097152 := ⟨Int.mul_nonneg (by omega) (by omega), Int.mul_le_mul (by omega) (by omega) (by omega) (by omega)⟩
    have ih := lay_l1 l hr hl w gap H C hw hg cols i hi hi2 a b hb hc out ho d (m + 1) k K (by omega) (by omega) hk (by omega)
    have hlen : (out ++ fragsA l w gap i a m).length ≤ 100040 := by rw [List.length_append, frags_len]; omega
    have hnat : ((a + m : Nat) : Int) + 1 = ((a + m + 1 : Nat) : Int) := by push_cast; rfl
    have hlh : l.length < K := by omega
    simp only [gutterref17_Lay.l1]
    rw [if_pos (by omega), if_pos (by omega), hc.1, hc.2, if_pos (by omega), if_pos (by omega), w64 (x := ((a + m : Nat) : Int) + 1) (by omega), hnat, if_pos (by omega), if_pos (by omega)]
    simp only [Int.toNat_natCast]
    rw [sub_high l hr a (a + m + 1) (by omega) (by omega) hlh, Option.bind_some, if_pos (by omega), if_pos (by omega), if_pos (by omega), rd_32, w64 (x := w + gap) (by omega), w64 (x := (i : Int) * (w + gap)) (by omega), show (atA l (a + m)).f2 = hhA l (a + m) from rfl, w64 (x := hiA l a (a + m + 1) - hhA l (a + m)) (by omega)]
    rw [List.append_assoc]
    exact ih
theorem lay_l0 (l : List S32) (hr : rightA l = true) (hl : l.length ≤ 40) (w gap H C h : Int) (hw : 0 ≤ w ∧ w ≤ 1048576) (hg : 0 ≤ gap ∧ gap ≤ 1048576) : ∀ (d i k : Nat), (fillA l h).length - i = d → i ≤ (fillA l h).length → 200 + 45 * d ≤ k →
    gutterref17_Lay.l0 k l w gap ((fillA l h).map (ColA.out l)) (i : Int) H C (rowA l w gap 0 ((fillA l h).take i)) = some (H, C, rowA l w gap 0 (fillA l h), 0)
  | 0, i, k, hd, hi, hk => by
    obtain ⟨k, rfl⟩ : ∃ m, k = m + 1 := ⟨k - 1, by omega⟩
    simp only [gutterref17_Lay.l0]
    rw [if_neg (by rw [List.length_map]; omega), List.take_of_length_le (by omega)]
  | d + 1, i, k, hd, hi, hk => by
    have hlt : i < (fillA l h).length := by omega
    have hfl := fill_len l h
    obtain ⟨hab, hb⟩ := fill_ok l h i hlt
    obtain ⟨x, hx⟩ : ∃ x, (fillA l h)[i] = x := ⟨_, rfl⟩
    rw [hx] at hab hb
    have hrd : rd_T73 ((fillA l h).map (ColA.out l)) (i : Int) = ColA.out l x := by
      rw [rd73_eq (by rw [List.length_map]; exact hlt), List.getElem_map, hx]
    have htk : (fillA l h).take (i + 1) = (fillA l h).take i ++ [x] := by
      rw [List.take_add_one, List.getElem?_eq_getElem hlt, hx]
      rfl
    have hout : (rowA l w gap 0 ((fillA l h).take i)).length ≤ 100000 := by
      have h1 := row_snoc l w gap 0 ((fillA l h).take i) x
      have h2 : (rowA l w gap 0 ((fillA l h).take i)).length ≤ (rowA l w gap 0 (fillA l h)).length := by
        have : rowA l w gap 0 (fillA l h) = rowA l w gap 0 ((fillA l h).take i ++ (fillA l h).drop i) := by rw [List.take_append_drop]
        rw [this]
        have ha : ∀ (xs ys : List ColA) (j : Nat), (rowA l w gap j xs).length ≤ (rowA l w gap j (xs ++ ys)).length := by
          intro xs
          induction xs with
          | nil => intro ys j; simp [rowA]
          | cons c cs ih =>
            intro ys j
            show (fragsA l w gap j c.a (c.b - c.a) ++ rowA l w gap (j + 1) cs).length ≤ (fragsA l w gap j c.a (c.b - c.a) ++ rowA l w gap (j + 1) (cs ++ ys)).length
            rw [List.length_append, List.length_append]
            have := ih ys (j + 1)
            omega
        exact ha _ _ _
      rw [rowF_len] at h2
      omega
    obtain ⟨k, rfl⟩ : ∃ m, k = (m + (x.b - x.a) + 1) + 1 := ⟨k - (x.b - x.a) - 2, by omega⟩
    simp only [gutterref17_Lay.l0]
    rw [if_pos (by rw [List.length_map]; omega), if_pos (by omega)]
    have h1 := lay_l1 l hr hl w gap H C hw hg ((fillA l h).map (ColA.out l)) i (by rw [List.length_map]; exact hlt) (by omega) x.a x.b hb ⟨by rw [hrd]; rfl, by rw [hrd]; rfl⟩ (rowA l w gap 0 ((fillA l h).take i)) hout (x.b - x.a) 0 k _ (by omega) (by omega) (by omega) rfl
    rw [show fragsA l w gap i x.a 0 = [] from rfl, List.append_nil, Nat.add_zero x.a] at h1
    rw [hrd, show (ColA.out l x).f0 = ((x.a : Nat) : Int) from rfl, h1]
    have h2 := lay_l0 l hr hl w gap H C h hw hg d (i + 1) k (by omega) (by omega) (by omega)
    rw [htk, row_snoc, List.length_take, show 0 + min i (fillA l h).length = i by omega] at h2
    exact h2
theorem ref_lay (l : List S32) (hl : l.length ≤ 40) (n w gap avail : Int) (auto : Bool) {k : Nat} (hk : 6000 ≤ k) : gutterref17_Lay.f k l n w gap avail auto = row_Lay.f l n w gap avail auto := by
  obtain ⟨k, rfl⟩ : ∃ m, k = m + 3 := ⟨k - 3, by omega⟩
  have bad : ∀ b : Bool, b = true → gutterref17_Lay.j0 (k + 3) l n w gap avail auto b = some (0, 0, [], 160) := fun b h => by
    simp only [gutterref17_Lay.j0]
    rw [if_pos h]
  have no : ¬ layOkA l n w gap avail = true → row_Lay.f l n w gap avail auto = some (0, 0, [], 160) := fun h => lay_bad auto h
  unfold gutterref17_Lay.f
  rw [ref_right l (by omega) (by omega), Option.bind_some]
  by_cases hr : rightA l = true
  · rw [if_pos hr, if_neg (by omega)]
    by_cases c1 : n < 1
    · rw [if_pos c1, bad _ rfl, no (fun h => by have := lay_right h; omega)]
    · rw [if_neg c1]
      by_cases c2 : n > 50
      · rw [if_pos c2, bad _ rfl, no (fun h => by have := lay_right h; omega)]
      · rw [if_neg c2, size_f, Option.bind_some]
        by_cases c3 : sizeA w = true
        · rw [if_pos c3, size_f, Option.bind_some]
          by_cases c4 : sizeA gap = true
          · rw [if_pos c4]
            by_cases c5 : avail < 0
            · rw [if_pos c5, bad _ rfl, no (fun h => by have := lay_right h; omega)]
            · rw [if_neg c5]
              by_cases c6 : avail > 1099511627776
              · rw [bad _ (decide_eq_true c6), no (fun h => by have := lay_right h; omega)]
              · have ok : layOkA l n w gap avail = true := by
                  unfold layOkA openA
                  rw [hr, c3, c4, decide_eq_true (show l.length ≤ 200 by omega), decide_eq_true (show 1 ≤ n by omega), decide_eq_true (show n ≤ 50 by omega), decide_eq_true (show 0 ≤ avail by omega), decide_eq_true (show avail ≤ 1099511627776 by omega)]
                  rfl
                obtain ⟨p1, p2, p3, p4, p5, p6, p7, p8, p9, p10⟩ := lay_right ok
                have hfin : ∀ h : Int, 0 ≤ h → h ≤ 2199023255552 → gutterref17_Lay.j2 (k + 1) l w gap h = some (h, ((fillA l h).length : Int), rowA l w gap 0 (fillA l h), 0) := fun h h0 h1 => by
                  have e : fill_Fill.f l h = some ((fillA l h).map (ColA.out l), 0) := if_pos (fine_of l hr h h0 h1)
                  have hf := fill_len l h
                  have := lay_l0 l hr hl w gap h ((fillA l h).length : Int) h ⟨p7, p8⟩ ⟨p9, p10⟩ (fillA l h).length 0 k (by omega) (by omega) (by omega)
                  simp only [gutterref17_Lay.j2]
                  rw [ref_fill l (by omega) h (by omega), e, Option.bind_some]
                  dsimp only
                  rw [List.length_map]
                  exact this
                have hb : balance_Balance.f l n avail 1000 = some (lowA (leastBA l n 1000).1 avail, numA l (lowA (leastBA l n 1000).1 avail), (leastBA l n 1000).2.1, (leastBA l n 1000).2.2, 0) := if_pos (by
                  rw [p6, decide_eq_true p2, decide_eq_true (show avail ≤ 2199023255552 by omega)]
                  rfl)
                have hlow := rowH_range p6 p2 p3 false
                rw [lay_ok auto ok, decide_eq_false c6]
                have hbal : gutterref17_Lay.j1 (k + 2) l n w gap avail avail true = some (lowA (leastBA l n 1000).1 avail, ((fillA l (lowA (leastBA l n 1000).1 avail)).length : Int), rowA l w gap 0 (fillA l (lowA (leastBA l n 1000).1 avail)), 0) := by
                  simp only [gutterref17_Lay.j1]
                  rw [if_pos trivial, rf_balance l hl n avail 1000 (by omega), hb, Option.bind_some]
                  exact hfin _ hlow.1 hlow.2
                simp only [gutterref17_Lay.j0]
                rw [if_neg (by simp)]
                cases auto with
                | false =>
                  rw [if_neg (by simp), hbal]
                  rfl
                | true =>
                  rw [if_pos rfl]
                  by_cases q : avail = 0
                  · subst q
                    exact hbal
                  · have e : rowHA l n avail true = avail := if_pos ⟨rfl, by omega⟩
                    rw [e, show (avail == 0) = false by simpa using q]
                    simp only [gutterref17_Lay.j1]
                    rw [if_neg (by simp)]
                    exact hfin avail p2 (by omega)
          · rw [if_neg c4, bad _ rfl, no (fun h => c4 (by have := lay_right h; unfold sizeA; simp; omega))]
        · rw [if_neg c3, bad _ rfl, no (fun h => c3 (by have := lay_right h; unfold sizeA; simp; omega))]
  · rw [if_neg hr, bad _ rfl, no (fun h => hr (lay_right h).1)]

theorem RowLays_true (l0 : List S32) (a1 a2 a3 a4 : Int) (a5 : Bool) : gutterlaw17_RowLays.f 7000 l0 a1 a2 a3 a4 a5 = some true := by
  unfold gutterlaw17_RowLays.f
  have hn := fewR_len l0
  rw [shown17 (by omega), Option.bind_some, few17_f, Option.bind_some]
  generalize fewR l0 = l at hn
  have hlay : ∃ r : Int × Int × List S58 × Int, row_Lay.f l a1 a2 a3 a4 a5 = some r ∧ r.2.2.1.length ≤ 40 := by
    by_cases ok : layOkA l a1 a2 a3 a4 = true
    · exact ⟨_, lay_ok a5 ok, by show (rowA l a2 a3 0 (fillA l (rowHA l a1 a4 a5))).length ≤ 40; rw [rowF_len]; exact hn⟩
    · exact ⟨_, lay_bad a5 ok, by simp⟩
  obtain ⟨r, hr, hlen⟩ := hlay
  rw [ref_lay l hn a1 a2 a3 a4 a5 (by omega), hr, Option.bind_some, Option.bind_some, if_pos rfl]
  unfold gutterref17_Rows.f
  rw [if_pos rfl, if_pos rfl, rsame_f _ _ (by omega) (by omega), Option.bind_some, sameF_self, decide_eq_true rfl, Bool.and_self, Option.bind_some, if_pos rfl]
  simp

end Go.Proofs.YtjpifknencfipaaDoor.P
namespace Go.Proofs.YtjpifknencfipaaDoor.RowLaysRow
open Go
set_option maxRecDepth 100000
theorem h10 : (Rows.rowLaysRow.inPlace == Tryd.prog.inPlace 9) = true := by kernel_rfl
theorem h11 : (Rows.rowLaysRow.unfollowed == Tryd.prog.unfollowed 9) = true := by kernel_rfl
theorem h12 : (Rows.rowLaysRow.recurses == Tryd.prog.recurses 9) = true := by kernel_rfl
theorem h13 : (Rows.rowLaysRow.named == Tryd.prog.varsNamed 9) = true := by kernel_rfl
theorem g1 : (Rows.rowLaysRow.plainKeys == Tryd.prog.plainKeys) = true := Rd.g1
theorem g4 : (Rows.rowLaysRow.lifted == Tryd.prog.liftsFinal) = true := Rd.g4
theorem g5 : (Tryd.prog.make == some Rows.rowLaysRow.make) = true := Rd.g5
theorem closed : joinedFacts Tryd.prog 9 Tryd.f9 Rows.rowLaysSpec Rows.rowLaysRow = true := by
  unfold joinedFacts
  rw [Rd.f2, Rd.f3, Rd.f7, Rd.f9, h10, h11, h12, h13, g1, Rd.g2, Rd.g3, g4, g5]
  kernel_rfl
end Go.Proofs.YtjpifknencfipaaDoor.RowLaysRow

namespace Go.Proofs.YtjpifknencfipaaDoor.RowLaysRow
open Go.ChangeShapes Go.WideShapes Go.ChangeAt Go.RowKit Go.Proofs.YtjpifknencfipaaDoor Go.Proofs.YtjpifknencfipaaDoor.P
set_option maxRecDepth 100000 in
theorem lifted (os : Os) (started : os.Started) (H : Type) (enc : TypeId × Value → H) :
    ReturnsInHanded {} Tryd.checked os 9 .any (fun w args => (Rows.rowLaysSpec.pre enc Tryd.prog Tryd.f9 [] false w args ∧ laidMetH Tryd.prog R.L3 w) ∧ sizedMet enc Tryd.prog Tryd.f9 (OpenSpec.ofChange Rows.rowLaysSpec) false w args)
      (Rows.rowLaysSpec.post enc Tryd.prog Tryd.f9 false true false false) := by
  refine returnsInHanded_of_change_and (C := Tryd.checked) (X := fun w _ => laidMetH Tryd.prog R.L3 w) (fun _ _ _ hh h => h.of_heap hh) R.own started (by kernel_rfl) Tryd.func9
    (ChangeSpec.witness_at (enc := enc) (C := Tryd.checked) (os := os) (X := fun w _ => laidMetH Tryd.prog R.L3 w) false (World.laidAll Tryd.prog os R.L3) #[.slice none 0 0, .int .i64 0, .int .i64 0, .int .i64 0, .int .i64 0, .bool false] 8 rfl (by kernel_rfl) (by kernel_rfl) (by kernel_rfl) (by kernel_rfl) (by kernel_rfl) (R.met3 os _)) ?_
  intro W base args ds gs before hval0 hW _ _ hL _
  have hval : ∀ (j : Nat) t v, Tryd.f9.params[j]? = some t → args[j]? = some v → Value.okWide Tryd.prog W .any base t v := hval0
  have hW' := hW
  obtain ⟨p, q, hA0, hV, rfl, hfz, hnd⟩ := hW
  have hA : DataW.TrodAll enc Tryd.prog W 0 (fun _ => true) true Tryd.f9.params.toList args.toList ds p := hA0
  rw [Tryd.params9] at hA hval
  obtain ⟨v0, vs0, d0, ds0, p0, q0, hargs, rfl, rfl, h0, r0⟩ := trodAll_cons hA
  obtain ⟨v1, vs1, d1, ds1, p1, q1, rfl, rfl, rfl, h1, r1⟩ := trodAll_cons r0
  obtain ⟨v2, vs2, d2, ds2, p2, q2, rfl, rfl, rfl, h2, r2⟩ := trodAll_cons r1
  obtain ⟨v3, vs3, d3, ds3, p3, q3, rfl, rfl, rfl, h3, r3⟩ := trodAll_cons r2
  obtain ⟨v4, vs4, d4, ds4, p4, q4, rfl, rfl, rfl, h4, r4⟩ := trodAll_cons r3
  obtain ⟨v5, vs5, d5, ds5, p5, q5, rfl, rfl, rfl, h5, r5⟩ := trodAll_cons r4
  obtain ⟨rfl, rfl, rfl⟩ := trodAll_nil r5
  obtain rfl : args = #[v0, v1, v2, v3, v4, v5] := by cases args; simp_all
  obtain ⟨rfl, rfl⟩ := trodVars_none hV
  obtain ⟨A0, len0, cap0, rfl⟩ := okWide_slice Tryd.underlying22 (hval 0 22 v0 rfl rfl)
  have k0 := h0
  have lt0 : ∀ x ∈ p0, x.block < W.heap.size := by obtain ⟨m, hm⟩ := k0; exact DataW.trod_lt m _ _ _ hm
  obtain ⟨l0, e0, c0, K0⟩ := R.atoms_in h0
  subst e0
  obtain ⟨a1, rfl, rfl, rfl, w1⟩ := open_int Tryd.underlying3 (hval 1 3 v1 rfl rfl) h1
  obtain ⟨a2, rfl, rfl, rfl, w2⟩ := open_int Tryd.underlying2 (hval 2 2 v2 rfl rfl) h2
  obtain ⟨a3, rfl, rfl, rfl, w3⟩ := open_int Tryd.underlying2 (hval 3 2 v3 rfl rfl) h3
  obtain ⟨a4, rfl, rfl, rfl, w4⟩ := open_int Tryd.underlying2 (hval 4 2 v4 rfl rfl) h4
  obtain ⟨a5, rfl, rfl, rfl⟩ := open_bool Tryd.underlying4 (hval 5 4 v5 rfl rfl) h5
  refine (gutterlaw17_RowLays.callsT (7000) _ _ l0 a1 a2 a3 a4 a5 true W K0 c0 (R.gl3 hL) (RowLays_true l0 a1 a2 a3 a4 a5) rfl).mono fun e W' ⟨he, bel⟩ => ?_
  subst he
  exact ⟨_, rfl, _, _, _, [], _, [], hW', trodAll_mk1 (shut_bool Tryd.underlying4 _), (trodAll_cons_mk (Below.trod R.laidOut (by kernel_rfl) (of_decide_eq_true (by kernel_rfl)) k0 bel lt0) (trodAll_cons_mk (shut_int Tryd.underlying3 w1) (trodAll_cons_mk (shut_int Tryd.underlying2 w2) (trodAll_cons_mk (shut_int Tryd.underlying2 w3) (trodAll_cons_mk (shut_int Tryd.underlying2 w4) (trodAll_cons_mk (shut_bool Tryd.underlying4 _) trodAll_mk0)))))), rfl, bel.frame _, fun h => by cases h⟩
set_option maxRecDepth 100000
theorem named : Tryd.prog.funcNamed Rows.rowLaysRow.func = some 9 := by kernel_rfl
theorem inst : Tryd.f9.isInstance Tryd.prog Rows.rowLaysRow.origin Rows.rowLaysRow.targs := of_decide_eq_true (by kernel_rfl)
theorem wrap : Tryd.f9.isWrapper Tryd.prog Rows.rowLaysRow.wrapper Rows.rowLaysRow.mainSum := by unfold Func.isWrapper; first | (rw [if_pos (by decide +kernel)]; kernel_rfl) | (rw [if_neg (by decide +kernel)]; exact ⟨rfl, rfl⟩)
theorem goes : false = Rows.rowLaysRow.goesBy Tryd.pinned.checked.prog := by kernel_rfl
theorem byText : Rows.rowLaysRow.wfByText (OpenSpec.ofChange Rows.rowLaysSpec) = true := by kernel_rfl
theorem over : Rows.RowLaysSaid :=
  OpenClaim.holds_of_wide 9 Tryd.f9 rfl rfl rfl rfl rfl rfl rfl ⟨rfl, rfl, rfl, rfl, rfl⟩ rfl rfl rfl rfl rfl named Tryd.func9 closed inst wrap
    (fun os started H enc _ => lifted os started H enc)
theorem noStand : ∀ (j : Nat) (t : TypeId), Tryd.f9.params[j]? = some t → Tryd.prog.wantsStandIn t = false := by
  intro j t ht
  rw [Tryd.params9] at ht
  have h3 : t = 2 ∨ t = 3 ∨ t = 4 ∨ t = 22 := by
    match j, ht with
    | 0, ht => cases ht; simp
    | 1, ht => cases ht; simp
    | 2, ht => cases ht; simp
    | 3, ht => cases ht; simp
    | 4, ht => cases ht; simp
    | 5, ht => cases ht; simp
    | j + 6, ht => simp at ht
  rcases h3 with rfl | rfl | rfl | rfl
  · exact R.stand2
  · exact R.stand3
  · exact R.stand4
  · exact R.stand22
end Go.Proofs.YtjpifknencfipaaDoor.RowLaysRow
namespace Go.Proofs.YtjpifknencfipaaDoor
open Go
/-- The tied card. -/
theorem rowLays_card : Rows.RowLaysCardSaid :=
  Claim7.holds_tied_plain_at .later [] [.sentinel, .sentinel, .sentinel] true (true, "b9d29a5a8ac8ffd65bd7abf0387edf791e422c0f8ec1e9ac251d4174caa9c425") true
    RowLaysRow.over (fun _ h => by cases h) RowLaysRow.byText (fun _ h => by cases h) rowLays_row_tie rfl ⟨rfl, rfl⟩ R.mainFact rfl
    (fun f fn hf hfn => by
      obtain rfl : f = 9 := (Option.some.inj (RowLaysRow.named.symm.trans hf)).symm
      obtain rfl : fn = Tryd.f9 := (Option.some.inj (Tryd.func9.symm.trans hfn)).symm
      exact ⟨R.looksFact, RowLaysRow.noStand⟩)
    RowLaysRow.goes
#print axioms rowLays_card
end Go.Proofs.YtjpifknencfipaaDoor
