/- The law BandFirst answers true, whatever comes in, and leaves what came in as it was: the row and the tied card. Conditions: none. -/
import Derived.Test.YtomgpbhkoellpaaDoorRows
import Derived.Test.YtomgpbhkoellpaaDoorTie
import Derived.Test.YtomgpbhkoellpaaDoorCards
import Derived.Test.YtomgpbhkoellpaaDoorRw
import Derived.Test.YtomgpbhkoellpaaDoorRd
import Derived.Test.YtomgpbhkoellpaaDoorLa
import Derived.Test.YtomgpbhkoellpaaDoorP4
import Derived.WalkKit
import Derived.ProofKit
import Derived.OpenShut
import Derived.ChangeOld
import Derived.Below
import Derived.SizedLaws
import Derived.JoinedOf
import Derived.ChangeVars
import Derived.SevenTiedAt
import Derived.Stop.Joined
set_option linter.unusedVariables false
set_option linter.unusedSimpArgs false
namespace Go.Proofs.YtomgpbhkoellpaaDoor.P
open Go.RowKit Go.Proofs.YtomgpbhkoellpaaDoorW.PrintWords Go.Proofs.YtomgpbhkoellpaaDoorW.PrintLast Go.Proofs.YtomgpbhkoellpaaDoorW.PrintMore

theorem longest_l0 (l : List S24) (need : Int) (hs : ∀ y ∈ l, spanB y ∧ y.f1 - y.f0 < need) (hn : l.length ≤ 1000) (d : Nat) : ∀ (k i : Nat) (n : Int), l.length - i = d → d < k → i ≤ l.length → n < need → ∃ r, gutterlaw03_longest.l0 k l n (i : Int) = some r ∧ r < need := by
  induction d with
  | zero =>
    intro k i n hd hk hi hr
    obtain ⟨k, rfl⟩ : ∃ m, k = m + 1 := ⟨k - 1, by omega⟩
    simp only [gutterlaw03_longest.l0]
    rw [if_neg (by omega)]
    exact ⟨n, rfl, hr⟩
  | succ d ih =>
    intro k i n hd hk hi hr
    obtain ⟨k, rfl⟩ : ∃ m, k = m + 1 := ⟨k - 1, by omega⟩
    simp only [gutterlaw03_longest.l0]
    have hx := hs (l.getD i z24) (by
      rw [List.getD_eq_getElem?_getD, List.getElem?_eq_getElem (by omega)]
      exact List.getElem_mem (by omega))
    unfold spanB at hx
    rw [if_pos (by omega), if_pos (by omega), rd_24, w64 (by omega), w64 (by omega), show ((i : Int) + 1) = ((i + 1 : Nat) : Int) by push_cast; rfl]
    refine ih k (i + 1) _ (by omega) (by omega) (by omega) ?_
    unfold mx
    split <;> omega
theorem first_loop (l : List S24) (need pos : Int) (c : List S24) (hs : ∀ y ∈ l, spanB y ∧ (y.f0 < pos → y.f1 - y.f0 < need)) (hc : band_Total.f c = some need) (hn : l.length ≤ 1000) (d : Nat) : ∀ (k i : Nat), l.length - i = d → d < k → i ≤ l.length → gutterlaw03_BandFirst.l0 k l need true pos c 0 (i : Int) = some true := by
  induction d with
  | zero =>
    intro k i hd hk hi
    obtain ⟨k, rfl⟩ : ∃ m, k = m + 1 := ⟨k - 1, by omega⟩
    simp only [gutterlaw03_BandFirst.l0]
    rw [if_neg (by omega), if_pos trivial, if_pos trivial, hc]
    simp
  | succ d ih =>
    intro k i hd hk hi
    obtain ⟨k, rfl⟩ : ∃ m, k = m + 1 := ⟨k - 1, by omega⟩
    simp only [gutterlaw03_BandFirst.l0]
    have hx := hs (l.getD i z24) (by
      rw [List.getD_eq_getElem?_getD, List.getElem?_eq_getElem (by omega)]
      exact List.getElem_mem (by omega))
    unfold spanB at hx
    have hnx : gutterlaw03_BandFirst.l0 k l need true pos c 0 (wrap64 ((i : Int) + 1)) = some true := by
      rw [w64 (by omega), show ((i : Int) + 1) = ((i + 1 : Nat) : Int) by push_cast; rfl]
      exact ih k (i + 1) (by omega) (by omega) (by omega)
    rw [if_pos (by omega), if_pos (by omega), rd_24, w64 (by omega), hnx]
    by_cases q : (l.getD i z24).f0 < pos
    · have := hx.2 q
      rw [if_pos q, if_neg (by omega)]
    · rw [if_neg q]
/-- The first span that is long enough: all ahead of it are not. -/
theorem find_first : ∀ {l : List S24} {a need : Int} {x : S24}, Ch a l → l.find? (fun x => decide (need ≤ x.f1 - x.f0)) = some x → x ∈ l ∧ need ≤ x.f1 - x.f0 ∧ ∀ y ∈ l, y.f0 < x.f0 → y.f1 - y.f0 < need
  | [], a, need, x, _, h => by cases h
  | z :: zs, a, need, x, hc, h => by
    by_cases q : need ≤ z.f1 - z.f0
    · rw [List.find?_cons_of_pos (by simpa using q)] at h
      obtain rfl : z = x := by simpa using h
      refine ⟨by simp, q, fun y hy hlt => ?_⟩
      rcases List.mem_cons.1 hy with rfl | hy
      · omega
      · have := ch_mem hc.2.2 y hy
        have := hc.2.1
        omega
    · rw [List.find?_cons_of_neg (by simpa using q)] at h
      obtain ⟨h1, h2, h3⟩ := find_first hc.2.2 h
      refine ⟨by simp [h1], h2, fun y hy hlt => ?_⟩
      rcases List.mem_cons.1 hy with rfl | hy
      · omega
      · exact h3 y hy hlt

theorem BandFirst_true (l0 : List S24) (a1 : Int) : gutterlaw03_BandFirst.f 4000 l0 a1 = some true := by
  unfold gutterlaw03_BandFirst.f
  have hn := few3_len l0
  rw [shown3 (by omega), Option.bind_some, few3_f, Option.bind_some]
  generalize few3 l0 = l at hn
  have e1 : band_First.f l a1 = some (firstB l a1) := by
    unfold band_First.f
    rw [if_pos (by omega)]
  rw [e1, Option.bind_some]
  unfold firstB
  by_cases h : 0 ≤ a1 ∧ rightD l = true
  · rw [if_pos h]
    obtain ⟨h0, hr⟩ := h
    have hR := (rightD_iff l).1 hr
    have hs := right_mem hR
    cases hf : l.find? (fun x => decide (a1 ≤ x.f1 - x.f0)) with
    | none =>
      dsimp only
      have hall : ∀ y ∈ l, spanB y ∧ y.f1 - y.f0 < a1 := fun y hy => ⟨hs y hy, by
        have := List.find?_eq_none.1 hf y hy
        simpa using this⟩
      rw [if_neg (by simp), if_pos rfl, if_pos rfl, if_neg (by omega), right_f l (by omega) (by omega), Option.bind_some, if_pos hr]
      by_cases q : a1 > 0
      · obtain ⟨r, hr, hlt⟩ := longest_l0 l a1 hall (by omega) l.length 4000 0 0 (by omega) (by omega) (Nat.zero_le _) q
        have hr' : gutterlaw03_longest.f 4000 l = some r := hr
        rw [if_pos q, hr', Option.bind_some, if_pos hlt]
      · rw [if_neg q]
        have : l = [] := by
          cases l with
          | nil => rfl
          | cons y ys =>
            obtain ⟨p1, p2⟩ := hall y (by simp)
            unfold spanB at p1
            omega
        rw [this]
        rfl
    | some x =>
      dsimp only
      obtain ⟨h1, h2, h3⟩ := find_first hR.1 hf
      have hx := hs x h1
      unfold spanB at hx
      rw [if_pos rfl]
      by_cases q : a1 = 0
      · rw [if_pos q, if_pos rfl]
        cases l with
        | nil => cases h1
        | cons y ys =>
          have hy := hs y (by simp)
          unfold spanB at hy
          rw [q, List.find?_cons_of_pos (by simp; omega)] at hf
          obtain rfl : y = x := by simpa using hf
          rw [if_pos (by simp), show (0 : Int) = ((0 : Nat) : Int) from rfl, rd_24]
          simp
      · have hw : wrap64 (x.f0 + a1) = x.f0 + a1 := w64 (by omega)
        have hz : rightD [(⟨x.f0, x.f0 + a1⟩ : S24)] = true := (rightD_one _).2 ⟨hx.1, by show x.f0 < x.f0 + a1; omega, by show x.f0 + a1 ≤ _; omega⟩
        have hlen := bothB_len l [(⟨x.f0, x.f0 + a1⟩ : S24)]
        rw [List.length_singleton, Nat.mul_one] at hlen
        rw [if_neg q, hw, both_ok hr hz (by omega) (by simp), Option.bind_some]
        refine first_loop l a1 x.f0 _ (fun y hy => ⟨hs y hy, h3 y hy⟩) ?_ (by omega) l.length 4000 0 (by omega) (by omega) (Nat.zero_le _)
        rw [total_ok (both_right hr hz) (by omega), ct_congr (q := fun n => decide (x.f0 ≤ n) && decide (n < x.f0 + a1)) (fun n => ?_), ct_span x.f0 (x.f0 + a1) (by omega) (by omega) (by omega)]
        · congr 1
          omega
        · rw [Bool.eq_iff_iff, both_has hr hz, one_has]
          simp
          intro p1 p2
          exact hasB_mem.2 ⟨x, h1, p1, by omega⟩
  · rw [if_neg h, if_neg (by simp), if_pos rfl, if_pos rfl]
    by_cases q : a1 < 0
    · rw [if_pos q]
    · rw [if_neg q, right_f l (by omega) (by omega), Option.bind_some, if_neg (fun e => h ⟨by omega, e⟩)]

end Go.Proofs.YtomgpbhkoellpaaDoor.P
namespace Go.Proofs.YtomgpbhkoellpaaDoor.BandFirstRow
open Go
set_option maxRecDepth 100000
theorem h10 : (Rows.bandFirstRow.inPlace == Tryd.prog.inPlace 4) = true := by kernel_rfl
theorem h11 : (Rows.bandFirstRow.unfollowed == Tryd.prog.unfollowed 4) = true := by kernel_rfl
theorem h12 : (Rows.bandFirstRow.recurses == Tryd.prog.recurses 4) = true := by kernel_rfl
theorem h13 : (Rows.bandFirstRow.named == Tryd.prog.varsNamed 4) = true := by kernel_rfl
theorem g1 : (Rows.bandFirstRow.plainKeys == Tryd.prog.plainKeys) = true := Rd.g1
theorem g4 : (Rows.bandFirstRow.lifted == Tryd.prog.liftsFinal) = true := Rd.g4
theorem g5 : (Tryd.prog.make == some Rows.bandFirstRow.make) = true := Rd.g5
theorem closed : joinedFacts Tryd.prog 4 Tryd.f4 Rows.bandFirstSpec Rows.bandFirstRow = true := by
  unfold joinedFacts
  rw [Rd.f2, Rd.f3, Rd.f7, Rd.f9, h10, h11, h12, h13, g1, Rd.g2, Rd.g3, g4, g5]
  kernel_rfl
end Go.Proofs.YtomgpbhkoellpaaDoor.BandFirstRow

namespace Go.Proofs.YtomgpbhkoellpaaDoor.BandFirstRow
open Go.ChangeShapes Go.WideShapes Go.ChangeAt Go.RowKit Go.Proofs.YtomgpbhkoellpaaDoor Go.Proofs.YtomgpbhkoellpaaDoor.P
set_option maxRecDepth 100000 in
theorem lifted (os : Os) (started : os.Started) (H : Type) (enc : TypeId × Value → H) :
    ReturnsInHanded {} Tryd.checked os 4 .any (fun w args => (Rows.bandFirstSpec.pre enc Tryd.prog Tryd.f4 [] false w args ∧ laidMetH Tryd.prog R.L1 w) ∧ sizedMet enc Tryd.prog Tryd.f4 (OpenSpec.ofChange Rows.bandFirstSpec) false w args)
      (Rows.bandFirstSpec.post enc Tryd.prog Tryd.f4 false true false false) := by
  refine returnsInHanded_of_change_and (C := Tryd.checked) (X := fun w _ => laidMetH Tryd.prog R.L1 w) (fun _ _ _ hh h => h.of_heap hh) R.own started (by kernel_rfl) Tryd.func4
    (ChangeSpec.witness_at (enc := enc) (C := Tryd.checked) (os := os) (X := fun w _ => laidMetH Tryd.prog R.L1 w) false (World.laidAll Tryd.prog os R.L1) #[.slice none 0 0, .int .i64 0] 8 rfl (by kernel_rfl) (by kernel_rfl) (by kernel_rfl) (by kernel_rfl) (by kernel_rfl) (R.met1 os _)) ?_
  intro W base args ds gs before hval0 hW _ _ hL _
  have hval : ∀ (j : Nat) t v, Tryd.f4.params[j]? = some t → args[j]? = some v → Value.okWide Tryd.prog W .any base t v := hval0
  have hW' := hW
  obtain ⟨p, q, hA0, hV, rfl, hfz, hnd⟩ := hW
  have hA : DataW.TrodAll enc Tryd.prog W 0 (fun _ => true) true Tryd.f4.params.toList args.toList ds p := hA0
  rw [Tryd.params4] at hA hval
  obtain ⟨v0, vs0, d0, ds0, p0, q0, hargs, rfl, rfl, h0, r0⟩ := trodAll_cons hA
  obtain ⟨v1, vs1, d1, ds1, p1, q1, rfl, rfl, rfl, h1, r1⟩ := trodAll_cons r0
  obtain ⟨rfl, rfl, rfl⟩ := trodAll_nil r1
  obtain rfl : args = #[v0, v1] := by cases args; simp_all
  obtain ⟨rfl, rfl⟩ := trodVars_none hV
  obtain ⟨A0, len0, cap0, rfl⟩ := okWide_slice Tryd.underlying22 (hval 0 22 v0 rfl rfl)
  have k0 := h0
  have lt0 : ∀ x ∈ p0, x.block < W.heap.size := by obtain ⟨m, hm⟩ := k0; exact DataW.trod_lt m _ _ _ hm
  obtain ⟨l0, e0, c0, K0⟩ := R.spans_in h0
  subst e0
  obtain ⟨a1, rfl, rfl, rfl, w1⟩ := open_int Tryd.underlying2 (hval 1 2 v1 rfl rfl) h1
  refine (gutterlaw03_BandFirst.calls (4000) _ _ l0 a1 true W K0 c0 (R.gl1 hL) (BandFirst_true l0 a1)).mono fun e W' ⟨he, bel⟩ => ?_
  subst he
  exact ⟨_, rfl, _, _, _, [], _, [], hW', trodAll_mk1 (shut_bool Tryd.underlying4 _), (trodAll_cons_mk (Below.trod R.laidOut (by kernel_rfl) (of_decide_eq_true (by kernel_rfl)) k0 bel lt0) (trodAll_cons_mk (shut_int Tryd.underlying2 w1) trodAll_mk0)), rfl, bel.frame _, fun h => by cases h⟩
set_option maxRecDepth 100000
theorem named : Tryd.prog.funcNamed Rows.bandFirstRow.func = some 4 := by kernel_rfl
theorem inst : Tryd.f4.isInstance Tryd.prog Rows.bandFirstRow.origin Rows.bandFirstRow.targs := of_decide_eq_true (by kernel_rfl)
theorem wrap : Tryd.f4.isWrapper Tryd.prog Rows.bandFirstRow.wrapper Rows.bandFirstRow.mainSum := by unfold Func.isWrapper; first | (rw [if_pos (by decide +kernel)]; kernel_rfl) | (rw [if_neg (by decide +kernel)]; exact ⟨rfl, rfl⟩)
theorem goes : false = Rows.bandFirstRow.goesBy Tryd.pinned.checked.prog := by kernel_rfl
theorem byText : Rows.bandFirstRow.wfByText (OpenSpec.ofChange Rows.bandFirstSpec) = true := by kernel_rfl
theorem over : Rows.BandFirstSaid :=
  OpenClaim.holds_of_wide 4 Tryd.f4 rfl rfl rfl rfl rfl rfl rfl ⟨rfl, rfl, rfl, rfl, rfl⟩ rfl rfl rfl rfl rfl named Tryd.func4 closed inst wrap
    (fun os started H enc _ => lifted os started H enc)
theorem noStand : ∀ (j : Nat) (t : TypeId), Tryd.f4.params[j]? = some t → Tryd.prog.wantsStandIn t = false := by
  intro j t ht
  rw [Tryd.params4] at ht
  have h3 : t = 2 ∨ t = 22 := by
    match j, ht with
    | 0, ht => cases ht; simp
    | 1, ht => cases ht; simp
    | j + 2, ht => simp at ht
  rcases h3 with rfl | rfl
  · exact R.stand2
  · exact R.stand22
end Go.Proofs.YtomgpbhkoellpaaDoor.BandFirstRow
namespace Go.Proofs.YtomgpbhkoellpaaDoor
open Go
/-- The tied card. -/
theorem bandFirst_card : Rows.BandFirstCardSaid :=
  Claim7.holds_tied_plain_at .later [] [.sentinel] true (true, "ac9d298ba8180d8e28314710ac8d3f43303b32e2ef07f873131167b130a3c7d2") true
    BandFirstRow.over (fun _ h => by cases h) BandFirstRow.byText (fun _ h => by cases h) bandFirst_row_tie rfl ⟨rfl, rfl⟩ R.mainFact rfl
    (fun f fn hf hfn => by
      obtain rfl : f = 4 := (Option.some.inj (BandFirstRow.named.symm.trans hf)).symm
      obtain rfl : fn = Tryd.f4 := (Option.some.inj (Tryd.func4.symm.trans hfn)).symm
      exact ⟨R.looksFact, BandFirstRow.noStand⟩)
    BandFirstRow.goes
#print axioms bandFirst_card
end Go.Proofs.YtomgpbhkoellpaaDoor
